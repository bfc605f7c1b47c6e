/- The contract of table.Right: whether slots are a table. -/
import Derived.Test.YtakemnpicokaiaaTabDo
namespace Go.Proofs.Ytakemnpicokaiaa
open Go.RowKit
set_option linter.unusedVariables false
def okAt (t : List Int) (j : Nat) : Bool := decide (0 ≤ tv t j ∧ tv t j ≤ 4294967295 ∧ (tk t j = 0 → tv t j = 0) ∧ (tk t j ≠ 0 → atI t (tk t j) = j))
def okTo (t : List Int) : Nat → Bool
  | 0 => true
  | k + 1 => okTo t k && okAt t k
def rightB (t : List Int) : Bool := decide (lenT t ≤ 6) && okTo t 8
theorem okTo_iff (t : List Int) (n : Nat) : okTo t n = true ↔ ∀ j, j < n → okAt t j = true := by
  induction n with
  | zero => simp [okTo]
  | succ n ih =>
    simp only [okTo, Bool.and_eq_true, ih]
    constructor
    · rintro ⟨a, b⟩ j hj
      by_cases h : j = n
      · subst h; exact b
      · exact a j (by omega)
    · intro h; exact ⟨fun j hj => h j (by omega), h n (by omega)⟩
theorem okTo_false (t : List Int) (k n : Nat) (h : okAt t k = false) (hk : k < n) : okTo t n = false := by
  cases e : okTo t n
  · rfl
  · have := (okTo_iff t n).1 e k hk; rw [h] at this; cases this
theorem rightB_iff (t : List Int) (hl : t.length = 16) (hk : ∀ j, j < 8 → 0 ≤ tk t j ∧ tk t j ≤ 1000) : rightB t = true ↔ Good t := by
  unfold rightB
  rw [Bool.and_eq_true, decide_eq_true_eq, okTo_iff]
  constructor
  · rintro ⟨a, b⟩
    refine Good.mk' hl a fun i hi => ?_
    have := b i hi
    simp only [okAt, decide_eq_true_eq] at this
    exact ⟨(hk i hi).1, (hk i hi).2, this.1, this.2.1, this.2.2.1, this.2.2.2⟩
  · intro g
    refine ⟨g.few, fun j hj => ?_⟩
    simp only [okAt, decide_eq_true_eq]
    exact ⟨g.val0 j hj, g.val1 j hj, g.none j hj, g.found j hj⟩
set_option maxHeartbeats 4000000 in
theorem right_any (w : World) (t : List Int) (hl : t.length = 16) (hk : ∀ j, j < 8 → 0 ≤ tk t j ∧ tk t j ≤ 1000) :
    Calls Try.prog 26 #[.agg (tcells t).toArray] w fun e w' => e = .returned (.bool (rightB t)) ∧ Below w.heap.size w w' := by
  have HL := Lib.hid hl
  have HK := Lib.hid hk
  have hix0 : ∀ q : Nat, q < 8 → ∀ w, (Instr.index 27 (.agg (tcells t).toArray) (.int .i64 q)).run Try.prog w = .ok (.agg #[.int .i64 (tk t q), .int .i64 (tv t q)]) w := fun q hq w => idx_slot t hl q hq w
  have HIX := Lib.hid hix0
  clear hix0
  have HLT : Hid ((tcells t).length = 16) := Lib.hid (by rw [tcells_len]; exact hl)
  have HCT := Lib.hid (tcells_take t hl)
  clear hl hk
  have HB := Lib.hid (Below.refl w.heap.size w)
  go_enter Try.func26, Try.ntmps26
  go_upto_region 1 with fail
  have hb1 := balloc (Below.refl _ w) (Obj.cells (tcells t).toArray 27)
  have T := Lib.hid (Blk.new w (tcells t) 27)
  change Hid (Blk (w.alloc (Obj.cells (tcells t).toArray 27)) _ _ _) at T
  have ZT : Hid ((w.alloc (Obj.cells (tcells t).toArray 27)).heap.size = w.heap.size + 1) := World.size_alloc _ _
  replace HB := Lib.hid (bcall HB.out hb1)
  clear hb1
  generalize w.alloc (Obj.cells (tcells t).toArray 27) = w1 at *
  by_cases h6 : 6 < lenT t
  · have g6 : decide (6 < lenT t) = true := by simp [h6]
    have g6' : decide ((6 : Int) < (lenT t : Int)) = true := by simp; omega
    have hr : rightB t = false := by unfold rightB; rw [show decide (lenT t ≤ 6) = false by simp; omega]; rfl
    have HR := Lib.hid hr
    clear hr h6
    go_wp2_with (refine wpList_load_part rfl 27 _ rfl w.heap.size 0 16 rfl 27 (tcells t) _ T.out (by rw [HLT.out]; decide) Try.underlying27 rfl (by kernel_rfl) ?_; rw [HCT.out])
    refine (len_any t HL.out _).mono ?_
    rintro e w2 ⟨rfl, hb2⟩
    replace HB := Lib.hid (bcall HB.out hb2)
    replace T := Lib.hid (T.out.below hb2)
    clear hb2
    go_wp2_with fail
    go_ret
    exact ⟨by rw [HR.out]; rfl, HB.out⟩
  · have g6 : decide (6 < lenT t) = false := by simp; omega
    have g6' : decide ((6 : Int) < (lenT t : Int)) = false := by simp; omega
    have hr : rightB t = okTo t 8 := by unfold rightB; rw [show decide (lenT t ≤ 6) = true by simp; omega]; rfl
    have HR := Lib.hid hr
    clear hr h6
    go_wp2_with (refine wpList_load_part rfl 27 _ rfl w.heap.size 0 16 rfl 27 (tcells t) _ T.out (by rw [HLT.out]; decide) Try.underlying27 rfl (by kernel_rfl) ?_; rw [HCT.out])
    refine (len_any t HL.out _).mono ?_
    rintro e w2 ⟨rfl, hb2⟩
    replace HB := Lib.hid (bcall HB.out hb2)
    replace T := Lib.hid (T.out.below hb2)
    clear hb2
    go_wp2_with (refine wpList_load_part rfl 27 _ rfl w.heap.size 0 16 rfl 27 (tcells t) _ T.out (by rw [HLT.out]; decide) Try.underlying27 rfl (by kernel_rfl) ?_; rw [HCT.out])
    go_loopw [9] (fun i wr => ∃ k : Nat, k ≤ 8 ∧ i = .int .i64 k ∧ okTo t k = true ∧ Below w.heap.size w wr ∧ Blk wr w.heap.size (tcells t) 27) (fun i _ => 8 - (intOf i).toNat)
    case atStart => exact ⟨0, by omega, rfl, rfl, HB.out, T.out⟩
    case round =>
      clear HB T
      obtain ⟨k, hk, rfl, hok, hb, ht⟩ := hrel
      have HB := Lib.hid hb
      have T := Lib.hid ht
      have HOK := Lib.hid hok
      clear hb ht hok
      by_cases hlt : k < 8
      · have hix := HIX.out k hlt
        have k0 := (HK.out k hlt).1
        have k1 := (HK.out k hlt).2
        have k0' : decide (tk t k < 0) = false := by simp; omega
        have k1' : decide (1000 < tk t k) = false := by simp; omega
        have hA : okAt t k = decide (0 ≤ tv t k ∧ tv t k ≤ 4294967295 ∧ (tk t k = 0 → tv t k = 0) ∧ (tk t k ≠ 0 → atI t (tk t k) = k)) := rfl
        have hat := fun (w' : World) (b : Nat) (h : TabAt w' b t) => at_any (tk t k) w' b t h k0 k1
        have HA := Lib.hid hA
        have HAT := Lib.hid hat
        clear hA hat
        generalize tk t k = ky at *
        generalize tv t k = vl at *
        have hbad : okAt t k = false → rightB t = false := fun h => by rw [HR.out]; exact okTo_false t k 8 h hlt
        have hgood : okAt t k = true → okTo t (k + 1) = true := fun h => by simp only [okTo]; rw [HOK.out, h]; rfl
        have HBAD := Lib.hid hbad
        have HGOOD := Lib.hid hgood
        clear hbad hgood
        go_upto_region 6 with fail
        have hltX0 := T.out.lt
        have hb21 := balloc (Below.refl _ wr) (Obj.cells #[.int .i64 ky, .int .i64 vl] 25)
        have X := Lib.hid (Blk.new wr [.int .i64 ky, .int .i64 vl] 25)
        change Hid (Blk (wr.alloc (Obj.cells #[.int .i64 ky, .int .i64 vl] 25)) _ _ _) at X
        have ZX : Hid ((wr.alloc (Obj.cells #[.int .i64 ky, .int .i64 vl] 25)).heap.size = wr.heap.size + 1) := World.size_alloc _ _
        replace HB := Lib.hid (bcall HB.out hb21)
        replace T := Lib.hid (T.out.below hb21)
        clear hb21
        generalize wr.alloc (Obj.cells #[.int .i64 ky, .int .i64 vl] 25) = w21 at *
        generalize wr.heap.size = bX at *
        have X_c0 : w21.cell? ⟨bX, 0, none⟩ = some (.int .i64 ky) := X.out.cell 0
        have X_c1 : w21.cell? ⟨bX, 1, none⟩ = some (.int .i64 vl) := X.out.cell 1
        have X_z : bX < w21.heap.size := X.out.lt
        by_cases v0 : vl < 0
        · have hr0 := Lib.hid (HBAD.out (by rw [HA.out, decide_eq_false_iff_not]; intro hh; have h1 := hh.1; have h2 := hh.2.1; have h3 := hh.2.2.1; have h4 := hh.2.2.2; omega))
          have g : decide (vl < 0) = true := by simp [v0]
          clear v0
          go_wp2_with fail
          go_ret
          exact ⟨by rw [hr0.out]; rfl, HB.out⟩
        have gv0 : decide (vl < 0) = false := by simp; omega
        by_cases v1 : 4294967295 < vl
        · have hr0 := Lib.hid (HBAD.out (by rw [HA.out, decide_eq_false_iff_not]; intro hh; have h1 := hh.1; have h2 := hh.2.1; have h3 := hh.2.2.1; have h4 := hh.2.2.2; omega))
          have g : decide (4294967295 < vl) = true := by simp [v1]
          clear v1 v0
          go_wp2_with fail
          go_ret
          exact ⟨by rw [hr0.out]; rfl, HB.out⟩
        have gv1 : decide (4294967295 < vl) = false := by simp; omega
        by_cases z : ky = 0
        · have z1 : (ky == 0) = true := by simp [z]
          have z2 : (ky != 0) = false := by simp [z]
          by_cases y : vl = 0
          · have hg0 := Lib.hid (HGOOD.out (by rw [HA.out, decide_eq_true_eq]; exact ⟨by omega, by omega, fun _ => y, fun x => absurd z x⟩))
            have y1 : (vl != 0) = false := by simp [y]
            clear y z v0 v1
            go_wp2_with fail
            go_roundw
            case rel => exact ⟨k + 1, by omega, by go_num, hg0.out, HB.out, T.out⟩
            case measure => simp [intOf]; omega
          · have hr0 := Lib.hid (HBAD.out (by rw [HA.out, decide_eq_false_iff_not]; intro hh; have h1 := hh.1; have h2 := hh.2.1; have h3 := hh.2.2.1; have h4 := hh.2.2.2; exact y (h3 z)))
            have y1 : (vl != 0) = true := by simp [y]
            clear y z v0 v1
            go_wp2_with fail
            go_ret
            exact ⟨by rw [hr0.out]; rfl, HB.out⟩
        · have z1 : (ky == 0) = false := by simp [z]
          have z2 : (ky != 0) = true := by simp [z]
          by_cases y : atI t ky = k
          · have hg0 := Lib.hid (HGOOD.out (by rw [HA.out, decide_eq_true_eq]; exact ⟨by omega, by omega, fun x => absurd x z, fun _ => y⟩))
            have y1 : (atI t ky != (k : Int)) = false := by simp [y]
            clear y z v0 v1
            go_wp2_with fail
            refine (HAT.out _ _ ⟨HL.out, T.out⟩).mono ?_
            rintro e w' ⟨rfl, rfl⟩
            go_wp2_with fail
            go_roundw
            case rel => exact ⟨k + 1, by omega, by go_num, hg0.out, HB.out, T.out⟩
            case measure => simp [intOf]; omega
          · have hr0 := Lib.hid (HBAD.out (by rw [HA.out, decide_eq_false_iff_not]; intro hh; have h1 := hh.1; have h2 := hh.2.1; have h3 := hh.2.2.1; have h4 := hh.2.2.2; exact y (h4 z)))
            have y1 : (atI t ky != (k : Int)) = true := by simp [y]
            clear y z v0 v1
            go_wp2_with fail
            refine (HAT.out _ _ ⟨HL.out, T.out⟩).mono ?_
            rintro e w' ⟨rfl, rfl⟩
            go_wp2_with fail
            go_ret
            exact ⟨by rw [hr0.out]; rfl, HB.out⟩
      · obtain rfl : k = 8 := by omega
        go_wp2_with fail
        go_ret
        exact ⟨by rw [HR.out, HOK.out]; rfl, HB.out⟩
end Go.Proofs.Ytakemnpicokaiaa
