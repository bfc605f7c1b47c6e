/- The walk of the law TableFinds. -/
import Derived.Test.YtakemnpicokaiaaTabEq
import Derived.Test.YtakemnpicokaiaaTabled
import Derived.Test.YtakemnpicokaiaaStableOps
import Derived.Deep.Cut
namespace Go.Proofs.Ytakemnpicokaiaa
open Go.RowKit
set_option linter.unusedVariables false
def seen (t : List Int) (k : Int) : Nat → Bool
  | 0 => false
  | j + 1 => seen t k j || (tk t j == k)
theorem seen_iff (t : List Int) (k : Int) (n : Nat) : seen t k n = true ↔ ∃ j, j < n ∧ tk t j = k := by
  induction n with
  | zero => simp [seen]
  | succ n ih =>
    simp only [seen, Bool.or_eq_true, ih, beq_iff_eq]
    constructor
    · rintro (⟨j, a, b⟩ | h)
      · exact ⟨j, by omega, b⟩
      · exact ⟨n, by omega, h⟩
    · rintro ⟨j, a, b⟩
      by_cases e : j = n
      · subst e; exact .inr b
      · exact .inl ⟨j, by omega, b⟩
theorem finds_plain {t : List Int} (g : Good t) (k : Int) (hk : k ≠ 0) : (∃ u, peekA t k = (1, u) ∧ seen t k 8 = true) ∨ (peekA t k = (4, 0) ∧ seen t k 8 = false) := by
  rcases peekA_or g hk with ⟨u, ⟨j, hj, a, b⟩, hp, -⟩ | ⟨hn, hp, -⟩
  · exact .inl ⟨u, hp, (seen_iff t k 8).2 ⟨j, hj, a⟩⟩
  · refine .inr ⟨hp, ?_⟩
    cases e : seen t k 8
    · rfl
    · obtain ⟨j, hj, a⟩ := (seen_iff t k 8).1 e
      exact absurd ⟨j, hj, a, rfl⟩ (hn _)
set_option maxHeartbeats 4000000 in
theorem walk_TableFinds (a0 : Option Addr) (len0 cap0 : Nat) (f0 : Nat → Nat → Int) (a1 : Int) (w : World) (h0 : Rws 3 (fun _ => .i64) w a0 len0 cap0 f0) (w1 : (Lit.int .i64 a1).wf = true) :
    Calls Try.prog 7 #[.slice a0 len0 cap0, .int .i64 a1] w fun e w' => e = .returned (.bool true) ∧ Below w.heap.size w w' := by
  clear w1
  have H0 := Lib.hid h0
  clear h0
  have HB := Lib.hid (Below.refl w.heap.size w)
  go_enter Try.func7, Try.ntmps7
  go_wp2_with fail
  refine (tabled_any _).mono ?_
  rintro e w1 ⟨rfl, hb1⟩
  replace HB := Lib.hid (bcall HB.out hb1)
  clear hb1
  have hbt := HB.out
  go_wp2_with fail
  refine (filled_any _ a0 len0 cap0 f0 (H0.out.below hbt)).mono ?_
  rintro e w2 ⟨t, gt, rfl, hb2⟩
  replace HB := Lib.hid (bcall HB.out hb2)
  clear hb2 hbt H0
  have HLt : Hid ((tcells t).length = 16) := Lib.hid (by rw [tcells_len]; exact gt.len)
  have HCt := Lib.hid (tcells_take t gt.len)
  have HOt := Lib.hid (tcells_one t)
  have Gt := Lib.hid gt
  clear gt
  go_upto_region 4 with (first | (refine wpList_store_part rfl 27 _ _ rfl w2.heap.size 0 16 (tcells t) rfl rfl 27 _ (Blk.new w2 [.int .i64 0, .int .i64 0, .int .i64 0, .int .i64 0, .int .i64 0, .int .i64 0, .int .i64 0, .int .i64 0, .int .i64 0, .int .i64 0, .int .i64 0, .int .i64 0, .int .i64 0, .int .i64 0, .int .i64 0, .int .i64 0] 27) HLt.out (by decide) (by kernel_rfl) HOt.out ?_; rw [spl_z16 _ HLt.out]))
  have hge_T := HB.out.size
  have hBB : Below w2.heap.size w2 (setBlk (w2.alloc (Obj.cells #[.int .i64 0, .int .i64 0, .int .i64 0, .int .i64 0, .int .i64 0, .int .i64 0, .int .i64 0, .int .i64 0, .int .i64 0, .int .i64 0, .int .i64 0, .int .i64 0, .int .i64 0, .int .i64 0, .int .i64 0, .int .i64 0] 27)) w2.heap.size (tcells t)) := bsetBlk (balloc (Below.refl _ _) _) (Nat.le_refl _) _
  have T : Hid (Blk (setBlk (w2.alloc (Obj.cells #[.int .i64 0, .int .i64 0, .int .i64 0, .int .i64 0, .int .i64 0, .int .i64 0, .int .i64 0, .int .i64 0, .int .i64 0, .int .i64 0, .int .i64 0, .int .i64 0, .int .i64 0, .int .i64 0, .int .i64 0, .int .i64 0] 27)) w2.heap.size (tcells t)) w2.heap.size (tcells t) 27) := Lib.hid ((Blk.new w2 [.int .i64 0, .int .i64 0, .int .i64 0, .int .i64 0, .int .i64 0, .int .i64 0, .int .i64 0, .int .i64 0, .int .i64 0, .int .i64 0, .int .i64 0, .int .i64 0, .int .i64 0, .int .i64 0, .int .i64 0, .int .i64 0] 27).setBlk _)
  replace HB := Lib.hid (bcall HB.out hBB)
  clear hBB
  generalize setBlk (w2.alloc (Obj.cells #[.int .i64 0, .int .i64 0, .int .i64 0, .int .i64 0, .int .i64 0, .int .i64 0, .int .i64 0, .int .i64 0, .int .i64 0, .int .i64 0, .int .i64 0, .int .i64 0, .int .i64 0, .int .i64 0, .int .i64 0, .int .i64 0] 27)) w2.heap.size (tcells t) = w3 at *
  generalize w2.heap.size = bT at *
  have k0 := pickZ_nonneg a1 1000 (by decide)
  have k1 := pickZ_lt a1 1000 (by decide)
  go_upto_region 5 with (go_at_call 25; refine (key_any _ _).mono ?_; rintro e w' ⟨rfl, rfl⟩)
  generalize hgk : 1 + pickZ a1 1000 = k at *
  have k2 : 1 ≤ k := by omega
  have k3 : k ≤ 1000 := by omega
  clear k0 k1 hgk
  have hix0 : ∀ q : Nat, q < 8 → ∀ w, (Instr.index 27 (.agg (tcells t).toArray) (.int .i64 q)).run Try.prog w = .ok (.agg #[.int .i64 (tk t q), .int .i64 (tv t q)]) w := fun q hq w => idx_slot t Gt.out.len q hq w
  have HIX := Lib.hid hix0
  clear hix0
  go_wp2_with (refine wpList_load_part rfl 27 _ rfl (bT) 0 16 rfl 27 (tcells t) _ T.out (by rw [HLt.out]; decide) Try.underlying27 rfl (by kernel_rfl) ?_; rw [HCt.out])
  go_loopw [6, 16] (fun v i wr => ∃ j : Nat, j ≤ 8 ∧ i = .int .i64 j ∧ v = .bool (seen t k j) ∧ Below w.heap.size w wr ∧ Blk wr bT (tcells t) 27) (fun _ i _ => 8 - (intOf i).toNat)
  case atStart => exact ⟨0, by omega, rfl, rfl, HB.out, T.out⟩
  case round =>
    clear HB T
    obtain ⟨j, hj, rfl, rfl, hb, ht⟩ := hrel
    have HB := Lib.hid hb
    have T := Lib.hid ht
    have hge := hb.size
    clear hb ht
    by_cases hlt : j < 8
    · have hix := HIX.out j hlt
      have k0' := Gt.out.key0 j hlt
      have k1' := Gt.out.key1 j hlt
      have hse : seen t k (j + 1) = (seen t k j || (tk t j == k)) := rfl
      have HSE := Lib.hid hse
      have hpe : tk t j ≠ 0 → peekA t (tk t j) = (1, tv t j) := fun h => peekA_yes Gt.out h ⟨j, hlt, rfl, rfl⟩
      have HPE := Lib.hid hpe
      clear hse hpe
      generalize tk t j = ky at *
      generalize tv t j = vl at *
      generalize hsj : seen t k j = sj at *
      clear hsj
      go_upto_region 9 with fail
      have hltX0 := T.out.lt
      have hb21 := balloc (Below.refl _ wr) (Obj.cells #[.int .i64 ky, .int .i64 vl] 25)
      have X := Lib.hid (Blk.new wr [.int .i64 ky, .int .i64 vl] 25)
      change Hid (Blk (wr.alloc (Obj.cells #[.int .i64 ky, .int .i64 vl] 25)) _ _ _) at X
      have ZX : Hid ((wr.alloc (Obj.cells #[.int .i64 ky, .int .i64 vl] 25)).heap.size = wr.heap.size + 1) := World.size_alloc _ _
      replace HB := Lib.hid (bcall HB.out hb21)
      replace T := Lib.hid (T.out.below hb21)
      clear hb21
      generalize wr.alloc (Obj.cells #[.int .i64 ky, .int .i64 vl] 25) = w21 at *
      generalize wr.heap.size = bX at *
      have X_c0 : w21.cell? ⟨bX, 0, none⟩ = some (.int .i64 ky) := X.out.cell 0
      have X_c1 : w21.cell? ⟨bX, 1, none⟩ = some (.int .i64 vl) := X.out.cell 1
      have X_z : bX < w21.heap.size := X.out.lt
      have hfc := field_code
      by_cases z : ky = 0
      · have z2 : (ky != 0) = false := by simp [z]
        clear z
        clear X_c0 X_c1 X_z
        have FX0 : ∀ w' : World, Below w21.heap.size w21 w' → w'.cell? ⟨bX, 0, none⟩ = some (.int .i64 ky) := fun w' h => (X.out.below h).cell 0
        have FX1 : ∀ w' : World, Below w21.heap.size w21 w' → w'.cell? ⟨bX, 1, none⟩ = some (.int .i64 vl) := fun w' h => (X.out.below h).cell 1
        refine wp_region_stable (fun _ w' => Below w21.heap.size w21 w') (by kernel_rfl) (by kernel_rfl) (Below.drew (Below.refl _ _)) ?_
        refine wpB_val (v := ?v192) (by kernel_rfl) (by kernel_rfl) _ rfl (fun j w' hj hS => ?h192) (fun K hK => ?k192)
        case h192 =>
          go_simp
          try rfl
        go_simp
        refine hK _ ?_
        clear hK K
        refine wpB_val (v := ?v193) (by kernel_rfl) (by kernel_rfl) 0 (by kernel_rfl) (fun j w' hj hS => ?h193) (fun K hK => ?k193)
        case h193 =>
          have c_X0 := FX0 w' hS
          have c_X1 := FX1 w' hS
          go_simp
          try rfl
        go_simp
        refine hK _ ?_
        clear hK K
        refine wpB_val (v := ?v194) (by kernel_rfl) (by kernel_rfl) _ rfl (fun j w' hj hS => ?h194) (fun K hK => ?k194)
        case h194 =>
          go_simp
          try rfl
        go_simp
        refine hK _ ?_
        clear hK K
        refine wpB_val (v := ?v195) (by kernel_rfl) (by kernel_rfl) _ rfl (fun j w' hj hS => ?h195) (fun K hK => ?k195)
        case h195 =>
          go_simp
          try rfl
        go_simp
        refine hK _ ?_
        clear hK K
        refine wpB_skip (by kernel_rfl) (by kernel_rfl) (fun K hK => ?_)
        go_simp
        refine hK _ ?_
        clear hK K
        refine wpB_skip (by kernel_rfl) (by kernel_rfl) (fun K hK => ?_)
        go_simp
        refine hK _ ?_
        clear hK K
        refine wpB_skip (by kernel_rfl) (by kernel_rfl) (fun K hK => ?_)
        go_simp
        refine hK _ ?_
        clear hK K
        refine wpB_skip (by kernel_rfl) (by kernel_rfl) (fun K hK => ?_)
        go_simp
        refine hK _ ?_
        clear hK K
        refine wpB_skip (by kernel_rfl) (by kernel_rfl) (fun K hK => ?_)
        go_simp
        refine hK _ ?_
        clear hK K
        refine wpB_skip (by kernel_rfl) (by kernel_rfl) (fun K hK => ?_)
        go_simp
        refine hK _ ?_
        clear hK K
        refine wpB_skip (by kernel_rfl) (by kernel_rfl) (fun K hK => ?_)
        go_simp
        refine hK _ ?_
        clear hK K
        refine wpB_skip (by kernel_rfl) (by kernel_rfl) (fun K hK => ?_)
        go_simp
        refine hK _ ?_
        clear hK K
        refine wpB_val (v := ?v196) (by kernel_rfl) (by kernel_rfl) _ rfl (fun j w' hj hS => ?h196) (fun K hK => ?k196)
        case h196 =>
          go_simp
          try rfl
        go_simp
        refine hK _ ?_
        clear hK K
        refine wpB_nil (fun w' hS => ?_)
        have HBS := Lib.hid (Below.trans HB.out (Below.mono hS (by have := HB.out.size; omega)))
        have TS := Lib.hid (T.out.below hS)
        have X_0 := (X.out.below hS).cell 0
        have X_1 := (X.out.below hS).cell 1
        cases sj
        · go_wp2_with fail
          go_roundw
          case rel => exact ⟨j + 1, by omega, by go_num, by rw [HSE.out]; rfl, HBS.out, TS.out⟩
          case measure => simp [intOf]; omega
        · go_wp2_with fail
          go_roundw
          case rel => exact ⟨j + 1, by omega, by go_num, by rw [HSE.out]; rfl, HBS.out, TS.out⟩
          case measure => simp [intOf]; omega
      · have z2 : (ky != 0) = true := by simp [z]
        have HPZ := Lib.hid (HPE.out z)
        have kz : 1 ≤ ky := by omega
        clear z
        clear X_c0 X_c1 X_z
        have FX0 : ∀ w' : World, Below w21.heap.size w21 w' → w'.cell? ⟨bX, 0, none⟩ = some (.int .i64 ky) := fun w' h => (X.out.below h).cell 0
        have FX1 : ∀ w' : World, Below w21.heap.size w21 w' → w'.cell? ⟨bX, 1, none⟩ = some (.int .i64 vl) := fun w' h => (X.out.below h).cell 1
        refine wp_region_stable (fun _ w' => Below w21.heap.size w21 w') (by kernel_rfl) (by kernel_rfl) (Below.drew (Below.refl _ _)) ?_
        refine wpB_val (v := ?v197) (by kernel_rfl) (by kernel_rfl) _ rfl (fun j w' hj hS => ?h197) (fun K hK => ?k197)
        case h197 =>
          go_simp
          try rfl
        go_simp
        refine hK _ ?_
        clear hK K
        refine wpB_val (v := ?v198) (by kernel_rfl) (by kernel_rfl) 0 (by kernel_rfl) (fun j w' hj hS => ?h198) (fun K hK => ?k198)
        case h198 =>
          have c_X0 := FX0 w' hS
          have c_X1 := FX1 w' hS
          go_simp
          try rfl
        go_simp
        refine hK _ ?_
        clear hK K
        refine wpB_val (v := ?v199) (by kernel_rfl) (by kernel_rfl) _ rfl (fun j w' hj hS => ?h199) (fun K hK => ?k199)
        case h199 =>
          go_simp
          try rfl
        go_simp
        refine hK _ ?_
        clear hK K
        refine wpB_val (v := ?v200) (by kernel_rfl) (by kernel_rfl) _ rfl (fun j w' hj hS => ?h200) (fun K hK => ?k200)
        case h200 =>
          go_simp
          try rfl
        go_simp
        refine hK _ ?_
        clear hK K
        refine wpB_load 27 _ rfl (bT) (0) (tcells t) _ (by kernel_rfl) rfl 0 (by kernel_rfl) (fun j w' hj hS => (T.out.below hS).range) Try.underlying27 rfl (by rw [HLt.out]; kernel_rfl) (fun K hK => ?_)
        go_simp
        refine hK _ ?_
        clear hK K
        refine wpB_val (v := ?v201) (by kernel_rfl) (by kernel_rfl) _ rfl (fun j w' hj hS => ?h201) (fun K hK => ?k201)
        case h201 =>
          go_simp
          try rfl
        go_simp
        refine hK _ ?_
        clear hK K
        refine wpB_val (v := ?v202) (by kernel_rfl) (by kernel_rfl) 0 (by kernel_rfl) (fun j w' hj hS => ?h202) (fun K hK => ?k202)
        case h202 =>
          have c_X0 := FX0 w' hS
          have c_X1 := FX1 w' hS
          go_simp
          try rfl
        go_simp
        refine hK _ ?_
        clear hK K
        refine wpB_call _ _ (by kernel_rfl) (by kernel_rfl) (fun w' => by kernel_rfl) 0 (by kernel_rfl) (fun j w' hj hS => (peek_eq w' t Gt.out ky kz k1' HPZ.out).mono (fun e w2 h => ⟨h.1, Below.trans hS (Below.mono h.2 hS.size)⟩)) (fun K hK => ?_)
        go_simp
        refine hK _ ?_
        clear hK K
        refine wpB_val (v := ?v203) (by kernel_rfl) (by kernel_rfl) _ rfl (fun j w' hj hS => ?h203) (fun K hK => ?k203)
        case h203 =>
          go_simp
          try rfl
        go_simp
        refine hK _ ?_
        clear hK K
        refine wpB_val (v := ?v204) (by kernel_rfl) (by kernel_rfl) 0 (by kernel_rfl) (fun j w' hj hS => ?h204) (fun K hK => ?k204)
        case h204 =>
          have c_X0 := FX0 w' hS
          have c_X1 := FX1 w' hS
          go_simp
          try rfl
        go_simp
        refine hK _ ?_
        clear hK K
        refine wpB_val (v := ?v205) (by kernel_rfl) (by kernel_rfl) _ rfl (fun j w' hj hS => ?h205) (fun K hK => ?k205)
        case h205 =>
          go_simp
          try rfl
        go_simp
        refine hK _ ?_
        clear hK K
        refine wpB_val (v := ?v206) (by kernel_rfl) (by kernel_rfl) _ rfl (fun j w' hj hS => ?h206) (fun K hK => ?k206)
        case h206 =>
          go_simp
          try rfl
        go_simp
        refine hK _ ?_
        clear hK K
        refine wpB_val (v := ?v207) (by kernel_rfl) (by kernel_rfl) _ rfl (fun j w' hj hS => ?h207) (fun K hK => ?k207)
        case h207 =>
          go_simp
          try rfl
        go_simp
        refine hK _ ?_
        clear hK K
        refine wpB_nil (fun w' hS => ?_)
        have HBS := Lib.hid (Below.trans HB.out (Below.mono hS (by have := HB.out.size; omega)))
        have TS := Lib.hid (T.out.below hS)
        have X_0 := (X.out.below hS).cell 0
        have X_1 := (X.out.below hS).cell 1
        cases sj
        · go_wp2_with fail
          go_roundw
          case rel => exact ⟨j + 1, by omega, by go_num, by rw [HSE.out]; rfl, HBS.out, TS.out⟩
          case measure => simp [intOf]; omega
        · go_wp2_with fail
          go_roundw
          case rel => exact ⟨j + 1, by omega, by go_num, by rw [HSE.out]; rfl, HBS.out, TS.out⟩
          case measure => simp [intOf]; omega
    · obtain rfl : j = 8 := by omega
      have hfc := field_code
      rcases finds_plain Gt.out k (by omega) with ⟨u, hp, hs⟩ | ⟨hp, hs⟩
      · have HP := Lib.hid hp
        rw [hs]
        clear hp hs
        go_wp2_with (refine wpList_load_part rfl 27 _ rfl (bT) 0 16 rfl 27 (tcells t) _ T.out (by rw [HLt.out]; decide) Try.underlying27 rfl (by kernel_rfl) ?_; rw [HCt.out])
        refine (peek_eq _ t Gt.out k k2 k3 HP.out).mono ?_
        rintro e w41 ⟨rfl, hb41⟩
        replace HB := Lib.hid (bcall HB.out hb41)
        replace T := Lib.hid (T.out.below hb41)
        clear hb41
        go_wp2_with fail
        go_ret
        exact ⟨by first | rfl | simp, HB.out⟩
      · have HP := Lib.hid hp
        rw [hs]
        clear hp hs
        go_wp2_with (refine wpList_load_part rfl 27 _ rfl (bT) 0 16 rfl 27 (tcells t) _ T.out (by rw [HLt.out]; decide) Try.underlying27 rfl (by kernel_rfl) ?_; rw [HCt.out])
        refine (peek_eq _ t Gt.out k k2 k3 HP.out).mono ?_
        rintro e w41 ⟨rfl, hb41⟩
        replace HB := Lib.hid (bcall HB.out hb41)
        replace T := Lib.hid (T.out.below hb41)
        clear hb41
        go_wp2_with fail
        go_ret
        exact ⟨by first | rfl | simp, HB.out⟩
end Go.Proofs.Ytakemnpicokaiaa
