/- The contract of the law package's helper 'done': some store, new. -/
import Derived.Test.YtakemnpicokaiaaKept
import Derived.Test.YtakemnpicokaiaaPick
import Derived.Deep.RegionHeld3
namespace Go.Proofs.Ytakemnpicokaiaa
open Go.RowKit
set_option linter.unusedVariables false
/-- A slice of deeds that came in: f j i is the number i of deed j. -/
def Deeds (w : World) (a : Option Addr) (len cap : Nat) (f : Nat → Nat → Int) : Prop :=
  len ≤ cap ∧ cap ≤ 9223372036854775807 ∧ (len = 0 ∨ ∃ b off, a = some ⟨b, off, none⟩ ∧ b < w.heap.size ∧ ∀ j, j < len →
    w.cell? ⟨b, off + j * 5, none⟩ = some (.int .i64 (f j 0)) ∧ w.cell? ⟨b, off + j * 5 + 1, none⟩ = some (.int .i64 (f j 1)) ∧ w.cell? ⟨b, off + j * 5 + 2, none⟩ = some (.int .i64 (f j 2)) ∧
    w.cell? ⟨b, off + j * 5 + 3, none⟩ = some (.int .i64 (f j 3)) ∧ w.cell? ⟨b, off + j * 5 + 4, none⟩ = some (.int .u64 (f j 4)) ∧ 0 ≤ f j 4 ∧ f j 4 < 18446744073709551616)
theorem Deeds.below {w w' : World} {a : Option Addr} {len cap : Nat} {f : Nat → Nat → Int} (h : Deeds w a len cap f) (k : Below w.heap.size w w') : Deeds w' a len cap f := by
  obtain ⟨h1, h2, h3⟩ := h
  refine ⟨h1, h2, ?_⟩
  rcases h3 with h3 | ⟨b, off, rfl, hb, hc⟩
  · exact .inl h3
  · refine .inr ⟨b, off, rfl, Nat.lt_of_lt_of_le hb k.size, fun j hj => ?_⟩
    obtain ⟨c0, c1, c2, c3, c4, c5⟩ := hc j hj
    refine ⟨?_, ?_, ?_, ?_, ?_, c5⟩
    · rw [k.cell (p := ⟨b, off + j * 5, none⟩) hb]; exact c0
    · rw [k.cell (p := ⟨b, off + j * 5 + 1, none⟩) hb]; exact c1
    · rw [k.cell (p := ⟨b, off + j * 5 + 2, none⟩) hb]; exact c2
    · rw [k.cell (p := ⟨b, off + j * 5 + 3, none⟩) hb]; exact c3
    · rw [k.cell (p := ⟨b, off + j * 5 + 4, none⟩) hb]; exact c4
set_option maxHeartbeats 1000000 in
theorem done_any (w : World) (a : Option Addr) (len cap : Nat) (f : Nat → Nat → Int) (h : Deeds w a len cap f) (hl : len ≤ 60) :
    Calls Try.prog 29 #[.slice a len cap] w fun e w' => e = .returned (.pointer (some ⟨w.heap.size, 0, none⟩)) ∧ (∃ S, StoreAt w' w.heap.size S) ∧ Below w.heap.size w w' := by
  have HD := Lib.hid h
  obtain ⟨hcap, hmax, -⟩ := h
  go_enter Try.func29, Try.ntmps29
  go_wp2_with fail
  refine (store_new _).mono ?_
  rintro e w1 ⟨rfl, hs1, hb1⟩
  go_wp2_with fail
  go_loopw [16] (fun i wr => ∃ k : Nat, k ≤ len ∧ i = .int .i64 k ∧ Below w.heap.size w wr ∧ ∃ S, StoreAt wr w.heap.size S)
    (fun i _ => len - (intOf i).toNat)
  case atStart => exact ⟨0, Nat.zero_le _, rfl, hb1, _, hs1⟩
  case round =>
    clear hs1 hb1
    obtain ⟨k, hk, rfl, hb, S, hs⟩ := hrel
    by_cases hlt : k < len
    · obtain ⟨-, -, h3⟩ := HD.out
      rcases h3 with h3 | ⟨b, off, rfl, hbb, hc⟩
      · omega
      obtain ⟨c0, c1, c2, c3, c4, hw0, hw1⟩ := hc k hlt
      rw [← hb.cell (p := ⟨b, off + k * 5, none⟩) hbb] at c0
      rw [← hb.cell (p := ⟨b, off + k * 5 + 1, none⟩) hbb] at c1
      rw [← hb.cell (p := ⟨b, off + k * 5 + 2, none⟩) hbb] at c2
      rw [← hb.cell (p := ⟨b, off + k * 5 + 3, none⟩) hbb] at c3
      rw [← hb.cell (p := ⟨b, off + k * 5 + 4, none⟩) hbb] at c4
      clear hc
      generalize f k 0 = x0 at *
      generalize f k 1 = x1 at *
      generalize f k 2 = x2 at *
      generalize f k 3 = x3 at *
      generalize f k 4 = x4 at *
      have hbx : Below wr.heap.size wr (wr.alloc (Obj.cells #[.int .i64 x0, .int .i64 x1, .int .i64 x2, .int .i64 x3, .int .u64 x4] 72)) := balloc (Below.refl _ wr) _
      have HX : Hid (Blk (wr.alloc (Obj.cells #[.int .i64 x0, .int .i64 x1, .int .i64 x2, .int .i64 x3, .int .u64 x4] 72)) wr.heap.size [.int .i64 x0, .int .i64 x1, .int .i64 x2, .int .i64 x3, .int .u64 x4] 72) := Blk.new _ _ _
      have HST : Hid (StoreAt (wr.alloc (Obj.cells #[.int .i64 x0, .int .i64 x1, .int .i64 x2, .int .i64 x3, .int .u64 x4] 72)) w.heap.size S) := hs.below hbx
      have HB5 : Hid (Below w.heap.size w (wr.alloc (Obj.cells #[.int .i64 x0, .int .i64 x1, .int .i64 x2, .int .i64 x3, .int .u64 x4] 72))) := bcall hb hbx
      have hne : w.heap.size < wr.heap.size := hs.2.lt
      by_cases g0 : x0 = 0
      · subst g0
        clear hs hb
        go_wp2_with fail
        clear c0 c1 c2 c3 c4
        generalize wr.alloc (Obj.cells #[.int .i64 0, .int .i64 x1, .int .i64 x2, .int .i64 x3, .int .u64 x4] 72) = w5 at *
        have k1 : w5.cell? ⟨wr.heap.size, 1, none⟩ = some (.int .i64 x1) := HX.out.cell 1
        have k4 : w5.cell? ⟨wr.heap.size, 4, none⟩ = some (.int .u64 x4) := HX.out.cell 4
        go_region_held3 (fun w' => w'.cell? ⟨wr.heap.size, 1, none⟩ = some (.int .i64 x1) ∧ w'.cell? ⟨wr.heap.size, 4, none⟩ = some (.int .u64 x4))
          (first | go_keep | exact ⟨m1, m4⟩)
          (first
            | (go_at_call 21; refine (pick_any _ _ _ (by decide) (by decide)).mono ?_; rintro e w' ⟨rfl, rfl⟩)
            | (go_at_call 31; refine (store_save _ _ S _ _ (StoreAt.drew HST.out) (pickZ_nonneg _ _ (by decide)) (pickZ_lt _ _ (by decide))).mono ?_; rintro e w9 ⟨rfl, hs9, hk9⟩; have m1 : w9.cell? ⟨wr.heap.size, 1, none⟩ = some (.int .i64 x1) := (hk9.cell (HX.out.lt) (by omega)).trans k1; have m4 : w9.cell? ⟨wr.heap.size, 4, none⟩ = some (.int .u64 x4) := (hk9.cell (HX.out.lt) (by omega)).trans k4))
        go_wp2_with fail
        go_roundw
        case rel => exact ⟨k + 1, by omega, by go_num, bkept HB5.out.drew hk9 (by rintro n rfl; exact Nat.le_refl _), _, hs9⟩
        case measure => simp [intOf]; omega
      have b0 : (x0 == 0) = false := by simp [g0]
      by_cases g1 : x0 = 1
      · subst g1
        clear hs hb
        go_wp2_with fail
        clear c0 c1 c2 c3 c4
        generalize wr.alloc (Obj.cells #[.int .i64 1, .int .i64 x1, .int .i64 x2, .int .i64 x3, .int .u64 x4] 72) = w5 at *
        have k2 : w5.cell? ⟨wr.heap.size, 2, none⟩ = some (.int .i64 x2) := HX.out.cell 2
        have k3 : w5.cell? ⟨wr.heap.size, 3, none⟩ = some (.int .i64 x3) := HX.out.cell 3
        go_region_held3 (fun w' => w'.cell? ⟨wr.heap.size, 2, none⟩ = some (.int .i64 x2) ∧ w'.cell? ⟨wr.heap.size, 3, none⟩ = some (.int .i64 x3))
          (first | go_keep | exact ⟨m1, m4⟩)
          (first
            | (go_at_call 21; refine (pick_any _ _ _ (by decide) (by decide)).mono ?_; rintro e w' ⟨rfl, rfl⟩)
            | (go_at_call 33; refine (store_flush _ _ S _ _ (StoreAt.drew HST.out) (pickZ_nonneg _ _ (by decide)) (pickZ_lt _ _ (by decide)) (pickZ_nonneg _ _ (by decide)) (pickZ_lt _ _ (by decide))).mono ?_; rintro e w9 ⟨rfl, hs9, hk9⟩; have m1 : w9.cell? ⟨wr.heap.size, 2, none⟩ = some (.int .i64 x2) := (hk9.cell (HX.out.lt) (by omega)).trans k2; have m4 : w9.cell? ⟨wr.heap.size, 3, none⟩ = some (.int .i64 x3) := (hk9.cell (HX.out.lt) (by omega)).trans k3))
        go_wp2_with fail
        go_roundw
        case rel => exact ⟨k + 1, by omega, by go_num, bkept HB5.out.drew hk9 (by rintro n rfl; exact Nat.le_refl _), _, hs9⟩
        case measure => simp [intOf]; omega
      have b1 : (x0 == 1) = false := by simp [g1]
      by_cases g2 : x0 = 2
      · subst g2
        clear hs hb
        go_wp2_with fail
        clear c0 c1 c2 c3 c4
        generalize wr.alloc (Obj.cells #[.int .i64 2, .int .i64 x1, .int .i64 x2, .int .i64 x3, .int .u64 x4] 72) = w5 at *
        refine (pick_any _ _ _ (by decide) (by decide)).mono ?_
        rintro e w' ⟨rfl, rfl⟩
        go_wp2_with fail
        refine (store_fence _ _ S _ HST.out (pickZ_nonneg _ _ (by decide)) (pickZ_lt _ _ (by decide))).mono ?_
        rintro e w9 ⟨rfl, hs9, hk9⟩
        go_wp2_with fail
        go_roundw
        case rel => exact ⟨k + 1, by omega, by go_num, bkept HB5.out hk9 (by rintro n rfl; exact Nat.le_refl _), _, hs9⟩
        case measure => simp [intOf]; omega
      have b2 : (x0 == 2) = false := by simp [g2]
      by_cases g3 : x0 = 3
      · subst g3
        clear hs hb
        go_wp2_with fail
        clear c0 c1 c2 c3 c4
        generalize wr.alloc (Obj.cells #[.int .i64 3, .int .i64 x1, .int .i64 x2, .int .i64 x3, .int .u64 x4] 72) = w5 at *
        refine (pick_any _ _ _ (by decide) (by decide)).mono ?_
        rintro e w' ⟨rfl, rfl⟩
        go_wp2_with fail
        refine (store_evict _ _ S _ HST.out (pickZ_nonneg _ _ (by decide)) (pickZ_lt _ _ (by decide))).mono ?_
        rintro e w9 ⟨rfl, hs9, hk9⟩
        go_wp2_with fail
        go_roundw
        case rel => exact ⟨k + 1, by omega, by go_num, bkept HB5.out hk9 (by rintro n rfl; exact Nat.le_refl _), _, hs9⟩
        case measure => simp [intOf]; omega
      have b3 : (x0 == 3) = false := by simp [g3]
      by_cases g4 : x0 = 4
      · subst g4
        clear hs hb
        go_wp2_with fail
        clear c0 c1 c2 c3 c4
        generalize wr.alloc (Obj.cells #[.int .i64 4, .int .i64 x1, .int .i64 x2, .int .i64 x3, .int .u64 x4] 72) = w5 at *
        refine (store_crash _ _ S _ HST.out hw0 hw1).mono ?_
        rintro e w9 ⟨rfl, hs9, hk9⟩
        go_wp2_with fail
        go_roundw
        case rel => exact ⟨k + 1, by omega, by go_num, bkept HB5.out hk9 (by rintro n rfl; exact Nat.le_refl _), _, hs9⟩
        case measure => simp [intOf]; omega
      have b4 : (x0 == 4) = false := by simp [g4]
      clear hs hb g0 g1 g2 g3 g4
      go_wp2_with fail
      clear c0 c1 c2 c3 c4
      generalize wr.alloc (Obj.cells #[.int .i64 x0, .int .i64 x1, .int .i64 x2, .int .i64 x3, .int .u64 x4] 72) = w5 at *
      go_roundw
      case rel => exact ⟨k + 1, by omega, by go_num, HB5.out, _, HST.out⟩
      case measure => simp [intOf]; omega
    · obtain rfl : k = len := by omega
      go_wp2_with fail
      go_ret
      exact ⟨rfl, ⟨S, hs⟩, hb⟩
theorem done_many (w : World) (a : Option Addr) (len cap : Nat) (hl : 60 < len) (hm : len ≤ 9223372036854775807) :
    Calls Try.prog 29 #[.slice a len cap] w fun e w' => e = .returned (.pointer none) ∧ Below w.heap.size w w' := by
  go_enter Try.func29, Try.ntmps29
  go_wp2_with fail
  refine (store_new _).mono ?_
  rintro e w1 ⟨rfl, hs1, hb1⟩
  go_wp2_with fail
  go_ret
  exact ⟨rfl, hb1⟩
end Go.Proofs.Ytakemnpicokaiaa
