/- The fact 'queued' and the walks of the laws on queues. -/
import Derived.Test.YtpjdddoielhpjaaFew
import Derived.Test.YtpjdddoielhpjaaQueue
namespace Go.Proofs.Ytpjdddoielhpjaa
open Go.RowKit
set_option linter.unusedVariables false
/-- A block of numbers as a slice. -/
theorem Blk.sl {w : World} {b : Nat} {xs : List Int} {t : TypeId} (h : Blk w b (xs.map (Value.int .i64)) t) (hx : xs.length ≤ 1000) : Sl w (.slice (some ⟨b, 0, none⟩) xs.length xs.length) xs :=
  ⟨_, _, rfl, Nat.le_refl _, by omega, .inr ⟨b, 0, rfl, h.lt, fun j hj => by rw [Nat.zero_add, h.cell, List.getElem?_map, List.getElem?_eq_getElem hj, List.getD_eq_getElem?_getD, List.getElem?_eq_getElem hj]; rfl⟩⟩

set_option maxHeartbeats 1000000 in
theorem queued_any (w : World) :
    Calls Try.prog 28 #[] w fun e w' => e = .returned (.bool true) ∧ Below w.heap.size w w' := by
  go_enter Try.func28, Try.ntmps28
  have HB := Lib.hid (Below.refl w.heap.size w)
  go_wp2_with fail
  have hb1 := balloc (Below.refl _ w) (Obj.cells #[.int .i64 1, .int .i64 2] 3)
  have L12 := Lib.hid (Blk.new w [.int .i64 1, .int .i64 2] 3)
  change Hid (Blk (w.alloc (Obj.cells #[.int .i64 1, .int .i64 2] 3)) _ _ _) at L12
  have ZL12 : Hid ((w.alloc (Obj.cells #[.int .i64 1, .int .i64 2] 3)).heap.size = w.heap.size + 1) := World.size_alloc _ _
  replace HB := Lib.hid (bcall HB.out hb1)
  clear hb1
  generalize w.alloc (Obj.cells #[.int .i64 1, .int .i64 2] 3) = w1 at *
  refine (put_any _ _).mono ?_
  rintro e w2 ⟨rfl, hb2⟩
  replace HB := Lib.hid (bcall HB.out hb2)
  replace L12 := Lib.hid (L12.out.below hb2)
  clear hb2
  go_wp2_with fail
  refine (queue_put _ _ [1, 2] 0 3 (Blk.sl (xs := [1, 2]) L12.out (by decide)) (by decide)).mono ?_
  rintro e w3 ⟨v1, rfl, ho1, hb3⟩
  replace HB := Lib.hid (bcall HB.out hb3)
  replace L12 := Lib.hid (L12.out.below hb3)
  replace ho1 := Lib.hid ho1
  clear hb3
  go_wp2_with fail
  have hb4 := balloc (Below.refl _ w3) (Obj.cells #[.int .i64 1, .int .i64 0] 25)
  have A1 := Lib.hid (Blk.new w3 [.int .i64 1, .int .i64 0] 25)
  change Hid (Blk (w3.alloc (Obj.cells #[.int .i64 1, .int .i64 0] 25)) _ _ _) at A1
  have ZA1 : Hid ((w3.alloc (Obj.cells #[.int .i64 1, .int .i64 0] 25)).heap.size = w3.heap.size + 1) := World.size_alloc _ _
  replace HB := Lib.hid (bcall HB.out hb4)
  replace L12 := Lib.hid (L12.out.below hb4)
  replace ho1 := Lib.hid (ho1.out.below hb4)
  clear hb4
  generalize w3.alloc (Obj.cells #[.int .i64 1, .int .i64 0] 25) = w4 at *
  generalize w3.heap.size = bA1 at *
  have A1_c0 : w4.cell? ⟨bA1, 0, none⟩ = some (.int .i64 1) := A1.out.cell 0
  have A1_c1 : w4.cell? ⟨bA1, 1, none⟩ = some (.int .i64 0) := A1.out.cell 1
  go_wp2_with fail
  refine (queue_take _ _ [1, 2, 3] 0 0 ho1.out.sl (by decide) (by decide)).mono ?_
  rintro e w5 ⟨v2, rfl, ho2, hb5⟩
  replace HB := Lib.hid (bcall HB.out hb5)
  replace L12 := Lib.hid (L12.out.below hb5)
  replace ho1 := Lib.hid (ho1.out.below hb5)
  clear A1_c0 A1_c1
  replace A1 := Lib.hid (A1.out.below hb5)
  replace ho2 := Lib.hid ho2
  clear hb5
  have A1_c0 : w5.cell? ⟨bA1, 0, none⟩ = some (.int .i64 1) := A1.out.cell 0
  have A1_c1 : w5.cell? ⟨bA1, 1, none⟩ = some (.int .i64 0) := A1.out.cell 1
  go_wp2_with fail
  have hb6 := balloc (Below.refl _ w5) (Obj.cells #[.int .i64 1, .int .i64 1] 25)
  have A2 := Lib.hid (Blk.new w5 [.int .i64 1, .int .i64 1] 25)
  change Hid (Blk (w5.alloc (Obj.cells #[.int .i64 1, .int .i64 1] 25)) _ _ _) at A2
  have ZA2 : Hid ((w5.alloc (Obj.cells #[.int .i64 1, .int .i64 1] 25)).heap.size = w5.heap.size + 1) := World.size_alloc _ _
  clear A1_c0 A1_c1
  replace HB := Lib.hid (bcall HB.out hb6)
  replace L12 := Lib.hid (L12.out.below hb6)
  replace ho1 := Lib.hid (ho1.out.below hb6)
  replace A1 := Lib.hid (A1.out.below hb6)
  replace ho2 := Lib.hid (ho2.out.below hb6)
  clear hb6
  generalize w5.alloc (Obj.cells #[.int .i64 1, .int .i64 1] 25) = w6 at *
  generalize w5.heap.size = bA2 at *
  have A1_c0 : w6.cell? ⟨bA1, 0, none⟩ = some (.int .i64 1) := A1.out.cell 0
  have A1_c1 : w6.cell? ⟨bA1, 1, none⟩ = some (.int .i64 0) := A1.out.cell 1
  have A2_c0 : w6.cell? ⟨bA2, 0, none⟩ = some (.int .i64 1) := A2.out.cell 0
  have A2_c1 : w6.cell? ⟨bA2, 1, none⟩ = some (.int .i64 1) := A2.out.cell 1
  have hb7 := balloc (Below.refl _ w6) (Obj.cells #[.int .i64 1, .int .i64 2, .int .i64 3] 3)
  have L123 := Lib.hid (Blk.new w6 [.int .i64 1, .int .i64 2, .int .i64 3] 3)
  change Hid (Blk (w6.alloc (Obj.cells #[.int .i64 1, .int .i64 2, .int .i64 3] 3)) _ _ _) at L123
  have ZL123 : Hid ((w6.alloc (Obj.cells #[.int .i64 1, .int .i64 2, .int .i64 3] 3)).heap.size = w6.heap.size + 1) := World.size_alloc _ _
  clear A1_c0 A1_c1
  clear A2_c0 A2_c1
  replace HB := Lib.hid (bcall HB.out hb7)
  replace L12 := Lib.hid (L12.out.below hb7)
  replace ho1 := Lib.hid (ho1.out.below hb7)
  replace A1 := Lib.hid (A1.out.below hb7)
  replace ho2 := Lib.hid (ho2.out.below hb7)
  replace A2 := Lib.hid (A2.out.below hb7)
  clear hb7
  rw [ZA2.out] at L123 ZL123
  clear ZA2
  generalize w6.alloc (Obj.cells #[.int .i64 1, .int .i64 2, .int .i64 3] 3) = w7 at *
  have A1_c0 : w7.cell? ⟨bA1, 0, none⟩ = some (.int .i64 1) := A1.out.cell 0
  have A1_c1 : w7.cell? ⟨bA1, 1, none⟩ = some (.int .i64 0) := A1.out.cell 1
  have A2_c0 : w7.cell? ⟨bA2, 0, none⟩ = some (.int .i64 1) := A2.out.cell 0
  have A2_c1 : w7.cell? ⟨bA2, 1, none⟩ = some (.int .i64 1) := A2.out.cell 1
  refine (equal_any _ _ _ [1, 2, 3] [1, 2, 3] ho1.out.sl (Blk.sl (xs := [1, 2, 3]) L123.out (by decide)) (by decide) (by decide)).mono ?_
  rintro e w8 ⟨rfl, hb8⟩
  replace HB := Lib.hid (bcall HB.out hb8)
  replace L12 := Lib.hid (L12.out.below hb8)
  replace ho1 := Lib.hid (ho1.out.below hb8)
  clear A1_c0 A1_c1
  replace A1 := Lib.hid (A1.out.below hb8)
  replace ho2 := Lib.hid (ho2.out.below hb8)
  clear A2_c0 A2_c1
  replace A2 := Lib.hid (A2.out.below hb8)
  replace L123 := Lib.hid (L123.out.below hb8)
  clear hb8
  have A1_c0 : w8.cell? ⟨bA1, 0, none⟩ = some (.int .i64 1) := A1.out.cell 0
  have A1_c1 : w8.cell? ⟨bA1, 1, none⟩ = some (.int .i64 0) := A1.out.cell 1
  have A2_c0 : w8.cell? ⟨bA2, 0, none⟩ = some (.int .i64 1) := A2.out.cell 0
  have A2_c1 : w8.cell? ⟨bA2, 1, none⟩ = some (.int .i64 1) := A2.out.cell 1
  go_wp2_with fail
  have hb9 := balloc (Below.refl _ w8) (Obj.cells #[.int .i64 2, .int .i64 3] 3)
  have L23 := Lib.hid (Blk.new w8 [.int .i64 2, .int .i64 3] 3)
  change Hid (Blk (w8.alloc (Obj.cells #[.int .i64 2, .int .i64 3] 3)) _ _ _) at L23
  have ZL23 : Hid ((w8.alloc (Obj.cells #[.int .i64 2, .int .i64 3] 3)).heap.size = w8.heap.size + 1) := World.size_alloc _ _
  clear A1_c0 A1_c1
  clear A2_c0 A2_c1
  replace HB := Lib.hid (bcall HB.out hb9)
  replace L12 := Lib.hid (L12.out.below hb9)
  replace ho1 := Lib.hid (ho1.out.below hb9)
  replace A1 := Lib.hid (A1.out.below hb9)
  replace ho2 := Lib.hid (ho2.out.below hb9)
  replace A2 := Lib.hid (A2.out.below hb9)
  replace L123 := Lib.hid (L123.out.below hb9)
  clear hb9
  generalize w8.alloc (Obj.cells #[.int .i64 2, .int .i64 3] 3) = w9 at *
  generalize w8.heap.size = bL23 at *
  have A1_c0 : w9.cell? ⟨bA1, 0, none⟩ = some (.int .i64 1) := A1.out.cell 0
  have A1_c1 : w9.cell? ⟨bA1, 1, none⟩ = some (.int .i64 0) := A1.out.cell 1
  have A2_c0 : w9.cell? ⟨bA2, 0, none⟩ = some (.int .i64 1) := A2.out.cell 0
  have A2_c1 : w9.cell? ⟨bA2, 1, none⟩ = some (.int .i64 1) := A2.out.cell 1
  refine (equal_any _ _ _ [2, 3] [2, 3] ho2.out.sl (Blk.sl (xs := [2, 3]) L23.out (by decide)) (by decide) (by decide)).mono ?_
  rintro e w10 ⟨rfl, hb10⟩
  replace HB := Lib.hid (bcall HB.out hb10)
  replace L12 := Lib.hid (L12.out.below hb10)
  replace ho1 := Lib.hid (ho1.out.below hb10)
  clear A1_c0 A1_c1
  replace A1 := Lib.hid (A1.out.below hb10)
  replace ho2 := Lib.hid (ho2.out.below hb10)
  clear A2_c0 A2_c1
  replace A2 := Lib.hid (A2.out.below hb10)
  replace L123 := Lib.hid (L123.out.below hb10)
  replace L23 := Lib.hid (L23.out.below hb10)
  clear hb10
  have A1_c0 : w10.cell? ⟨bA1, 0, none⟩ = some (.int .i64 1) := A1.out.cell 0
  have A1_c1 : w10.cell? ⟨bA1, 1, none⟩ = some (.int .i64 0) := A1.out.cell 1
  have A2_c0 : w10.cell? ⟨bA2, 0, none⟩ = some (.int .i64 1) := A2.out.cell 0
  have A2_c1 : w10.cell? ⟨bA2, 1, none⟩ = some (.int .i64 1) := A2.out.cell 1
  go_wp2_with fail
  go_ret
  exact ⟨rfl, HB.out⟩

set_option maxHeartbeats 1000000 in
theorem walk_QueueFull (a0 : Option Addr) (len0 cap0 : Nat) (z0 : List Int) (a1 : Int) (w : World) (w0 : IsRow .i64 w a0 len0 cap0 z0) (w1 : (Lit.int .i64 a1).wf = true) :
    Calls Try.prog 12 #[.slice a0 len0 cap0, .int .i64 a1] w fun e w' => e = .returned (.bool true) ∧ Below w.heap.size w w' := by
  obtain ⟨ys, hl, hs⟩ := row_sl w0
  clear w0 w1
  have HS := Lib.hid hs
  clear hs
  go_enter Try.func12, Try.ntmps12
  have HB := Lib.hid (Below.refl w.heap.size w)
  go_wp2_with fail
  refine (queued_any _).mono ?_
  rintro e w2 ⟨rfl, hb2⟩
  replace HB := Lib.hid (bcall HB.out hb2)
  replace HS := Lib.hid (HS.out.below hb2)
  clear hb2
  go_wp2_with fail
  have hbw1 := HB.out.size
  refine (few_any _ _ _ ys _ hl HS.out).mono ?_
  rintro e w3 ⟨v1, rfl, HF, hb3⟩
  replace HB := Lib.hid (bcall HB.out hb3)
  replace HS := Lib.hid (HS.out.below hb3)
  replace HF := Lib.hid HF
  clear hb3
  clear HS
  have hfl := fewL_len ys
  generalize fewL ys = fl at *
  obtain ⟨p1, cap1, rfl⟩ := HF.out.sl.slice
  clear hl
  go_wp2_with fail
  refine (pick_any _ _ _ (by decide) (by decide)).mono ?_
  rintro e w' ⟨rfl, rfl⟩
  go_wp2_with fail
  generalize pickZ a1 4294967296 = x at *
  refine (put_any _ _).mono ?_
  rintro e w4 ⟨rfl, hb4⟩
  replace HB := Lib.hid (bcall HB.out hb4)
  replace HF := Lib.hid (HF.out.below hb4)
  clear hb4
  go_wp2_with fail
  by_cases h6 : fl.length = 6
  · have f6 : ((fl.length : Int) == 6) = true := by simp [h6]
    refine (queue_put_full _ _ fl 0 x HF.out.sl (by omega) (by omega)).mono ?_
    rintro e w5 ⟨v2, rfl, ho2, hb5⟩
    replace HB := Lib.hid (bcall HB.out hb5)
    replace HF := Lib.hid (HF.out.below hb5)
    replace ho2 := Lib.hid ho2
    clear hb5
    clear h6
    go_wp2_with fail
    have hb6 := balloc (Below.refl _ w5) (Obj.cells #[.int .i64 3, .int .i64 0] 25)
    have A1 := Lib.hid (Blk.new w5 [.int .i64 3, .int .i64 0] 25)
    change Hid (Blk (w5.alloc (Obj.cells #[.int .i64 3, .int .i64 0] 25)) _ _ _) at A1
    have ZA1 : Hid ((w5.alloc (Obj.cells #[.int .i64 3, .int .i64 0] 25)).heap.size = w5.heap.size + 1) := World.size_alloc _ _
    replace HB := Lib.hid (bcall HB.out hb6)
    replace HF := Lib.hid (HF.out.below hb6)
    replace ho2 := Lib.hid (ho2.out.below hb6)
    clear hb6
    generalize w5.alloc (Obj.cells #[.int .i64 3, .int .i64 0] 25) = w6 at *
    generalize w5.heap.size = bA1 at *
    have A1_c0 : w6.cell? ⟨bA1, 0, none⟩ = some (.int .i64 3) := A1.out.cell 0
    have A1_c1 : w6.cell? ⟨bA1, 1, none⟩ = some (.int .i64 0) := A1.out.cell 1
    refine (equal_yes _ _ _ fl fl ho2.out.sl HF.out.sl rfl (by omega)).mono ?_
    rintro e w7 ⟨rfl, hb7⟩
    replace HB := Lib.hid (bcall HB.out hb7)
    replace HF := Lib.hid (HF.out.below hb7)
    replace ho2 := Lib.hid (ho2.out.below hb7)
    clear A1_c0 A1_c1
    replace A1 := Lib.hid (A1.out.below hb7)
    clear hb7
    have A1_c0 : w7.cell? ⟨bA1, 0, none⟩ = some (.int .i64 3) := A1.out.cell 0
    have A1_c1 : w7.cell? ⟨bA1, 1, none⟩ = some (.int .i64 0) := A1.out.cell 1
    go_wp2_with fail
    go_ret
    exact ⟨rfl, HB.out⟩
  · have f6 : ((fl.length : Int) == 6) = false := beq_eq_false_iff_ne.2 (by omega)
    refine (queue_put _ _ fl 0 x HF.out.sl (by omega)).mono ?_
    rintro e w5 ⟨v2, rfl, ho2, hb5⟩
    replace HB := Lib.hid (bcall HB.out hb5)
    replace HF := Lib.hid (HF.out.below hb5)
    replace ho2 := Lib.hid ho2
    clear hb5
    obtain ⟨p2, cap2, hv2⟩ := ho2.out.sl.slice
    rw [List.length_append, List.length_singleton] at hv2
    subst hv2
    obtain ⟨-, hcap2, hmax2⟩ := ho2.out.sl.caps
    have hc2 : (fl.length : Int) ≤ cap2 := by omega
    clear h6
    go_wp2_with fail
    have hb6 := balloc (Below.refl _ w5) (Obj.cells #[.int .i64 1, .int .i64 0] 25)
    have A1 := Lib.hid (Blk.new w5 [.int .i64 1, .int .i64 0] 25)
    change Hid (Blk (w5.alloc (Obj.cells #[.int .i64 1, .int .i64 0] 25)) _ _ _) at A1
    have ZA1 : Hid ((w5.alloc (Obj.cells #[.int .i64 1, .int .i64 0] 25)).heap.size = w5.heap.size + 1) := World.size_alloc _ _
    replace HB := Lib.hid (bcall HB.out hb6)
    replace HF := Lib.hid (HF.out.below hb6)
    replace ho2 := Lib.hid (ho2.out.below hb6)
    clear hb6
    generalize w5.alloc (Obj.cells #[.int .i64 1, .int .i64 0] 25) = w6 at *
    generalize w5.heap.size = bA1 at *
    have A1_c0 : w6.cell? ⟨bA1, 0, none⟩ = some (.int .i64 1) := A1.out.cell 0
    have A1_c1 : w6.cell? ⟨bA1, 1, none⟩ = some (.int .i64 0) := A1.out.cell 1
    refine (equal_yes _ _ _ _ fl (ho2.out.sl.take fl.length (by simp)) HF.out.sl (by simp) (by simp; omega)).mono ?_
    rintro e w7 ⟨rfl, hb7⟩
    replace HB := Lib.hid (bcall HB.out hb7)
    replace HF := Lib.hid (HF.out.below hb7)
    replace ho2 := Lib.hid (ho2.out.below hb7)
    clear A1_c0 A1_c1
    replace A1 := Lib.hid (A1.out.below hb7)
    clear hb7
    have A1_c0 : w7.cell? ⟨bA1, 0, none⟩ = some (.int .i64 1) := A1.out.cell 0
    have A1_c1 : w7.cell? ⟨bA1, 1, none⟩ = some (.int .i64 0) := A1.out.cell 1
    go_wp2_with fail
    go_ret
    exact ⟨rfl, HB.out⟩

set_option maxHeartbeats 1000000 in
theorem walk_QueueLooks (a0 : Option Addr) (len0 cap0 : Nat) (z0 : List Int) (w : World) (w0 : IsRow .i64 w a0 len0 cap0 z0) :
    Calls Try.prog 13 #[.slice a0 len0 cap0] w fun e w' => e = .returned (.bool true) ∧ Below w.heap.size w w' := by
  obtain ⟨ys, hl, hs⟩ := row_sl w0
  clear w0
  have HS := Lib.hid hs
  clear hs
  go_enter Try.func13, Try.ntmps13
  have HB := Lib.hid (Below.refl w.heap.size w)
  go_wp2_with fail
  refine (queued_any _).mono ?_
  rintro e w1 ⟨rfl, hb1⟩
  replace HB := Lib.hid (bcall HB.out hb1)
  replace HS := Lib.hid (HS.out.below hb1)
  clear hb1
  go_wp2_with fail
  have hbw1 := HB.out.size
  refine (few_any _ _ _ ys _ hl HS.out).mono ?_
  rintro e w2 ⟨v1, rfl, HF, hb2⟩
  replace HB := Lib.hid (bcall HB.out hb2)
  replace HS := Lib.hid (HS.out.below hb2)
  replace HF := Lib.hid HF
  clear hb2
  clear HS
  have hfl := fewL_len ys
  generalize fewL ys = fl at *
  obtain ⟨p1, cap1, rfl⟩ := HF.out.sl.slice
  clear hl
  go_wp2_with fail
  rcases Nat.eq_zero_or_pos fl.length with h0 | h0
  · obtain rfl : fl = [] := List.length_eq_zero_iff.1 h0
    clear h0
    refine (queue_peek_nil _ _ [] 0 0 HF.out.sl rfl).mono ?_
    rintro e w3 ⟨v2, rfl, ho2, hb3⟩
    replace HB := Lib.hid (bcall HB.out hb3)
    replace HF := Lib.hid (HF.out.below hb3)
    replace ho2 := Lib.hid ho2
    clear hb3
    go_wp2_with fail
    have hb4 := balloc (Below.refl _ w3) (Obj.cells #[.int .i64 2, .int .i64 0] 25)
    have A1 := Lib.hid (Blk.new w3 [.int .i64 2, .int .i64 0] 25)
    change Hid (Blk (w3.alloc (Obj.cells #[.int .i64 2, .int .i64 0] 25)) _ _ _) at A1
    have ZA1 : Hid ((w3.alloc (Obj.cells #[.int .i64 2, .int .i64 0] 25)).heap.size = w3.heap.size + 1) := World.size_alloc _ _
    replace HB := Lib.hid (bcall HB.out hb4)
    replace HF := Lib.hid (HF.out.below hb4)
    replace ho2 := Lib.hid (ho2.out.below hb4)
    clear hb4
    generalize w3.alloc (Obj.cells #[.int .i64 2, .int .i64 0] 25) = w4 at *
    generalize w3.heap.size = bA1 at *
    have A1_c0 : w4.cell? ⟨bA1, 0, none⟩ = some (.int .i64 2) := A1.out.cell 0
    have A1_c1 : w4.cell? ⟨bA1, 1, none⟩ = some (.int .i64 0) := A1.out.cell 1
    go_wp2_with fail
    refine (queue_take_nil _ _ [] 0 0 HF.out.sl rfl).mono ?_
    rintro e w5 ⟨v3, rfl, ho3, hb5⟩
    replace HB := Lib.hid (bcall HB.out hb5)
    replace HF := Lib.hid (HF.out.below hb5)
    replace ho2 := Lib.hid (ho2.out.below hb5)
    clear A1_c0 A1_c1
    replace A1 := Lib.hid (A1.out.below hb5)
    replace ho3 := Lib.hid ho3
    clear hb5
    have A1_c0 : w5.cell? ⟨bA1, 0, none⟩ = some (.int .i64 2) := A1.out.cell 0
    have A1_c1 : w5.cell? ⟨bA1, 1, none⟩ = some (.int .i64 0) := A1.out.cell 1
    go_wp2_with fail
    have hb6 := balloc (Below.refl _ w5) (Obj.cells #[.int .i64 2, .int .i64 0] 25)
    have A2 := Lib.hid (Blk.new w5 [.int .i64 2, .int .i64 0] 25)
    change Hid (Blk (w5.alloc (Obj.cells #[.int .i64 2, .int .i64 0] 25)) _ _ _) at A2
    have ZA2 : Hid ((w5.alloc (Obj.cells #[.int .i64 2, .int .i64 0] 25)).heap.size = w5.heap.size + 1) := World.size_alloc _ _
    clear A1_c0 A1_c1
    replace HB := Lib.hid (bcall HB.out hb6)
    replace HF := Lib.hid (HF.out.below hb6)
    replace ho2 := Lib.hid (ho2.out.below hb6)
    replace A1 := Lib.hid (A1.out.below hb6)
    replace ho3 := Lib.hid (ho3.out.below hb6)
    clear hb6
    generalize w5.alloc (Obj.cells #[.int .i64 2, .int .i64 0] 25) = w6 at *
    generalize w5.heap.size = bA2 at *
    have A1_c0 : w6.cell? ⟨bA1, 0, none⟩ = some (.int .i64 2) := A1.out.cell 0
    have A1_c1 : w6.cell? ⟨bA1, 1, none⟩ = some (.int .i64 0) := A1.out.cell 1
    have A2_c0 : w6.cell? ⟨bA2, 0, none⟩ = some (.int .i64 2) := A2.out.cell 0
    have A2_c1 : w6.cell? ⟨bA2, 1, none⟩ = some (.int .i64 0) := A2.out.cell 1
    go_wp2_with fail
    refine (queue_count _ _ [] 0 0 HF.out.sl (by decide)).mono ?_
    rintro e w7 ⟨v4, rfl, ho4, hb7⟩
    replace HB := Lib.hid (bcall HB.out hb7)
    replace HF := Lib.hid (HF.out.below hb7)
    replace ho2 := Lib.hid (ho2.out.below hb7)
    clear A1_c0 A1_c1
    replace A1 := Lib.hid (A1.out.below hb7)
    replace ho3 := Lib.hid (ho3.out.below hb7)
    clear A2_c0 A2_c1
    replace A2 := Lib.hid (A2.out.below hb7)
    replace ho4 := Lib.hid ho4
    clear hb7
    have A1_c0 : w7.cell? ⟨bA1, 0, none⟩ = some (.int .i64 2) := A1.out.cell 0
    have A1_c1 : w7.cell? ⟨bA1, 1, none⟩ = some (.int .i64 0) := A1.out.cell 1
    have A2_c0 : w7.cell? ⟨bA2, 0, none⟩ = some (.int .i64 2) := A2.out.cell 0
    have A2_c1 : w7.cell? ⟨bA2, 1, none⟩ = some (.int .i64 0) := A2.out.cell 1
    go_wp2_with fail
    have hb8 := balloc (Below.refl _ w7) (Obj.cells #[.int .i64 1, .int .i64 0] 25)
    have A3 := Lib.hid (Blk.new w7 [.int .i64 1, .int .i64 0] 25)
    change Hid (Blk (w7.alloc (Obj.cells #[.int .i64 1, .int .i64 0] 25)) _ _ _) at A3
    have ZA3 : Hid ((w7.alloc (Obj.cells #[.int .i64 1, .int .i64 0] 25)).heap.size = w7.heap.size + 1) := World.size_alloc _ _
    clear A1_c0 A1_c1
    clear A2_c0 A2_c1
    replace HB := Lib.hid (bcall HB.out hb8)
    replace HF := Lib.hid (HF.out.below hb8)
    replace ho2 := Lib.hid (ho2.out.below hb8)
    replace A1 := Lib.hid (A1.out.below hb8)
    replace ho3 := Lib.hid (ho3.out.below hb8)
    replace A2 := Lib.hid (A2.out.below hb8)
    replace ho4 := Lib.hid (ho4.out.below hb8)
    clear hb8
    generalize w7.alloc (Obj.cells #[.int .i64 1, .int .i64 0] 25) = w8 at *
    generalize w7.heap.size = bA3 at *
    have A1_c0 : w8.cell? ⟨bA1, 0, none⟩ = some (.int .i64 2) := A1.out.cell 0
    have A1_c1 : w8.cell? ⟨bA1, 1, none⟩ = some (.int .i64 0) := A1.out.cell 1
    have A2_c0 : w8.cell? ⟨bA2, 0, none⟩ = some (.int .i64 2) := A2.out.cell 0
    have A2_c1 : w8.cell? ⟨bA2, 1, none⟩ = some (.int .i64 0) := A2.out.cell 1
    have A3_c0 : w8.cell? ⟨bA3, 0, none⟩ = some (.int .i64 1) := A3.out.cell 0
    have A3_c1 : w8.cell? ⟨bA3, 1, none⟩ = some (.int .i64 0) := A3.out.cell 1
    go_wp2_with fail
    refine (equal_yes _ _ _ [] [] ho2.out.sl HF.out.sl rfl (by decide)).mono ?_
    rintro e w9 ⟨rfl, hb9⟩
    replace HB := Lib.hid (bcall HB.out hb9)
    replace HF := Lib.hid (HF.out.below hb9)
    replace ho2 := Lib.hid (ho2.out.below hb9)
    clear A1_c0 A1_c1
    replace A1 := Lib.hid (A1.out.below hb9)
    replace ho3 := Lib.hid (ho3.out.below hb9)
    clear A2_c0 A2_c1
    replace A2 := Lib.hid (A2.out.below hb9)
    replace ho4 := Lib.hid (ho4.out.below hb9)
    clear A3_c0 A3_c1
    replace A3 := Lib.hid (A3.out.below hb9)
    clear hb9
    have A1_c0 : w9.cell? ⟨bA1, 0, none⟩ = some (.int .i64 2) := A1.out.cell 0
    have A1_c1 : w9.cell? ⟨bA1, 1, none⟩ = some (.int .i64 0) := A1.out.cell 1
    have A2_c0 : w9.cell? ⟨bA2, 0, none⟩ = some (.int .i64 2) := A2.out.cell 0
    have A2_c1 : w9.cell? ⟨bA2, 1, none⟩ = some (.int .i64 0) := A2.out.cell 1
    have A3_c0 : w9.cell? ⟨bA3, 0, none⟩ = some (.int .i64 1) := A3.out.cell 0
    have A3_c1 : w9.cell? ⟨bA3, 1, none⟩ = some (.int .i64 0) := A3.out.cell 1
    go_wp2_with fail
    refine (equal_yes _ _ _ [] [] ho4.out.sl HF.out.sl rfl (by decide)).mono ?_
    rintro e w10 ⟨rfl, hb10⟩
    replace HB := Lib.hid (bcall HB.out hb10)
    replace HF := Lib.hid (HF.out.below hb10)
    replace ho2 := Lib.hid (ho2.out.below hb10)
    clear A1_c0 A1_c1
    replace A1 := Lib.hid (A1.out.below hb10)
    replace ho3 := Lib.hid (ho3.out.below hb10)
    clear A2_c0 A2_c1
    replace A2 := Lib.hid (A2.out.below hb10)
    replace ho4 := Lib.hid (ho4.out.below hb10)
    clear A3_c0 A3_c1
    replace A3 := Lib.hid (A3.out.below hb10)
    clear hb10
    have A1_c0 : w10.cell? ⟨bA1, 0, none⟩ = some (.int .i64 2) := A1.out.cell 0
    have A1_c1 : w10.cell? ⟨bA1, 1, none⟩ = some (.int .i64 0) := A1.out.cell 1
    have A2_c0 : w10.cell? ⟨bA2, 0, none⟩ = some (.int .i64 2) := A2.out.cell 0
    have A2_c1 : w10.cell? ⟨bA2, 1, none⟩ = some (.int .i64 0) := A2.out.cell 1
    have A3_c0 : w10.cell? ⟨bA3, 0, none⟩ = some (.int .i64 1) := A3.out.cell 0
    have A3_c1 : w10.cell? ⟨bA3, 1, none⟩ = some (.int .i64 0) := A3.out.cell 1
    go_wp2_with fail
    go_ret
    exact ⟨rfl, HB.out⟩
  · generalize hx0 : fl.getD 0 0 = x0
    have HX := Lib.hid hx0
    clear hx0
    refine (queue_peek _ _ fl 0 0 HF.out.sl h0 (by omega)).mono ?_
    rintro e w3 ⟨v2, rfl, ho2, hb3⟩
    replace HB := Lib.hid (bcall HB.out hb3)
    replace HF := Lib.hid (HF.out.below hb3)
    replace ho2 := Lib.hid ho2
    clear hb3
    rw [HX.out]
    go_wp2_with fail
    have hb4 := balloc (Below.refl _ w3) (Obj.cells #[.int .i64 1, .int .i64 x0] 25)
    have A1 := Lib.hid (Blk.new w3 [.int .i64 1, .int .i64 x0] 25)
    change Hid (Blk (w3.alloc (Obj.cells #[.int .i64 1, .int .i64 x0] 25)) _ _ _) at A1
    have ZA1 : Hid ((w3.alloc (Obj.cells #[.int .i64 1, .int .i64 x0] 25)).heap.size = w3.heap.size + 1) := World.size_alloc _ _
    replace HB := Lib.hid (bcall HB.out hb4)
    replace HF := Lib.hid (HF.out.below hb4)
    replace ho2 := Lib.hid (ho2.out.below hb4)
    clear hb4
    generalize w3.alloc (Obj.cells #[.int .i64 1, .int .i64 x0] 25) = w4 at *
    generalize w3.heap.size = bA1 at *
    have A1_c0 : w4.cell? ⟨bA1, 0, none⟩ = some (.int .i64 1) := A1.out.cell 0
    have A1_c1 : w4.cell? ⟨bA1, 1, none⟩ = some (.int .i64 x0) := A1.out.cell 1
    go_wp2_with fail
    refine (queue_take _ _ fl 0 0 HF.out.sl h0 (by omega)).mono ?_
    rintro e w5 ⟨v3, rfl, ho3, hb5⟩
    replace HB := Lib.hid (bcall HB.out hb5)
    replace HF := Lib.hid (HF.out.below hb5)
    replace ho2 := Lib.hid (ho2.out.below hb5)
    clear A1_c0 A1_c1
    replace A1 := Lib.hid (A1.out.below hb5)
    replace ho3 := Lib.hid ho3
    clear hb5
    have A1_c0 : w5.cell? ⟨bA1, 0, none⟩ = some (.int .i64 1) := A1.out.cell 0
    have A1_c1 : w5.cell? ⟨bA1, 1, none⟩ = some (.int .i64 x0) := A1.out.cell 1
    rw [HX.out]
    go_wp2_with fail
    have hb6 := balloc (Below.refl _ w5) (Obj.cells #[.int .i64 1, .int .i64 x0] 25)
    have A2 := Lib.hid (Blk.new w5 [.int .i64 1, .int .i64 x0] 25)
    change Hid (Blk (w5.alloc (Obj.cells #[.int .i64 1, .int .i64 x0] 25)) _ _ _) at A2
    have ZA2 : Hid ((w5.alloc (Obj.cells #[.int .i64 1, .int .i64 x0] 25)).heap.size = w5.heap.size + 1) := World.size_alloc _ _
    clear A1_c0 A1_c1
    replace HB := Lib.hid (bcall HB.out hb6)
    replace HF := Lib.hid (HF.out.below hb6)
    replace ho2 := Lib.hid (ho2.out.below hb6)
    replace A1 := Lib.hid (A1.out.below hb6)
    replace ho3 := Lib.hid (ho3.out.below hb6)
    clear hb6
    generalize w5.alloc (Obj.cells #[.int .i64 1, .int .i64 x0] 25) = w6 at *
    generalize w5.heap.size = bA2 at *
    have A1_c0 : w6.cell? ⟨bA1, 0, none⟩ = some (.int .i64 1) := A1.out.cell 0
    have A1_c1 : w6.cell? ⟨bA1, 1, none⟩ = some (.int .i64 x0) := A1.out.cell 1
    have A2_c0 : w6.cell? ⟨bA2, 0, none⟩ = some (.int .i64 1) := A2.out.cell 0
    have A2_c1 : w6.cell? ⟨bA2, 1, none⟩ = some (.int .i64 x0) := A2.out.cell 1
    go_wp2_with fail
    refine (queue_count _ _ fl 0 0 HF.out.sl (by omega)).mono ?_
    rintro e w7 ⟨v4, rfl, ho4, hb7⟩
    replace HB := Lib.hid (bcall HB.out hb7)
    replace HF := Lib.hid (HF.out.below hb7)
    replace ho2 := Lib.hid (ho2.out.below hb7)
    clear A1_c0 A1_c1
    replace A1 := Lib.hid (A1.out.below hb7)
    replace ho3 := Lib.hid (ho3.out.below hb7)
    clear A2_c0 A2_c1
    replace A2 := Lib.hid (A2.out.below hb7)
    replace ho4 := Lib.hid ho4
    clear hb7
    have A1_c0 : w7.cell? ⟨bA1, 0, none⟩ = some (.int .i64 1) := A1.out.cell 0
    have A1_c1 : w7.cell? ⟨bA1, 1, none⟩ = some (.int .i64 x0) := A1.out.cell 1
    have A2_c0 : w7.cell? ⟨bA2, 0, none⟩ = some (.int .i64 1) := A2.out.cell 0
    have A2_c1 : w7.cell? ⟨bA2, 1, none⟩ = some (.int .i64 x0) := A2.out.cell 1
    go_wp2_with fail
    have hb8 := balloc (Below.refl _ w7) (Obj.cells #[.int .i64 1, .int .i64 fl.length] 25)
    have A3 := Lib.hid (Blk.new w7 [.int .i64 1, .int .i64 fl.length] 25)
    change Hid (Blk (w7.alloc (Obj.cells #[.int .i64 1, .int .i64 fl.length] 25)) _ _ _) at A3
    have ZA3 : Hid ((w7.alloc (Obj.cells #[.int .i64 1, .int .i64 fl.length] 25)).heap.size = w7.heap.size + 1) := World.size_alloc _ _
    clear A1_c0 A1_c1
    clear A2_c0 A2_c1
    replace HB := Lib.hid (bcall HB.out hb8)
    replace HF := Lib.hid (HF.out.below hb8)
    replace ho2 := Lib.hid (ho2.out.below hb8)
    replace A1 := Lib.hid (A1.out.below hb8)
    replace ho3 := Lib.hid (ho3.out.below hb8)
    replace A2 := Lib.hid (A2.out.below hb8)
    replace ho4 := Lib.hid (ho4.out.below hb8)
    clear hb8
    generalize w7.alloc (Obj.cells #[.int .i64 1, .int .i64 fl.length] 25) = w8 at *
    generalize w7.heap.size = bA3 at *
    have A1_c0 : w8.cell? ⟨bA1, 0, none⟩ = some (.int .i64 1) := A1.out.cell 0
    have A1_c1 : w8.cell? ⟨bA1, 1, none⟩ = some (.int .i64 x0) := A1.out.cell 1
    have A2_c0 : w8.cell? ⟨bA2, 0, none⟩ = some (.int .i64 1) := A2.out.cell 0
    have A2_c1 : w8.cell? ⟨bA2, 1, none⟩ = some (.int .i64 x0) := A2.out.cell 1
    have A3_c0 : w8.cell? ⟨bA3, 0, none⟩ = some (.int .i64 1) := A3.out.cell 0
    have A3_c1 : w8.cell? ⟨bA3, 1, none⟩ = some (.int .i64 fl.length) := A3.out.cell 1
    go_wp2_with fail
    refine (equal_yes _ _ _ fl fl ho2.out.sl HF.out.sl rfl (by omega)).mono ?_
    rintro e w9 ⟨rfl, hb9⟩
    replace HB := Lib.hid (bcall HB.out hb9)
    replace HF := Lib.hid (HF.out.below hb9)
    replace ho2 := Lib.hid (ho2.out.below hb9)
    clear A1_c0 A1_c1
    replace A1 := Lib.hid (A1.out.below hb9)
    replace ho3 := Lib.hid (ho3.out.below hb9)
    clear A2_c0 A2_c1
    replace A2 := Lib.hid (A2.out.below hb9)
    replace ho4 := Lib.hid (ho4.out.below hb9)
    clear A3_c0 A3_c1
    replace A3 := Lib.hid (A3.out.below hb9)
    clear hb9
    have A1_c0 : w9.cell? ⟨bA1, 0, none⟩ = some (.int .i64 1) := A1.out.cell 0
    have A1_c1 : w9.cell? ⟨bA1, 1, none⟩ = some (.int .i64 x0) := A1.out.cell 1
    have A2_c0 : w9.cell? ⟨bA2, 0, none⟩ = some (.int .i64 1) := A2.out.cell 0
    have A2_c1 : w9.cell? ⟨bA2, 1, none⟩ = some (.int .i64 x0) := A2.out.cell 1
    have A3_c0 : w9.cell? ⟨bA3, 0, none⟩ = some (.int .i64 1) := A3.out.cell 0
    have A3_c1 : w9.cell? ⟨bA3, 1, none⟩ = some (.int .i64 fl.length) := A3.out.cell 1
    go_wp2_with fail
    refine (equal_yes _ _ _ fl fl ho4.out.sl HF.out.sl rfl (by omega)).mono ?_
    rintro e w10 ⟨rfl, hb10⟩
    replace HB := Lib.hid (bcall HB.out hb10)
    replace HF := Lib.hid (HF.out.below hb10)
    replace ho2 := Lib.hid (ho2.out.below hb10)
    clear A1_c0 A1_c1
    replace A1 := Lib.hid (A1.out.below hb10)
    replace ho3 := Lib.hid (ho3.out.below hb10)
    clear A2_c0 A2_c1
    replace A2 := Lib.hid (A2.out.below hb10)
    replace ho4 := Lib.hid (ho4.out.below hb10)
    clear A3_c0 A3_c1
    replace A3 := Lib.hid (A3.out.below hb10)
    clear hb10
    have A1_c0 : w10.cell? ⟨bA1, 0, none⟩ = some (.int .i64 1) := A1.out.cell 0
    have A1_c1 : w10.cell? ⟨bA1, 1, none⟩ = some (.int .i64 x0) := A1.out.cell 1
    have A2_c0 : w10.cell? ⟨bA2, 0, none⟩ = some (.int .i64 1) := A2.out.cell 0
    have A2_c1 : w10.cell? ⟨bA2, 1, none⟩ = some (.int .i64 x0) := A2.out.cell 1
    have A3_c0 : w10.cell? ⟨bA3, 0, none⟩ = some (.int .i64 1) := A3.out.cell 0
    have A3_c1 : w10.cell? ⟨bA3, 1, none⟩ = some (.int .i64 fl.length) := A3.out.cell 1
    go_wp2_with fail
    go_ret
    exact ⟨rfl, HB.out⟩

set_option maxHeartbeats 1000000 in
theorem walk_QueueEnds (a0 : Option Addr) (len0 cap0 : Nat) (z0 : List Int) (a1 : Int) (w : World) (w0 : IsRow .i64 w a0 len0 cap0 z0) (w1 : (Lit.int .i64 a1).wf = true) :
    Calls Try.prog 14 #[.slice a0 len0 cap0, .int .i64 a1] w fun e w' => e = .returned (.bool true) ∧ Below w.heap.size w w' := by
  obtain ⟨ys, hl, hs⟩ := row_sl w0
  clear w0 w1
  have HS := Lib.hid hs
  clear hs
  go_enter Try.func14, Try.ntmps14
  have HB := Lib.hid (Below.refl w.heap.size w)
  go_wp2_with fail
  refine (queued_any _).mono ?_
  rintro e w2 ⟨rfl, hb2⟩
  replace HB := Lib.hid (bcall HB.out hb2)
  replace HS := Lib.hid (HS.out.below hb2)
  clear hb2
  go_wp2_with fail
  have hbw1 := HB.out.size
  refine (few_any _ _ _ ys _ hl HS.out).mono ?_
  rintro e w3 ⟨v1, rfl, HF, hb3⟩
  replace HB := Lib.hid (bcall HB.out hb3)
  replace HS := Lib.hid (HS.out.below hb3)
  replace HF := Lib.hid HF
  clear hb3
  clear HS
  have hfl := fewL_len ys
  generalize fewL ys = fl at *
  obtain ⟨p1, cap1, rfl⟩ := HF.out.sl.slice
  clear hl
  go_wp2_with fail
  refine (pick_any _ _ _ (by decide) (by decide)).mono ?_
  rintro e w' ⟨rfl, rfl⟩
  generalize pickZ a1 4294967296 = x at *
  by_cases h06 : fl.length = 0 ∨ fl.length = 6
  · rcases h06 with h0 | h0
    · have g0 : ((fl.length : Int) == 0) = true := by simp [h0]
      clear h0
      go_wp2_with fail
      go_ret
      exact ⟨rfl, HB.out⟩
    · have g0 : ((fl.length : Int) == 0) = false := beq_eq_false_iff_ne.2 (by omega)
      have g1 : ((fl.length : Int) == 6) = true := by simp [h0]
      clear h0
      go_wp2_with fail
      go_ret
      exact ⟨rfl, HB.out⟩
  · have h0 : 0 < fl.length := by omega
    have h6 : fl.length < 6 := by omega
    clear h06
    obtain ⟨y, t, rfl⟩ : ∃ y t, fl = y :: t := by cases fl with | nil => simp at h0 | cons y t => exact ⟨y, t, rfl⟩
    simp only [List.length_cons] at *
    have g0 : ((t.length : Int) + 1 == 0) = false := beq_eq_false_iff_ne.2 (by omega)
    have g1 : ((t.length : Int) + 1 == 6) = false := beq_eq_false_iff_ne.2 (by omega)
    go_wp2_with fail
    refine (put_any _ _).mono ?_
    rintro e w4 ⟨rfl, hb4⟩
    replace HB := Lib.hid (bcall HB.out hb4)
    replace HF := Lib.hid (HF.out.below hb4)
    clear hb4
    go_wp2_with fail
    refine (queue_put _ _ (y :: t) 0 x HF.out.sl h6).mono ?_
    rintro e w5 ⟨v2, rfl, ho2, hb5⟩
    replace HB := Lib.hid (bcall HB.out hb5)
    replace HF := Lib.hid (HF.out.below hb5)
    replace ho2 := Lib.hid ho2
    clear hb5
    go_wp2_with fail
    have hb6 := balloc (Below.refl _ w5) (Obj.cells #[.int .i64 1, .int .i64 0] 25)
    have A1 := Lib.hid (Blk.new w5 [.int .i64 1, .int .i64 0] 25)
    change Hid (Blk (w5.alloc (Obj.cells #[.int .i64 1, .int .i64 0] 25)) _ _ _) at A1
    have ZA1 : Hid ((w5.alloc (Obj.cells #[.int .i64 1, .int .i64 0] 25)).heap.size = w5.heap.size + 1) := World.size_alloc _ _
    replace HB := Lib.hid (bcall HB.out hb6)
    replace HF := Lib.hid (HF.out.below hb6)
    replace ho2 := Lib.hid (ho2.out.below hb6)
    clear hb6
    generalize w5.alloc (Obj.cells #[.int .i64 1, .int .i64 0] 25) = w6 at *
    generalize w5.heap.size = bA1 at *
    have A1_c0 : w6.cell? ⟨bA1, 0, none⟩ = some (.int .i64 1) := A1.out.cell 0
    have A1_c1 : w6.cell? ⟨bA1, 1, none⟩ = some (.int .i64 0) := A1.out.cell 1
    go_wp2_with fail
    refine (queue_take _ _ (y :: t ++ [x]) 0 0 ho2.out.sl (by simp) (by simp; omega)).mono ?_
    rintro e w7 ⟨v3, rfl, ho3, hb7⟩
    replace HB := Lib.hid (bcall HB.out hb7)
    replace HF := Lib.hid (HF.out.below hb7)
    replace ho2 := Lib.hid (ho2.out.below hb7)
    clear A1_c0 A1_c1
    replace A1 := Lib.hid (A1.out.below hb7)
    replace ho3 := Lib.hid ho3
    clear hb7
    have A1_c0 : w7.cell? ⟨bA1, 0, none⟩ = some (.int .i64 1) := A1.out.cell 0
    have A1_c1 : w7.cell? ⟨bA1, 1, none⟩ = some (.int .i64 0) := A1.out.cell 1
    go_wp2_with fail
    have hb8 := balloc (Below.refl _ w7) (Obj.cells #[.int .i64 1, .int .i64 y] 25)
    have A2 := Lib.hid (Blk.new w7 [.int .i64 1, .int .i64 y] 25)
    change Hid (Blk (w7.alloc (Obj.cells #[.int .i64 1, .int .i64 y] 25)) _ _ _) at A2
    have ZA2 : Hid ((w7.alloc (Obj.cells #[.int .i64 1, .int .i64 y] 25)).heap.size = w7.heap.size + 1) := World.size_alloc _ _
    clear A1_c0 A1_c1
    replace HB := Lib.hid (bcall HB.out hb8)
    replace HF := Lib.hid (HF.out.below hb8)
    replace ho2 := Lib.hid (ho2.out.below hb8)
    replace A1 := Lib.hid (A1.out.below hb8)
    replace ho3 := Lib.hid (ho3.out.below hb8)
    clear hb8
    generalize w7.alloc (Obj.cells #[.int .i64 1, .int .i64 y] 25) = w8 at *
    generalize w7.heap.size = bA2 at *
    have A1_c0 : w8.cell? ⟨bA1, 0, none⟩ = some (.int .i64 1) := A1.out.cell 0
    have A1_c1 : w8.cell? ⟨bA1, 1, none⟩ = some (.int .i64 0) := A1.out.cell 1
    have A2_c0 : w8.cell? ⟨bA2, 0, none⟩ = some (.int .i64 1) := A2.out.cell 0
    have A2_c1 : w8.cell? ⟨bA2, 1, none⟩ = some (.int .i64 y) := A2.out.cell 1
    go_wp2_with fail
    refine (queue_take _ _ (y :: t) 0 0 HF.out.sl h0 (by simp; omega)).mono ?_
    rintro e w9 ⟨v4, rfl, ho4, hb9⟩
    replace HB := Lib.hid (bcall HB.out hb9)
    replace HF := Lib.hid (HF.out.below hb9)
    replace ho2 := Lib.hid (ho2.out.below hb9)
    clear A1_c0 A1_c1
    replace A1 := Lib.hid (A1.out.below hb9)
    replace ho3 := Lib.hid (ho3.out.below hb9)
    clear A2_c0 A2_c1
    replace A2 := Lib.hid (A2.out.below hb9)
    replace ho4 := Lib.hid ho4
    clear hb9
    have A1_c0 : w9.cell? ⟨bA1, 0, none⟩ = some (.int .i64 1) := A1.out.cell 0
    have A1_c1 : w9.cell? ⟨bA1, 1, none⟩ = some (.int .i64 0) := A1.out.cell 1
    have A2_c0 : w9.cell? ⟨bA2, 0, none⟩ = some (.int .i64 1) := A2.out.cell 0
    have A2_c1 : w9.cell? ⟨bA2, 1, none⟩ = some (.int .i64 y) := A2.out.cell 1
    go_wp2_with fail
    have hb10 := balloc (Below.refl _ w9) (Obj.cells #[.int .i64 1, .int .i64 y] 25)
    have A3 := Lib.hid (Blk.new w9 [.int .i64 1, .int .i64 y] 25)
    change Hid (Blk (w9.alloc (Obj.cells #[.int .i64 1, .int .i64 y] 25)) _ _ _) at A3
    have ZA3 : Hid ((w9.alloc (Obj.cells #[.int .i64 1, .int .i64 y] 25)).heap.size = w9.heap.size + 1) := World.size_alloc _ _
    clear A1_c0 A1_c1
    clear A2_c0 A2_c1
    replace HB := Lib.hid (bcall HB.out hb10)
    replace HF := Lib.hid (HF.out.below hb10)
    replace ho2 := Lib.hid (ho2.out.below hb10)
    replace A1 := Lib.hid (A1.out.below hb10)
    replace ho3 := Lib.hid (ho3.out.below hb10)
    replace A2 := Lib.hid (A2.out.below hb10)
    replace ho4 := Lib.hid (ho4.out.below hb10)
    clear hb10
    generalize w9.alloc (Obj.cells #[.int .i64 1, .int .i64 y] 25) = w10 at *
    generalize w9.heap.size = bA3 at *
    have A1_c0 : w10.cell? ⟨bA1, 0, none⟩ = some (.int .i64 1) := A1.out.cell 0
    have A1_c1 : w10.cell? ⟨bA1, 1, none⟩ = some (.int .i64 0) := A1.out.cell 1
    have A2_c0 : w10.cell? ⟨bA2, 0, none⟩ = some (.int .i64 1) := A2.out.cell 0
    have A2_c1 : w10.cell? ⟨bA2, 1, none⟩ = some (.int .i64 y) := A2.out.cell 1
    have A3_c0 : w10.cell? ⟨bA3, 0, none⟩ = some (.int .i64 1) := A3.out.cell 0
    have A3_c1 : w10.cell? ⟨bA3, 1, none⟩ = some (.int .i64 y) := A3.out.cell 1
    go_wp2_with fail
    refine (put_any _ _).mono ?_
    rintro e w11 ⟨rfl, hb11⟩
    replace HB := Lib.hid (bcall HB.out hb11)
    replace HF := Lib.hid (HF.out.below hb11)
    replace ho2 := Lib.hid (ho2.out.below hb11)
    clear A1_c0 A1_c1
    replace A1 := Lib.hid (A1.out.below hb11)
    replace ho3 := Lib.hid (ho3.out.below hb11)
    clear A2_c0 A2_c1
    replace A2 := Lib.hid (A2.out.below hb11)
    replace ho4 := Lib.hid (ho4.out.below hb11)
    clear A3_c0 A3_c1
    replace A3 := Lib.hid (A3.out.below hb11)
    clear hb11
    have A1_c0 : w11.cell? ⟨bA1, 0, none⟩ = some (.int .i64 1) := A1.out.cell 0
    have A1_c1 : w11.cell? ⟨bA1, 1, none⟩ = some (.int .i64 0) := A1.out.cell 1
    have A2_c0 : w11.cell? ⟨bA2, 0, none⟩ = some (.int .i64 1) := A2.out.cell 0
    have A2_c1 : w11.cell? ⟨bA2, 1, none⟩ = some (.int .i64 y) := A2.out.cell 1
    have A3_c0 : w11.cell? ⟨bA3, 0, none⟩ = some (.int .i64 1) := A3.out.cell 0
    have A3_c1 : w11.cell? ⟨bA3, 1, none⟩ = some (.int .i64 y) := A3.out.cell 1
    go_wp2_with fail
    refine (queue_put _ _ t 0 x ho4.out.sl (by omega)).mono ?_
    rintro e w12 ⟨v5, rfl, ho5, hb12⟩
    replace HB := Lib.hid (bcall HB.out hb12)
    replace HF := Lib.hid (HF.out.below hb12)
    replace ho2 := Lib.hid (ho2.out.below hb12)
    clear A1_c0 A1_c1
    replace A1 := Lib.hid (A1.out.below hb12)
    replace ho3 := Lib.hid (ho3.out.below hb12)
    clear A2_c0 A2_c1
    replace A2 := Lib.hid (A2.out.below hb12)
    replace ho4 := Lib.hid (ho4.out.below hb12)
    clear A3_c0 A3_c1
    replace A3 := Lib.hid (A3.out.below hb12)
    replace ho5 := Lib.hid ho5
    clear hb12
    have A1_c0 : w12.cell? ⟨bA1, 0, none⟩ = some (.int .i64 1) := A1.out.cell 0
    have A1_c1 : w12.cell? ⟨bA1, 1, none⟩ = some (.int .i64 0) := A1.out.cell 1
    have A2_c0 : w12.cell? ⟨bA2, 0, none⟩ = some (.int .i64 1) := A2.out.cell 0
    have A2_c1 : w12.cell? ⟨bA2, 1, none⟩ = some (.int .i64 y) := A2.out.cell 1
    have A3_c0 : w12.cell? ⟨bA3, 0, none⟩ = some (.int .i64 1) := A3.out.cell 0
    have A3_c1 : w12.cell? ⟨bA3, 1, none⟩ = some (.int .i64 y) := A3.out.cell 1
    go_wp2_with fail
    have hb13 := balloc (Below.refl _ w12) (Obj.cells #[.int .i64 1, .int .i64 0] 25)
    have A4 := Lib.hid (Blk.new w12 [.int .i64 1, .int .i64 0] 25)
    change Hid (Blk (w12.alloc (Obj.cells #[.int .i64 1, .int .i64 0] 25)) _ _ _) at A4
    have ZA4 : Hid ((w12.alloc (Obj.cells #[.int .i64 1, .int .i64 0] 25)).heap.size = w12.heap.size + 1) := World.size_alloc _ _
    clear A1_c0 A1_c1
    clear A2_c0 A2_c1
    clear A3_c0 A3_c1
    replace HB := Lib.hid (bcall HB.out hb13)
    replace HF := Lib.hid (HF.out.below hb13)
    replace ho2 := Lib.hid (ho2.out.below hb13)
    replace A1 := Lib.hid (A1.out.below hb13)
    replace ho3 := Lib.hid (ho3.out.below hb13)
    replace A2 := Lib.hid (A2.out.below hb13)
    replace ho4 := Lib.hid (ho4.out.below hb13)
    replace A3 := Lib.hid (A3.out.below hb13)
    replace ho5 := Lib.hid (ho5.out.below hb13)
    clear hb13
    generalize w12.alloc (Obj.cells #[.int .i64 1, .int .i64 0] 25) = w13 at *
    generalize w12.heap.size = bA4 at *
    have A1_c0 : w13.cell? ⟨bA1, 0, none⟩ = some (.int .i64 1) := A1.out.cell 0
    have A1_c1 : w13.cell? ⟨bA1, 1, none⟩ = some (.int .i64 0) := A1.out.cell 1
    have A2_c0 : w13.cell? ⟨bA2, 0, none⟩ = some (.int .i64 1) := A2.out.cell 0
    have A2_c1 : w13.cell? ⟨bA2, 1, none⟩ = some (.int .i64 y) := A2.out.cell 1
    have A3_c0 : w13.cell? ⟨bA3, 0, none⟩ = some (.int .i64 1) := A3.out.cell 0
    have A3_c1 : w13.cell? ⟨bA3, 1, none⟩ = some (.int .i64 y) := A3.out.cell 1
    have A4_c0 : w13.cell? ⟨bA4, 0, none⟩ = some (.int .i64 1) := A4.out.cell 0
    have A4_c1 : w13.cell? ⟨bA4, 1, none⟩ = some (.int .i64 0) := A4.out.cell 1
    go_wp2_with fail
    refine (equal_yes _ _ _ (t ++ [x]) (t ++ [x]) ho3.out.sl ho5.out.sl rfl (by simp; omega)).mono ?_
    rintro e w14 ⟨rfl, hb14⟩
    replace HB := Lib.hid (bcall HB.out hb14)
    replace HF := Lib.hid (HF.out.below hb14)
    replace ho2 := Lib.hid (ho2.out.below hb14)
    clear A1_c0 A1_c1
    replace A1 := Lib.hid (A1.out.below hb14)
    replace ho3 := Lib.hid (ho3.out.below hb14)
    clear A2_c0 A2_c1
    replace A2 := Lib.hid (A2.out.below hb14)
    replace ho4 := Lib.hid (ho4.out.below hb14)
    clear A3_c0 A3_c1
    replace A3 := Lib.hid (A3.out.below hb14)
    replace ho5 := Lib.hid (ho5.out.below hb14)
    clear A4_c0 A4_c1
    replace A4 := Lib.hid (A4.out.below hb14)
    clear hb14
    have A1_c0 : w14.cell? ⟨bA1, 0, none⟩ = some (.int .i64 1) := A1.out.cell 0
    have A1_c1 : w14.cell? ⟨bA1, 1, none⟩ = some (.int .i64 0) := A1.out.cell 1
    have A2_c0 : w14.cell? ⟨bA2, 0, none⟩ = some (.int .i64 1) := A2.out.cell 0
    have A2_c1 : w14.cell? ⟨bA2, 1, none⟩ = some (.int .i64 y) := A2.out.cell 1
    have A3_c0 : w14.cell? ⟨bA3, 0, none⟩ = some (.int .i64 1) := A3.out.cell 0
    have A3_c1 : w14.cell? ⟨bA3, 1, none⟩ = some (.int .i64 y) := A3.out.cell 1
    have A4_c0 : w14.cell? ⟨bA4, 0, none⟩ = some (.int .i64 1) := A4.out.cell 0
    have A4_c1 : w14.cell? ⟨bA4, 1, none⟩ = some (.int .i64 0) := A4.out.cell 1
    go_wp2_with fail
    go_ret
    exact ⟨rfl, HB.out⟩
end Go.Proofs.Ytpjdddoielhpjaa
