/- The fact 'kept' holds: its call returns true. -/
import Derived.Test.YtakemnpicokaiaaLineNow
namespace Go.Proofs.Ytakemnpicokaiaa
open Go.RowKit
set_option linter.unusedVariables false
def kS1 : St := { St.init with now := St.init.now.set 8 5 }
def kS2 : St := { kS1 with now := kS1.now.set 16 6 }
def kS3 : St := { kS2 with wanted := kS2.wanted.set (1 * 9 + 1) true, flushes := wrap64 (kS2.flushes + 1) }
def kS4 : St := fenceSt kS3 1
def kS5 : St := crashSt kS4 0
theorem kd1 : (!decide (lineL kS4.now 1 = lineL kS4.good 1)) = false := by decide +kernel
theorem kd2 : (!decide (lineL kS4.now 2 = lineL kS4.good 2)) = true := by decide +kernel
theorem kl1 : kS5.now.getD 8 0 = 5 := by decide +kernel
theorem kl2 : kS5.now.getD 16 0 = 0 := by decide +kernel
set_option maxHeartbeats 1000000 in
theorem kept_any (w : World) :
    Calls Try.prog 28 #[] w fun e w' => e = .returned (.bool true) ∧ Below w.heap.size w w' := by
  go_enter Try.func28, Try.ntmps28
  go_wp2_with fail
  refine (store_new _).mono ?_
  rintro e w1 ⟨rfl, hs1, hb1⟩
  go_wp2_with fail
  refine (store_save _ _ St.init 8 5 hs1 (by decide) (by decide)).mono ?_
  rintro e w2 ⟨rfl, hs2, hk2⟩
  replace hs2 : StoreAt w2 w.heap.size kS1 := hs2
  go_wp2_with fail
  refine (store_save _ _ kS1 16 6 hs2 (by decide) (by decide)).mono ?_
  rintro e w3 ⟨rfl, hs3, hk3⟩
  replace hs3 : StoreAt w3 w.heap.size kS2 := hs3
  go_wp2_with fail
  refine (store_flush _ _ kS2 1 1 hs3 (by decide) (by decide) (by decide) (by decide)).mono ?_
  rintro e w4 ⟨rfl, hs4, hk4⟩
  replace hs4 : StoreAt w4 w.heap.size kS3 := hs4
  go_wp2_with fail
  refine (store_fence _ _ kS3 1 hs4 (by decide) (by decide)).mono ?_
  rintro e w5 ⟨rfl, hs5, hk5⟩
  replace hs5 : StoreAt w5 w.heap.size kS4 := hs5
  go_wp2_with fail
  refine (store_dirty _ _ kS4 1 hs5 (by decide) (by decide)).mono ?_
  rw [show (1 : Int).toNat = 1 from rfl, kd1]
  rintro e w6 ⟨rfl, hb6⟩
  go_wp2_with fail
  refine (store_dirty _ _ kS4 2 (hs5.below hb6) (by decide) (by decide)).mono ?_
  rw [show (2 : Int).toNat = 2 from rfl, kd2]
  rintro e w7 ⟨rfl, hb7⟩
  go_wp2_with fail
  refine (store_crash _ _ kS4 0 ((hs5.below hb6).below hb7) (by decide) (by decide)).mono ?_
  rintro e w8 ⟨rfl, hs8, hk8⟩
  replace hs8 : StoreAt w8 w.heap.size kS5 := hs8
  go_wp2_with fail
  refine (store_load _ _ kS5 8 hs8 (by decide) (by decide)).mono ?_
  rw [show (8 : Int).toNat = 8 from rfl, kl1]
  rintro e w' ⟨rfl, rfl⟩
  go_wp2_with fail
  refine (store_load _ _ kS5 16 hs8 (by decide) (by decide)).mono ?_
  rw [show (16 : Int).toNat = 16 from rfl, kl2]
  rintro e w' ⟨rfl, rfl⟩
  go_wp2_with fail
  go_ret
  have hS : ∀ n, n = w.heap.size → w.heap.size ≤ n := by rintro n rfl; exact Nat.le_refl _
  exact ⟨rfl, bkept (bcall (bcall (bkept (bkept (bkept (bkept hb1 hk2 hS) hk3 hS) hk4 hS) hk5 hS) hb6) hb7) hk8 hS⟩
end Go.Proofs.Ytakemnpicokaiaa
