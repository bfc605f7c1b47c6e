/- The fact 'remembered' holds: its call returns true. -/
import Derived.Test.YtpjdddoielhpjaaRam
namespace Go.Proofs.Ytpjdddoielhpjaa
open Go.RowKit
theorem remembered_any (w : World) :
    Calls Try.prog 19 #[] w fun e w' => e = .returned (.bool true) ∧ Below w.heap.size w w' := by
  go_enter Try.func19, Try.ntmps19
  go_wp2_with fail
  have hb0 := balloc (Below.refl _ w) (.cells (List.map (Value.int .u64) (List.replicate 16 0)).toArray 40)
  have hr0 : RamAt (w.alloc (.cells (List.map (Value.int .u64) (List.replicate 16 0)).toArray 40)) w.heap.size (List.replicate 16 0) := ⟨rfl, Blk.new _ _ _⟩
  change Calls _ _ _ (w.alloc (.cells (List.map (Value.int .u64) (List.replicate 16 0)).toArray 40)) _
  generalize w.alloc (.cells (List.map (Value.int .u64) (List.replicate 16 0)).toArray 40) = w1 at *
  refine (ram_swap_yes _ _ _ _ _ _ hr0 (by decide) (by decide) rfl).mono ?_
  rintro e w2 ⟨rfl, hr1, hk1⟩
  go_wp2_with fail
  refine (ram_swap_no _ _ _ _ _ _ hr1 (by decide) (by decide) (by decide)).mono ?_
  rintro e w' ⟨rfl, rfl⟩
  go_wp2_with fail
  refine (ram_load _ _ _ _ hr1 (by decide) (by decide)).mono ?_
  rintro e w' ⟨rfl, rfl⟩
  go_wp2_with fail
  go_ret
  exact ⟨rfl, bkept hb0 hk1 (by rintro n rfl; exact Nat.le_refl _)⟩
end Go.Proofs.Ytpjdddoielhpjaa
