/- The fact 'tallied' holds: its call returns true. -/
import Derived.Test.YtpjdddoielhpjaaPick
import Derived.Test.YtpjdddoielhpjaaTally
namespace Go.Proofs.Ytpjdddoielhpjaa
open Go.RowKit
theorem tallied_any (w : World) :
    Calls Try.prog 15 #[] w fun e w' => e = .returned (.bool true) ∧ Below w.heap.size w w' := by
  go_enter Try.func15, Try.ntmps15
  go_wp2_with fail
  refine (put_any _ _).mono ?_
  rintro e w1 ⟨rfl, hb⟩
  go_wp2_with fail
  refine (tally_is 5 1 0 3 8 1 5 _ (by decide) (by decide) (by decide) (by decide) (by decide) (by decide) (by decide)).mono ?_
  rintro e w2 ⟨rfl, hb2⟩
  go_wp2_with fail
  refine (tally_is 5 2 0 6 5 2 0 _ (by decide) (by decide) (by decide) (by decide) (by decide) (by decide) (by decide)).mono ?_
  rintro e w3 ⟨rfl, hb3⟩
  obtain ⟨hc3, hf3⟩ := bcell hb3
  have hz3 : w2.heap.size < w3.heap.size := by have := hb3.size; simp at this; omega
  go_wp2_with fail
  go_ret
  exact ⟨rfl, balloc (bcall (balloc (bcall hb hb2) _) hb3) _⟩
end Go.Proofs.Ytpjdddoielhpjaa
