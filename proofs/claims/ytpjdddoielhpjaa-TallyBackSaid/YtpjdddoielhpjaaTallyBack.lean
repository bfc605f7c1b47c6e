/- The walk of the law TallyBack: it returns true and writes nothing that was there. -/
import Derived.Test.YtpjdddoielhpjaaTallied
namespace Go.Proofs.Ytpjdddoielhpjaa
open Go.RowKit
set_option linter.unusedVariables false
theorem walk_TallyBack (a0 : Int) (a1 : Int) (w0 : (Lit.int .i64 a0).wf = true) (w1 : (Lit.int .i64 a1).wf = true) (w : World) :
    Calls Try.prog 3 #[.int .i64 a0, .int .i64 a1] w fun e w' => e = .returned (.bool true) ∧ Below w.heap.size w w' := by
  clear w0 w1
  go_enter Try.func3, Try.ntmps3
  go_wp2_with fail
  refine (tallied_any _).mono ?_
  rintro e w1 ⟨rfl, hb1⟩
  go_wp2_with fail
  refine (pick_any _ _ _ (by decide) (by decide)).mono ?_
  rintro e w' ⟨rfl, rfl⟩
  go_wp2_with fail
  refine (pick_any _ _ _ (by decide) (by decide)).mono ?_
  rintro e w' ⟨rfl, rfl⟩
  have n0 := pickZ_nonneg a0 4294967296 (by decide)
  have n1 := pickZ_lt a0 4294967296 (by decide)
  have v0 := pickZ_nonneg a1 4294967296 (by decide)
  have v1 := pickZ_lt a1 4294967296 (by decide)
  generalize pickZ a0 4294967296 = n at *
  generalize pickZ a1 4294967296 = v at *
  go_wp2_with fail
  refine (put_any _ _).mono ?_
  rintro e w2 ⟨rfl, hb2⟩
  go_wp2_with fail
  by_cases hv : 4294967295 - n < v
  · refine (tally_is n 1 0 v n 3 0 _ (by omega) (by omega) (by omega) (by omega) (by simp [tallyR, hv]) (by simp [tallyC, hv]) (by simp [tallyV, hv])).mono ?_
    rintro e w3 ⟨rfl, hb3⟩
    go_wp2_with fail
    go_ret
    exact ⟨rfl, balloc (bcall (bcall hb1 hb2) hb3) _⟩
  · refine (tally_is n 1 0 v (n + v) 1 n _ (by omega) (by omega) (by omega) (by omega) (by simp [tallyR, hv]) (by simp [tallyC, hv]) (by simp [tallyV, hv])).mono ?_
    rintro e w3 ⟨rfl, hb3⟩
    go_wp2_with fail
    refine (tally_is (n + v) 2 0 v n 1 (n + v) _ (by omega) (by omega) (by omega) (by omega) (by simp [tallyR]; omega) (by simp [tallyC]; omega) (by simp [tallyV]; omega)).mono ?_
    rintro e w4 ⟨rfl, hb4⟩
    obtain ⟨hc4, hf4⟩ := bcell hb4
    have hz4 : w3.heap.size < w4.heap.size := by have := hb4.size; simp at this; omega
    go_wp2_with fail
    go_ret
    exact ⟨rfl, balloc (bcall (balloc (bcall (bcall hb1 hb2) hb3) _) hb4) _⟩
end Go.Proofs.Ytpjdddoielhpjaa
