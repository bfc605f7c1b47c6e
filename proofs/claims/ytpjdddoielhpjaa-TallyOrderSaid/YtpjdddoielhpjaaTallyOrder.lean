/- The walk of the law TallyOrder: it returns true and writes nothing that was there. -/
import Derived.Test.YtpjdddoielhpjaaTallied
namespace Go.Proofs.Ytpjdddoielhpjaa
open Go.RowKit
set_option linter.unusedVariables false
set_option maxHeartbeats 1000000 in
theorem walk_TallyOrder (a0 : Int) (a1 : Int) (a2 : Int) (w0 : (Lit.int .i64 a0).wf = true) (w1 : (Lit.int .i64 a1).wf = true) (w2 : (Lit.int .i64 a2).wf = true) (w : World) :
    Calls Try.prog 5 #[.int .i64 a0, .int .i64 a1, .int .i64 a2] w fun e w' => e = .returned (.bool true) ∧ Below w.heap.size w w' := by
  clear w0 w1 w2
  go_enter Try.func5, Try.ntmps5
  go_wp2_with fail
  refine (tallied_any _).mono ?_
  rintro e w1 ⟨rfl, hb1⟩
  go_wp2_with (go_at_call 16; refine (pick_any _ _ _ (by decide) (by decide)).mono ?_; rintro e w' ⟨rfl, rfl⟩)
  have n0 := pickZ_nonneg a0 4294967296 (by decide)
  have n1 := pickZ_lt a0 4294967296 (by decide)
  have v0 := pickZ_nonneg a1 4294967296 (by decide)
  have v1 := pickZ_lt a1 4294967296 (by decide)
  have u0 := pickZ_nonneg a2 4294967296 (by decide)
  have u1 := pickZ_lt a2 4294967296 (by decide)
  generalize pickZ a0 4294967296 = n at *
  generalize pickZ a1 4294967296 = v at *
  generalize pickZ a2 4294967296 = u at *
  refine (put_any _ _).mono ?_
  rintro e w2 ⟨rfl, hb2⟩
  go_wp2_with fail
  by_cases hv : 4294967295 - n < v
  · refine (tally_is n 1 0 v n 3 0 _ (by omega) (by omega) (by omega) (by omega) (by simp [tallyR, hv]) (by simp [tallyC, hv]) (by simp [tallyV, hv])).mono ?_
    rintro e w3 ⟨rfl, hb3⟩
    go_wp2_with fail
    refine (tally_any n 2 0 u _ (by omega) (by omega) (by omega) (by omega)).mono ?_
    rintro e w4 ⟨rfl, hb4⟩
    go_wp2_with fail
    refine (tally_any n 2 0 u _ (by omega) (by omega) (by omega) (by omega)).mono ?_
    rintro e w5 ⟨rfl, hb5⟩
    go_wp2_with fail
    refine (put_any _ _).mono ?_
    rintro e w6 ⟨rfl, hb6⟩
    go_wp2_with fail
    refine (tally_any _ 1 0 v _ (tallyR_lo _ _ _ n0 u0) (tallyR_hi _ _ _ (by omega) u0) (by omega) (by omega)).mono ?_
    rintro e w7 ⟨rfl, hb7⟩
    obtain ⟨hc4, hf4⟩ := bcell hb4
    obtain ⟨hc5, hf5⟩ := bcell hb5
    obtain ⟨hc6, hf6⟩ := bcell hb6
    obtain ⟨hc7, hf7⟩ := bcell hb7
    have z4 : w3.heap.size < w4.heap.size := by have := hb4.size; simp at this; omega
    have z5 : w4.heap.size < w5.heap.size := by have := hb5.size; simp at this; omega
    have z6 : w5.heap.size < w6.heap.size := by have := hb6.size; simp at this; omega
    have z7 : w6.heap.size ≤ w7.heap.size := hb7.size
    have z35 : w3.heap.size < w5.heap.size := by omega
    have z36 : w3.heap.size < w6.heap.size := by omega
    have z37 : w3.heap.size < w7.heap.size := by omega
    go_wp2_with fail
    go_ret
    exact ⟨rfl, balloc (bcall (bcall (balloc (bcall (balloc (bcall (balloc (bcall (bcall hb1 hb2) hb3) _) hb4) _) hb5) _) hb6) hb7) _⟩
  · have hp := tally_is n 1 0 v (n + v) 1 n w2 (by omega) (by omega) (by omega) (by omega) (by simp [tallyR, hv]) (by simp [tallyC, hv]) (by simp [tallyV, hv])
    by_cases hu : n < u
    · refine hp.mono ?_
      clear hp
      rintro e w3 ⟨rfl, hb3⟩
      go_wp2_with fail
      refine (tally_any (n + v) 2 0 u _ (by omega) (by omega) (by omega) (by omega)).mono ?_
      rintro e w4 ⟨rfl, hb4⟩
      go_wp2_with fail
      refine (tally_is n 2 0 u n 2 0 _ (by omega) (by omega) (by omega) (by omega) (by simp [tallyR]; omega) (by simp [tallyC]; omega) (by simp [tallyV]; omega)).mono ?_
      rintro e w5 ⟨rfl, hb5⟩
      go_wp2_with fail
      refine (put_any _ _).mono ?_
      rintro e w6 ⟨rfl, hb6⟩
      go_wp2_with fail
      refine (tally_any n 1 0 v _ (by omega) (by omega) (by omega) (by omega)).mono ?_
      rintro e w7 ⟨rfl, hb7⟩
      obtain ⟨hc4, hf4⟩ := bcell hb4
      obtain ⟨hc5, hf5⟩ := bcell hb5
      obtain ⟨hc6, hf6⟩ := bcell hb6
      obtain ⟨hc7, hf7⟩ := bcell hb7
      have z4 : w3.heap.size < w4.heap.size := by have := hb4.size; simp at this; omega
      have z5 : w4.heap.size < w5.heap.size := by have := hb5.size; simp at this; omega
      have z6 : w5.heap.size < w6.heap.size := by have := hb6.size; simp at this; omega
      have z7 : w6.heap.size ≤ w7.heap.size := hb7.size
      have z35 : w3.heap.size < w5.heap.size := by omega
      have z36 : w3.heap.size < w6.heap.size := by omega
      have z37 : w3.heap.size < w7.heap.size := by omega
      have z46 : w4.heap.size < w6.heap.size := by omega
      have z47 : w4.heap.size < w7.heap.size := by omega
      have z57 : w5.heap.size < w7.heap.size := by omega
      go_wp2_with fail
      all_goals go_ret
      all_goals exact ⟨by first | rfl | (simp; omega), balloc (bcall (bcall (balloc (bcall (balloc (bcall (balloc (bcall (bcall hb1 hb2) hb3) _) hb4) _) hb5) _) hb6) hb7) _⟩
    · refine hp.mono ?_
      clear hp
      rintro e w3 ⟨rfl, hb3⟩
      go_wp2_with fail
      refine (tally_is (n + v) 2 0 u (n + v - u) 1 (n + v) _ (by omega) (by omega) (by omega) (by omega) (by simp [tallyR]; omega) (by simp [tallyC]; omega) (by simp [tallyV]; omega)).mono ?_
      rintro e w4 ⟨rfl, hb4⟩
      go_wp2_with fail
      refine (tally_is n 2 0 u (n - u) 1 n _ (by omega) (by omega) (by omega) (by omega) (by simp [tallyR]; omega) (by simp [tallyC]; omega) (by simp [tallyV]; omega)).mono ?_
      rintro e w5 ⟨rfl, hb5⟩
      go_wp2_with fail
      refine (put_any _ _).mono ?_
      rintro e w6 ⟨rfl, hb6⟩
      go_wp2_with fail
      refine (tally_is (n - u) 1 0 v (n - u + v) 1 (n - u) _ (by omega) (by omega) (by omega) (by omega) (by simp [tallyR]; omega) (by simp [tallyC]; omega) (by simp [tallyV]; omega)).mono ?_
      rintro e w7 ⟨rfl, hb7⟩
      obtain ⟨hc4, hf4⟩ := bcell hb4
      obtain ⟨hc5, hf5⟩ := bcell hb5
      obtain ⟨hc6, hf6⟩ := bcell hb6
      obtain ⟨hc7, hf7⟩ := bcell hb7
      have z4 : w3.heap.size < w4.heap.size := by have := hb4.size; simp at this; omega
      have z5 : w4.heap.size < w5.heap.size := by have := hb5.size; simp at this; omega
      have z6 : w5.heap.size < w6.heap.size := by have := hb6.size; simp at this; omega
      have z7 : w6.heap.size ≤ w7.heap.size := hb7.size
      have z35 : w3.heap.size < w5.heap.size := by omega
      have z36 : w3.heap.size < w6.heap.size := by omega
      have z37 : w3.heap.size < w7.heap.size := by omega
      have z46 : w4.heap.size < w6.heap.size := by omega
      have z47 : w4.heap.size < w7.heap.size := by omega
      have z57 : w5.heap.size < w7.heap.size := by omega
      go_wp2_with fail
      all_goals go_ret
      all_goals exact ⟨by first | rfl | (simp; omega), balloc (bcall (bcall (balloc (bcall (balloc (bcall (balloc (bcall (bcall hb1 hb2) hb3) _) hb4) _) hb5) _) hb6) hb7) _⟩
end Go.Proofs.Ytpjdddoielhpjaa
