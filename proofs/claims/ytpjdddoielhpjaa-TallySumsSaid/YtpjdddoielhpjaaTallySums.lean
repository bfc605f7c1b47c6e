/- The walk of the law TallySums: it returns true and writes nothing that was there. -/
import Derived.Test.YtpjdddoielhpjaaTallied
import Derived.Test.YtpjdddoielhpjaaRow
import Derived.Test.YtpjdddoielhpjaaSums
namespace Go.Proofs.Ytpjdddoielhpjaa
open Go.RowKit
set_option linter.unusedVariables false
set_option maxHeartbeats 1000000 in
theorem walk_TallySums (a0 : Option Addr) (len0 cap0 : Nat) (z0 : List Int) (w : World) (w0 : IsRow .i64 w a0 len0 cap0 z0) :
    Calls Try.prog 4 #[.slice a0 len0 cap0] w fun e w' => e = .returned (.bool true) ∧ Below w.heap.size w w' := by
  obtain ⟨ys, hlen, hcap, hmax, -, hcase⟩ := row_cases w0
  clear w0
  by_cases h60 : 60 < len0
  · go_enter Try.func4, Try.ntmps4
    clear hcase hlen
    go_wp2_with fail
    refine (tallied_any _).mono ?_
    rintro e w1 ⟨rfl, hb1⟩
    go_wp2_with fail
    go_ret
    exact ⟨rfl, hb1⟩
  have hcell : ∀ j, j < len0 → ∃ b off, a0 = some ⟨b, off, none⟩ ∧ b < w.heap.size ∧ ∀ j, j < len0 → w.cell? ⟨b, off + j, none⟩ = some (.int .i64 (ys[j]?.getD 0)) := by
    intro j hj
    rcases hcase with ⟨-, h, -⟩ | ⟨h, -⟩ | ⟨b, off, h1, h2, h3, h4⟩
    · omega
    · omega
    · exact ⟨b, off, h1, h3, h4⟩
  have HC := Lib.hid hcell
  clear hcell hcase
  subst hlen
  go_enter Try.func4, Try.ntmps4
  go_wp2_with fail
  refine (tallied_any _).mono ?_
  rintro e w1 ⟨rfl, hb1⟩
  go_wp2_with fail
  go_loopw [3, 4, 13] (fun n m i wr => ∃ k : Nat, k ≤ ys.length ∧ i = .int .i64 k ∧ n = .int .i64 (psum (ys.take k)) ∧ m = .int .i64 (psum (ys.reverse.take k)) ∧ Below w.heap.size w wr)
    (fun _ _ i _ => ys.length - (intOf i).toNat)
  case atStart => exact ⟨0, Nat.zero_le _, rfl, rfl, rfl, hb1⟩
  case round =>
    obtain ⟨k, hk, rfl, rfl, rfl, hbr⟩ := hrel
    by_cases hlt : k < ys.length
    · obtain ⟨b, off, rfl, hbw, hc⟩ := HC.out k hlt
      have s1 := psum_take ys k hlt
      have s2 := psum_rev_take ys k hlt
      have l1 := psum_lo (ys.take k)
      have l2 := psum_lo (ys.reverse.take k)
      have g1 : psum (ys.take k) ≤ 60000 := by have := psum_hi (ys.take k); have := List.length_take_le k ys; simp at *; omega
      have g2 : psum (ys.reverse.take k) ≤ 60000 := by have := psum_hi (ys.reverse.take k); have := List.length_take_le k ys.reverse; simp at *; omega
      have c1 := hbr.cell (p := ⟨b, off + k, none⟩) hbw
      rw [hc k hlt] at c1
      have c2 := hbr.cell (p := ⟨b, off + (ys.length - 1 - k), none⟩) hbw
      rw [hc _ (by omega)] at c2
      generalize psum (ys.take k) = n at *
      generalize psum (ys.reverse.take k) = m at *
      have S1 := Lib.hid s1; have S2 := Lib.hid s2; clear s1 s2 hc
      go_wp2_with fail
      rw [show ys[k] = ys[k]?.getD 0 from by simp [hlt]]
      refine (pick_any _ _ _ (by decide) (by decide)).mono ?_
      rintro e w' ⟨rfl, rfl⟩
      have p0 := pickZ_nonneg (ys[k]?.getD 0) 1000 (by decide)
      have p1 := pickZ_lt (ys[k]?.getD 0) 1000 (by decide)
      generalize pickZ (ys[k]?.getD 0) 1000 = p at *
      go_wp2_with fail
      refine (put_any _ _).mono ?_
      rintro e w2 ⟨rfl, hb2⟩
      go_wp2_with fail
      refine (tally_is n 1 0 p (n + p) 1 n _ (by omega) (by omega) (by omega) (by omega) (by simp [tallyR]; omega) (by simp [tallyC]; omega) (by simp [tallyV]; omega)).mono ?_
      rintro e w3 ⟨rfl, hb3⟩
      have c3 := (bcall (bcall hbr hb2) hb3).cell (p := ⟨b, off + (ys.length - 1 - k), none⟩) hbw
      rw [← hbr.cell (p := ⟨b, off + (ys.length - 1 - k), none⟩) hbw, c2] at c3
      go_wp2_with fail
      refine (pick_any _ _ _ (by decide) (by decide)).mono ?_
      rintro e w' ⟨rfl, rfl⟩
      have q0 := pickZ_nonneg (ys[ys.length - 1 - k]?.getD 0) 1000 (by decide)
      have q1 := pickZ_lt (ys[ys.length - 1 - k]?.getD 0) 1000 (by decide)
      generalize pickZ (ys[ys.length - 1 - k]?.getD 0) 1000 = q at *
      go_wp2_with fail
      refine (put_any _ _).mono ?_
      rintro e w4 ⟨rfl, hb4⟩
      go_wp2_with fail
      refine (tally_is m 1 0 q (m + q) 1 m _ (by omega) (by omega) (by omega) (by omega) (by simp [tallyR]; omega) (by simp [tallyC]; omega) (by simp [tallyV]; omega)).mono ?_
      rintro e w5 ⟨rfl, hb5⟩
      go_wp2_with fail
      go_roundw
      case rel => exact ⟨k + 1, by omega, by go_num, by rw [S1.out], by rw [S2.out], bcall (bcall (bcall (bcall hbr hb2) hb3) hb4) hb5⟩
      case measure => simp [intOf]; omega
    · obtain rfl : k = ys.length := by omega
      have S : psum (ys.take ys.length) = psum (ys.reverse.take ys.length) := by
        rw [List.take_length, List.take_of_length_le (by simp), psum_reverse]
      have H := Lib.hid S; clear S
      go_wp2_with fail
      go_ret
      have H2 := H.out
      rw [List.take_length] at H2
      exact ⟨by simp [H2], hbr⟩
end Go.Proofs.Ytpjdddoielhpjaa
