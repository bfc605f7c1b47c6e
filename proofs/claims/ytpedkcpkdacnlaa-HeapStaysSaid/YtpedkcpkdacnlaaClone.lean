/- The contracts of slices.Clone and slices.Equal at []int, over the two words of Sl. -/
import Derived.Test.YtpedkcpkdacnlaaRows
import Derived.Test.YtpedkcpkdacnlaaShelf
import Derived.Test.YtpedkcpkdacnlaaSl
namespace Go.Proofs.Ytpedkcpkdacnlaa
open Go.RowKit
theorem below_drewN (w : World) (q : Nat) : Below w.heap.size w (w.drewN q) := ⟨rfl, rfl, rfl, Nat.le_refl _, fun _ _ => rfl⟩
theorem clone_any (w : World) (v : Value) (xs : List Int) (h : Sl w v xs) (hx : xs.length ≤ 1000) :
    Calls Try.prog 25 #[v] w fun e w' => ∃ v', e = .returned v' ∧ Own w' w.heap.size v' xs ∧ Below w.heap.size w w' := by
  obtain ⟨a, cap, rfl, h1, h2, h3⟩ := h
  rcases a with _ | a
  · have hx0 : xs.length = 0 := by
      rcases h3 with h3 | ⟨b, off, h, -⟩
      · exact h3.1
      · cases h
    obtain rfl : xs = [] := List.length_eq_zero_iff.1 hx0
    exact (Try.slices_Clone_int_nil _ _ w).mono fun e w' ⟨he, hw⟩ => ⟨_, he, by rw [hw]; exact Own.nil _ _, by rw [hw]; exact Below.refl _ _⟩
  · rcases h3 with ⟨hx0, -⟩ | ⟨b, off, ha, hb, hc⟩
    · obtain rfl : xs = [] := List.length_eq_zero_iff.1 hx0
      exact (Try.slices_Clone_int_zero a cap w).mono fun e w' ⟨v', he, ho, _, hbw⟩ => ⟨v', he, ho, hbw⟩
    · obtain rfl : a = ⟨b, off, none⟩ := by simpa using ha
      refine (Try.slices_Clone_int b off xs.length cap xs w (Nat.le_refl _) (by omega) hc).mono fun e w' ⟨v', he, ho, _, hbw⟩ => ⟨v', he, ?_, hbw⟩
      rwa [List.take_length] at ho
theorem equal_any (w : World) (v u : Value) (xs ys : List Int) (h : Sl w v xs) (k : Sl w u ys) (hx : xs.length ≤ 1000) (hy : ys.length ≤ 1000) :
    Calls Try.prog 21 #[v, u] w fun e w' => e = .returned (.bool (decide (xs = ys))) ∧ Below w.heap.size w w' := by
  obtain ⟨a, cap, rfl, h1, h2, h3⟩ := h
  obtain ⟨a', cap', rfl, k1, k2, k3⟩ := k
  by_cases hl : xs.length = ys.length
  · by_cases h0 : xs.length = 0
    · obtain rfl : xs = [] := List.length_eq_zero_iff.1 h0
      obtain rfl : ys = [] := List.length_eq_zero_iff.1 (by omega)
      refine (Try.slices_Equal_int_empty a a' cap _ cap' w (by simp)).mono fun e w' ⟨he, hw⟩ => ?_
      rw [hw]
      exact ⟨by rw [he]; simp, Below.refl _ _⟩
    · rcases h3 with h3 | ⟨b, off, rfl, hb, hc⟩
      · omega
      rcases k3 with k3 | ⟨b', off', rfl, hb', hc'⟩
      · omega
      refine (Try.slices_Equal_int b off _ cap b' off' _ cap' xs ys w (Nat.le_refl _) (Nat.le_refl _) (by omega) (by omega) hc hc').mono fun e w' ⟨he, q, hw⟩ => ?_
      rw [hw, he]
      refine ⟨?_, below_drewN w q⟩
      rw [List.take_length, List.take_length, Bool.beq_eq_decide_eq]
  · refine (Try.slices_Equal_int_lens _ _ _ _ _ _ w hl).mono fun e w' ⟨he, hw⟩ => ?_
    rw [hw, he]
    have : xs ≠ ys := by rintro rfl; exact hl rfl
    exact ⟨by simp [this], Below.refl _ _⟩
theorem equal_yes (w : World) (v u : Value) (xs ys : List Int) (h : Sl w v xs) (k : Sl w u ys) (e : xs = ys) (hx : xs.length ≤ 1000) :
    Calls Try.prog 21 #[v, u] w fun e w' => e = .returned (.bool true) ∧ Below w.heap.size w w' := by
  subst e
  exact (equal_any w v u xs xs h k hx hx).mono fun e w' ⟨he, hb⟩ => ⟨by rw [he]; simp, hb⟩
end Go.Proofs.Ytpedkcpkdacnlaa
