/- Plain laws of the store's fence and crash: which word each line holds. -/
import Derived.Test.YtakemnpicokaiaaStoreNow
namespace Go.Proofs.Ytakemnpicokaiaa
open Go.RowKit
set_option linter.unusedVariables false
theorem cpLine_get (d s : List Int) (l i : Nat) (hi : i < 72) (hd : d.length = 72) (hl : l < 9) :
    (cpLine d s l).getD i 0 = if i / 8 = l then s.getD i 0 else d.getD i 0 := by
  unfold cpLine
  by_cases h : i / 8 = l
  · rw [if_pos h]
    have h8 : i = l * 8 ∨ i = l * 8 + 1 ∨ i = l * 8 + 2 ∨ i = l * 8 + 3 ∨ i = l * 8 + 4 ∨ i = l * 8 + 5 ∨ i = l * 8 + 6 ∨ i = l * 8 + 7 := by omega
    rcases h8 with rfl | rfl | rfl | rfl | rfl | rfl | rfl | rfl
    all_goals
      rw [getD_set _ _ _ _ (by simp; omega), getD_set _ _ _ _ (by simp; omega), getD_set _ _ _ _ (by simp; omega), getD_set _ _ _ _ (by simp; omega), getD_set _ _ _ _ (by simp; omega), getD_set _ _ _ _ (by simp; omega), getD_set _ _ _ _ (by simp; omega), getD_set _ _ _ _ (by omega)]
      repeat first | rw [if_pos (by omega)] | rw [if_neg (by omega)]
  · rw [if_neg h]
    rw [getD_set _ _ _ _ (by simp; omega), if_neg (by omega), getD_set _ _ _ _ (by simp; omega), if_neg (by omega), getD_set _ _ _ _ (by simp; omega), if_neg (by omega),
      getD_set _ _ _ _ (by simp; omega), if_neg (by omega), getD_set _ _ _ _ (by simp; omega), if_neg (by omega), getD_set _ _ _ _ (by simp; omega), if_neg (by omega),
      getD_set _ _ _ _ (by simp; omega), if_neg (by omega), getD_set _ _ _ _ (by omega), if_neg (by omega)]
theorem fenceTo_len (S : St) (t k : Nat) (h : S.good.length = 72) : (fenceTo S t k).length = 72 := by
  induction k with
  | zero => exact h
  | succ k ih => unfold fenceTo; split <;> simp [cpLine_len, ih]
theorem fenceTo_get (S : St) (t k i : Nat) (hi : i < 72) (h : S.good.length = 72) (hk : k ≤ 9) :
    (fenceTo S t k).getD i 0 = if i / 8 < k ∧ S.wanted.getD (t * 9 + i / 8) false = true then S.now.getD i 0 else S.good.getD i 0 := by
  induction k with
  | zero => rw [if_neg (by omega)]; rfl
  | succ k ih =>
    have ih := ih (by omega)
    unfold fenceTo
    by_cases hw : S.wanted.getD (t * 9 + k) false = true
    · rw [if_pos hw, cpLine_get _ _ _ _ hi (fenceTo_len S t k h) (by omega), ih]
      by_cases he : i / 8 = k
      · rw [if_pos he, if_pos ⟨by omega, by rw [he]; exact hw⟩]
      · rw [if_neg he]
        by_cases hx : i / 8 < k ∧ S.wanted.getD (t * 9 + i / 8) false = true
        · rw [if_pos hx, if_pos ⟨by omega, hx.2⟩]
        · rw [if_neg hx, if_neg (fun hy => hx ⟨by omega, hy.2⟩)]
    · rw [if_neg hw, ih]
      by_cases hx : i / 8 < k ∧ S.wanted.getD (t * 9 + i / 8) false = true
      · rw [if_pos hx, if_pos ⟨by omega, hx.2⟩]
      · rw [if_neg hx, if_neg (fun hy => ?_)]
        by_cases he : i / 8 = k
        · rw [he] at hy; exact hw hy.2
        · exact hx ⟨by omega, hy.2⟩
theorem crashTo_len (S : St) (x : Int) (k : Nat) (h1 : S.now.length = 72) (h2 : S.good.length = 72) : (crashTo S x k).1.length = 72 ∧ (crashTo S x k).2.length = 72 := by
  induction k with
  | zero => exact ⟨h1, h2⟩
  | succ k ih =>
    unfold crashTo
    refine ⟨by simp [cpLine_len, ih.1], ?_⟩
    dsimp only
    split <;> simp [cpLine_len, ih.2]
theorem crashTo_get (S : St) (x : Int) (k i : Nat) (hi : i < 72) (h1 : S.now.length = 72) (h2 : S.good.length = 72) (hk : k ≤ 9) :
    (crashTo S x k).1.getD i 0 = (if i / 8 < k ∧ bitZ x (i / 8) = false then S.good.getD i 0 else S.now.getD i 0) ∧
    (crashTo S x k).2.getD i 0 = (if i / 8 < k ∧ bitZ x (i / 8) = true then S.now.getD i 0 else S.good.getD i 0) := by
  induction k with
  | zero => exact ⟨by rw [if_neg (by omega)]; rfl, by rw [if_neg (by omega)]; rfl⟩
  | succ k ih =>
    obtain ⟨a, b⟩ := ih (by omega)
    obtain ⟨l1, l2⟩ := crashTo_len S x k h1 h2
    unfold crashTo
    dsimp only
    by_cases he : i / 8 = k
    · subst he
      rw [if_neg (by omega)] at a b
      cases hb : bitZ x (i / 8)
      · simp only [Bool.false_eq_true, if_false]
        rw [cpLine_get _ _ _ _ hi l1 (by omega), if_pos rfl, if_pos ⟨by omega, trivial⟩, if_neg (by simp), b]
        exact ⟨rfl, rfl⟩
      · simp only [if_true]
        rw [cpLine_get _ _ _ _ hi l1 (by omega), if_pos rfl, cpLine_get _ _ _ _ hi l2 (by omega), if_pos rfl, if_neg (by simp), if_pos ⟨by omega, trivial⟩, a]
        exact ⟨rfl, rfl⟩
    · simp only [show (i / 8 < k + 1) ↔ (i / 8 < k) from by omega]
      rw [cpLine_get _ _ _ _ hi l1 (by omega), if_neg he]
      refine ⟨a, ?_⟩
      cases hb : bitZ x k
      · simp only [Bool.false_eq_true, if_false]; exact b
      · simp only [if_true]; rw [cpLine_get _ _ _ _ hi l2 (by omega), if_neg he]; exact b
theorem bitZ_zero (k : Nat) : bitZ 0 k = false := by
  unfold bitZ; rw [Int.zero_ediv]; decide +kernel
end Go.Proofs.Ytakemnpicokaiaa
