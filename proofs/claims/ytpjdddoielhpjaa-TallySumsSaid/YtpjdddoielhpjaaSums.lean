/- Plain lemmas on sums of picked numbers, for the law TallySums. No program is named here. -/
import Derived.Test.YtpjdddoielhpjaaBase
namespace Go.Proofs.Ytpjdddoielhpjaa
def psum : List Int → Int
  | [] => 0
  | a :: l => pickZ a 1000 + psum l
theorem psum_append (l m : List Int) : psum (l ++ m) = psum l + psum m := by
  induction l with
  | nil => simp [psum]
  | cons a l ih => simp [psum, ih]; omega
theorem psum_reverse (l : List Int) : psum l.reverse = psum l := by
  induction l with
  | nil => rfl
  | cons a l ih => simp [psum_append, psum, ih]; omega
theorem psum_take (l : List Int) (k : Nat) (h : k < l.length) : psum (l.take (k + 1)) = psum (l.take k) + pickZ (l[k]?.getD 0) 1000 := by
  rw [List.take_add_one, psum_append]
  simp [List.getElem?_eq_getElem h, psum]
theorem psum_lo (l : List Int) : 0 ≤ psum l := by
  induction l with
  | nil => simp [psum]
  | cons a l ih => have := pickZ_nonneg a 1000 (by decide); simp [psum]; omega
theorem psum_hi (l : List Int) : psum l ≤ 999 * l.length := by
  induction l with
  | nil => simp [psum]
  | cons a l ih => have := pickZ_lt a 1000 (by decide); simp [psum]; omega
theorem psum_rev_take (l : List Int) (k : Nat) (h : k < l.length) : psum (l.reverse.take (k + 1)) = psum (l.reverse.take k) + pickZ (l[l.length - 1 - k]?.getD 0) 1000 := by
  rw [psum_take _ _ (by simpa using h), List.getElem?_reverse h]
end Go.Proofs.Ytpjdddoielhpjaa
