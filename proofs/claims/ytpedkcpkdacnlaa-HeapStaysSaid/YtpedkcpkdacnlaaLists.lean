/- What queues, stacks and deques do, as functions on lists, and the contracts in these words. -/
import Derived.Test.YtpedkcpkdacnlaaDeque
namespace Go.Proofs.Ytpedkcpkdacnlaa
open Go.RowKit
set_option linter.unusedVariables false
def deqR (xs : List Int) (k x : Int) : List Int × Int × Int :=
  if k = 1 ∨ k = 3 then (if 6 ≤ xs.length then (xs, 3, 0) else if k = 1 then (xs ++ [x], 1, 0) else (x :: xs, 1, 0))
  else if k = 2 ∨ k = 4 ∨ k = 5 then (if xs.length = 0 then (xs, 2, 0) else if k = 5 then (xs, 1, xs.getD 0 0) else if k = 4 then (xs.eraseIdx (xs.length - 1), 1, xs.getD (xs.length - 1) 0) else (xs.eraseIdx 0, 1, xs.getD 0 0))
  else if k = 6 then (xs, 1, xs.length) else (xs, 5, 0)
def queR (xs : List Int) (k x : Int) : List Int × Int × Int :=
  if k = 1 then (if 6 ≤ xs.length then (xs, 3, 0) else (xs ++ [x], 1, 0))
  else if k = 2 ∨ k = 5 then (if xs.length = 0 then (xs, 2, 0) else if k = 5 then (xs, 1, xs.getD 0 0) else (xs.tail, 1, xs.getD 0 0))
  else if k = 6 then (xs, 1, xs.length) else (xs, 5, 0)
def stkR (xs : List Int) (k x : Int) : List Int × Int × Int :=
  if k = 1 then (if 6 ≤ xs.length then (xs, 3, 0) else (xs ++ [x], 1, 0))
  else if k = 2 ∨ k = 5 then (if xs.length = 0 then (xs, 2, 0) else if k = 5 then (xs, 1, xs.getD (xs.length - 1) 0) else (xs.take (xs.length - 1), 1, xs.getD (xs.length - 1) 0))
  else if k = 6 then (xs, 1, xs.length) else (xs, 5, 0)
theorem deque_eq (w : World) (v : Value) (xs : List Int) (k key x : Int) (h : Sl w v xs) (hx : xs.length ≤ 1000) {ys : List Int} {c r : Int} (hd : deqR xs k x = (ys, c, r)) :
    Calls Try.prog 27 #[v, .agg #[.int .i64 k, .int .i64 key, .int .i64 x]] w fun e w' =>
      ∃ v', e = .returned (.tuple #[v', .agg #[.int .i64 c, .int .i64 r]]) ∧ Own w' w.heap.size v' ys ∧ Below w.heap.size w w' := by
  unfold deqR at hd
  by_cases h13 : k = 1 ∨ k = 3
  · rw [if_pos h13] at hd
    by_cases h6 : 6 ≤ xs.length
    · rw [if_pos h6] at hd; cases hd
      rcases h13 with rfl | rfl
      · exact deque_put_full w v _ key x h h6 hx
      · exact deque_front_full w v _ key x h h6 hx
    · rw [if_neg h6] at hd
      rcases h13 with rfl | rfl
      · rw [if_pos rfl] at hd; cases hd; exact deque_put w v _ key x h (by omega)
      · rw [if_neg (by decide)] at hd; cases hd; exact deque_front w v _ key x h (by omega)
  rw [if_neg h13] at hd
  by_cases h245 : k = 2 ∨ k = 4 ∨ k = 5
  · rw [if_pos h245] at hd
    by_cases h0 : xs.length = 0
    · rw [if_pos h0] at hd; cases hd
      rcases h245 with rfl | rfl | rfl
      · exact deque_nil2 w v _ key x h h0
      · exact deque_nil4 w v _ key x h h0
      · exact deque_nil5 w v _ key x h h0
    · rw [if_neg h0] at hd
      have hp : 0 < xs.length := by omega
      rcases h245 with rfl | rfl | rfl
      · rw [if_neg (by decide), if_neg (by decide)] at hd; cases hd; exact deque_take w v _ key x h hp hx
      · rw [if_neg (by decide), if_pos rfl] at hd; cases hd; exact deque_back w v _ key x h hp hx
      · rw [if_pos rfl] at hd; cases hd; exact deque_peek w v _ key x h hp hx
  rw [if_neg h245] at hd
  by_cases h6 : k = 6
  · subst h6; rw [if_pos rfl] at hd; cases hd; exact deque_count w v _ key x h hx
  · rw [if_neg h6] at hd; cases hd; exact deque_wrong w v _ k key x h (by omega) (by omega) (by omega) (by omega) (by omega) h6 hx
theorem queue_eq (w : World) (v : Value) (xs : List Int) (k key x : Int) (h : Sl w v xs) (hx : xs.length ≤ 1000) {ys : List Int} {c r : Int} (hd : queR xs k x = (ys, c, r)) :
    Calls Try.prog 32 #[v, .agg #[.int .i64 k, .int .i64 key, .int .i64 x]] w fun e w' =>
      ∃ v', e = .returned (.tuple #[v', .agg #[.int .i64 c, .int .i64 r]]) ∧ Own w' w.heap.size v' ys ∧ Below w.heap.size w w' := by
  unfold queR at hd
  by_cases h1 : k = 1
  · subst h1
    rw [if_pos rfl] at hd
    by_cases h6 : 6 ≤ xs.length
    · rw [if_pos h6] at hd; cases hd; exact queue_put_full w v _ key x h h6 hx
    · rw [if_neg h6] at hd; cases hd; exact queue_put w v _ key x h (by omega)
  rw [if_neg h1] at hd
  by_cases h25 : k = 2 ∨ k = 5
  · rw [if_pos h25] at hd
    by_cases h0 : xs.length = 0
    · rw [if_pos h0] at hd
      obtain rfl : xs = [] := List.length_eq_zero_iff.1 h0
      cases hd
      rcases h25 with rfl | rfl
      · exact queue_take_nil w v [] key x h rfl
      · exact queue_peek_nil w v [] key x h rfl
    · rw [if_neg h0] at hd
      have hp : 0 < xs.length := by omega
      rcases h25 with rfl | rfl
      · rw [if_neg (by decide)] at hd; cases hd; exact queue_take w v _ key x h hp hx
      · rw [if_pos rfl] at hd; cases hd; exact queue_peek w v _ key x h hp hx
  rw [if_neg h25] at hd
  by_cases h6 : k = 6
  · subst h6; rw [if_pos rfl] at hd; cases hd; exact queue_count w v _ key x h hx
  · rw [if_neg h6] at hd; cases hd; exact queue_wrong w v _ k key x h (by omega) (by omega) (by omega) h6 hx
theorem stack_eq (w : World) (v : Value) (xs : List Int) (k key x : Int) (h : Sl w v xs) (hx : xs.length ≤ 1000) {ys : List Int} {c r : Int} (hd : stkR xs k x = (ys, c, r)) :
    Calls Try.prog 30 #[v, .agg #[.int .i64 k, .int .i64 key, .int .i64 x]] w fun e w' =>
      ∃ v', e = .returned (.tuple #[v', .agg #[.int .i64 c, .int .i64 r]]) ∧ Own w' w.heap.size v' ys ∧ Below w.heap.size w w' := by
  unfold stkR at hd
  by_cases h1 : k = 1
  · subst h1
    rw [if_pos rfl] at hd
    by_cases h6 : 6 ≤ xs.length
    · rw [if_pos h6] at hd; cases hd; exact stack_put_full w v _ key x h h6 hx
    · rw [if_neg h6] at hd; cases hd; exact stack_put w v _ key x h (by omega)
  rw [if_neg h1] at hd
  by_cases h25 : k = 2 ∨ k = 5
  · rw [if_pos h25] at hd
    by_cases h0 : xs.length = 0
    · rw [if_pos h0] at hd; cases hd
      exact stack_nil w v _ k key x h h0 h25
    · rw [if_neg h0] at hd
      have hp : 0 < xs.length := by omega
      rcases h25 with rfl | rfl
      · rw [if_neg (by decide)] at hd; cases hd; exact stack_take w v _ key x h hp hx
      · rw [if_pos rfl] at hd; cases hd; exact stack_peek w v _ key x h hp hx
  rw [if_neg h25] at hd
  by_cases h6 : k = 6
  · subst h6; rw [if_pos rfl] at hd; cases hd; exact stack_count w v _ key x h hx
  · rw [if_neg h6] at hd; cases hd; exact stack_wrong w v _ k key x h (by omega) (by omega) (by omega) h6 hx
theorem deq_que (xs : List Int) (k x : Int) (h3 : k ≠ 3) (h4 : k ≠ 4) : deqR xs k x = queR xs k x := by
  unfold deqR queR
  by_cases h1 : k = 1
  · subst h1; simp
  · rw [if_neg (by omega), if_neg h1]
    by_cases h25 : k = 2 ∨ k = 5
    · rw [if_pos (by omega), if_pos h25]
      by_cases h0 : xs.length = 0
      · rw [if_pos h0, if_pos h0]
      · rw [if_neg h0, if_neg h0]
        by_cases h5 : k = 5
        · rw [if_pos h5, if_pos h5]
        · rw [if_neg h5, if_neg h5, if_neg h4, List.eraseIdx_zero]
    · rw [if_neg (by omega), if_neg h25]
theorem eraseIdx_last (xs : List Int) : xs.eraseIdx (xs.length - 1) = xs.take (xs.length - 1) := by
  rw [List.eraseIdx_eq_take_drop_succ, List.drop_of_length_le (by omega), List.append_nil]
theorem deq_stk (xs : List Int) (k x : Int) (hk : k = 1 ∨ k = 2 ∨ k = 6) : deqR xs (if k = 2 then 4 else k) x = stkR xs k x := by
  unfold deqR stkR
  rcases hk with rfl | rfl | rfl
  · simp
  · simp [List.dropLast_eq_take]
  · simp
def mir (k : Int) : Int := if k = 1 then 3 else if k = 3 then 1 else if k = 2 then 4 else if k = 4 then 2 else k
theorem deq_turn (xs : List Int) (k x : Int) (hk : 1 ≤ k ∧ k ≤ 4) : deqR xs.reverse (mir k) x = ((deqR xs k x).1.reverse, (deqR xs k x).2.1, (deqR xs k x).2.2) := by
  have hlast : ∀ (hl : xs.length ≠ 0), xs.reverse.getD 0 0 = xs.getD (xs.length - 1) 0 ∧ xs.reverse.getD (xs.length - 1) 0 = xs.getD 0 0 ∧ xs.reverse.eraseIdx 0 = (xs.eraseIdx (xs.length - 1)).reverse ∧ xs.reverse.eraseIdx (xs.length - 1) = (xs.eraseIdx 0).reverse := by
    intro hl
    refine ⟨?_, ?_, ?_, ?_⟩
    · rw [List.getD_eq_getElem?_getD, List.getD_eq_getElem?_getD, List.getElem?_reverse (by omega), Nat.sub_zero]
    · rw [List.getD_eq_getElem?_getD, List.getD_eq_getElem?_getD, List.getElem?_reverse (by omega)]; congr 2; omega
    · rw [List.eraseIdx_zero, eraseIdx_last, List.tail_reverse, List.dropLast_eq_take]
    · have := eraseIdx_last xs.reverse
      rw [List.length_reverse] at this
      rw [this, List.eraseIdx_zero, List.take_reverse, show xs.length - (xs.length - 1) = 1 by omega, List.drop_one]
  obtain rfl | rfl | rfl | rfl : k = 1 ∨ k = 2 ∨ k = 3 ∨ k = 4 := by omega
  · unfold deqR mir; by_cases h : 6 ≤ xs.length <;> simp [h]
  · by_cases h : xs.length = 0
    · obtain rfl : xs = [] := List.length_eq_zero_iff.1 h; rfl
    · obtain ⟨a, b, c, d⟩ := hlast h
      have h' : xs ≠ [] := fun e => h (by rw [e]; rfl)
      unfold deqR mir
      rw [List.length_reverse, b, d]
      simp [h']
  · unfold deqR mir; by_cases h : 6 ≤ xs.length <;> simp [h]
  · by_cases h : xs.length = 0
    · obtain rfl : xs = [] := List.length_eq_zero_iff.1 h; rfl
    · obtain ⟨a, b, c, d⟩ := hlast h
      have h' : xs ≠ [] := fun e => h (by rw [e]; rfl)
      unfold deqR mir
      rw [List.length_reverse, a, c]
      simp [h']
end Go.Proofs.Ytpedkcpkdacnlaa
