/- What an operation with a heap does, as a function on lists, and its laws. No program is named here. -/
import Derived.Test.YtpedkcpkdacnlaaHeapPlain
namespace Go.Proofs.Ytpedkcpkdacnlaa
set_option linter.unusedVariables false
def heapR (xs : List Int) (k x : Int) : List Int × Int × Int :=
  if k = 1 then (if 6 ≤ xs.length then (xs, 3, 0) else (upF xs.length (xs ++ [x]) xs.length, 1, 0))
  else if k = 2 ∨ k = 5 then (if xs.length = 0 then (xs, 2, 0) else if k = 5 then (xs, 1, hp xs 0) else (downF (xs.length - 1) ((xs.set 0 (hp xs (xs.length - 1))).take (xs.length - 1)) 0, 1, hp xs 0))
  else if k = 6 then (xs, 1, xs.length) else (xs, 5, 0)
theorem heap_min {xs : List Int} (h : IsHeap xs) : ∀ j, j < xs.length → hp xs 0 ≤ hp xs j := by
  intro j
  induction j using Nat.strongRecOn with
  | ind j ih =>
    intro hj
    by_cases h0 : j = 0
    · subst h0; exact Int.le_refl _
    · have h1 := h j (by omega) hj
      have h2 := ih ((j - 1) / 2) (by omega) (by omega)
      omega
theorem hp_append_left (xs ys : List Int) (j : Nat) (h : j < xs.length) : hp (xs ++ ys) j = hp xs j := by
  unfold hp; rw [List.getD_eq_getElem?_getD, List.getD_eq_getElem?_getD, List.getElem?_append_left h]
theorem put_inv {xs : List Int} (h : IsHeap xs) (x : Int) : UpInv (xs ++ [x]) xs.length := by
  refine ⟨fun j h0 hj hne => ?_, fun j h0 hj hp _ => ?_⟩
  · simp at hj
    rw [hp_append_left _ _ _ (by omega), hp_append_left _ _ _ (by omega)]
    exact h j h0 (by omega)
  · simp at hj; omega
theorem take_hp (xs : List Int) (v : Int) (n j : Nat) (hj : j < n) (h0 : 0 < j) : hp ((xs.set 0 v).take n) j = hp xs j := by
  unfold hp
  rw [List.getD_eq_getElem?_getD, List.getD_eq_getElem?_getD, List.getElem?_take, if_pos hj, List.getElem?_set, if_neg (by omega)]
theorem take_inv {xs : List Int} (h : IsHeap xs) (v : Int) (n : Nat) (hn : n ≤ xs.length) : DownInv ((xs.set 0 v).take n) 0 := by
  refine ⟨fun j h0 hj hne => ?_, fun j h0 hj hp hc => by omega⟩
  simp at hj
  rw [take_hp _ _ _ _ (by omega) (by omega), take_hp _ _ _ _ (by omega) h0]
  exact h j h0 (by omega)
theorem take_perm (xs : List Int) (hx : xs.length ≠ 0) : (hp xs 0 :: (xs.set 0 (hp xs (xs.length - 1))).take (xs.length - 1)).Perm xs := by
  cases xs with
  | nil => simp at hx
  | cons a t =>
    show (a :: _).Perm (a :: t)
    refine List.Perm.cons a ?_
    rcases List.eq_nil_or_concat t with rfl | ⟨u, b, ht⟩
    · simp
    · rw [List.concat_eq_append] at ht
      subst ht
      have e : hp (a :: (u ++ [b])) ((a :: (u ++ [b])).length - 1) = b := by simp [hp, List.getD_eq_getElem?_getD]
      rw [e]
      have e2 : ((a :: (u ++ [b])).set 0 b).take ((a :: (u ++ [b])).length - 1) = b :: u := by simp
      rw [e2]
      exact (List.perm_append_comm (l₁ := [b]) (l₂ := u))
theorem heapR_heap {xs : List Int} (h : IsHeap xs) (k x : Int) : IsHeap (heapR xs k x).1 := by
  unfold heapR
  split
  · split
    · exact h
    · exact upF_heap _ _ _ (by simp) (Nat.le_refl _) (put_inv h x)
  · split
    · split
      · exact h
      · split
        · exact h
        · exact downF_heap _ _ _ (by simp) (take_inv h _ _ (by omega))
    · split <;> exact h
theorem heapR_put (xs : List Int) (x : Int) (h : xs.length < 6) : ∃ ys, heapR xs 1 x = (ys, 1, 0) ∧ ys.Perm (x :: xs) ∧ ys.length = xs.length + 1 := by
  refine ⟨_, by unfold heapR; rw [if_pos rfl, if_neg (by omega)], (upF_perm _ _ _ (by simp)).trans (List.perm_append_comm (l₁ := xs) (l₂ := [x])), by rw [upF_length]; simp⟩
theorem heapR_take (xs : List Int) (x : Int) (h : xs.length ≠ 0) : ∃ ys, heapR xs 2 x = (ys, 1, hp xs 0) ∧ (hp xs 0 :: ys).Perm xs ∧ ys.length = xs.length - 1 := by
  refine ⟨_, by unfold heapR; rw [if_neg (by decide), if_pos (.inl rfl), if_neg h, if_neg (by decide)], ?_, by rw [downF_length]; simp⟩
  refine List.Perm.trans (List.Perm.cons _ ?_) (take_perm xs h)
  by_cases h1 : xs.length - 1 = 0
  · rw [h1]; exact List.Perm.refl _
  · exact downF_perm _ _ _ (by simp; omega)
end Go.Proofs.Ytpedkcpkdacnlaa
