/- More plain laws of heaps as lists: taking twice, the least one, and sorting by a heap. No program is named here. -/
import Derived.Test.YtpedkcpkdacnlaaHeapLaws
namespace Go.Proofs.Ytpedkcpkdacnlaa
set_option linter.unusedVariables false
theorem hp_mem {xs : List Int} (h : 0 < xs.length) : hp xs 0 ∈ xs := by
  cases xs with
  | nil => simp at h
  | cons a t => simp [hp]
theorem heap_le_mem {xs : List Int} (h : IsHeap xs) : ∀ v ∈ xs, hp xs 0 ≤ v := by
  intro v hv
  obtain ⟨j, hj, rfl⟩ := List.mem_iff_getElem.1 hv
  have := heap_min h j hj
  simpa [hp, List.getD_eq_getElem?_getD, hj] using this
theorem heap_rises {xs : List Int} (h : IsHeap xs) (hl : 2 ≤ xs.length) :
    ∃ ys zs, heapR xs 2 0 = (ys, 1, hp xs 0) ∧ ys.length = xs.length - 1 ∧ heapR ys 2 0 = (zs, 1, hp ys 0) ∧ hp xs 0 ≤ hp ys 0 := by
  obtain ⟨ys, e, p, l⟩ := heapR_take xs 0 (by omega)
  obtain ⟨zs, e2, p2, l2⟩ := heapR_take ys 0 (by omega)
  exact ⟨ys, zs, e, l, e2, heap_le_mem h _ (p.subset (List.mem_cons_of_mem _ (hp_mem (by omega))))⟩
/-- Taken from a heap that has the same numbers as a sorted list: its first one, and then its rest. -/
theorem heap_pops {xs : List Int} (h : IsHeap xs) {a : Int} {s : List Int} (hp' : xs.Perm (a :: s)) (hs : (a :: s).Pairwise (· ≤ ·)) :
    ∃ ys, heapR xs 2 0 = (ys, 1, a) ∧ IsHeap ys ∧ ys.Perm s := by
  have hl := hp'.length_eq
  obtain ⟨ys, e, p, l⟩ := heapR_take xs 0 (by simp at hl; omega)
  have h1 : hp xs 0 ≤ a := heap_le_mem h a (hp'.symm.subset List.mem_cons_self)
  have h2 : a ≤ hp xs 0 := by
    have hm := hp'.subset (hp_mem (xs := xs) (by simp at hl; omega))
    rcases List.mem_cons.1 hm with hm | hm
    · omega
    · exact (List.pairwise_cons.1 hs).1 _ hm
  have ha : hp xs 0 = a := by omega
  rw [ha] at e p
  refine ⟨ys, e, ?_, List.Perm.cons_inv (p.trans hp')⟩
  have := heapR_heap h 2 0
  rw [e] at this; exact this
end Go.Proofs.Ytpedkcpkdacnlaa
