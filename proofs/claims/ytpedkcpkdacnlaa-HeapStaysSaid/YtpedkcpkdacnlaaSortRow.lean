/- slices.Sort and slices.Delete at []int over owned slices, as a walk over Mem needs them. -/
import Derived.Test.YtpedkcpkdacnlaaHeapDo
namespace Go.Proofs.Ytpedkcpkdacnlaa
open Go.RowKit
set_option linter.unusedVariables false
def sortI (xs : List Int) : List Int := xs.mergeSort fun x y => decide (x ≤ y)
theorem sortI_len (xs : List Int) : (sortI xs).length = xs.length := by simp [sortI]
theorem sortI_perm (xs : List Int) : (sortI xs).Perm xs := List.mergeSort_perm _ _
theorem sortI_sorted (xs : List Int) : (sortI xs).Pairwise (· ≤ ·) := by
  have h := List.pairwise_mergeSort (le := fun x y => decide ((x : Int) ≤ y)) (fun a b c h1 h2 => by simp at *; omega) (fun a b => by simp; omega) xs
  exact h.imp (fun h => by simpa using h)
theorem sortI_eq {xs ys : List Int} (h : xs.Perm ys) : sortI xs = sortI ys :=
  List.Perm.eq_of_pairwise (le := (· ≤ ·)) (fun a b _ _ h1 h2 => Int.le_antisymm h1 h2) (sortI_sorted xs) (sortI_sorted ys) ((sortI_perm xs).trans (h.trans (sortI_perm ys).symm))
theorem sort_row (W : World) (v : Value) (n : Nat) (xs : List Int) (hn : xs.length = n) (h : W.ownsRow 0 3 1 v n (vals xs)) (hx : n ≤ 1000) :
    Calls Try.prog 39 #[v] W fun e w' => e = .returned (.tuple #[]) ∧ w'.ownsRow 0 3 1 v n (vals (sortI xs)) ∧ Kept (fun g => v.ownBlock = some g) W w' := by
  subst hn
  by_cases h0 : xs.length = 0
  · obtain rfl : xs = [] := List.length_eq_zero_iff.1 h0
    obtain ⟨p, c, rfl, -⟩ := ownsRow.form h
    exact (Try.slices_Sort_int_none p c W).mono fun e w' ⟨he, hw⟩ => ⟨he, by rw [hw]; simpa [sortI] using h, by rw [hw]; exact Kept.refl _ _⟩
  · obtain ⟨g, c, rfl, h1, h2, h3, -⟩ := ownsRow.head h (by omega)
    obtain ⟨C, hB, ht, h4, h5, h6, -, h8⟩ := ownsRow.cells h
    rw [vals_len, Nat.mul_one] at *
    have hcell : ∀ j, j < xs.length → C[j]? = some (.int .i64 (xs.getD j 0)) := fun j hj => by
      have : (C.take xs.length)[j]? = (vals xs)[j]? := by rw [ht]
      rw [List.getElem?_take, if_pos hj] at this
      rw [this, vals_get xs j hj]; rfl
    have hlen : xs.length ≤ C.length := by
      have := congrArg List.length ht
      simp [vals_len] at this; omega
    refine (Try.slices_Sort_int g 0 c xs W (fun j hj => ?_) h3 (by omega)).mono fun e w' ⟨he, n, os, hw⟩ => ⟨he, ?_, ?_⟩
    · simp at hj
      rw [Nat.zero_add]
      refine ⟨?_, hB.frozen j⟩
      rw [hB.cell, hcell j hj]; simp [hj, List.getD_eq_getElem?_getD]
    · subst hw
      have hs : (xs.mergeSort fun x y => decide (x ≤ y)).length = xs.length := sortI_len xs
      refine ⟨by rw [vals_len, sortI_len, Nat.mul_one], .inr ⟨g, c, Sort.putCells (Value.int .i64) 0 (xs.mergeSort fun x y => decide (x ≤ y)).toArray C.toArray, rfl, Nat.zero_le _, ?_, h4, h6, ?_, ?_⟩⟩
      · rw [Sort.heap_grow_old _ _ (by simpa using h3)]
        show (Sort.mapBlock (Sort.ahead W n) g _).heap[g]? = _
        unfold Sort.mapBlock
        have hb : W.heap[g]? = some (.cells C.toArray 3 (0, 0)) := hB
        simp [Array.getElem?_modify, hb, Sort.onCells]
      · simp [Sort.putCells]; omega
      · rw [Nat.mul_one]
        apply List.ext_getElem?
        intro j
        rw [List.getElem?_take]
        by_cases hj : j < xs.length
        · rw [if_pos hj, vals_get _ j (by rw [sortI_len]; exact hj)]
          have hj2 : j < C.length := by omega
          simp only [Sort.putCells, Array.toList_mapIdx, List.getElem?_mapIdx]
          have : j < (xs.mergeSort fun x y => decide (x ≤ y)).length := by rw [hs]; exact hj
          simp [hj2, hs, hj, sortI, hp]
        · rw [if_neg hj, List.getElem?_eq_none (by rw [vals_len, sortI_len]; omega)]
    · subst hw
      refine ⟨rfl, rfl, rfl, by simp, fun k hk hn => ?_⟩
      rw [Sort.heap_grow_old _ _ (by simpa using hk)]
      show (Sort.mapBlock (Sort.ahead W n) g _).heap[k]? = _
      unfold Sort.mapBlock
      simp only [Array.getElem?_modify]
      rw [if_neg (fun hh => hn (by rw [← hh]; rfl))]
      rfl
end Go.Proofs.Ytpedkcpkdacnlaa
