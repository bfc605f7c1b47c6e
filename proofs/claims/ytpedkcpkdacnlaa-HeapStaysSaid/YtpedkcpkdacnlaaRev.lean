/- slices.Reverse on an owned slice: only its own block turns. -/
import Derived.Test.YtpedkcpkdacnlaaLists
namespace Go.Proofs.Ytpedkcpkdacnlaa
open Go.RowKit Go.Lib
set_option linter.unusedVariables false
theorem Own.ltb {w : World} {base : Nat} {v : Value} {xs : List Int} (h : Own w base v xs) {k : Nat} (hk : v.ownBlock = some k) : k < w.heap.size := by
  rcases h.opened with ⟨rfl, -⟩ | ⟨g, cap, C, rfl, hg, hB, -⟩
  · simp [Value.ownBlock] at hk
  · simp [Value.ownBlock] at hk; subst hk; exact hB.lt
theorem reverse_kept (w : World) (base : Nat) (v : Value) (xs : List Int) (h : Own w base v xs) :
    Calls Try.prog 26 #[v] w fun e w' => e = .returned (.tuple #[]) ∧ Own w' base v xs.reverse ∧ Kept (fun k => v.ownBlock = some k) w w' := by
  rcases h.opened with ⟨rfl, rfl⟩ | ⟨g, cap, C, rfl, hg, hB, hC, hl, hm, ht⟩
  · exact (Try.slices_Reverse_int_empty none 0 w).mono fun e w' ⟨he, hw⟩ => ⟨he, by rw [hw]; exact h, by rw [hw]; exact Kept.refl _ _⟩
  · refine (Try.slices_Reverse_int_cells g 0 xs.length cap xs w (Nat.le_refl _) (by omega) (hB.take_cell ht) (fun j _ => hB.frozen _)).mono fun e w' ⟨he, q, hw⟩ => ⟨he, ?_, ?_⟩
    · rw [hw, List.take_of_length_le (Nat.le_refl xs.length)]
      have hlz : (xs.reverse.map (Value.int .i64)).length = xs.length := by simp
      have hB1 := Blk.setCells (xs.reverse.map (Value.int .i64)) 0 (w.drewN q) C hB (by rw [hlz]; omega)
      have := Own.made (xs := xs.reverse) hg hB1 (by rw [spl_length _ _ _ (by rw [hlz]; omega)]; exact hC) (by simp; omega) hm (spl_take _ _ _ (by simp))
      rwa [List.length_reverse] at this
    · rw [hw]
      exact (Kept.of_below (below_drewN w q)).trans ((setCells_kept g _ _ (w.drewN q)).mono (fun k hk => by rw [hk]; simp [Value.ownBlock]))
end Go.Proofs.Ytpedkcpkdacnlaa
