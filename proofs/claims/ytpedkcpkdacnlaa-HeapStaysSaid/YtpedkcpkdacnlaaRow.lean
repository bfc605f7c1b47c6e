/- What a walk is told of a slice of integers that came in, turned to the walk's use. No program is named here. -/
import Derived.Test.YtpedkcpkdacnlaaBase
namespace Go.Proofs.Ytpedkcpkdacnlaa
open Go.RowKit

/-- A block in which a cell reads is there. -/
theorem block_lt {w : World} {b o : Nat} {v : Value} (h : w.cell? ⟨b, o, none⟩ = some v) : b < w.heap.size := by
  rcases Nat.lt_or_ge b w.heap.size with h' | h'
  · exact h'
  · simp [World.cell?, Array.getElem?_eq_none h'] at h

/-- What the walk is told of a slice of integers that came in (the skeleton's own word). -/
def IsRow (k : IntKind) (w : World) (a : Option Addr) (len cap : Nat) (zs : List Int) : Prop :=
  (a = none ∧ len = 0 ∧ cap = 0 ∧ zs = []) ∨
  ∃ x, a = some x ∧ len ≤ cap ∧ cap ≤ maxLen ∧ zs.length = cap ∧ (∀ i, i < zs.length → w.cell? (x.add i) = some (.int k (zs.getD i 0))) ∧ ∀ n ∈ zs, (Lit.int k n).wf = true

/-- The same, turned to the walk's use: 'ys' are the elements; a slice without spare room is nil, or leads to its cells. -/
theorem row_cases {k : IntKind} {w : World} {a : Option Addr} {len cap : Nat} {zs : List Int} (h : IsRow k w a len cap zs) :
    ∃ ys : List Int, ys.length = len ∧ len ≤ cap ∧ cap ≤ 9223372036854775807 ∧ (∀ n ∈ ys, (Lit.int k n).wf = true) ∧
      ((a = none ∧ len = 0 ∧ cap = 0) ∨ (len = 0 ∧ ∃ x, a = some x) ∨
        ∃ b off, a = some ⟨b, off, none⟩ ∧ 0 < len ∧ b < w.heap.size ∧ ∀ j, j < len → w.cell? ⟨b, off + j, none⟩ = some (.int k (ys[j]?.getD 0))) := by
  rcases h with ⟨rfl, rfl, rfl, rfl⟩ | ⟨x, rfl, hl, hm, hz, hc, hw⟩
  · exact ⟨[], rfl, Nat.le_refl _, by omega, by simp, .inl ⟨rfl, rfl, rfl⟩⟩
  · unfold maxLen at hm
    refine ⟨zs.take len, by simp; omega, hl, hm, fun n hn => hw n (List.mem_of_mem_take hn), .inr ?_⟩
    by_cases h0 : len = 0
    · exact .inl ⟨h0, _, rfl⟩
    · obtain ⟨b, off, rfl, hc'⟩ := Go.ints_at hc (by omega)
      refine .inr ⟨b, off, rfl, by omega, block_lt (hc' 0 (by omega)), fun j hj => ?_⟩
      rw [hc' j (by omega)]
      simp [hj]
end Go.Proofs.Ytpedkcpkdacnlaa
