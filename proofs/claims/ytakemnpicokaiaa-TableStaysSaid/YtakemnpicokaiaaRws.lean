/- A slice of structs of whole numbers that came in. No program is named here. -/
import Derived.Test.YtakemnpicokaiaaKeep
namespace Go.Proofs.Ytakemnpicokaiaa
open Go.RowKit
/-- Element j's cell i is the number f j i, of kind ks i; n cells each. -/
def Rws (n : Nat) (ks : Nat → IntKind) (w : World) (a : Option Addr) (len cap : Nat) (f : Nat → Nat → Int) : Prop :=
  len ≤ cap ∧ cap ≤ 9223372036854775807 ∧ (len = 0 ∨ ∃ b off, a = some ⟨b, off, none⟩ ∧ b < w.heap.size ∧ ∀ j, j < len → ∀ i, i < n →
    w.cell? ⟨b, off + j * n + i, none⟩ = some (.int (ks i) (f j i)) ∧ (Lit.int (ks i) (f j i)).wf = true)
theorem Rws.below {n : Nat} {ks : Nat → IntKind} {w w' : World} {a : Option Addr} {len cap : Nat} {f : Nat → Nat → Int} (h : Rws n ks w a len cap f) (k : Below w.heap.size w w') : Rws n ks w' a len cap f := by
  obtain ⟨h1, h2, h3⟩ := h
  refine ⟨h1, h2, ?_⟩
  rcases h3 with h3 | ⟨b, off, rfl, hb, hc⟩
  · exact .inl h3
  · refine .inr ⟨b, off, rfl, Nat.lt_of_lt_of_le hb k.size, fun j hj i hi => ?_⟩
    obtain ⟨c, d⟩ := hc j hj i hi
    exact ⟨by rw [k.cell (p := ⟨b, off + j * n + i, none⟩) hb]; exact c, d⟩
theorem Rws.take {n : Nat} {ks : Nat → IntKind} {w : World} {a : Option Addr} {len cap : Nat} {f : Nat → Nat → Int} (h : Rws n ks w a len cap f) (m : Nat) (hm : m ≤ len) : Rws n ks w a m cap f := by
  obtain ⟨h1, h2, h3⟩ := h
  refine ⟨by omega, h2, ?_⟩
  rcases h3 with h3 | ⟨b, off, rfl, hb, hc⟩
  · exact .inl (by omega)
  · exact .inr ⟨b, off, rfl, hb, fun j hj => hc j (by omega)⟩
theorem Rws.at {n : Nat} {ks : Nat → IntKind} {w : World} {a : Option Addr} {len cap : Nat} {f : Nat → Nat → Int} (h : Rws n ks w a len cap f) (j : Nat) (hj : j < len) :
    ∃ b off, a = some ⟨b, off, none⟩ ∧ b < w.heap.size ∧ ∀ i, i < n → w.cell? ⟨b, off + j * n + i, none⟩ = some (.int (ks i) (f j i)) ∧ (Lit.int (ks i) (f j i)).wf = true := by
  obtain ⟨-, -, h3⟩ := h
  rcases h3 with h3 | ⟨b, off, rfl, hb, hc⟩
  · omega
  · exact ⟨b, off, rfl, hb, hc j hj⟩
end Go.Proofs.Ytakemnpicokaiaa
