/- Small lemmas that every walk of this seat uses: what a call leaves of older memory, and the number that 'pick' takes. No program is named here. -/
import Derived.WalkKit
import Derived.ProofKit
import Derived.OpenShut
import Derived.Lib.Hide
namespace Go.Proofs.Ytpedkcpkdacnlaa
open Go.RowKit

/-- Behind a call that turned nothing below the heap's size: every older cell, and every older mark, reads as before. -/
theorem bcell {W w1 : World} (hb : Below W.heap.size W w1) : (∀ b o, b < W.heap.size → w1.cell? ⟨b, o, none⟩ = W.cell? ⟨b, o, none⟩) ∧ (∀ b o, b < W.heap.size → w1.frozen? ⟨b, o, none⟩ = W.frozen? ⟨b, o, none⟩) :=
  ⟨fun b o h => hb.cell (p := ⟨b, o, none⟩) h, fun b o h => hb.frozen (p := ⟨b, o, none⟩) h⟩

theorem bcall {w a b : World} (h : Below w.heap.size w a) (k : Below a.heap.size a b) : Below w.heap.size w b := h.trans (k.mono h.size)
theorem balloc {w a : World} (h : Below w.heap.size w a) (o : Obj) : Below w.heap.size w (a.alloc o) := h.alloc h.size o
theorem bstore {w a : World} (h : Below w.heap.size w a) {p : Addr} (hp : w.heap.size ≤ p.block) (v : Value) : Below w.heap.size w (a.setCell p v) := h.setCell hp v

def pickZ (a n : Int) : Int := (a % 18446744073709551616) % n
theorem pickZ_nonneg (a n : Int) (h : 0 < n) : 0 ≤ pickZ a n := Int.emod_nonneg _ (by omega)
theorem pickZ_lt (a n : Int) (h : 0 < n) : pickZ a n < n := Int.emod_lt_of_pos _ h
theorem pick_eq (a n : Int) (h : 0 < n) (h' : n ≤ 9223372036854775807) : wrap64 ((IntKind.u64.wrap a).tmod n) = pickZ a n := by
  have e : IntKind.u64.wrap a = a % 18446744073709551616 := by simp [IntKind.wrap, IntKind.signed, IntKind.bits]
  have h1 : 0 ≤ a % 18446744073709551616 := Int.emod_nonneg _ (by decide)
  rw [e, Int.tmod_eq_emod_of_nonneg h1]
  have := pickZ_nonneg a n h
  have := pickZ_lt a n h
  have e2 : a % 18446744073709551616 % n = pickZ a n := rfl
  rw [e2]
  exact IntWalk.wrap64_in _ ⟨by omega, by omega⟩
theorem ret_int {k : IntKind} {a b : Int} (h : a = b) : Ending.returned (.int k a) = .returned (.int k b) := by rw [h]
end Go.Proofs.Ytpedkcpkdacnlaa
