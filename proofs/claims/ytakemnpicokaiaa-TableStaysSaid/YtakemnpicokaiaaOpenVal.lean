/- An argument that is an api.Op by value, opened: its three numbers. -/
import Derived.Test.YtakemnpicokaiaaOpenOps
import Derived.WideShapes
namespace Go.Proofs.Ytakemnpicokaiaa
open Go.ChangeShapes Go.WideShapes Go.Deep Go.ChangeAt
set_option linter.unusedVariables false
theorem aggOp_of {H : Type} {enc : TypeId × Value → H} {w : World} {base b0 : Nat} {spare : Nat → Bool} {held : Bool} {v : Value} {d : DataW H} {p : List MemPlace}
    (hv : Value.okWide Try.prog w .any b0 36 v) (h : DataW.Trod enc Try.prog w base spare held 36 v d p) :
    ∃ z0 z1 z2 : Int, v = .agg #[.int .i64 z0, .int .i64 z1, .int .i64 z2] ∧ (Lit.int .i64 z0).wf = true ∧ (Lit.int .i64 z1).wf = true ∧ (Lit.int .i64 z2).wf = true := by
  obtain ⟨cs, rfl, hs⟩ := okWide_struct Try.underlying36 hv
  obtain ⟨fuel, hf⟩ := h
  obtain ⟨z0, z1, z2, hc, w0, w1, w2⟩ := cellsOp_of hf (by rfl)
  refine ⟨z0, z1, z2, ?_, w0, w1, w2⟩
  have : cs.toList = [.int .i64 z0, .int .i64 z1, .int .i64 z2] := hc
  rw [← Array.toArray_toList (xs := cs), this]
end Go.Proofs.Ytakemnpicokaiaa
