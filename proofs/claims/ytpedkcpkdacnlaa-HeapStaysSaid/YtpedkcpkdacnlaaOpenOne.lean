/- An argument that is an api.Op by value, opened: its three numbers. -/
import Derived.Test.YtpedkcpkdacnlaaRows
import Derived.Deep.Slices
import Derived.Deep.Fields
import Derived.ChangeSame
import Derived.ProofKit
import Derived.WideShapes
namespace Go.Proofs.Ytpedkcpkdacnlaa
open Go.ChangeShapes Go.WideShapes Go.Deep Go.ChangeAt
set_option linter.unusedVariables false
theorem one_int {H : Type} {enc : TypeId × Value → H} {w : World} {base : Nat} {spare : Nat → Bool} {held : Bool} {n : Nat} {t : TypeId} {k : IntKind} {v : Value} {y : Option (DataW H × List MemPlace)} (ht : Try.prog.underlying t = some (.int k))
    (h : DataW.trod enc Try.prog w base spare held n t [v] = y) (hy : y.isSome) : ∃ z, v = .int k z ∧ (Lit.int k z).wf = true := by
  obtain ⟨x, rfl⟩ := Option.isSome_iff_exists.1 hy
  obtain ⟨z, h1, -, h2⟩ := DataW.trod_int ht h
  simp at h1
  exact ⟨z, h1, h2⟩
set_option maxRecDepth 20000 in
theorem cellsOp_of {H : Type} {enc : TypeId × Value → H} {w : World} {base : Nat} {spare : Nat → Bool} {held : Bool} {n : Nat} {cs : List Value} {y : Option (DataW H × List MemPlace)}
    (h : DataW.trod enc Try.prog w base spare held n 30 cs = y) (hy : y.isSome) :
    ∃ z0 z1 z2 : Int, cs = [.int .i64 z0, .int .i64 z1, .int .i64 z2] ∧ (Lit.int .i64 z0).wf = true ∧ (Lit.int .i64 z1).wf = true ∧ (Lit.int .i64 z2).wf = true := by
  obtain ⟨x, rfl⟩ := Option.isSome_iff_exists.1 hy
  obtain ⟨ys, n', -, -, hlen, hyl, hf⟩ := DataW.trod_struct Try.underlying30 h
  have hc : Try.prog.cellsOf 30 = 3 := by kernel_rfl
  have hc_int : Try.prog.cellsOf 3 = 1 := by kernel_rfl
  rw [hc] at hlen
  match cs, hlen with
  | [v0, v1, v2], _ =>
    have hyl' : ys.length = 3 := hyl
    have g0 : DataW.trod enc Try.prog w base spare held n' 3 (([v0, v1, v2].drop 0).take (Try.prog.cellsOf 3)) = ys[0]? := hf 0 _ rfl
    rw [hc_int] at g0
    dsimp only [List.drop, List.take] at g0
    have g1 : DataW.trod enc Try.prog w base spare held n' 3 (([v0, v1, v2].drop 1).take (Try.prog.cellsOf 3)) = ys[1]? := hf 1 _ rfl
    rw [hc_int] at g1
    dsimp only [List.drop, List.take] at g1
    have g2 : DataW.trod enc Try.prog w base spare held n' 3 (([v0, v1, v2].drop 2).take (Try.prog.cellsOf 3)) = ys[2]? := hf 2 _ rfl
    rw [hc_int] at g2
    dsimp only [List.drop, List.take] at g2
    obtain ⟨z0, rfl, w0⟩ := one_int Try.underlying3 g0 (by simp [hyl'])
    obtain ⟨z1, rfl, w1⟩ := one_int Try.underlying3 g1 (by simp [hyl'])
    obtain ⟨z2, rfl, w2⟩ := one_int Try.underlying3 g2 (by simp [hyl'])
    exact ⟨z0, z1, z2, rfl, w0, w1, w2⟩
set_option maxRecDepth 20000 in
theorem aggOp_of {H : Type} {enc : TypeId × Value → H} {w : World} {base b0 : Nat} {spare : Nat → Bool} {held : Bool} {v : Value} {d : DataW H} {p : List MemPlace}
    (hv : Value.okWide Try.prog w .any b0 30 v) (h : DataW.Trod enc Try.prog w base spare held 30 v d p) :
    ∃ z0 z1 z2 : Int, v = .agg #[.int .i64 z0, .int .i64 z1, .int .i64 z2] ∧ (Lit.int .i64 z0).wf = true ∧ (Lit.int .i64 z1).wf = true ∧ (Lit.int .i64 z2).wf = true := by
  obtain ⟨cs, rfl, hs⟩ := okWide_struct Try.underlying30 hv
  obtain ⟨fuel, hf⟩ := h
  obtain ⟨z0, z1, z2, hc, w0, w1, w2⟩ := cellsOp_of hf (by rfl)
  refine ⟨z0, z1, z2, ?_, w0, w1, w2⟩
  have : cs.toList = [.int .i64 z0, .int .i64 z1, .int .i64 z2] := hc
  rw [← Array.toArray_toList (xs := cs), this]
end Go.Proofs.Ytpedkcpkdacnlaa
