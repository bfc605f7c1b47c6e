/- Stores within a region that is walked in the order of the text. No program is named here. -/
import Derived.Test.YtpedkcpkdacnlaaStable
import Derived.Test.YtpedkcpkdacnlaaResOps
namespace Go.Proofs.Ytpedkcpkdacnlaa
open Go.RowKit
variable {P : Program} {ops : Array Oper} {S : Nat → World → Prop} {Q : Act → World → Prop} {i k : Nat} {o : Oper} {rest : List Oper} {a : Act}
theorem wpB_store_part (ty : TypeId) (x y : Operand) (ho : o.op = .store ty x y) (b off n : Nat) (vs : List Value) (hw : Region.wanted o (yielded ops a.tmps) = true)
    (hx : a.eval x = .pointer (some ⟨b, off, none⟩)) (hy : a.eval y = .agg vs.toArray) (t : TypeId) (C : List Value) (hB : ∀ w, S k w → Blk w b C t) (hn : vs.length = n) (hfit : off + n ≤ C.length)
    (hi : (P.info? ty).map (·.size) = some n) (h1 : ∀ v ∈ vs, v.oneCell' = true) (hS : ∀ w, S k w → S (k + 1) (setBlk w b (spl C off vs)))
    (h : ∀ K : Act → Prop, (∀ b, wpB P ops S Q (i + 1) (k + 1) rest b → K b) → K (a.put o.dst undef)) : wpB P ops S Q i k (o :: rest) a :=
  wpB_store hw (by unfold eff; rw [ho]) (fun w hs => ⟨_, by
    unfold execOp
    simp only [ho, hx, hy, Instr.storeAt, Instr.sureAddr, Sem.run_bind, Sem.run_pure, Result.andThen_ok, run_storeVar_part w b C t ty off n vs (hB w hs) hn hfit hi h1], hS w hs⟩) h
end Go.Proofs.Ytpedkcpkdacnlaa
