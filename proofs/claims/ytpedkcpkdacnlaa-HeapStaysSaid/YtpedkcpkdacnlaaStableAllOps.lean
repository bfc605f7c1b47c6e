/- Stores within a region that is walked in the order of the text. No program is named here. -/
import Derived.Test.YtpedkcpkdacnlaaStableAll
import Derived.Test.YtpedkcpkdacnlaaResOps
namespace Go.Proofs.Ytpedkcpkdacnlaa
open Go.RowKit
variable {P : Program} {ops : Array Oper} {W : World} {S : Nat → (Nat → Nat) → World → Prop} {Q : Act → World → Prop} {i k : Nat} {as : AsC} {o : Oper} {rest : List Oper} {a : Act}
theorem wpD_store (ty : TypeId) (x y : Operand) (ho : o.op = .store ty x y) (hg : o.guard = none) (blk : (Nat → Nat) → Nat) (off n : Nat) (vs : List Value)
    (hx : ∀ b, (putsC b as a).eval x = .pointer (some ⟨blk b, off, none⟩)) (hy : ∀ b, (putsC b as a).eval y = .agg vs.toArray) (t : TypeId) (C : List Value) (hB : ∀ b w, SS W S as b w k → Blk w (blk b) C t) (hn : vs.length = n) (hfit : off + n ≤ C.length)
    (hi : (P.info? ty).map (·.size) = some n) (h1 : ∀ v ∈ vs, v.oneCell' = true) (hS : ∀ b w, SS W S as b w k → S (k + 1) b (setBlk w (blk b) (spl C off vs)))
    (h : ∀ K : Act → Prop, (∀ b, wpD P ops W S Q (i + 1) (k + 1) as rest b → K b) → K (a.put o.dst undef)) : wpD P ops W S Q i k as (o :: rest) a :=
  wpD_write (by unfold isAlloc; rw [ho]) (by unfold eff; rw [ho]) ⟨hg, fun b w hs => ⟨_, by
    unfold execOp
    simp only [ho, hx b, hy b, Instr.storeAt, Instr.sureAddr, Sem.run_bind, Sem.run_pure, Result.andThen_ok, run_storeVar_part w (blk b) C t ty off n vs (hB b w hs) hn hfit hi h1], hS b w hs⟩⟩ h
theorem keptNew {S' : Nat → Prop} {x y : World} (h : Kept S' x y) {c : Nat} (hc : x.heap.size ≤ c) (C : List Value) : Kept S' x (setBlk y c C) :=
  ⟨h.os, h.tape, h.output, by rw [setBlk_size]; exact h.size, fun k hk hn => by rw [setBlk_heap y c C k (by omega)]; exact h.block k hk hn⟩
theorem two_ints (x y : Int) : ∀ v ∈ [Value.int .i64 x, .int .i64 y], v.oneCell' = true := by
  intro v hv
  simp only [List.mem_cons, List.not_mem_nil, or_false] at hv
  rcases hv with rfl | rfl <;> rfl
end Go.Proofs.Ytpedkcpkdacnlaa
