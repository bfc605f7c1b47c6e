/- Laws and walks that the proof leans on, gathered: As, As2, EBase, EMem, ESeg, EOps, EExec, EAddr, EStep, EEq, ERows. -/
import Derived.Test.YtacgihekdmoceaaDoorProg
import Derived.WalkKit
import Derived.LaidEql
import Derived.Stop.Asserts
import Derived.RowKitTokens
import Derived.ProofKit
import Derived.OpenShut
import Derived.Lib.Hide
import Derived.Maps.AppendAt
import Derived.Deep.MidRow
import Derived.Laws.StructEq
section
namespace Go.Proofs.YtacgihekdmoceaaDoor
open Go.RowKit Go.Extern.Stop Go.Stop Go.Extern
set_option maxRecDepth 100000
/-! Closed facts on the model's entries for internal/reflectlite. -/
theorem asValueOfP (t : Addr) (w : World) : (ReflectliteValue.unpack (.iface 115 (.pointer (some t)))).run Tryd.prog w
    = .ok (.agg #[.pointer (some ⟨1, 115, none⟩), .pointer (some ⟨w.heap.size, 0, none⟩), .int .u64 150]) (w.alloc (.cells #[.pointer (some t)] 115)) := by kernel_rfl
theorem asTypeP (a : Addr) (w : World) : (ReflectliteValue.methodAny (ReflectliteValue.valueError "reflectlite.Value.Type" 0) (fun t _ _ _ => ReflectliteType.toType t) #[.agg #[.pointer (some ⟨1, 115, none⟩), .pointer (some a), .int .u64 150]]).run Tryd.prog w
    = .ok (.iface 159 (.agg #[.pointer (some ⟨1, 115, none⟩)])) w := by kernel_rfl
theorem asMethodKind (h : Value) (w : World) : (Go.method 302 159 (.agg #[h]) "Kind").run Tryd.prog w = .ok (110, h) w := by kernel_rfl
theorem asKindP (w : World) : ((ReflectliteType.abiMethod fun t => (fun a : Nat => Value.int IntKind.u8 (a : Int)) <$> Rtype.kind t) #[.pointer (some ⟨1, 115, none⟩)]).run Tryd.prog w = .ok (.int .u8 22) w := by kernel_rfl
theorem asKindE (w : World) : ((ReflectliteType.abiMethod fun t => (fun a : Nat => Value.int IntKind.u8 (a : Int)) <$> Rtype.kind t) #[.pointer (some ⟨1, 73, none⟩)]).run Tryd.prog w = .ok (.int .u8 2) w := by kernel_rfl
theorem rlm (z : Sem Value) (f : TypeId → Addr → Nat → Nat → Sem Value) (v : Value) :
    ReflectliteValue.method z f #[v] = (do match ← ReflectliteValue.parts v with | none => z | some (t, a, fl) => f t a fl (fl % 32)) := rfl
theorem asPartsP (a : Addr) (w : World) : (ReflectliteValue.parts (.agg #[.pointer (some ⟨1, 115, none⟩), .pointer (some a), .int .u64 150])).run Tryd.prog w = .ok (some (115, a, 150)) w := by kernel_rfl
theorem asIsNilP (a p : Addr) (W : World) (ha : W.cell? a = some (.pointer (some p))) :
    (ReflectliteValue.method (ReflectliteValue.valueError "reflectlite.Value.IsNil" 0) ReflectliteValue.isNil #[.agg #[.pointer (some ⟨1, 115, none⟩), .pointer (some a), .int .u64 150]]).run Tryd.prog W = .ok (.bool false) W := by
  rw [rlm]
  simp only [Sem.run_bind, asPartsP, Result.andThen]
  simp [ReflectliteValue.isNil, loadVar, isAgg, underlying, Tryd.underlying115, ha, Result.andThen]
theorem asMethodElem (h : Value) (w : World) : (Go.method 302 159 (.agg #[h]) "Elem").run Tryd.prog w = .ok (122, .agg #[h]) w := by kernel_rfl
theorem asMethodImplements (h : Value) (w : World) : (Go.method 302 159 (.agg #[h]) "Implements").run Tryd.prog w = .ok (123, .agg #[h]) w := by kernel_rfl
theorem asMethodAssignableTo (h : Value) (w : World) : (Go.method 302 159 (.agg #[h]) "AssignableTo").run Tryd.prog w = .ok (120, .agg #[h]) w := by kernel_rfl
theorem asElemP (w : World) : (ReflectliteType.method ReflectliteType.elem #[.agg #[.pointer (some ⟨1, 115, none⟩)]]).run Tryd.prog w = .ok (.iface 159 (.agg #[.pointer (some ⟨1, 73, none⟩)])) w := by kernel_rfl
theorem asImplementsE (w : World) : (ReflectliteType.relation "Implements" ReflectliteType.implements_ #[.agg #[.pointer (some ⟨1, 73, none⟩)], .iface 159 (.agg #[.pointer (some ⟨1, 34, none⟩)])]).run Tryd.prog w = .ok (.bool true) w := by kernel_rfl
theorem asTypeOfE (v : Value) (w : World) : (ReflectliteType.typeOf #[.iface 73 v]).run Tryd.prog w = .ok (.iface 159 (.agg #[.pointer (some ⟨1, 73, none⟩)])) w := by kernel_rfl
theorem asTypeOfA (v : Value) (w : World) : (ReflectliteType.typeOf #[.iface 98 v]).run Tryd.prog w = .ok (.iface 159 (.agg #[.pointer (some ⟨1, 98, none⟩)])) w := by kernel_rfl
theorem asAssignableE (w : World) : (ReflectliteType.relation "AssignableTo" ReflectliteType.assignableTo #[.agg #[.pointer (some ⟨1, 73, none⟩)], .iface 159 (.agg #[.pointer (some ⟨1, 73, none⟩)])]).run Tryd.prog w = .ok (.bool true) w := by kernel_rfl
theorem asAssignableA (w : World) : (ReflectliteType.relation "AssignableTo" ReflectliteType.assignableTo #[.agg #[.pointer (some ⟨1, 98, none⟩)], .iface 159 (.agg #[.pointer (some ⟨1, 73, none⟩)])]).run Tryd.prog w = .ok (.bool false) w := by kernel_rfl
theorem asValueOfE (e : Int) (w : World) : (ReflectliteValue.unpack (.iface 73 (.int .i64 e))).run Tryd.prog w
    = .ok (.agg #[.pointer (some ⟨1, 73, none⟩), .pointer (some ⟨w.heap.size, 0, none⟩), .int .u64 130]) (w.alloc (.cells #[.int .i64 e] 73)) := by kernel_rfl
theorem asElemOfP (w : World) : (Rtype.elem? 115).run Tryd.prog w = .ok (some 73) w := by kernel_rfl
theorem asMkE (p : Addr) (w : World) : (ReflectliteValue.mk 73 p ReflectliteValue.flagAddr).run Tryd.prog w = .ok (.agg #[.pointer (some ⟨1, 73, none⟩), .pointer (some p), .int .u64 386]) w := by kernel_rfl
theorem asElemV (a p : Addr) (W : World) (ha : W.cell? a = some (.pointer (some p))) :
    (ReflectliteValue.method (ReflectliteValue.valueError "reflectlite.Value.Elem" 0) ReflectliteValue.elem #[.agg #[.pointer (some ⟨1, 115, none⟩), .pointer (some a), .int .u64 150]]).run Tryd.prog W
      = .ok (.agg #[.pointer (some ⟨1, 73, none⟩), .pointer (some p), .int .u64 386]) W := by
  rw [rlm]
  simp only [Sem.run_bind, asPartsP, Result.andThen]
  simp [ReflectliteValue.elem, loadVar, isAgg, underlying, Tryd.underlying115, ha, Result.andThen, asElemOfP, asMkE]
theorem rls (v x : Value) : ReflectliteValue.set #[v, x] = (do
    let (some (dst, a, fl), some (src, b, _)) := (← ReflectliteValue.parts v, ← ReflectliteValue.parts x)
      | unsupported (.noEntry "extern/(internal/reflectlite.Value).Set.zeroValue")
    if fl / ReflectliteValue.flagAddr % 2 == 0 then unsupported (.noEntry "extern/(internal/reflectlite.Value).Set.unaddressable")
    let val ← loadVar src b
    if ← Rtype.directlyAssignable dst src then storeVar dst a val
    else if ← Rtype.implements dst src then
      if (← Rtype.kind src) == 20 then
        match val with
        | .nilIface => unsupported (.noEntry "extern/reflectlite: a nil value of one interface type handed on as a value of another")
        | _ => storeVar dst a val
      else storeVar dst a (.iface src val)
    else panicString ("reflectlite.Set: value of type " ++ (← Rtype.spelt src) ++ " is not assignable to type " ++ (← Rtype.spelt dst))
    pure (.tuple #[])) := rfl
theorem asPartsEa (a : Addr) (w : World) : (ReflectliteValue.parts (.agg #[.pointer (some ⟨1, 73, none⟩), .pointer (some a), .int .u64 386])).run Tryd.prog w = .ok (some (73, a, 386)) w := by kernel_rfl
theorem asPartsE (a : Addr) (w : World) : (ReflectliteValue.parts (.agg #[.pointer (some ⟨1, 73, none⟩), .pointer (some a), .int .u64 130])).run Tryd.prog w = .ok (some (73, a, 130)) w := by kernel_rfl
theorem asDirectE (w : World) : (Rtype.directlyAssignable 73 73).run Tryd.prog w = .ok true w := by kernel_rfl
theorem asSetE (ta b : Addr) (e : Int) (old : Value) (W : World) (hb : W.cell? b = some (.int .i64 e)) (ht : W.cell? ta = some old) (hf : W.frozen? ta = false) :
    (ReflectliteValue.set #[.agg #[.pointer (some ⟨1, 73, none⟩), .pointer (some ta), .int .u64 386], .agg #[.pointer (some ⟨1, 73, none⟩), .pointer (some b), .int .u64 130]]).run Tryd.prog W
      = .ok (.tuple #[]) (W.setCell ta (.int .i64 e)) := by
  rw [rls]
  simp only [Sem.run_bind, asPartsEa, asPartsE, Result.andThen]
  simp [ReflectliteValue.flagAddr, loadVar, isAgg, underlying, Tryd.underlying73, hb, Result.andThen, asDirectE, storeVar, Value.cells, storeCells, Addr.add]
  rw [run_store Tryd.prog W ta _ _ (by rfl)]
  simp [ht, hf]
/-- What errors.As makes ahead of its walk. -/
def asW (w : World) (t : Addr) : World := ((w.alloc (.cells #[.pointer (some t)] 115)).alloc (.cells #[.pointer (some ⟨1, 115, none⟩), .pointer (some ⟨w.heap.size, 0, none⟩), .int .u64 150] 141)).alloc (.cells #[.pointer (some ⟨1, 115, none⟩), .pointer (some ⟨w.heap.size, 0, none⟩), .int .u64 150] 141)
set_option maxHeartbeats 4000000 in
theorem as_errno (e : Int) (t : Addr) (old : Value) (w : World) (hg : w.cell? ⟨0, 0, none⟩ = some (.iface 159 (.agg #[.pointer (some ⟨1, 34, none⟩)]))) (ht0 : w.cell? t = some old) (hf0 : w.frozen? t = false) :
    Calls Tryd.prog 60 #[.iface 73 (.int .i64 e), .iface 115 (.pointer (some t))] w fun ev w' => ev = .returned (.bool true) ∧ w' = ((asW w t).alloc (.cells #[.int .i64 e] 73)).setCell t (.int .i64 e) := by
  have h6 := @run_callFunc_extern Tryd.prog 80 _ (fun args => ReflectliteValue.unpack (args.getD 0 (.tuple #[]))) Tryd.func80 (by kernel_rfl) (by kernel_rfl) (by kernel_rfl) (by kernel_rfl)
  have h7 := @run_callFunc_extern Tryd.prog 81 _ (ReflectliteValue.methodAny (ReflectliteValue.valueError "reflectlite.Value.Type" 0) (fun t _ _ _ => ReflectliteType.toType t)) Tryd.func81 (by kernel_rfl) (by kernel_rfl) (by kernel_rfl) (by kernel_rfl)
  have h8 := @run_callFunc_extern Tryd.prog 82 _ (ReflectliteValue.method (ReflectliteValue.valueError "reflectlite.Value.IsNil" 0) ReflectliteValue.isNil) Tryd.func82 (by kernel_rfl) (by kernel_rfl) (by kernel_rfl) (by kernel_rfl)
  have h27 := @run_callFunc_extern Tryd.prog 110 _ (ReflectliteType.abiMethod fun t => do pure (.int .u8 (← Rtype.kind t))) Tryd.func110 (by kernel_rfl) (by kernel_rfl) (by kernel_rfl) (by kernel_rfl)
  have h37 := @run_callFunc_extern Tryd.prog 122 _ (ReflectliteType.method ReflectliteType.elem) Tryd.func122 (by kernel_rfl) (by kernel_rfl) (by kernel_rfl) (by kernel_rfl)
  have h38 := @run_callFunc_extern Tryd.prog 123 _ (ReflectliteType.relation "Implements" ReflectliteType.implements_) Tryd.func123 (by kernel_rfl) (by kernel_rfl) (by kernel_rfl) (by kernel_rfl)
  have h10 := @run_callFunc_extern Tryd.prog 91 _ ReflectliteType.typeOf Tryd.func91 (by kernel_rfl) (by kernel_rfl) (by kernel_rfl) (by kernel_rfl)
  have h35 := @run_callFunc_extern Tryd.prog 120 _ (ReflectliteType.relation "AssignableTo" ReflectliteType.assignableTo) Tryd.func120 (by kernel_rfl) (by kernel_rfl) (by kernel_rfl) (by kernel_rfl)
  have h11 := @run_callFunc_extern Tryd.prog 92 _ (ReflectliteValue.method (ReflectliteValue.valueError "reflectlite.Value.Elem" 0) ReflectliteValue.elem) Tryd.func92 (by kernel_rfl) (by kernel_rfl) (by kernel_rfl) (by kernel_rfl)
  have h12 := @run_callFunc_extern Tryd.prog 93 _ ReflectliteValue.set Tryd.func93 (by kernel_rfl) (by kernel_rfl) (by kernel_rfl) (by kernel_rfl)
  have tO := asTypeOfE
  have mA := asMethodAssignableTo
  have a25 := asAssignableE
  have v25 := asValueOfE
  have f6 := asValueOfP
  have f7 := asTypeP
  have mK := asMethodKind
  have mE := asMethodElem
  have mI := asMethodImplements
  have k27 := asKindP
  have k25 := asKindE
  have e27 := asElemP
  have i25 := asImplementsE
  have n8 := asIsNilP ⟨w.heap.size, 0, none⟩ t ((w.alloc (.cells #[.pointer (some t)] 115)).alloc (.cells #[.pointer (some ⟨1, 115, none⟩), .pointer (some ⟨w.heap.size, 0, none⟩), .int .u64 150] 141)) (by simp)
  have hlt : 0 < w.heap.size := by
    rcases Nat.eq_zero_or_pos w.heap.size with h0 | h
    · simp [World.cell?, h0] at hg
    · exact h
  have hg2 : ((w.alloc (.cells #[.pointer (some t)] 115)).alloc (.cells #[.pointer (some ⟨1, 115, none⟩), .pointer (some ⟨w.heap.size, 0, none⟩), .int .u64 150] 141)).cell? ⟨0, 0, none⟩ = some (.iface 159 (.agg #[.pointer (some ⟨1, 34, none⟩)])) := by
    rw [World.cell?_alloc_lt _ _ ⟨0, 0, none⟩ (by simp), World.cell?_alloc_lt _ _ ⟨0, 0, none⟩ hlt]; exact hg
  have htl : t.block < w.heap.size := by
    rcases Nat.lt_or_ge t.block w.heap.size with h | h
    · exact h
    · simp [World.cell?, Array.getElem?_eq_none h] at ht0
  have el := asElemV ⟨w.heap.size, 0, none⟩ t (asW w t) (by unfold asW; rw [World.cell?_alloc_lt _ _ ⟨w.heap.size, 0, none⟩ (by simp; omega)]; simp)
  have st := asSetE t ⟨w.heap.size + 1 + 1 + 1, 0, none⟩ e old ((asW w t).alloc (.cells #[.int .i64 e] 73))
    (by rw [World.cell?_alloc_at _ _ _ _ (by simp [asW])]; rfl)
    (by unfold asW; rw [World.cell?_alloc_lt _ _ t (by simp; omega), World.cell?_alloc_lt _ _ t (by simp; omega), World.cell?_alloc_lt _ _ t (by simp; omega), World.cell?_alloc_lt _ _ t htl]; exact ht0)
    (by unfold asW; rw [World.frozen?_alloc_old _ _ t (by simp; omega), World.frozen?_alloc_old _ _ t (by simp; omega), World.frozen?_alloc_old _ _ t (by simp; omega), World.frozen?_alloc_old _ _ t (Nat.ne_of_lt htl)]; exact hf0)
  unfold asW at el st ⊢
  go_enter Tryd.func60, Tryd.ntmps60
  go_wp2
  refine wp_loop_rounds 1 ?_
  rw [rounds_succ]
  go_wp2
  go_ret
  exact ⟨rfl, rfl⟩
end Go.Proofs.YtacgihekdmoceaaDoor
end
section
namespace Go.Proofs.YtacgihekdmoceaaDoor
open Go.RowKit Go.Extern.Stop Go.Stop Go.Extern
set_option maxRecDepth 100000
theorem asNoAs (v : Value) (xT : TypeId) (w : World) : (Instr.typeAssert (.iface 98 v) xT 164 true).run Tryd.prog w = .ok (.tuple #[.nilIface, .bool false]) w := run_typeAssert_lacksB Tryd.underlying164 (by kernel_rfl) (by kernel_rfl) v xT w
theorem asHasUnwrap (v : Value) (xT : TypeId) (w : World) : (Instr.typeAssert (.iface 98 v) xT 167 true).run Tryd.prog w = .ok (.tuple #[.iface 98 v, .bool true]) w := run_typeAssert_hasB Tryd.underlying167 (by kernel_rfl) v xT w
theorem asMethodUnwrap (h : Value) (w : World) : (Go.method 302 98 h "Unwrap").run Tryd.prog w = .ok (115, h) w := by kernel_rfl
set_option maxHeartbeats 4000000 in
theorem as_at (e : Int) (pb po : Nat) (t : Addr) (old : Value) (w : World) (hg : w.cell? ⟨0, 0, none⟩ = some (.iface 159 (.agg #[.pointer (some ⟨1, 34, none⟩)]))) (ht0 : w.cell? t = some old) (hf0 : w.frozen? t = false) (hp : w.cell? ⟨pb, po, none⟩ = some (.int .i64 e)) :
    Calls Tryd.prog 60 #[.iface 98 (.pointer (some ⟨pb, po, none⟩)), .iface 115 (.pointer (some t))] w fun ev w' => ev = .returned (.bool true) ∧ w' = ((asW w t).alloc (.cells #[.int .i64 e] 73)).setCell t (.int .i64 e) := by
  have h6 := @run_callFunc_extern Tryd.prog 80 _ (fun args => ReflectliteValue.unpack (args.getD 0 (.tuple #[]))) Tryd.func80 (by kernel_rfl) (by kernel_rfl) (by kernel_rfl) (by kernel_rfl)
  have h7 := @run_callFunc_extern Tryd.prog 81 _ (ReflectliteValue.methodAny (ReflectliteValue.valueError "reflectlite.Value.Type" 0) (fun t _ _ _ => ReflectliteType.toType t)) Tryd.func81 (by kernel_rfl) (by kernel_rfl) (by kernel_rfl) (by kernel_rfl)
  have h8 := @run_callFunc_extern Tryd.prog 82 _ (ReflectliteValue.method (ReflectliteValue.valueError "reflectlite.Value.IsNil" 0) ReflectliteValue.isNil) Tryd.func82 (by kernel_rfl) (by kernel_rfl) (by kernel_rfl) (by kernel_rfl)
  have h27 := @run_callFunc_extern Tryd.prog 110 _ (ReflectliteType.abiMethod fun t => do pure (.int .u8 (← Rtype.kind t))) Tryd.func110 (by kernel_rfl) (by kernel_rfl) (by kernel_rfl) (by kernel_rfl)
  have h37 := @run_callFunc_extern Tryd.prog 122 _ (ReflectliteType.method ReflectliteType.elem) Tryd.func122 (by kernel_rfl) (by kernel_rfl) (by kernel_rfl) (by kernel_rfl)
  have h38 := @run_callFunc_extern Tryd.prog 123 _ (ReflectliteType.relation "Implements" ReflectliteType.implements_) Tryd.func123 (by kernel_rfl) (by kernel_rfl) (by kernel_rfl) (by kernel_rfl)
  have h10 := @run_callFunc_extern Tryd.prog 91 _ ReflectliteType.typeOf Tryd.func91 (by kernel_rfl) (by kernel_rfl) (by kernel_rfl) (by kernel_rfl)
  have h35 := @run_callFunc_extern Tryd.prog 120 _ (ReflectliteType.relation "AssignableTo" ReflectliteType.assignableTo) Tryd.func120 (by kernel_rfl) (by kernel_rfl) (by kernel_rfl) (by kernel_rfl)
  have h11 := @run_callFunc_extern Tryd.prog 92 _ (ReflectliteValue.method (ReflectliteValue.valueError "reflectlite.Value.Elem" 0) ReflectliteValue.elem) Tryd.func92 (by kernel_rfl) (by kernel_rfl) (by kernel_rfl) (by kernel_rfl)
  have h12 := @run_callFunc_extern Tryd.prog 93 _ ReflectliteValue.set Tryd.func93 (by kernel_rfl) (by kernel_rfl) (by kernel_rfl) (by kernel_rfl)
  have tO := asTypeOfE
  have tA := asTypeOfA
  have a26 := asAssignableA
  have nA := asNoAs
  have hU := asHasUnwrap
  have mU := asMethodUnwrap
  have mA := asMethodAssignableTo
  have a25 := asAssignableE
  have v25 := asValueOfE
  have f6 := asValueOfP
  have f7 := asTypeP
  have mK := asMethodKind
  have mE := asMethodElem
  have mI := asMethodImplements
  have k27 := asKindP
  have k25 := asKindE
  have e27 := asElemP
  have i25 := asImplementsE
  have n8 := asIsNilP ⟨w.heap.size, 0, none⟩ t ((w.alloc (.cells #[.pointer (some t)] 115)).alloc (.cells #[.pointer (some ⟨1, 115, none⟩), .pointer (some ⟨w.heap.size, 0, none⟩), .int .u64 150] 141)) (by simp)
  have hlt : 0 < w.heap.size := by
    rcases Nat.eq_zero_or_pos w.heap.size with h0 | h
    · simp [World.cell?, h0] at hg
    · exact h
  have hg2 : ((w.alloc (.cells #[.pointer (some t)] 115)).alloc (.cells #[.pointer (some ⟨1, 115, none⟩), .pointer (some ⟨w.heap.size, 0, none⟩), .int .u64 150] 141)).cell? ⟨0, 0, none⟩ = some (.iface 159 (.agg #[.pointer (some ⟨1, 34, none⟩)])) := by
    rw [World.cell?_alloc_lt _ _ ⟨0, 0, none⟩ (by simp), World.cell?_alloc_lt _ _ ⟨0, 0, none⟩ hlt]; exact hg
  have htl : t.block < w.heap.size := by
    rcases Nat.lt_or_ge t.block w.heap.size with h | h
    · exact h
    · simp [World.cell?, Array.getElem?_eq_none h] at ht0
  have el := asElemV ⟨w.heap.size, 0, none⟩ t (asW w t) (by unfold asW; rw [World.cell?_alloc_lt _ _ ⟨w.heap.size, 0, none⟩ (by simp; omega)]; simp)
  have st := asSetE t ⟨w.heap.size + 1 + 1 + 1, 0, none⟩ e old ((asW w t).alloc (.cells #[.int .i64 e] 73))
    (by rw [World.cell?_alloc_at _ _ _ _ (by simp [asW])]; rfl)
    (by unfold asW; rw [World.cell?_alloc_lt _ _ t (by simp; omega), World.cell?_alloc_lt _ _ t (by simp; omega), World.cell?_alloc_lt _ _ t (by simp; omega), World.cell?_alloc_lt _ _ t htl]; exact ht0)
    (by unfold asW; rw [World.frozen?_alloc_old _ _ t (by simp; omega), World.frozen?_alloc_old _ _ t (by simp; omega), World.frozen?_alloc_old _ _ t (by simp; omega), World.frozen?_alloc_old _ _ t (Nat.ne_of_lt htl)]; exact hf0)
  have hpl : pb < w.heap.size := by
    rcases Nat.lt_or_ge pb w.heap.size with h | h
    · exact h
    · simp [World.cell?, Array.getElem?_eq_none h] at hp
  have hp2 : (asW w t).cell? ⟨pb, po, none⟩ = some (.int .i64 e) := by
    unfold asW; rw [World.cell?_alloc_lt _ _ ⟨pb, po, none⟩ (by simp; omega), World.cell?_alloc_lt _ _ ⟨pb, po, none⟩ (by simp; omega), World.cell?_alloc_lt _ _ ⟨pb, po, none⟩ hpl]; exact hp
  unfold asW at el st hp2 ⊢
  go_enter Tryd.func60, Tryd.ntmps60
  go_wp2
  refine wp_loop_rounds 2 ?_
  rw [rounds_succ]
  go_wp2
  rw [rounds_succ]
  go_wp2
  go_ret
  exact ⟨rfl, rfl⟩
end Go.Proofs.YtacgihekdmoceaaDoor
end
section
namespace Go.Proofs.YtacgihekdmoceaaDoor
open Go.RowKit
set_option linter.unusedVariables false

/-- Of the blocks that were there only those of S may have turned. -/
structure Kept (S : Nat → Prop) (w w' : World) : Prop where
  os : w'.os = w.os
  tape : w'.tape = w.tape
  output : w'.output = w.output
  size : w.heap.size ≤ w'.heap.size
  block : ∀ k, k < w.heap.size → ¬ S k → w'.heap[k]? = w.heap[k]?

namespace Kept
variable {S S' : Nat → Prop} {a b c w w' : World}
theorem refl (S : Nat → Prop) (w : World) : Kept S w w := ⟨rfl, rfl, rfl, Nat.le_refl _, fun _ _ _ => rfl⟩
theorem trans (h : Kept S a b) (k : Kept S b c) : Kept S a c :=
  ⟨k.os.trans h.os, k.tape.trans h.tape, k.output.trans h.output, Nat.le_trans h.size k.size, fun i hi hs => (k.block i (Nat.lt_of_lt_of_le hi h.size) hs).trans (h.block i hi hs)⟩
theorem mono (h : Kept S a b) (hs : ∀ k, S k → S' k) : Kept S' a b := ⟨h.os, h.tape, h.output, h.size, fun k hk hn => h.block k hk (fun x => hn (hs k x))⟩
theorem alloc (h : Kept S a b) (o : Obj) : Kept S a (b.alloc o) :=
  h.trans ⟨rfl, rfl, rfl, by simp, fun k hk _ => Below.heap_alloc _ _ _ hk⟩
theorem setCell (h : Kept S a b) {p : Addr} (hp : S p.block ∨ a.heap.size ≤ p.block) (v : Value) : Kept S a (b.setCell p v) :=
  ⟨h.os, h.tape, h.output, by simp [World.setCell]; exact h.size, fun k hk hn => by
    have : k ≠ p.block := by rintro rfl; rcases hp with hp | hp; exact hn hp; omega
    rw [Below.heap_setCell _ _ _ _ this]; exact h.block k hk hn⟩
theorem own {k : Nat} (h : Kept (· = k) a b) (o : Nat) (v : Value) : Kept (· = k) a (b.setCell ⟨k, o, none⟩ v) := h.setCell (.inl rfl) v
theorem drew (h : Kept S a b) : Kept S a b.drew := ⟨h.os, h.tape, h.output, h.size, h.block⟩
theorem of_below (h : Below a.heap.size a b) : Kept S a b := ⟨h.os, h.tape, h.output, h.size, fun k hk _ => h.block k hk⟩
theorem below (h : Kept S a b) {B : Nat} (hB : B ≤ a.heap.size) (hS : ∀ k, S k → B ≤ k) : Below B a b :=
  ⟨h.os, h.tape, h.output, h.size, fun k hk => h.block k (by omega) (fun x => by have := hS k x; omega)⟩
theorem cell (h : Kept S a b) {k o : Nat} (hk : k < a.heap.size) (hn : ¬ S k) : b.cell? ⟨k, o, none⟩ = a.cell? ⟨k, o, none⟩ :=
  World.cell?_of_block (w := a) (h.block k hk hn)
theorem frozen (h : Kept S a b) {k o : Nat} (hk : k < a.heap.size) (hn : ¬ S k) : b.frozen? ⟨k, o, none⟩ = a.frozen? ⟨k, o, none⟩ :=
  World.frozen?_of_block (w := a) (h.block k hk hn)
end Kept
/-- Block b is a row of cells, none of them frozen. -/
def Blk (w : World) (b : Nat) (C : List Value) (t : TypeId) : Prop := w.heap[b]? = some (.cells C.toArray t (0, 0))
namespace Blk
variable {w w' : World} {b : Nat} {C : List Value} {t : TypeId}
theorem lt (h : Blk w b C t) : b < w.heap.size := (Array.getElem?_eq_some_iff.1 h).1
theorem cell (h : Blk w b C t) (i : Nat) : w.cell? ⟨b, i, none⟩ = C[i]? := by unfold Blk at h; simp [World.cell?, h]
theorem frozen (h : Blk w b C t) (i : Nat) : w.frozen? ⟨b, i, none⟩ = false := by unfold Blk at h; simp [World.frozen?, h]
theorem kept {S : Nat → Prop} (h : Blk w b C t) (k : Kept S w w') (hn : ¬ S b) : Blk w' b C t := (k.block b h.lt hn).trans h
theorem below (h : Blk w b C t) (k : Below w.heap.size w w') : Blk w' b C t := (k.block b h.lt).trans h
theorem belowB {B : Nat} (h : Blk w b C t) (k : Below B w w') (hb : b < B) : Blk w' b C t := (k.block b hb).trans h
theorem alloc (h : Blk w b C t) (o : Obj) : Blk (w.alloc o) b C t := (Below.heap_alloc _ _ _ h.lt).trans h
theorem other (h : Blk w b C t) {p : Addr} (v : Value) (hp : b ≠ p.block) : Blk (w.setCell p v) b C t := (Below.heap_setCell _ _ _ _ hp).trans h
theorem set (h : Blk w b C t) (i : Nat) (v : Value) : Blk (w.setCell ⟨b, i, none⟩ v) b (C.set i v) t := by
  unfold Blk at h ⊢
  simp [World.setCell, Array.getElem?_modify, h]
theorem new (w : World) (C : List Value) (t : TypeId) : Blk (w.alloc (.cells C.toArray t)) w.heap.size C t := by
  show (w.heap.push _)[w.heap.size]? = _
  simp
end Blk
theorem cell_setCell_ne (w : World) {p : Addr} {b o : Nat} (h : b ≠ p.block) (v : Value) : (w.setCell p v).cell? ⟨b, o, none⟩ = w.cell? ⟨b, o, none⟩ :=
  World.cell?_of_block (w := w) (Below.heap_setCell _ _ _ _ h)
def spl (C : List Value) (o : Nat) (vs : List Value) : List Value := C.take o ++ vs ++ C.drop (o + vs.length)
theorem spl_length (C : List Value) (o : Nat) (vs : List Value) (h : o + vs.length ≤ C.length) : (spl C o vs).length = C.length := by
  unfold spl; simp; omega
/-- The world in which block b holds the cells C. -/
def setBlk (w : World) (b : Nat) (C : List Value) : World := w.setRow b C.toArray
theorem Blk.setBlk {w : World} {b : Nat} {C : List Value} {t : TypeId} (h : Blk w b C t) (C' : List Value) : Blk (setBlk w b C') b C' t := by
  unfold Blk at h ⊢
  unfold Proofs.YtacgihekdmoceaaDoor.setBlk World.setRow
  simp [Array.getElem?_modify, h]
theorem setBlk_heap (w : World) (b : Nat) (C : List Value) (k : Nat) (h : k ≠ b) : (setBlk w b C).heap[k]? = w.heap[k]? := by
  unfold setBlk World.setRow
  simp only [Array.getElem?_modify]
  rw [if_neg (by omega)]
theorem setBlk_size (w : World) (b : Nat) (C : List Value) : (setBlk w b C).heap.size = w.heap.size := by
  unfold setBlk World.setRow; simp
theorem Kept.setBlk (w : World) (b : Nat) (C : List Value) : Kept (· = b) w (setBlk w b C) :=
  ⟨rfl, rfl, rfl, by rw [setBlk_size]; exact Nat.le_refl _, fun k _ hn => setBlk_heap w b C k hn⟩

section
variable {P : Program}
theorem run_loadVar_part (w : World) (b : Nat) (C : List Value) (t ty : TypeId) (o n : Nat) (d : TypeDesc) (hB : Blk w b C t) (hfit : o + n ≤ C.length)
    (hu : P.underlying ty = some d) (hd : (match d with | .struct _ | .array _ _ => true | _ => false) = true) (hi : (P.info? ty).map (·.size) = some n) :
    (loadVar ty ⟨b, o, none⟩).run P w = .ok (.agg ((C.drop o).take n).toArray) w := by
  have hlen : ((C.drop o).take n).length = n := by simp; omega
  have hl := run_loadCells_list (P := P) w ⟨b, o, none⟩ ((C.drop o).take n) (fun j v hv => by
    have hadd : (⟨b, o, none⟩ : Addr).add j = ⟨b, o + j, none⟩ := by unfold Addr.add; split <;> simp_all
    have hj : j < n := by
      rcases Nat.lt_or_ge j n with h | h
      · exact h
      · rw [List.getElem?_eq_none (by omega)] at hv; cases hv
    rw [hadd, hB.cell (o + j)]
    rw [List.getElem?_take, if_pos hj, List.getElem?_drop] at hv
    exact hv)
  rw [hlen] at hl
  cases hq : P.info? ty with
  | none => simp [hq] at hi
  | some i =>
    have hs : i.size = n := by simpa [hq] using hi
    have hagg : (isAgg ty).run P w = .ok true w := by
      unfold isAgg
      rw [Sem.run_bind, run_underlying hu w]
      cases d <;> simp_all
    simp [loadVar, Sem.run_bind, hagg, sizeOf, typeInfo, hq, hs, hl]
theorem run_storeVar_part (w : World) (b : Nat) (C : List Value) (t ty : TypeId) (o n : Nat) (vs : List Value) (hB : Blk w b C t) (hn : vs.length = n) (hfit : o + n ≤ C.length)
    (hi : (P.info? ty).map (·.size) = some n) (h1 : ∀ v ∈ vs, v.oneCell' = true) :
    (storeVar ty ⟨b, o, none⟩ (.agg vs.toArray)).run P w = .ok () (setBlk w b (spl C o vs)) := by
  have hst := run_storeCells_at P b o t vs 0 C.toArray w hB (by simpa [hn] using hfit) h1
  cases hq : P.info? ty with
  | none => simp [hq] at hi
  | some i =>
    have hs : i.size = n := by simpa [hq] using hi
    simp only [Nat.add_zero] at hst
    simp [storeVar, sizeOf, typeInfo, hq, Value.cells, hs, hn, hst, setBlk, spl]
end
/-- Element j's cell i is the number f j i, of kind ks i; n cells each. -/
def Rws (n : Nat) (ks : Nat → IntKind) (w : World) (a : Option Addr) (len cap : Nat) (f : Nat → Nat → Int) : Prop :=
  len ≤ cap ∧ cap ≤ 9223372036854775807 ∧ (len = 0 ∨ ∃ b off, a = some ⟨b, off, none⟩ ∧ b < w.heap.size ∧ ∀ j, j < len → ∀ i, i < n →
    w.cell? ⟨b, off + j * n + i, none⟩ = some (.int (ks i) (f j i)) ∧ True)
theorem Rws.below {n : Nat} {ks : Nat → IntKind} {w w' : World} {a : Option Addr} {len cap : Nat} {f : Nat → Nat → Int} (h : Rws n ks w a len cap f) (k : Below w.heap.size w w') : Rws n ks w' a len cap f := by
  obtain ⟨h1, h2, h3⟩ := h
  refine ⟨h1, h2, ?_⟩
  rcases h3 with h3 | ⟨b, off, rfl, hb, hc⟩
  · exact .inl h3
  · refine .inr ⟨b, off, rfl, Nat.lt_of_lt_of_le hb k.size, fun j hj i hi => ?_⟩
    obtain ⟨c, d⟩ := hc j hj i hi
    exact ⟨by rw [k.cell (p := ⟨b, off + j * n + i, none⟩) hb]; exact c, d⟩
theorem Rws.take {n : Nat} {ks : Nat → IntKind} {w : World} {a : Option Addr} {len cap : Nat} {f : Nat → Nat → Int} (h : Rws n ks w a len cap f) (m : Nat) (hm : m ≤ len) : Rws n ks w a m cap f := by
  obtain ⟨h1, h2, h3⟩ := h
  refine ⟨by omega, h2, ?_⟩
  rcases h3 with h3 | ⟨b, off, rfl, hb, hc⟩
  · exact .inl (by omega)
  · exact .inr ⟨b, off, rfl, hb, fun j hj => hc j (by omega)⟩
theorem Rws.at {n : Nat} {ks : Nat → IntKind} {w : World} {a : Option Addr} {len cap : Nat} {f : Nat → Nat → Int} (h : Rws n ks w a len cap f) (j : Nat) (hj : j < len) :
    ∃ b off, a = some ⟨b, off, none⟩ ∧ b < w.heap.size ∧ ∀ i, i < n → w.cell? ⟨b, off + j * n + i, none⟩ = some (.int (ks i) (f j i)) ∧ True := by
  obtain ⟨-, -, h3⟩ := h
  rcases h3 with h3 | ⟨b, off, rfl, hb, hc⟩
  · omega
  · exact ⟨b, off, rfl, hb, hc j hj⟩
/-- What lies in memory from the beginning can still be read. -/
def OldOk (V w0 : World) (S : Nat → Prop) : Prop := ∀ sz ks a m c z w, Rws sz ks V a m c z → Kept S w0 w → Rws sz ks w a m c z
theorem OldOk.self (w : World) : OldOk w w (fun _ => False) := fun sz ks a m c z w' h k => h.below (k.below (Nat.le_refl _) (fun _ h => h.elim))
end Go.Proofs.YtacgihekdmoceaaDoor
end
section
namespace Go.Proofs.YtacgihekdmoceaaDoor
open Go.RowKit
set_option linter.unusedVariables false
/-- A thing of which only a word about memory is known, and which blocks it lies in. -/
structure Abs where
  hold : Nat → List Nat → World → Prop
  lt : ∀ b F w, hold b F w → ∀ g ∈ F, g < w.heap.size
  keep : ∀ b F w w', hold b F w → w.heap.size ≤ w'.heap.size → (∀ g ∈ F, w'.heap[g]? = w.heap[g]?) → hold b F w'
inductive En where
  | blk (b : Nat) (C : List Value) (t : TypeId)
  | row (b : Nat) (t : TypeId) (sz n c : Nat) (xs : List Value)
  | obj (b : Nat) (o : Obj)
  | abs (b : Nat) (A : Abs) (F : List Nat)
/-- The first n rows of a slice's array; a slice with no room has no array. -/
def RowAt (w : World) (b : Nat) (t : TypeId) (sz n c : Nat) (xs : List Value) : Prop :=
  n ≤ c ∧ xs.length = n * sz ∧ (0 < c → ∃ C, Blk w b C t ∧ C.length = c * sz ∧ C.take (n * sz) = xs ∧ c ≤ maxLen)
def En.at : En → World → Prop
  | .blk b C t, w => Blk w b C t
  | .row b t sz n c xs, w => RowAt w b t sz n c xs
  | .obj b o, w => w.heap[b]? = some o
  | .abs b A F, w => A.hold b F w
def En.foot : En → Nat → Prop
  | .blk b _ _, g => b = g
  | .row b _ _ _ c _, g => 0 < c ∧ b = g
  | .obj b _, g => b = g
  | .abs _ _ F, g => g ∈ F
def Apart (e f : En) : Prop := ∀ g, e.foot g → ¬ f.foot g
theorem Apart.symm {e f : En} (h : Apart e f) : Apart f e := fun g hf he => h g he hf
def feet (L : List En) (g : Nat) : Prop := ∃ e ∈ L, e.foot g
structure Mem (w0 : World) (S : Nat → Prop) (M : List En) (w : World) : Prop where
  kept : Kept S w0 w
  holds : ∀ e ∈ M, e.at w
  own : ∀ e ∈ M, ∀ g, e.foot g → S g ∨ w0.heap.size ≤ g
  dist : M.Pairwise Apart
theorem En.at.keeps {w w' : World} {e : En} (h : e.at w) (hs : w.heap.size ≤ w'.heap.size) (hb : ∀ g, e.foot g → w'.heap[g]? = w.heap[g]?) : e.at w' := by
  cases e with
  | blk b C t => exact (hb b rfl).trans h
  | row b t sz n c xs =>
    exact ⟨h.1, h.2.1, fun hc => let ⟨C, h1, h2⟩ := h.2.2 hc; ⟨C, (hb b ⟨hc, rfl⟩).trans h1, h2⟩⟩
  | obj b o => exact (hb b rfl).trans h
  | abs b A F => exact A.keep b F w w' h hs (fun g hg => hb g hg)
theorem En.at.lt {w : World} {e : En} (h : e.at w) {g : Nat} (hg : e.foot g) : g < w.heap.size := by
  cases e with
  | blk b C t => obtain rfl : b = g := hg
                 exact Blk.lt h
  | row b t sz n c xs =>
    obtain ⟨hc, rfl⟩ := hg
    obtain ⟨C, h1, h2⟩ := h.2.2 hc
    exact Blk.lt h1
  | obj b o =>
    obtain rfl : b = g := hg
    exact (Array.getElem?_eq_some_iff.1 h).1
  | abs b A F => exact A.lt b F w h g hg
theorem En.at.kept {w w' : World} {S : Nat → Prop} {e : En} (h : e.at w) (k : Kept S w w') (hn : ∀ g, e.foot g → ¬ S g) : e.at w' :=
  h.keeps k.size (fun g hg => k.block g (h.lt hg) (hn g hg))
namespace Mem
variable {w0 w w' : World} {S : Nat → Prop} {M L L' E : List En}
theorem start (w : World) : Mem w (fun _ => False) [] w := ⟨Kept.refl _ _, by simp, by simp, List.Pairwise.nil⟩
theorem below (h : Mem w0 (fun _ => False) M w) : Below w0.heap.size w0 w := h.kept.below (Nat.le_refl _) (fun _ h => h.elim)
theorem size (h : Mem w0 S M w) : w0.heap.size ≤ w.heap.size := h.kept.size
theorem perm {M' : List En} (h : Mem w0 S M w) (p : M.Perm M') : Mem w0 S M' w :=
  ⟨h.kept, fun e he => h.holds e (p.symm.subset he), fun e he => h.own e (p.symm.subset he), p.pairwise h.dist (fun hh => hh.symm)⟩
theorem sub (h : Mem w0 S M w) {M' : List En} (hs : M'.Sublist M) : Mem w0 S M' w :=
  ⟨h.kept, fun e he => h.holds e (hs.subset he), fun e he => h.own e (hs.subset he), h.dist.sublist hs⟩
/-- Seen from here on. -/
theorem self (h : Mem w0 S M w) : Mem w (feet M) M w := ⟨Kept.refl _ _, h.holds, fun e he g hg => .inl ⟨e, he, hg⟩, h.dist⟩
theorem subset (h : Mem w0 S M w) {S' : Nat → Prop} (hs : ∀ g, S g → S' g) : Mem w0 S' M w :=
  ⟨h.kept.mono hs, h.holds, fun e he g hg => (h.own e he g hg).imp (hs g) id, h.dist⟩
/-- Some of it was turned; all else is as it was. -/
theorem swap (h : Mem w0 S M w) (p : M.Perm (L ++ E)) (k : Mem w (feet L) L' w') : Mem w0 S (L' ++ E) w' := by
  have h := h.perm p
  have hd := List.pairwise_append.1 h.dist
  have hfS : ∀ g, feet L g → S g ∨ w0.heap.size ≤ g := fun g ⟨e, he, hg⟩ => h.own e (List.mem_append_left _ he) g hg
  refine ⟨⟨k.kept.os.trans h.kept.os, k.kept.tape.trans h.kept.tape, k.kept.output.trans h.kept.output, Nat.le_trans h.kept.size k.kept.size, fun i hi hn => ?_⟩, fun e he => ?_, fun e he g hg => ?_, List.pairwise_append.2 ⟨k.dist, hd.2.1, fun e he f hf g hg hfg => ?_⟩⟩
  · rw [k.kept.block i (Nat.lt_of_lt_of_le hi h.kept.size) (fun hl => by rcases hfS i hl with h1 | h1; exact hn h1; omega)]
    exact h.kept.block i hi hn
  · rcases List.mem_append.1 he with he | he
    · exact k.holds e he
    · exact (h.holds e (List.mem_append_right _ he)).kept k.kept (fun g hg ⟨f, hf, hfg⟩ => hd.2.2 f hf e he g hfg hg)
  · rcases List.mem_append.1 he with he | he
    · rcases k.own e he g hg with h1 | h1
      · exact hfS g h1
      · exact .inr (Nat.le_trans h.kept.size h1)
    · exact h.own e (List.mem_append_right _ he) g hg
  · rcases k.own e he g hg with ⟨f', hf', hfg'⟩ | h1
    · exact hd.2.2 f' hf' f hf g hfg' hfg
    · have := (h.holds f (List.mem_append_right _ hf)).lt hfg
      omega
theorem drew (h : Mem w0 S M w) : Mem w0 S M w.drew := ⟨h.kept.drew, fun e he => (h.holds e he).keeps (Nat.le_refl _) (fun _ _ => rfl), h.own, h.dist⟩
/-- Something new. -/
theorem fresh (h : Mem w0 S M w) (k : Mem w (fun _ => False) L' w') : Mem w0 S (L' ++ M) w' :=
  h.swap (L := []) (List.Perm.refl _) (k.subset (fun _ h => h.elim))
theorem call (h : Mem w0 S M w) (k : Below w.heap.size w w') : Mem w0 S M w' :=
  h.fresh (L' := []) ⟨Kept.of_below k, by simp, by simp, List.Pairwise.nil⟩
end Mem
theorem Mem.one {w w' : World} {S : Nat → Prop} {e : En} (k : Kept S w w') (he : e.at w') (hf : ∀ g, e.foot g → S g ∨ w.heap.size ≤ g) : Mem w S [e] w' :=
  ⟨k, fun x hx => by rw [List.mem_singleton] at hx; subst hx; exact he, fun x hx => by rw [List.mem_singleton] at hx; subst hx; exact hf, List.pairwise_singleton _ _⟩
theorem Mem.alloc (w : World) (C : List Value) (t : TypeId) : Mem w (fun _ => False) [.blk w.heap.size C t] (w.alloc (.cells C.toArray t)) :=
  .one ((Kept.refl _ w).alloc _) (Blk.new w C t) (fun g hg => .inr (Nat.le_of_eq hg))
def scalarB (P : Program) (ty : TypeId) : Bool := match P.underlying ty with
  | some (.struct _) | some (.array _ _) | none => false
  | _ => true
def oneB (P : Program) (ty : TypeId) : Bool := (P.info? ty).map (·.size) == some 1
section
variable {P : Program} {w : World}
theorem run_isAgg_false (ty : TypeId) (h : scalarB P ty = true) : (isAgg ty).run P w = .ok false w := by
  unfold scalarB at h
  cases hu : P.underlying ty with
  | none => rw [hu] at h; cases h
  | some d =>
    rw [hu] at h
    unfold isAgg
    rw [Sem.run_bind, run_underlying hu w]
    cases d <;> simp_all
theorem run_loadVar_cell (ty : TypeId) (h : scalarB P ty = true) (p : Addr) (v : Value) (hc : w.cell? p = some v) : (loadVar ty p).run P w = .ok v w := by
  simp [loadVar, Sem.run_bind, run_isAgg_false ty h, load, Sem.run, hc]
theorem run_storeVar_cell (ty : TypeId) (h : oneB P ty = true) (p : Addr) (v u : Value) (h1 : v.oneCell' = true) (hc : w.cell? p = some u) (hf : w.frozen? p = false) : (storeVar ty p v).run P w = .ok () (w.setCell p v) := by
  unfold oneB at h
  cases hq : P.info? ty with
  | none => rw [hq] at h; cases h
  | some i =>
    have hs : i.size = 1 := by rw [hq] at h; simpa using h
    have hcs : v.cells = #[v] := by cases v <;> simp_all [Value.cells, Value.oneCell']
    have hadd : p.add 0 = p := rfl
    cases v <;> simp_all [storeVar, sizeOf, typeInfo, Value.cells, storeCells, store, Sem.run, Value.oneCell', Sem.run_bind]
end
end Go.Proofs.YtacgihekdmoceaaDoor
end
section
namespace Go.Proofs.YtacgihekdmoceaaDoor
open Go.RowKit
set_option linter.unusedVariables false
/-- What a run of cells holds: numbers of a kind, or truth values (1 and 0). -/
inductive CK where
  | int (k : IntKind)
  | bool
def mkV : CK → Int → Value
  | .int k, z => .int k z
  | .bool, z => .bool (!(z == 0))
theorem mkV_one (k : CK) (z : Int) : (mkV k z).oneCell' = true := by cases k <;> rfl
def ikN : IntKind → Nat
  | .i8 => 0 | .i16 => 1 | .i32 => 2 | .i64 => 3 | .u8 => 4 | .u16 => 5 | .u32 => 6 | .u64 => 7
theorem ikN_inj {a b : IntKind} (h : (ikN a).beq (ikN b) = true) : a = b := by
  cases a <;> cases b <;> first | rfl | (revert h; decide)
def ckN : CK → Nat
  | .int k => ikN k
  | .bool => 8
theorem ckN_inj {a b : CK} (h : (ckN a).beq (ckN b) = true) : a = b := by
  cases a with
  | bool => cases b with
    | bool => rfl
    | int k => cases k <;> exact absurd h (by decide)
  | int k => cases b with
    | bool => cases k <;> exact absurd h (by decide)
    | int k' => rw [ikN_inj h]
/-- The number that stands for a value in such a run. -/
def valI : CK → Value → Option Int
  | .int k, .int k' z => bif (ikN k).beq (ikN k') then some z else none
  | .bool, .bool b => some (bif b then 1 else 0)
  | _, _ => none
theorem valI_mk {k : CK} {v : Value} {z : Int} (h : valI k v = some z) : mkV k z = v := by
  unfold valI at h
  split at h
  · rename_i k k' y
    cases hk : (ikN k).beq (ikN k')
    · rw [hk] at h; cases h
    · rw [hk] at h
      have := ikN_inj hk
      subst this
      simp only [cond_true, Option.some.injEq] at h; subst h; rfl
  · rename_i b
    simp only [Option.some.injEq] at h; subst h
    cases b <;> rfl
  · cases h
/-- One cell: a value, or an address in a block that goes by a number of our own. -/
inductive SC where
  | v (x : Value)
  | p (b off : Nat)
  | e (b off ix : Nat)
  | s (b off n c : Nat)
  | i (t b off : Nat)
  | r (a : Option Addr) (n c m sz : Nat) (ks : Nat → IntKind) (z : Nat → Nat → Int)
  | re (a : Option Addr) (c m sz : Nat) (ks : Nat → IntKind) (z : Nat → Nat → Int) (i f : Nat)
  | o (b n c : Nat)
  | er (b sz ix f : Nat)
  | so (b lo sz n c : Nat) (nn : Bool)
  | fn (f : FuncId) (cs : List (Nat × Nat))
  | m (b : Nat)
def elemAddr (a : Option Addr) (o : Nat) : Option Addr := match a with
  | some p => some ⟨p.block, p.off + o, none⟩
  | none => none
def SC.den (ρ : Nat → Nat) : SC → Value
  | .v x => x
  | .p b off => .pointer (some ⟨ρ b, off, none⟩)
  | .e b off ix => .pointer (some ⟨ρ b, off + ix, none⟩)
  | .s b off n c => .slice (some ⟨ρ b, off, none⟩) n c
  | .i t b off => .iface t (.pointer (some ⟨ρ b, off, none⟩))
  | .r a n c _ _ _ _ => .slice a n c
  | .re a _ _ sz _ _ j g => .pointer (elemAddr a (j * sz + g))
  | .o b n c => bif c.beq 0 then .slice none 0 0 else .slice (some ⟨ρ b, 0, none⟩) n c
  | .er b sz ix f => .pointer (some ⟨ρ b, ix * sz + f, none⟩)
  | .so b lo sz n c nn => bif c.beq 0 && !nn then .slice none 0 0 else .slice (some ⟨ρ b, bif (c - lo).beq 0 then 0 else lo * sz, none⟩) n (c - lo)
  | .fn f cs => .func (.func f) #[] (cs.map fun p => .pointer (some ⟨ρ p.1, p.2, none⟩)).toArray
  | .m b => .map (some (ρ b))
def SC.ok : SC → Bool
  | .v x => x.oneCell'
  | _ => true
theorem SC.ok_den {x : SC} (h : x.ok = true) (ρ : Nat → Nat) : (x.den ρ).oneCell' = true := by
  cases x with
  | v x => exact h
  | o b n c => simp only [SC.den]; cases c.beq 0 <;> rfl
  | so b lo sz n c nn => simp only [SC.den]; cases (c.beq 0 && !nn) <;> rfl
  | _ => rfl
inductive Seg where
  | one (x : SC)
  | ints (k : CK) (n : Nat) (f : Nat → Int)
def Seg.len : Seg → Nat
  | .one _ => 1
  | .ints _ n _ => n
def Seg.ok : Seg → Bool
  | .one x => x.ok
  | .ints _ _ _ => true
def Seg.den (ρ : Nat → Nat) : Seg → List Value
  | .one x => [x.den ρ]
  | .ints k n f => (List.range n).map fun i => mkV k (f i)
def segsDen (ρ : Nat → Nat) : List Seg → List Value
  | [] => []
  | s :: r => s.den ρ ++ segsDen ρ r
def segsLen : List Seg → Nat
  | [] => 0
  | s :: r => s.len + segsLen r
def segsOk : List Seg → Bool
  | [] => true
  | s :: r => s.ok && segsOk r
theorem Seg.den_len (ρ : Nat → Nat) (s : Seg) : (s.den ρ).length = s.len := by cases s <;> simp [Seg.den, Seg.len]
theorem segsDen_len (ρ : Nat → Nat) (l : List Seg) : (segsDen ρ l).length = segsLen l := by
  induction l with
  | nil => rfl
  | cons s r ih => simp [segsDen, segsLen, ih, Seg.den_len]
theorem segsDen_append (ρ : Nat → Nat) (l m : List Seg) : segsDen ρ (l ++ m) = segsDen ρ l ++ segsDen ρ m := by
  induction l with
  | nil => rfl
  | cons s r ih => simp [segsDen, ih]
theorem segsLen_append (l m : List Seg) : segsLen (l ++ m) = segsLen l + segsLen m := by
  induction l with
  | nil => simp [segsLen]
  | cons s r ih => simp [segsLen, ih]; omega
theorem segsOk_append (l m : List Seg) : segsOk (l ++ m) = (segsOk l && segsOk m) := by
  induction l with
  | nil => simp [segsOk]
  | cons s r ih => simp [segsOk, ih, Bool.and_assoc]
theorem segsDen_one {ρ : Nat → Nat} : ∀ {l : List Seg}, segsOk l = true → ∀ v ∈ segsDen ρ l, v.oneCell' = true
  | [], _, v, hv => by simp [segsDen] at hv
  | s :: r, h, v, hv => by
    simp only [segsOk, Bool.and_eq_true] at h
    simp only [segsDen, List.mem_append] at hv
    rcases hv with hv | hv
    · cases s with
      | one x => simp only [Seg.den, List.mem_singleton] at hv; subst hv; exact SC.ok_den h.1 ρ
      | ints k n f =>
        simp only [Seg.den, List.mem_map] at hv
        obtain ⟨i, -, rfl⟩ := hv; exact mkV_one _ _
    · exact segsDen_one h.2 v hv
def upd (f : Nat → Int) (o : Nat) (z : Int) : Nat → Int := fun i => bif i.beq o then z else f i
/-- The cell at a place. -/
def segGet : List Seg → Nat → Option SC
  | [], _ => none
  | .one x :: _, 0 => some x
  | .one _ :: r, o + 1 => segGet r o
  | .ints k n f :: r, o => bif o.blt n then some (.v (mkV k (f o))) else segGet r (o - n)
theorem blt_t {a b : Nat} (h : a.blt b = true) : a < b := by simpa [Nat.blt_eq] using h
theorem blt_f {a b : Nat} (h : a.blt b = false) : b ≤ a := by
  rcases Nat.lt_or_ge a b with h1 | h1
  · rw [show a.blt b = true by simpa [Nat.blt_eq] using h1] at h; cases h
  · exact h1
theorem ble_t {a b : Nat} (h : a.ble b = true) : a ≤ b := Nat.le_of_ble_eq_true h
theorem ble_f {a b : Nat} (h : a.ble b = false) : b < a := by
  rcases Nat.lt_or_ge b a with h1 | h1
  · exact h1
  · rw [Nat.ble_eq_true_of_le h1] at h; cases h
theorem nbeq {a b : Nat} (h : a ≠ b) : a.beq b = false := by
  cases hb : a.beq b
  · rfl
  · exact absurd (Nat.eq_of_beq_eq_true hb) h
theorem blt_tt {a b : Nat} (h : a < b) : a.blt b = true := by simpa [Nat.blt_eq] using h
theorem blt_ff {a b : Nat} (h : b ≤ a) : a.blt b = false := by
  cases hb : a.blt b
  · rfl
  · have := blt_t hb; omega
theorem ble_tt {a b : Nat} (h : a ≤ b) : a.ble b = true := Nat.ble_eq_true_of_le h
theorem ble_ff {a b : Nat} (h : b < a) : a.ble b = false := by
  cases hb : a.ble b
  · rfl
  · have := ble_t hb; omega
theorem ints_get (k : CK) (n : Nat) (f : Nat → Int) (i : Nat) (h : i < n) : ((List.range n).map fun i => mkV k (f i))[i]? = some (mkV k (f i)) := by
  simp [List.getElem?_map, List.getElem?_range h]
theorem segGet_den (ρ : Nat → Nat) : ∀ (l : List Seg) (o : Nat) (x : SC), segGet l o = some x → (segsDen ρ l)[o]? = some (x.den ρ)
  | [], _, _, h => by simp [segGet] at h
  | .one y :: r, 0, x, h => by
    simp only [segGet, Option.some.injEq] at h; subst h; rfl
  | .one y :: r, o + 1, x, h => by
    simp only [segGet] at h
    simpa [segsDen, Seg.den] using segGet_den ρ r o x h
  | .ints k n f :: r, o, x, h => by
    simp only [segGet] at h
    simp only [segsDen, Seg.den]
    cases hb : o.blt n
    · rw [hb] at h
      have h1 := blt_f hb
      have := segGet_den ρ r (o - n) x h
      rw [List.getElem?_append_right (by simpa using h1)]
      simpa using this
    · rw [hb] at h
      have h1 := blt_t hb
      simp only [cond_true, Option.some.injEq] at h; subst h
      rw [List.getElem?_append_left (by simpa using h1), ints_get _ _ _ _ h1]; rfl
/-- The run of numbers that begins at a place. -/
def segInts : List Seg → Nat → Option (CK × Nat × (Nat → Int))
  | [], _ => none
  | .one _ :: _, 0 => none
  | .one _ :: r, o + 1 => segInts r o
  | .ints k n f :: r, o => bif o.beq 0 then some (k, n, f) else bif n.ble o then segInts r (o - n) else none
theorem segInts_den (ρ : Nat → Nat) : ∀ (l : List Seg) (o : Nat) (k : CK) (n : Nat) (f : Nat → Int), segInts l o = some (k, n, f) → ∀ i, i < n → (segsDen ρ l)[o + i]? = some (mkV k (f i))
  | [], _, _, _, _, h => by simp [segInts] at h
  | .one y :: r, 0, _, _, _, h => by simp [segInts] at h
  | .one y :: r, o + 1, k, n, f, h => by
    intro i hi
    simp only [segInts] at h
    have := segInts_den ρ r o k n f h i hi
    rw [show o + 1 + i = (o + i) + 1 by omega]
    simpa [segsDen, Seg.den] using this
  | .ints k' n' f' :: r, o, k, n, f, h => by
    intro i hi
    simp only [segInts] at h
    simp only [segsDen, Seg.den]
    cases hb : o.beq 0
    · rw [hb] at h
      simp only [cond_false] at h
      cases hc : n'.ble o
      · rw [hc] at h; simp at h
      · rw [hc] at h
        have h1 := ble_t hc
        have := segInts_den ρ r (o - n') k n f h i hi
        rw [List.getElem?_append_right (by simp; omega)]
        rw [List.length_map, List.length_range, show o + i - n' = o - n' + i by omega]; exact this
    · rw [hb] at h
      have : o = 0 := Nat.eq_of_beq_eq_true hb
      subst this
      simp only [cond_true, Option.some.injEq, Prod.mk.injEq] at h
      obtain ⟨rfl, rfl, rfl⟩ := h
      rw [Nat.zero_add, List.getElem?_append_left (by simpa using hi), ints_get _ _ _ _ hi]
/-- A cell is written. -/
def segSet : List Seg → Nat → SC → Option (List Seg)
  | [], _, _ => none
  | .one _ :: r, 0, x => some (.one x :: r)
  | .one y :: r, o + 1, x => match segSet r o x with
    | some r' => some (.one y :: r')
    | none => none
  | .ints k n f :: r, o, x => bif o.blt n then (match x with
      | .v u => (match valI k u with
        | some z => some (.ints k n (upd f o z) :: r)
        | none => none)
      | _ => none)
    else match segSet r (o - n) x with
      | some r' => some (.ints k n f :: r')
      | none => none
theorem upd_range (k : CK) (n : Nat) (f : Nat → Int) (o : Nat) (z : Int) : ((List.range n).map fun i => mkV k (f i)).set o (mkV k z) = (List.range n).map fun i => mkV k (upd f o z i) := by
  apply List.ext_getElem?
  intro i
  by_cases hi : i < n
  · rw [ints_get _ _ _ _ hi]
    by_cases h : o = i
    · subst h
      rw [List.getElem?_set_self (by simpa using hi)]; simp [upd]
    · rw [List.getElem?_set_ne h, ints_get _ _ _ _ hi]
      simp only [upd]
      rw [show i.beq o = false by
        cases hb : i.beq o
        · rfl
        · exact absurd (Nat.eq_of_beq_eq_true hb).symm h]
      rfl
  · rw [List.getElem?_eq_none (by simp; omega), List.getElem?_eq_none (by simp; omega)]
theorem segSet_den (ρ : Nat → Nat) : ∀ (l : List Seg) (o : Nat) (x : SC) (l' : List Seg), segSet l o x = some l' → (segsDen ρ l).set o (x.den ρ) = segsDen ρ l' ∧ o < segsLen l
  | [], _, _, _, h => by simp [segSet] at h
  | .one y :: r, 0, x, l', h => by
    simp only [segSet, Option.some.injEq] at h; subst h
    exact ⟨rfl, by simp only [segsLen, Seg.len]; omega⟩
  | .one y :: r, o + 1, x, l', h => by
    simp only [segSet] at h
    cases h1 : segSet r o x with
    | none => rw [h1] at h; cases h
    | some r' =>
      rw [h1] at h
      simp only [Option.some.injEq] at h; subst h
      have := segSet_den ρ r o x r' h1
      exact ⟨by simpa [segsDen, Seg.den] using this.1, by simp only [segsLen, Seg.len]; omega⟩
  | .ints k n f :: r, o, x, l', h => by
    simp only [segSet] at h
    cases hb : o.blt n
    · rw [hb] at h
      have hle := blt_f hb
      simp only [cond_false] at h
      cases h1 : segSet r (o - n) x with
      | none => rw [h1] at h; cases h
      | some r' =>
        rw [h1] at h
        simp only [Option.some.injEq] at h; subst h
        have := segSet_den ρ r (o - n) x r' h1
        refine ⟨?_, by simp only [segsLen, Seg.len]; omega⟩
        simp only [segsDen, Seg.den]
        rw [List.set_append_right _ _ (by simpa using hle)]
        simp only [List.length_map, List.length_range]
        rw [this.1]
    · rw [hb] at h
      have hlt := blt_t hb
      simp only [cond_true] at h
      split at h
      · rename_i u
        cases hk : valI k u with
        | none => rw [hk] at h; cases h
        | some z =>
          rw [hk] at h
          simp only [Option.some.injEq] at h; subst h
          refine ⟨?_, by simp only [segsLen, Seg.len]; omega⟩
          simp only [segsDen, Seg.den, SC.den]
          rw [← valI_mk hk, List.set_append_left _ _ (by simpa using hlt), upd_range]
      · cases h
/-- A number in a run of numbers is written. -/
def segSetI : List Seg → Nat → Nat → Int → Option (List Seg)
  | [], _, _, _ => none
  | .one _ :: _, 0, _, _ => none
  | .one y :: r, o + 1, i, z => match segSetI r o i z with
    | some r' => some (.one y :: r')
    | none => none
  | .ints k n f :: r, o, i, z => bif o.beq 0 then some (.ints k n (upd f i z) :: r) else bif n.ble o then (match segSetI r (o - n) i z with
      | some r' => some (.ints k n f :: r')
      | none => none) else none
theorem segSetI_den (ρ : Nat → Nat) : ∀ (l : List Seg) (o i : Nat) (z : Int) (l' : List Seg) (k : CK) (n : Nat) (f : Nat → Int), segInts l o = some (k, n, f) → i < n → segSetI l o i z = some l' → (segsDen ρ l).set (o + i) (mkV k z) = segsDen ρ l' ∧ o + i < segsLen l
  | [], _, _, _, _, _, _, _, h, _, _ => by simp [segInts] at h
  | .one y :: r, 0, _, _, _, _, _, _, h, _, _ => by simp [segInts] at h
  | .one y :: r, o + 1, i, z, l', k, n, f, h, hi, h2 => by
    simp only [segInts] at h
    simp only [segSetI] at h2
    cases h1 : segSetI r o i z with
    | none => rw [h1] at h2; cases h2
    | some r' =>
      rw [h1] at h2
      simp only [Option.some.injEq] at h2; subst h2
      have := segSetI_den ρ r o i z r' k n f h hi h1
      rw [show o + 1 + i = (o + i) + 1 by omega]
      exact ⟨by simpa [segsDen, Seg.den] using this.1, by simp only [segsLen, Seg.len]; omega⟩
  | .ints k' n' f' :: r, o, i, z, l', k, n, f, h, hi, h2 => by
    simp only [segInts] at h
    simp only [segSetI] at h2
    simp only [segsDen, Seg.den, segsLen, Seg.len]
    cases hb : o.beq 0
    · rw [hb] at h h2
      simp only [cond_false] at h h2
      cases hc : n'.ble o
      · rw [hc] at h; simp at h
      · rw [hc] at h h2
        simp only [cond_true] at h h2
        have hle := ble_t hc
        cases h1 : segSetI r (o - n') i z with
        | none => rw [h1] at h2; cases h2
        | some r' =>
          rw [h1] at h2
          simp only [Option.some.injEq] at h2; subst h2
          have := segSetI_den ρ r (o - n') i z r' k n f h hi h1
          refine ⟨?_, by omega⟩
          rw [List.set_append_right _ _ (by simp; omega)]
          simp only [List.length_map, List.length_range, segsDen, Seg.den]
          rw [show o + i - n' = o - n' + i by omega, this.1]
    · rw [hb] at h h2
      have : o = 0 := Nat.eq_of_beq_eq_true hb
      subst this
      simp only [cond_true, Option.some.injEq, Prod.mk.injEq] at h h2
      obtain ⟨rfl, rfl, rfl⟩ := h
      subst h2
      refine ⟨?_, by omega⟩
      rw [Nat.zero_add, List.set_append_left _ _ (by simpa using hi), upd_range]
      rfl
theorem segInts_le : ∀ (l : List Seg) (o : Nat) (k : CK) (n : Nat) (f : Nat → Int), segInts l o = some (k, n, f) → o + n ≤ segsLen l
  | [], _, _, _, _, h => by simp [segInts] at h
  | .one y :: r, 0, _, _, _, h => by simp [segInts] at h
  | .one y :: r, o + 1, k, n, f, h => by
    simp only [segInts] at h
    have := segInts_le r o k n f h
    simp only [segsLen, Seg.len]; omega
  | .ints k' n' f' :: r, o, k, n, f, h => by
    simp only [segInts] at h
    simp only [segsLen, Seg.len]
    cases hb : o.beq 0
    · rw [hb] at h
      simp only [cond_false] at h
      cases hc : n'.ble o
      · rw [hc] at h; simp at h
      · rw [hc] at h
        have h1 := ble_t hc
        have := segInts_le r (o - n') k n f h
        omega
    · rw [hb] at h
      have : o = 0 := Nat.eq_of_beq_eq_true hb
      subst this
      simp only [cond_true, Option.some.injEq, Prod.mk.injEq] at h
      obtain ⟨rfl, rfl, rfl⟩ := h
      omega
/-- A run of numbers becomes another one. -/
def segSetF : List Seg → Nat → (Nat → Int) → Option (List Seg)
  | [], _, _ => none
  | .one _ :: _, 0, _ => none
  | .one y :: r, o + 1, g => match segSetF r o g with
    | some r' => some (.one y :: r')
    | none => none
  | .ints k n f :: r, o, g => bif o.beq 0 then some (.ints k n g :: r) else bif n.ble o then (match segSetF r (o - n) g with
      | some r' => some (.ints k n f :: r')
      | none => none) else none
theorem segSetF_den (ρ : Nat → Nat) : ∀ (l : List Seg) (o : Nat) (g : Nat → Int) (l' : List Seg) (k : CK) (n : Nat) (f : Nat → Int), segInts l o = some (k, n, f) → segSetF l o g = some l' →
    segsDen ρ l' = (segsDen ρ l).take o ++ ((List.range n).map fun i => mkV k (g i)) ++ (segsDen ρ l).drop (o + n)
  | [], _, _, _, _, _, _, h, _ => by simp [segInts] at h
  | .one y :: r, 0, _, _, _, _, _, h, _ => by simp [segInts] at h
  | .one y :: r, o + 1, g, l', k, n, f, h, h2 => by
    simp only [segInts] at h
    simp only [segSetF] at h2
    cases h1 : segSetF r o g with
    | none => rw [h1] at h2; cases h2
    | some r' =>
      rw [h1] at h2
      simp only [Option.some.injEq] at h2; subst h2
      have := segSetF_den ρ r o g r' k n f h h1
      simp only [segsDen, Seg.den, this, List.nil_append, List.take_succ_cons, show o + 1 + n = (o + n) + 1 by omega, List.drop_succ_cons, List.cons_append]
  | .ints k' n' f' :: r, o, g, l', k, n, f, h, h2 => by
    simp only [segInts] at h
    simp only [segSetF] at h2
    cases hb : o.beq 0
    · rw [hb] at h h2
      simp only [cond_false] at h h2
      cases hc : n'.ble o
      · rw [hc] at h; simp at h
      · rw [hc] at h h2
        simp only [cond_true] at h h2
        have hle := ble_t hc
        cases h1 : segSetF r (o - n') g with
        | none => rw [h1] at h2; cases h2
        | some r' =>
          rw [h1] at h2
          simp only [Option.some.injEq] at h2; subst h2
          have := segSetF_den ρ r (o - n') g r' k n f h h1
          simp only [segsDen, Seg.den, this]
          rw [List.take_append, List.take_of_length_le (l := (List.range n').map _) (by simpa using hle), List.drop_append, List.drop_of_length_le (l := (List.range n').map _) (by simp; omega)]
          simp only [List.length_map, List.length_range, List.nil_append, List.append_assoc, show o + n - n' = o - n' + n by omega]
    · rw [hb] at h h2
      have : o = 0 := Nat.eq_of_beq_eq_true hb
      subst this
      simp only [cond_true, Option.some.injEq, Prod.mk.injEq] at h h2
      obtain ⟨rfl, rfl, rfl⟩ := h
      subst h2
      simp only [segsDen, Seg.den, List.take_zero, List.nil_append, Nat.zero_add]
      rw [List.drop_append, List.drop_of_length_le (l := (List.range n').map _) (by simp)]
      simp
/-- Some cells in a row. -/
def segSub : List Seg → Nat → Nat → Option (List Seg)
  | _, _, 0 => some []
  | [], _, _ + 1 => none
  | .one x :: r, 0, m + 1 => match segSub r 0 m with
    | some r' => some (.one x :: r')
    | none => none
  | .one _ :: r, o + 1, m + 1 => segSub r o (m + 1)
  | .ints k n f :: r, o, m + 1 => bif n.ble o then segSub r (o - n) (m + 1)
    else bif (o + (m + 1)).ble n then some [.ints k (m + 1) (bif o.beq 0 then f else fun i => f (o + i))]
    else bif o.beq 0 then (match segSub r 0 (m + 1 - n) with
      | some r' => some (.ints k n f :: r')
      | none => none) else none
theorem take_ints (k : CK) (n m o : Nat) (f : Nat → Int) (h : o + m ≤ n) : (((List.range n).map fun i => mkV k (f i)).drop o).take m = (List.range m).map fun i => mkV k (f (o + i)) := by
  apply List.ext_getElem?
  intro i
  by_cases hi : i < m
  · rw [List.getElem?_take_of_lt hi, List.getElem?_drop, ints_get _ _ _ _ (by omega), ints_get k m (fun i => f (o + i)) i hi]
  · rw [List.getElem?_eq_none (by simp; omega), List.getElem?_eq_none (by simp; omega)]
theorem segSub_den (ρ : Nat → Nat) : ∀ (l : List Seg) (o m : Nat) (l' : List Seg), segSub l o m = some l' → ((segsDen ρ l).drop o).take m = segsDen ρ l' ∧ (m ≠ 0 → o + m ≤ segsLen l) ∧ segsLen l' = m
  | l, o, 0, l', h => by
    rw [segSub.eq_1] at h
    simp only [Option.some.injEq] at h; subst h
    exact ⟨by simp [segsDen], fun h => absurd rfl h, rfl⟩
  | [], o, m + 1, l', h => by simp [segSub] at h
  | .one x :: r, 0, m + 1, l', h => by
    simp only [segSub] at h
    cases h1 : segSub r 0 m with
    | none => rw [h1] at h; cases h
    | some r' =>
      rw [h1] at h
      simp only [Option.some.injEq] at h; subst h
      have := segSub_den ρ r 0 m r' h1
      refine ⟨?_, fun _ => ?_, ?_⟩
      · simpa [segsDen, Seg.den] using this.1
      · simp only [segsLen, Seg.len]
        by_cases hm : m = 0
        · subst hm; omega
        · have := this.2.1 hm; omega
      · simp only [segsLen, Seg.len]; omega
  | .one x :: r, o + 1, m + 1, l', h => by
    simp only [segSub] at h
    have := segSub_den ρ r o (m + 1) l' h
    refine ⟨?_, fun _ => ?_, this.2.2⟩
    · simpa [segsDen, Seg.den] using this.1
    · have := this.2.1 (by omega); simp only [segsLen, Seg.len]; omega
  | .ints k n f :: r, o, m + 1, l', h => by
    simp only [segSub] at h
    simp only [segsDen, Seg.den, segsLen, Seg.len]
    cases hb : n.ble o
    · rw [hb] at h
      have hlt := ble_f hb
      simp only [cond_false] at h
      cases hc : (o + (m + 1)).ble n
      · rw [hc] at h
        have hgt := ble_f hc
        simp only [cond_false] at h
        cases hd : o.beq 0
        · rw [hd] at h; simp at h
        · rw [hd] at h
          have : o = 0 := Nat.eq_of_beq_eq_true hd
          subst this
          simp only [cond_true] at h
          cases h1 : segSub r 0 (m + 1 - n) with
          | none => rw [h1] at h; cases h
          | some r' =>
            rw [h1] at h
            simp only [Option.some.injEq] at h; subst h
            have := segSub_den ρ r 0 (m + 1 - n) r' h1
            refine ⟨?_, fun _ => ?_, ?_⟩
            · rw [List.drop_zero, List.take_append, List.take_of_length_le (by simp; omega)]
              simp only [List.length_map, List.length_range, segsDen, Seg.den]
              rw [← this.1, List.drop_zero]
            · have := this.2.1 (by omega); omega
            · simp only [segsLen, Seg.len]; omega
      · rw [hc] at h
        have hle := ble_t hc
        simp only [cond_true, Option.some.injEq] at h; subst h
        refine ⟨?_, fun _ => by omega, by simp [segsLen, Seg.len]⟩
        rw [List.drop_append_of_le_length (by simp; omega), List.take_append_of_le_length (by simp; omega), take_ints k n (m + 1) o f hle]
        simp only [segsDen, Seg.den, List.append_nil]
        cases hd : o.beq 0
        · rfl
        · have : o = 0 := Nat.eq_of_beq_eq_true hd
          subst this; simp
    · rw [hb] at h
      have hle := ble_t hb
      simp only [cond_true] at h
      have := segSub_den ρ r (o - n) (m + 1) l' h
      refine ⟨?_, fun _ => ?_, this.2.2⟩
      · rw [List.drop_append, List.drop_of_length_le (by simp; omega), List.nil_append]
        simp only [List.length_map, List.length_range]; exact this.1
      · have := this.2.1 (by omega); omega
/-- Some cells in a row are written. -/
def segPut : List Seg → Nat → List Seg → Option (List Seg)
  | l, 0, new => bif (segsLen new).ble (segsLen l) then (match l, new with
      | .ints k n f :: r, [.ints k' m g] => bif (ckN k).beq (ckN k') && m.ble n then some (.ints k n (bif m.beq n then g else fun i => bif i.blt m then g i else f i) :: r) else none
      | l, new => match segSub l (segsLen new) (segsLen l - segsLen new) with
        | some r => some (new ++ r)
        | none => none) else none
  | [], _ + 1, _ => none
  | .one y :: r, o + 1, new => match segPut r o new with
    | some r' => some (.one y :: r')
    | none => none
  | .ints k n f :: r, o + 1, new => bif n.ble (o + 1) then (match segPut r (o + 1 - n) new with
      | some r' => some (.ints k n f :: r')
      | none => none)
    else match new with
      | [.ints k' m g] => bif (ckN k).beq (ckN k') && (o + 1 + m).ble n then some (.ints k n (fun i => bif (o + 1).ble i && i.blt (o + 1 + m) then g (i - (o + 1)) else f i) :: r) else none
      | _ => none
theorem spl_append_right (A B vs : List Value) (o : Nat) (h : A.length ≤ o) : spl (A ++ B) o vs = A ++ spl B (o - A.length) vs := by
  unfold spl
  rw [List.take_append, List.take_of_length_le h, List.drop_append, List.drop_of_length_le (by omega), List.nil_append, List.append_assoc, List.append_assoc, List.append_assoc, show o + vs.length - A.length = o - A.length + vs.length by omega]
theorem spl_ints (k : CK) (n o m : Nat) (f g h : Nat → Int) (B : List Value) (hm : o + m ≤ n) (hh : ∀ i, i < n → h i = if o ≤ i ∧ i < o + m then g (i - o) else f i) :
    spl (((List.range n).map fun i => mkV k (f i)) ++ B) o ((List.range m).map fun i => mkV k (g i)) = ((List.range n).map fun i => mkV k (h i)) ++ B := by
  unfold spl
  rw [List.take_append_of_le_length (by simp; omega), List.drop_append_of_le_length (by simp; omega), ← List.append_assoc]
  congr 1
  apply List.ext_getElem?
  intro i
  simp only [List.length_map, List.length_range]
  by_cases hi : i < n
  · rw [ints_get _ _ _ _ hi, hh i hi]
    by_cases h1 : i < o
    · rw [List.append_assoc, List.getElem?_append_left (by simp; omega), List.getElem?_take_of_lt h1, ints_get _ _ _ _ hi, if_neg (by omega)]
    · by_cases h2 : i < o + m
      · rw [List.append_assoc, List.getElem?_append_right (by simp; omega), List.getElem?_append_left (by simp; omega)]
        simp only [List.length_take, List.length_map, List.length_range]
        rw [show i - min o n = i - o by omega, ints_get _ _ _ _ (by omega), if_pos (by omega)]
      · rw [List.getElem?_append_right (by simp; omega), List.getElem?_drop]
        simp only [List.length_append, List.length_take, List.length_map, List.length_range]
        rw [show o + m + (i - (min o n + m)) = i by omega, ints_get _ _ _ _ hi, if_neg (by omega)]
  · rw [List.getElem?_eq_none (by simp; omega), List.getElem?_eq_none (by simp; omega)]
theorem segPut_den (ρ : Nat → Nat) : ∀ (l : List Seg) (o : Nat) (new l' : List Seg), segPut l o new = some l' → spl (segsDen ρ l) o (segsDen ρ new) = segsDen ρ l' ∧ o + segsLen new ≤ segsLen l
  | l, 0, new, l', h => by
    rw [segPut.eq_def] at h
    simp only at h
    cases hb : (segsLen new).ble (segsLen l)
    · rw [hb] at h; simp at h
    · rw [hb] at h
      have hle := ble_t hb
      simp only [cond_true] at h
      refine ⟨?_, by omega⟩
      split at h
      · rename_i k n f r k' m g
        cases hk : ((ckN k).beq (ckN k') && m.ble n)
        · rw [hk] at h; simp at h
        · rw [hk] at h
          simp only [cond_true, Option.some.injEq] at h; subst h
          simp only [Bool.and_eq_true] at hk
          have := ckN_inj hk.1
          subst this
          have hmn := ble_t hk.2
          simp only [segsDen, Seg.den, List.append_nil]
          refine spl_ints k n 0 m f g _ _ (by omega) (fun i hi => ?_)
          cases hd : m.beq n
          · simp only [cond_false]
            cases he : i.blt m
            · have := blt_f he; rw [if_neg (by omega)]; rfl
            · have := blt_t he; rw [if_pos (by omega)]; simp
          · have : m = n := Nat.eq_of_beq_eq_true hd
            subst this
            simp only [cond_true]; rw [if_pos (by omega)]; simp
      · cases h1 : segSub l (segsLen new) (segsLen l - segsLen new) with
        | none => rw [h1] at h; cases h
        | some r =>
          rw [h1] at h
          simp only [Option.some.injEq] at h; subst h
          have := segSub_den ρ l _ _ r h1
          unfold spl
          rw [List.take_zero, List.nil_append, Nat.zero_add, segsDen_append, ← this.1, segsDen_len]
          congr 1
          rw [List.take_of_length_le (by rw [List.length_drop, segsDen_len]; exact Nat.le_refl _)]
  | [], o + 1, new, l', h => by simp [segPut] at h
  | .one y :: r, o + 1, new, l', h => by
    simp only [segPut] at h
    cases h1 : segPut r o new with
    | none => rw [h1] at h; cases h
    | some r' =>
      rw [h1] at h
      simp only [Option.some.injEq] at h; subst h
      have := segPut_den ρ r o new r' h1
      refine ⟨?_, by simp only [segsLen, Seg.len]; omega⟩
      simp only [segsDen, Seg.den]
      rw [spl_append_right _ _ _ _ (by simp)]
      simp only [List.length_cons, List.length_nil, Nat.zero_add, Nat.add_sub_cancel]
      rw [this.1]
  | .ints k n f :: r, o + 1, new, l', h => by
    simp only [segPut] at h
    cases hb : n.ble (o + 1)
    · rw [hb] at h
      simp only [cond_false] at h
      split at h
      · rename_i k' m g
        cases hk : ((ckN k).beq (ckN k') && (o + 1 + m).ble n)
        · rw [hk] at h; simp at h
        · rw [hk] at h
          simp only [cond_true, Option.some.injEq] at h; subst h
          simp only [Bool.and_eq_true] at hk
          have := ckN_inj hk.1
          subst this
          have hmn := ble_t hk.2
          refine ⟨?_, by simp only [segsLen, Seg.len]; omega⟩
          simp only [segsDen, Seg.den, List.append_nil]
          refine spl_ints k n (o + 1) m f g _ _ (by omega) (fun i hi => ?_)
          cases he : ((o + 1).ble i && i.blt (o + 1 + m))
          · rw [if_neg]; rfl
            rintro ⟨h1, h2⟩
            rw [Nat.ble_eq_true_of_le h1, show i.blt (o + 1 + m) = true by simpa [Nat.blt_eq] using h2] at he
            cases he
          · simp only [Bool.and_eq_true] at he
            rw [if_pos ⟨ble_t he.1, blt_t he.2⟩]; rfl
      · cases h
    · rw [hb] at h
      have hle := ble_t hb
      simp only [cond_true] at h
      cases h1 : segPut r (o + 1 - n) new with
      | none => rw [h1] at h; cases h
      | some r' =>
        rw [h1] at h
        simp only [Option.some.injEq] at h; subst h
        have := segPut_den ρ r (o + 1 - n) new r' h1
        refine ⟨?_, by simp only [segsLen, Seg.len]; omega⟩
        simp only [segsDen, Seg.den]
        rw [spl_append_right _ _ _ _ (by simp; omega)]
        simp only [List.length_map, List.length_range]
        rw [this.1]
end Go.Proofs.YtacgihekdmoceaaDoor
end
section
namespace Go.Proofs.YtacgihekdmoceaaDoor
open Go.RowKit
set_option linter.unusedVariables false
inductive SA where
  | c (x : SC)
  | a (l : List Seg)
inductive SV where
  | o (x : SA)
  | t (l : List SA)
def SA.den (ρ : Nat → Nat) : SA → Value
  | .c x => x.den ρ
  | .a l => .agg (segsDen ρ l).toArray
def SV.den (ρ : Nat → Nat) : SV → Value
  | .o x => x.den ρ
  | .t l => .tuple (l.map (SA.den ρ)).toArray
abbrev sv (x : Value) : SV := .o (.c (.v x))
/-- A block of which something is known; a slice's array; a thing; anything else; nothing. -/
inductive SB where
  | cells (l : List Seg) (t : TypeId)
  | rows (t : TypeId) (ks : List CK) (sz n c : Nat) (z : Nat → Nat → Int)
  | abs (A : Abs) (F : List Nat)
  | mp (es : List (Nat × Value))
  | en (e : En)
  | gone
def ckAt (ks : List CK) (j : Nat) : CK := ks.getD j .bool
def rowV (ks : Nat → CK) (sz : Nat) (z : Nat → Nat → Int) (i : Nat) : List Value := (List.range sz).map fun j => mkV (ks j) (z i j)
def rowsV (ks : Nat → CK) (sz : Nat) (z : Nat → Nat → Int) : Nat → List Value
  | 0 => []
  | n + 1 => rowsV ks sz z n ++ rowV ks sz z n
theorem rowV_len (ks : Nat → CK) (sz : Nat) (z : Nat → Nat → Int) (i : Nat) : (rowV ks sz z i).length = sz := by simp [rowV]
theorem rowsV_len (ks : Nat → CK) (sz : Nat) (z : Nat → Nat → Int) : ∀ n, (rowsV ks sz z n).length = n * sz
  | 0 => by simp [rowsV]
  | n + 1 => by simp [rowsV, rowsV_len ks sz z n, rowV_len, Nat.add_mul]
/-- A map's entries: its keys are small numbers. -/
def mpV : Nat → List (Nat × Value) → List MapEntry
  | _, [] => []
  | i, (k, v) :: r => { key := .int .i64 k, val := v, born := i } :: mpV (i + 1) r
def denB (ρ : Nat → Nat) (i : Nat) : SB → List En
  | .cells l t => [.blk (ρ i) (segsDen ρ l) t]
  | .rows t ks sz n c z => [.row (ρ i) t sz n c (rowsV (ckAt ks) sz z n)]
  | .abs A F => [.abs (ρ i) A F]
  | .mp es => [.obj (ρ i) (.map (mpV 0 es).toArray es.length)]
  | .en e => [e]
  | .gone => []
def denM (ρ : Nat → Nat) : Nat → List SB → List En
  | _, [] => []
  | i, b :: r => denB ρ i b ++ denM ρ (i + 1) r
/-! Types. -/
/-- A type, as far as it matters: a single cell, a struct with its fields' places and sizes, an array. -/
inductive Kd where
  | bool | int (k : IntKind) | str | ptr (e : TypeId) | slice (e : TypeId) | iface | map (k e : TypeId) | func | other
inductive TyI where
  | one (z : Value) (kd : Kd)
  | str (z : List Seg) (ps : List (Nat × Nat × Bool))
  | arr (z : List Seg) (n es : Nat) (ea : Bool)
abbrev Tab := List (Nat × TyI)
def lkT : Tab → Nat → Option TyI
  | [], _ => none
  | (t, i) :: r, u => bif t.beq u then some i else lkT r u
def aggOf (P : Program) (t : TypeId) : Bool := match P.underlying t with
  | some (.struct _) | some (.array _ _) => true
  | _ => false
def partsOf (P : Program) (t : TypeId) : Option (List (Nat × Nat × Bool)) := match P.underlying t with
  | some (.struct fs) => some (fs.toList.map fun f => (f.offset, ((P.info? f.type).map (·.size)).getD 0, aggOf P f.type))
  | _ => none
def arrOf (P : Program) (t : TypeId) : Option (Nat × Nat × Bool) := match P.underlying t with
  | some (.array n e) => some (n, ((P.info? e).map (·.size)).getD 0, aggOf P e)
  | _ => none
def kdOf (P : Program) (t : TypeId) : Kd := match P.underlying t with
  | some .bool => .bool
  | some (.int k) => .int k
  | some .string => .str
  | some (.pointer e) => .ptr e
  | some (.slice e) => .slice e
  | some (.interface _) => .iface
  | some (.map k e) => .map k e
  | some (.func _ _ _) => .func
  | _ => .other
def TyOk (P : Program) (t : TypeId) : TyI → Prop
  | .one z kd => kdOf P t = kd ∧ scalarB P t = true ∧ (P.info? t).map (·.size) = some 1 ∧ (P.info? t).bind (·.zero) = some z ∧ z.oneCell' = true
  | .str z ps => partsOf P t = some ps ∧ (P.info? t).map (·.size) = some (segsLen z) ∧ (P.info? t).bind (·.zero) = some (.agg (segsDen (fun _ => 0) z).toArray) ∧ segsOk z = true
  | .arr z n es ea => arrOf P t = some (n, es, ea) ∧ (P.info? t).map (·.size) = some (segsLen z) ∧ (P.info? t).bind (·.zero) = some (.agg (segsDen (fun _ => 0) z).toArray) ∧ segsOk z = true
def TabOk (P : Program) (T : Tab) : Prop := ∀ t i, lkT T t = some i → TyOk P t i
theorem TabOk.nil (P : Program) : TabOk P [] := fun _ _ h => by simp [lkT] at h
theorem TabOk.cons {P : Program} {t : Nat} {i : TyI} {T : Tab} (h : TyOk P t i) (hT : TabOk P T) : TabOk P ((t, i) :: T) := fun u j hj => by
  unfold lkT at hj
  cases hb : t.beq u
  · rw [hb] at hj; exact hT u j hj
  · rw [hb] at hj
    have := Nat.eq_of_beq_eq_true hb
    subst this
    simp only [cond_true, Option.some.injEq] at hj; subst hj; exact h
def TyI.zero : TyI → List Seg
  | .one z _ => [.one (.v z)]
  | .str z _ => z
  | .arr z _ _ _ => z
def TyI.size : TyI → Nat
  | .one _ _ => 1
  | .str z _ => segsLen z
  | .arr z _ _ _ => segsLen z
/-! Which blocks are named. -/
def SC.av (p : Nat → Bool) : SC → Bool
  | .v _ => true
  | .p b _ => p b
  | .e b _ _ => p b
  | .s b _ _ _ => p b
  | .i _ b _ => p b
  | .r _ _ _ _ _ _ _ => true
  | .re _ _ _ _ _ _ _ _ => true
  | .o b _ _ => p b
  | .er b _ _ _ => p b
  | .so b _ _ _ _ _ => p b
  | .fn _ cs => cs.all fun q => p q.1
  | .m b => p b
def segsAv (p : Nat → Bool) : List Seg → Bool
  | [] => true
  | .one x :: r => x.av p && segsAv p r
  | .ints _ _ _ :: r => segsAv p r
def SA.av (p : Nat → Bool) : SA → Bool
  | .c x => x.av p
  | .a l => segsAv p l
def SV.av (p : Nat → Bool) : SV → Bool
  | .o x => x.av p
  | .t l => l.all (SA.av p)
def SB.av (p : Nat → Bool) : SB → Bool
  | .cells l _ => segsAv p l
  | _ => true
abbrev Env := List (Nat × SV)
def envAv (p : Nat → Bool) : Env → Bool
  | [] => true
  | (_, x) :: r => x.av p && envAv p r
/-- Only what was made before a place. -/
def sc (n : Nat) : Nat → Bool := fun b => b.blt n
section
variable {p q : Nat → Bool} (h : ∀ i, p i = true → q i = true)
include h
theorem SC.av_mono {x : SC} (hx : x.av p = true) : x.av q = true := by
  cases x with
  | fn f cs => simp only [SC.av, List.all_eq_true] at hx ⊢; exact fun y hy => h _ (hx y hy)
  | _ => first | rfl | exact h _ hx
theorem segsAv_mono : ∀ {l : List Seg}, segsAv p l = true → segsAv q l = true
  | [], _ => rfl
  | .one x :: r, hx => by
    simp only [segsAv, Bool.and_eq_true] at hx ⊢
    exact ⟨SC.av_mono h hx.1, segsAv_mono hx.2⟩
  | .ints _ _ _ :: r, hx => by
    simp only [segsAv] at hx ⊢
    exact segsAv_mono hx
theorem SA.av_mono {x : SA} (hx : x.av p = true) : x.av q = true := by
  cases x with
  | c x => exact SC.av_mono h hx
  | a l => exact segsAv_mono h (l := l) hx
theorem SV.av_mono {x : SV} (hx : x.av p = true) : x.av q = true := by
  cases x with
  | o x => exact SA.av_mono h hx
  | t l => simp only [SV.av, List.all_eq_true] at hx ⊢; exact fun y hy => SA.av_mono h (hx y hy)
theorem SB.av_mono {x : SB} (hx : x.av p = true) : x.av q = true := by
  cases x with
  | cells l t => exact segsAv_mono h (l := l) hx
  | _ => rfl
theorem envAv_mono : ∀ {e : Env}, envAv p e = true → envAv q e = true
  | [], _ => rfl
  | (_, x) :: r, hx => by
    simp only [envAv, Bool.and_eq_true] at hx ⊢
    exact ⟨SV.av_mono h hx.1, envAv_mono hx.2⟩
end
section
variable {ρ ρ' : Nat → Nat} {p : Nat → Bool} (hρ : ∀ i, p i = true → ρ' i = ρ i)
include hρ
theorem SC.av_den {x : SC} (h : x.av p = true) : x.den ρ' = x.den ρ := by
  cases x with
  | v x => rfl
  | p b off => simp only [SC.den, hρ b h]
  | e b off ix => simp only [SC.den, hρ b h]
  | s b off m c => simp only [SC.den, hρ b h]
  | i t b off => simp only [SC.den, hρ b h]
  | r a n c m sz ks z => rfl
  | re a c m sz ks z i f => rfl
  | o b n c => simp only [SC.den, hρ b h]
  | er b sz ix f => simp only [SC.den, hρ b h]
  | so b lo sz n c nn => simp only [SC.den, hρ b h]
  | m b => simp only [SC.den, hρ b h]
  | fn f cs =>
    simp only [SC.av, List.all_eq_true] at h
    simp only [SC.den]
    congr 2
    exact List.map_congr_left fun y hy => by rw [hρ _ (h y hy)]
theorem segsAv_den : ∀ {l : List Seg}, segsAv p l = true → segsDen ρ' l = segsDen ρ l
  | [], _ => rfl
  | .one x :: r, h => by
    simp only [segsAv, Bool.and_eq_true] at h
    simp only [segsDen, Seg.den, SC.av_den hρ h.1, segsAv_den h.2]
  | .ints k m f :: r, h => by
    simp only [segsAv] at h
    simp only [segsDen, Seg.den, segsAv_den h]
theorem SA.av_den {x : SA} (h : x.av p = true) : x.den ρ' = x.den ρ := by
  cases x with
  | c x => exact SC.av_den hρ h
  | a l => simp only [SA.den, segsAv_den hρ (l := l) h]
theorem SV.av_den {x : SV} (h : x.av p = true) : x.den ρ' = x.den ρ := by
  cases x with
  | o x => exact SA.av_den hρ h
  | t l =>
    simp only [SV.den]
    congr 2
    exact List.map_congr_left fun y hy => SA.av_den hρ (List.all_eq_true.1 h y hy)
theorem SB.av_den {x : SB} {i : Nat} (hi : p i = true) (h : x.av p = true) : denB ρ' i x = denB ρ i x := by
  cases x with
  | cells l t => simp only [denB, hρ i hi, segsAv_den hρ (l := l) h]
  | rows t ks sz n c z => simp only [denB, hρ i hi]
  | abs A F => simp only [denB, hρ i hi]
  | mp es => simp only [denB, hρ i hi]
  | en e => rfl
  | gone => rfl
end
/-! Blocks. -/
def nth : List SB → Nat → Option SB
  | [], _ => none
  | b :: _, 0 => some b
  | _ :: r, n + 1 => nth r n
def getB : List SB → Nat → SB
  | [], _ => .gone
  | b :: _, 0 => b
  | _ :: r, n + 1 => getB r n
def putB : List SB → Nat → SB → List SB
  | [], 0, x => [x]
  | [], n + 1, x => .gone :: putB [] n x
  | _ :: r, 0, x => x :: r
  | b :: r, n + 1, x => b :: putB r n x
abbrev Ups := List (Nat × SB)
def putBs (M : List SB) : Ups → List SB
  | [] => M
  | (b, x) :: r => putBs (putB M b x) r
def denT (ρ : Nat → Nat) (M : List SB) : List Nat → List En
  | [] => []
  | b :: r => denB ρ b (getB M b) ++ denT ρ M r
def denU (ρ : Nat → Nat) : Ups → List En
  | [] => []
  | (b, x) :: r => denB ρ b x ++ denU ρ r
theorem getB_nth {M : List SB} {b : Nat} {x : SB} (h : nth M b = some x) : getB M b = x := by
  induction M generalizing b with
  | nil => cases h
  | cons c r ih => cases b with
    | zero => simp only [nth, Option.some.injEq] at h; exact h
    | succ b => exact ih h
theorem getB_putB_self (x : SB) : ∀ (M : List SB) (b : Nat), getB (putB M b x) b = x
  | [], 0 => rfl
  | [], b + 1 => getB_putB_self x [] b
  | _ :: r, 0 => rfl
  | _ :: r, b + 1 => getB_putB_self x r b
theorem getB_putB_ne (x : SB) : ∀ (M : List SB) (b c : Nat), b ≠ c → getB (putB M b x) c = getB M c
  | [], 0, 0, h => absurd rfl h
  | [], 0, c + 1, _ => rfl
  | [], b + 1, 0, _ => rfl
  | [], b + 1, c + 1, h => by
    have := getB_putB_ne x [] b c (by omega)
    simp only [putB, getB] at this ⊢; exact this
  | _ :: r, 0, 0, h => absurd rfl h
  | _ :: r, 0, c + 1, _ => rfl
  | _ :: r, b + 1, 0, _ => rfl
  | _ :: r, b + 1, c + 1, h => by
    simp only [putB, getB]; exact getB_putB_ne x r b c (by omega)
theorem getB_putBs {c : Nat} : ∀ (us : Ups) (M : List SB), c ∉ us.map (·.1) → getB (putBs M us) c = getB M c
  | [], _, _ => rfl
  | (b, x) :: r, M, h => by
    simp only [List.map_cons, List.mem_cons, not_or] at h
    simp only [putBs]
    rw [getB_putBs r _ h.2, getB_putB_ne x M b c (Ne.symm h.1)]
theorem getB_putBs_mem {c : Nat} {x : SB} : ∀ (us : Ups) (M : List SB), (us.map (·.1)).Nodup → (c, x) ∈ us → getB (putBs M us) c = x
  | (b, y) :: r, M, hn, h => by
    simp only [List.map_cons, List.nodup_cons] at hn
    simp only [putBs]
    rcases List.mem_cons.1 h with h | h
    · simp only [Prod.mk.injEq] at h
      obtain ⟨rfl, rfl⟩ := h
      rw [getB_putBs r _ hn.1, getB_putB_self]
    · exact getB_putBs_mem r _ hn.2 h
theorem putB_len (x : SB) : ∀ (M : List SB) (b : Nat), M.length ≤ (putB M b x).length ∧ (b < M.length → (putB M b x).length = M.length) ∧ (b = M.length → (putB M b x).length = M.length + 1)
  | [], 0 => by simp [putB]
  | [], b + 1 => by simp [putB]
  | _ :: r, 0 => by simp [putB]
  | _ :: r, b + 1 => by
    have := putB_len x r b
    simp only [putB, List.length_cons]; omega
theorem getB_out : ∀ (M : List SB) (b : Nat), M.length ≤ b → getB M b = .gone
  | [], _, _ => rfl
  | _ :: r, 0, h => by simp at h
  | _ :: r, b + 1, h => by simp only [getB]; exact getB_out r b (by simpa using h)
theorem denM_range (ρ : Nat → Nat) : ∀ (M : List SB) (i N : Nat), M.length ≤ N → denM ρ i M = (List.range N).flatMap fun b => denB ρ (i + b) (getB M b)
  | [], i, N, _ => by
    simp only [denM]
    rw [List.flatMap_eq_nil_iff.2]
    intro b _; rfl
  | c :: r, i, 0, h => by simp at h
  | c :: r, i, N + 1, h => by
    have := denM_range ρ r (i + 1) N (by simpa using h)
    rw [List.range_succ_eq_map, List.flatMap_cons, List.flatMap_map]
    simp only [denM, getB, Nat.add_zero]
    rw [this]
    congr 1
    simp only [show ∀ b, i + 1 + b = i + (b + 1) by intro b; omega]
theorem flat_pick {α : Type} (f : Nat → List α) : ∀ (T l : List Nat), T.Nodup → l.Nodup → (∀ b ∈ T, b ∈ l) → (l.flatMap f).Perm (T.flatMap f ++ (l.filter (fun b => !T.contains b)).flatMap f)
  | [], l, _, _, _ => by rw [show l.filter (fun b => !([] : List Nat).contains b) = l from List.filter_eq_self.2 (by simp)]; exact List.Perm.refl _
  | t :: T, l, hT, hl, hs => by
    rw [List.nodup_cons] at hT
    have htl : t ∈ l := hs t List.mem_cons_self
    obtain ⟨l1, l2, rfl⟩ := List.append_of_mem htl
    have hl' := hl
    rw [List.nodup_append] at hl
    obtain ⟨hl1, hl2, hd⟩ := hl
    rw [List.nodup_cons] at hl2
    have ht1 : t ∉ l1 := fun h => (hd t h t List.mem_cons_self) rfl
    have ih := flat_pick f T (l1 ++ l2) hT.2 (List.nodup_append.2 ⟨hl1, hl2.2, fun a ha b hb => hd a ha b (List.mem_cons_of_mem _ hb)⟩) (fun b hb => by
      have := hs b (List.mem_cons_of_mem _ hb)
      simp only [List.mem_append, List.mem_cons] at this ⊢
      rcases this with h | rfl | h
      · exact .inl h
      · exact absurd hb hT.1
      · exact .inr h)
    have e : (l1 ++ t :: l2).filter (fun b => !(t :: T).contains b) = (l1 ++ l2).filter (fun b => !T.contains b) := by
      rw [List.filter_append, List.filter_append, List.filter_cons]
      simp only [List.contains_cons, beq_self_eq_true, Bool.true_or, Bool.not_true, Bool.false_eq_true, if_false]
      congr 1 <;> (apply List.filter_congr; intro b hb)
      · have : (b == t) = false := by simp; rintro rfl; exact ht1 hb
        simp [this]
      · have : (b == t) = false := by simp; rintro rfl; exact hl2.1 hb
        simp [this]
    rw [e]
    simp only [List.flatMap_append, List.flatMap_cons] at ih ⊢
    exact (List.perm_append_comm_assoc _ _ _).trans (by rw [List.append_assoc]; exact ih.append_left _)
def rest (N : Nat) (T : List Nat) : List Nat := (List.range N).filter (fun b => !T.contains b)
theorem denT_flat (ρ : Nat → Nat) (M : List SB) : ∀ T, denT ρ M T = T.flatMap fun b => denB ρ b (getB M b)
  | [] => rfl
  | b :: r => by simp only [denT, List.flatMap_cons, denT_flat ρ M r]
theorem denM_picks (ρ : Nat → Nat) (M : List SB) (T : List Nat) (N : Nat) (hN : M.length ≤ N) (hT : T.Nodup) (hs : ∀ b ∈ T, b < N) : (denM ρ 0 M).Perm (denT ρ M T ++ denT ρ M (rest N T)) := by
  rw [denM_range ρ M 0 N hN, denT_flat, denT_flat]
  simp only [Nat.zero_add]
  exact flat_pick _ T _ hT List.nodup_range (fun b hb => List.mem_range.2 (hs b hb))
theorem denU_flat (ρ : Nat → Nat) (M : List SB) : ∀ us : Ups, (us.map (·.1)).Nodup → denT ρ (putBs M us) (us.map (·.1)) = denU ρ us := by
  intro us hn
  have key : ∀ (vs : Ups), (∀ q ∈ vs, q ∈ us) → denT ρ (putBs M us) (vs.map (·.1)) = denU ρ vs := by
    intro vs
    induction vs with
    | nil => intro _; rfl
    | cons q r ih =>
      intro h
      obtain ⟨b, x⟩ := q
      simp only [List.map_cons, denT, denU]
      rw [getB_putBs_mem us M hn (h _ List.mem_cons_self), ih (fun q hq => h q (List.mem_cons_of_mem _ hq))]
  exact key us (fun q hq => hq)
theorem denT_same {ρ ρ' : Nat → Nat} {M M' : List SB} : ∀ (T : List Nat), (∀ b ∈ T, denB ρ' b (getB M' b) = denB ρ b (getB M b)) → denT ρ' M' T = denT ρ M T
  | [], _ => rfl
  | b :: r, h => by simp only [denT]; rw [h b List.mem_cons_self, denT_same r (fun c hc => h c (List.mem_cons_of_mem _ hc))]
/-- What there is names only what p allows, and stands at places that p allows. -/
def MemAv (p : Nat → Bool) (M : List SB) : Prop := ∀ b, getB M b = .gone ∨ (p b = true ∧ (getB M b).av p = true)
theorem MemAv.den {p : Nat → Bool} {M : List SB} (h : MemAv p M) {ρ ρ' : Nat → Nat} (hρ : ∀ i, p i = true → ρ' i = ρ i) (b : Nat) : denB ρ' b (getB M b) = denB ρ b (getB M b) := by
  rcases h b with h | ⟨h1, h2⟩
  · rw [h]; rfl
  · exact SB.av_den hρ h1 h2
theorem maxTop : ∀ (T : List Nat), ∃ N, ∀ b ∈ T, b < N
  | [] => ⟨0, by simp⟩
  | b :: r => by
    obtain ⟨N, h⟩ := maxTop r
    exact ⟨max N (b + 1), fun c hc => by
      rcases List.mem_cons.1 hc with rfl | hc
      · omega
      · have := h c hc; omega⟩
/-- What is turned at some places, and made at new ones, leaves all else. -/
theorem Mem.ups {w0 w w' : World} {S : Nat → Prop} {ρ ρ' : Nat → Nat} {M : List SB} {p : Nat → Bool} (HM : Mem w0 S (denM ρ 0 M) w) (hp : MemAv p M) (hρ : ∀ i, p i = true → ρ' i = ρ i) (us : Ups) (hn : (us.map (·.1)).Nodup)
    (k : Mem w (feet (denT ρ M (us.map (·.1)))) (denU ρ' us) w') : Mem w0 S (denM ρ' 0 (putBs M us)) w' := by
  obtain ⟨N, hN⟩ := maxTop (us.map (·.1))
  have h1 := denM_picks ρ M (us.map (·.1)) (max N (max M.length (putBs M us).length)) (by omega) hn (fun b hb => by have := hN b hb; omega)
  have h2 := denM_picks ρ' (putBs M us) (us.map (·.1)) (max N (max M.length (putBs M us).length)) (by omega) hn (fun b hb => by have := hN b hb; omega)
  rw [denU_flat ρ' M us hn] at h2
  refine Mem.perm ?_ h2.symm
  have e : denT ρ' (putBs M us) (rest (max N (max M.length (putBs M us).length)) (us.map (·.1))) = denT ρ M (rest (max N (max M.length (putBs M us).length)) (us.map (·.1))) := by
    refine denT_same _ (fun b hb => ?_)
    unfold rest at hb
    rw [List.mem_filter] at hb
    rw [getB_putBs us M (by simpa using hb.2)]
    exact hp.den hρ b
  rw [e]
  exact HM.swap h1 k
/-- What is known of some places alone. -/
theorem Mem.some {w0 w : World} {S : Nat → Prop} {ρ : Nat → Nat} {M : List SB} (HM : Mem w0 S (denM ρ 0 M) w) (T : List Nat) (hT : T.Nodup) : Mem w (feet (denT ρ M T)) (denT ρ M T) w := by
  obtain ⟨N, hN⟩ := maxTop T
  have h1 := denM_picks ρ M T (max N M.length) (by omega) hT (fun b hb => by have := hN b hb; omega)
  exact ((HM.perm h1).sub (List.sublist_append_left _ _)).self
theorem Mem.at {w0 w : World} {S : Nat → Prop} {ρ : Nat → Nat} {M : List SB} (HM : Mem w0 S (denM ρ 0 M) w) (b : Nat) : ∀ e ∈ denB ρ b (getB M b), e.at w := by
  have := (HM.some [b] (by simp)).holds
  simpa [denT] using this
/-! Frames. -/
def lk : Env → Nat → Option SV
  | [], _ => none
  | (t, x) :: r, u => bif t.beq u then some x else lk r u
structure EnvOk (ρ : Nat → Nat) (nt : Nat) (env : Env) (a : Act) : Prop where
  defers : a.defers = []
  size : a.tmps.size = nt
  get : ∀ t x, lk env t = some x → a.tmps[t]? = some (x.den ρ)
def evalS (env : Env) : Operand → Option SV
  | .tmp t => lk env t
  | .const v => some (sv v)
  | .global g => some (sv (.pointer (some ⟨g, 0, none⟩)))
  | .func f => some (sv (.func (.func f) #[] #[]))
theorem EnvOk.eval {ρ : Nat → Nat} {nt : Nat} {env : Env} {a : Act} (h : EnvOk ρ nt env a) {x : Operand} {v : SV} (e : evalS env x = some v) : a.eval x = v.den ρ := by
  cases x with
  | tmp t =>
    have := h.get t v e
    simp only [Act.eval, Array.getD_eq_getD_getElem?, this, Option.getD_some]
  | const v => simp only [evalS, Option.some.injEq] at e; subst e; rfl
  | global g => simp only [evalS, Option.some.injEq] at e; subst e; rfl
  | func f => simp only [evalS, Option.some.injEq] at e; subst e; rfl
theorem EnvOk.put {ρ : Nat → Nat} {nt : Nat} {env : Env} {a : Act} (h : EnvOk ρ nt env a) {d : Nat} (hd : d < nt) (x : SV) : EnvOk ρ nt ((d, x) :: env) (a.put (some d) (x.den ρ)) := by
  refine ⟨h.defers, by simp only [Act.put, Array.size_setIfInBounds]; exact h.size, fun t y hy => ?_⟩
  simp only [Act.put]
  unfold lk at hy
  cases hb : d.beq t
  · rw [hb] at hy
    have hne : d ≠ t := fun e => by subst e; simp at hb
    rw [Array.getElem?_setIfInBounds_ne hne]; exact h.get t y hy
  · rw [hb] at hy
    have := Nat.eq_of_beq_eq_true hb
    subst this
    simp only [cond_true, Option.some.injEq] at hy; subst hy
    rw [Array.getElem?_setIfInBounds_self_of_lt (by rw [h.size]; exact hd)]
theorem lk_av {p : Nat → Bool} : ∀ {e : Env} {t : Nat} {x : SV}, envAv p e = true → lk e t = some x → x.av p = true
  | [], _, _, _, h => by simp [lk] at h
  | (u, y) :: r, t, x, h1, h2 => by
    simp only [envAv, Bool.and_eq_true] at h1
    unfold lk at h2
    cases hb : u.beq t
    · rw [hb] at h2; exact lk_av h1.2 h2
    · rw [hb] at h2; simp only [cond_true, Option.some.injEq] at h2; subst h2; exact h1.1
theorem EnvOk.over {ρ ρ' : Nat → Nat} {nt : Nat} {p : Nat → Bool} {env : Env} {a : Act} (h : EnvOk ρ nt env a) (hρ : ∀ i, p i = true → ρ' i = ρ i) (hs : envAv p env = true) : EnvOk ρ' nt env a :=
  ⟨h.defers, h.size, fun t x hx => by rw [SV.av_den hρ (lk_av hs hx)]; exact h.get t x hx⟩
theorem EnvOk.same {ρ : Nat → Nat} {nt : Nat} {env : Env} {a : Act} (h : EnvOk ρ nt env a) {t : Nat} {x : SV} (hx : lk env t = some x) : EnvOk ρ nt ((t, x) :: env) a := by
  refine ⟨h.defers, h.size, fun u y hy => ?_⟩
  unfold lk at hy
  cases hb : t.beq u
  · rw [hb] at hy; exact h.get u y hy
  · rw [hb] at hy
    have := Nat.eq_of_beq_eq_true hb
    subst this
    simp only [cond_true, Option.some.injEq] at hy; subst hy
    exact h.get t _ hx
end Go.Proofs.YtacgihekdmoceaaDoor
end
section
namespace Go.Proofs.YtacgihekdmoceaaDoor
open Go.RowKit
set_option linter.unusedVariables false
/-- What comes of an operation: which blocks are read, under which condition, a value, and which blocks are turned or made; or one of many outcomes; or a call. -/
inductive Eff where
  | eff (T : List Nat) (vc : Option Prop) (x : SV) (us : Ups)
  | any (χ : Type) (T : List Nat) (vc : Option Prop) (ok : χ → Prop) (x : χ → SV) (W : List Nat) (bs : χ → List SB)
  | call (f : FuncId) (args : List SA)
  | no
abbrev Eff.val (vc : Option Prop) (x : SV) : Eff := .eff [] vc x []
def vcP : Option Prop → Prop
  | none => True
  | some p => p
def vcAnd : Option Prop → Prop → Prop
  | none, q => q
  | some p, q => p ∧ q
theorem vcAnd_iff {o : Option Prop} {q : Prop} : vcAnd o q ↔ vcP o ∧ q := by cases o <;> simp [vcAnd, vcP]
def ikE (a b : IntKind) : Bool := (ikN a).beq (ikN b)
def ifK (a b : IntKind) (x : Option (Option Prop × Value)) : Option (Option Prop × Value) := bif ikE a b then x else none
theorem ifK_some {a b : IntKind} {x : Option (Option Prop × Value)} {y : Option Prop × Value} (h : ifK a b x = some y) : a = b ∧ x = some y := by
  unfold ifK at h
  cases hb : ikE a b
  · rw [hb] at h; cases h
  · rw [hb] at h; exact ⟨ikN_inj hb, h⟩
def OldV (V w : World) : Prop := ∀ sz ks a m c z, Rws sz ks V a m c z → Rws sz ks w a m c z
theorem OldOk.v {V w0 w : World} {S : Nat → Prop} (h : OldOk V w0 S) (k : Kept S w0 w) : OldV V w := fun sz ks a m c z hr => h sz ks a m c z w hr k
section
variable {P : Program} {V w : World} {ρ : Nat → Nat} {M : List SB} {nx : Nat}
def enterB (P : Program) (f : FuncId) : Bool := match P.funcs[f]? with
  | some fn => !(fn.name == "runtime.NumGoroutine") && fn.body.isSome
  | none => false
def Res (P : Program) (w : World) (r : Sem Next) (v : Value) (w' : World) : Prop := ∃ n, r.run P w = .ok n w' ∧ (n = .value v ∨ (n = .skip ∧ v = undef))
theorem Res.val {r : Sem Next} {v : Value} {w' : World} (h : r.run P w = .ok (.value v) w') : Res P w r v w' := ⟨_, h, .inl rfl⟩
theorem Res.skip {r : Sem Next} {w' : World} (h : r.run P w = .ok .skip w') : Res P w r undef w' := ⟨_, h, .inr ⟨rfl, rfl⟩⟩
def Out (P : Program) (ρ : Nat → Nat) (M : List SB) (nx : Nat) (w : World) (r : Sem Next) (x : SV) (us : Ups) : Prop :=
  ∃ w' ρ', (∀ i, (i < nx ∨ i ∉ us.map (·.1)) → ρ' i = ρ i) ∧ Res P w r (x.den ρ') w' ∧ Mem w (feet (denT ρ M (us.map (·.1)))) (denU ρ' us) w'
def EffOk (P : Program) (V : World) (ρ : Nat → Nat) (M : List SB) (nx : Nat) (w : World) (r : Sem Next) : Eff → Prop
  | .eff T vc x us => (∀ b ∈ T, ∀ e ∈ denB ρ b (getB M b), e.at w) → Mem w (feet (denT ρ M (us.map (·.1)))) (denT ρ M (us.map (·.1))) w → vcP vc → Out P ρ M nx w r x us
  | .any χ T vc ok x W bs => (∀ b ∈ T, ∀ e ∈ denB ρ b (getB M b), e.at w) → Mem w (feet (denT ρ M W)) (denT ρ M W) w → vcP vc → ∃ c, ok c ∧ (bs c).length = W.length ∧ Out P ρ M nx w r (x c) (W.zip (bs c))
  | .call f args => enterB P f = true → r.run P w = .ok (.enter f (args.map (SA.den ρ)).toArray) w
  | .no => True
/-- An operation that looks at most. -/
theorem ok_val {r : Sem Next} {T : List Nat} {vc : Option Prop} {x : SV} (h : (∀ b ∈ T, ∀ e ∈ denB ρ b (getB M b), e.at w) → vcP vc → r.run P w = .ok (.value (x.den ρ)) w) : EffOk P V ρ M nx w r (.eff T vc x []) := fun h1 h2 h3 =>
  ⟨w, ρ, fun _ _ => rfl, .val (h h1 h3), ⟨Kept.refl _ _, by simp [denU], by simp [denU], List.Pairwise.nil⟩⟩
theorem info_size {t n : Nat} (h : (P.info? t).map (·.size) = some n) : ∃ i, P.info? t = some i ∧ i.size = n := by
  cases hq : P.info? t with
  | none => rw [hq] at h; cases h
  | some i => exact ⟨i, rfl, by rw [hq] at h; simpa using h⟩
theorem aggOf_some {t : TypeId} (h : aggOf P t = true) : ∃ d, P.underlying t = some d ∧ (match d with | .struct _ | .array _ _ => true | _ => false) = true := by
  unfold aggOf at h
  cases hu : P.underlying t with
  | none => rw [hu] at h; cases h
  | some d => rw [hu] at h; exact ⟨d, rfl, by cases d <;> simp_all⟩
theorem TyOk.agg {t : TypeId} {i : TyI} (h : TyOk P t i) (hi : ∀ z k, i ≠ .one z k) : aggOf P t = true ∧ (P.info? t).map (·.size) = some i.size ∧ (P.info? t).bind (·.zero) = some (.agg (segsDen (fun _ => 0) i.zero).toArray) ∧ segsOk i.zero = true ∧ segsLen i.zero = i.size := by
  cases i with
  | one z k => exact absurd rfl (hi z k)
  | str z ps =>
    obtain ⟨h1, h2, h3, h4⟩ := h
    refine ⟨?_, h2, h3, h4, rfl⟩
    unfold partsOf at h1; unfold aggOf
    cases hu : P.underlying t with
    | none => rw [hu] at h1; cases h1
    | some d => rw [hu] at h1; cases d <;> simp_all
  | arr z n es ea =>
    obtain ⟨h1, h2, h3, h4⟩ := h
    refine ⟨?_, h2, h3, h4, rfl⟩
    unfold arrOf at h1; unfold aggOf
    cases hu : P.underlying t with
    | none => rw [hu] at h1; cases h1
    | some d => rw [hu] at h1; cases d <;> simp_all
theorem segs_noptr {ρ ρ' : Nat → Nat} {l : List Seg} (h : segsAv (fun _ => false) l = true) : segsDen ρ l = segsDen ρ' l := segsAv_den (p := fun _ => false) (fun i hi => by cases hi) h
theorem blk_of {b : Nat} {l : List Seg} {t : TypeId} (h : getB M b = .cells l t) (hR : ∀ e ∈ denB ρ b (getB M b), e.at w) : Blk w (ρ b) (segsDen ρ l) t := by
  rw [h] at hR; exact hR (.blk (ρ b) (segsDen ρ l) t) (by simp [denB])
theorem blk_w {b : Nat} {l : List Seg} {t : TypeId} {x : SB} (h : getB M b = .cells l t) (hW : Mem w (feet (denT ρ M (([(b, x)] : Ups).map (·.1)))) (denT ρ M (([(b, x)] : Ups).map (·.1))) w) : Blk w (ρ b) (segsDen ρ l) t :=
  hW.holds (.blk (ρ b) (segsDen ρ l) t) (by simp [denT, denB, h])
theorem out_blk {b : Nat} {l l' : List Seg} {t : TypeId} (h : getB M b = .cells l t) {r : Sem Next} {x : SV} {w' : World} (hr : Res P w r (x.den ρ) w') (hk : Kept (fun g => g = ρ b) w w') (hB : Blk w' (ρ b) (segsDen ρ l') t) : Out P ρ M nx w r x [(b, .cells l' t)] := by
  refine ⟨w', ρ, fun _ _ => rfl, hr, ?_⟩
  have hf : feet (denT ρ M ([(b, SB.cells l' t)].map (·.1))) (ρ b) := ⟨.blk (ρ b) (segsDen ρ l) t, by simp [denT, denB, h], rfl⟩
  exact .one (hk.mono (fun g hg => by subst hg; exact hf)) hB (fun g hg => .inl (by have hg : ρ b = g := hg; subst hg; exact hf))
theorem out_new (l : List Seg) (t : TypeId) {r : Sem Next} (hl : segsAv (sc nx) l = true) (hr : r.run P w = .ok (.value (.pointer (some ⟨w.heap.size, 0, none⟩))) (w.alloc (.cells (segsDen ρ l).toArray t))) : Out P ρ M nx w r (.o (.c (.p nx 0))) [(nx, .cells l t)] := by
  have hρ : ∀ i, sc nx i = true → (fun i => if i = nx then w.heap.size else ρ i) i = ρ i := fun i hi => if_neg (by have := blt_t hi; omega)
  refine ⟨w.alloc (.cells (segsDen ρ l).toArray t), fun i => if i = nx then w.heap.size else ρ i, fun i hi => if_neg (by simp at hi; omega), .val ?_, ?_⟩
  · rw [hr]; simp [SV.den, SA.den, SC.den]
  · have := (Mem.alloc w (segsDen ρ l) t).subset (S' := feet (denT ρ M ([(nx, SB.cells l t)].map (·.1)))) (fun _ h => h.elim)
    simpa [denU, denB, segsAv_den hρ hl] using this
/-! New variables. -/
def allocS (T : Tab) (nx : Nat) (t : TypeId) : Eff := match lkT T t with
  | some i => bif segsAv (fun _ => false) i.zero then .eff [] none (.o (.c (.p nx 0))) [(nx, .cells i.zero t)] else .no
  | none => .no
theorem zero_cells {T : Tab} (hT : TabOk P T) {t : TypeId} {i : TyI} (h : lkT T t = some i) (hs : segsAv (fun _ => false) i.zero = true) : ∃ z : Value, ∃ j, P.info? t = some j ∧ j.zero = some z ∧ z.cells = (segsDen ρ i.zero).toArray ∧ j.size = i.size := by
  have ok := hT t i h
  have hz : ∃ z : Value, (P.info? t).bind (·.zero) = some z ∧ z.cells = (segsDen ρ i.zero).toArray ∧ (P.info? t).map (·.size) = some i.size := by
    cases i with
    | one z k =>
      obtain ⟨-, -, h2, h3, h4⟩ := ok
      exact ⟨z, h3, by cases z <;> simp_all [Value.cells, Value.oneCell', TyI.zero, segsDen, Seg.den, SC.den], h2⟩
    | str z ps => exact ⟨_, ok.2.2.1, by simp only [TyI.zero] at hs ⊢; rw [Value.cells, segs_noptr (ρ' := ρ) hs], ok.2.1⟩
    | arr z n es ea => exact ⟨_, ok.2.2.1, by simp only [TyI.zero] at hs ⊢; rw [Value.cells, segs_noptr (ρ' := ρ) hs], ok.2.1⟩
  obtain ⟨z, h1, h2, h3⟩ := hz
  cases hq : P.info? t with
  | none => rw [hq] at h1; cases h1
  | some j => exact ⟨z, j, rfl, by simpa [hq] using h1, h2, by simpa [hq] using h3⟩
theorem allocS_ok {T : Tab} (hT : TabOk P T) (t : TypeId) : EffOk P V ρ M nx w (do pure (Next.value (← Instr.alloc t true (.tuple #[])))) (allocS T nx t) := by
  unfold allocS
  cases h : lkT T t with
  | none => trivial
  | some i =>
    dsimp only
    cases hs : segsAv (fun _ => false) i.zero with
    | false => trivial
    | true =>
      obtain ⟨z, j, hq, h1, h2, -⟩ := zero_cells (ρ := ρ) hT h hs
      intro _ _ _
      refine out_new i.zero t (segsAv_mono (fun _ h => by cases h) hs) ?_
      simp [Instr.alloc, zeroValue, typeInfo, hq, h1, newVar, newRow, h2, Sem.run_bind]
def boxS (nx : Nat) (t : TypeId) : Option SV → Eff
  | some (.o (.c x)) => bif x.ok && x.av (sc nx) then .eff [] none (.o (.c (.p nx 0))) [(nx, .cells [.one x] t)] else .no
  | some (.o (.a l)) => bif segsAv (sc nx) l then .eff [] none (.o (.c (.p nx 0))) [(nx, .cells l t)] else .no
  | _ => .no
theorem one_cells {v : Value} (h : v.oneCell' = true) : v.cells = #[v] := by cases v <;> simp_all [Value.cells, Value.oneCell']
theorem boxS_ok (t : TypeId) {x : Option SV} {v : Value} (hx : ∀ y, x = some y → v = y.den ρ) : EffOk P V ρ M nx w (do pure (Next.value (← Instr.box t v))) (boxS nx t x) := by
  unfold boxS
  split
  · rename_i x
    have := hx _ rfl
    subst this
    cases ho : (x.ok && x.av (sc nx))
    · trivial
    · simp only [Bool.and_eq_true] at ho
      intro _ _ _
      refine out_new [.one x] t (by simp [segsAv, ho.2]) ?_
      simp [Instr.box, newVar, newRow, one_cells (SC.ok_den ho.1 ρ), SV.den, SA.den, segsDen, Seg.den]
  · rename_i l
    have := hx _ rfl
    subst this
    cases ho : segsAv (sc nx) l
    · trivial
    · intro _ _ _
      refine out_new l t ho ?_
      simp [Instr.box, newVar, newRow, Value.cells, SV.den, SA.den]
  · trivial
/-! Reading. -/
def rowS (ks : Nat → IntKind) (z : Nat → Nat → Int) (i : Nat) : Nat → Nat → List Seg
  | _, 0 => []
  | f, n + 1 => .one (.v (.int (ks f) (z i f))) :: rowS ks z i (f + 1) n
theorem rowS_get (ρ : Nat → Nat) (ks : Nat → IntKind) (z : Nat → Nat → Int) (i : Nat) : ∀ (n f j : Nat), j < n → (segsDen ρ (rowS ks z i f n))[j]? = some (.int (ks (f + j)) (z i (f + j)))
  | 0, f, j, h => by omega
  | n + 1, f, 0, h => rfl
  | n + 1, f, j + 1, h => by
    have := rowS_get ρ ks z i n (f + 1) j (by omega)
    rw [show f + 1 + j = f + (j + 1) by omega] at this
    simpa [rowS, segsDen, Seg.den] using this
theorem rowS_len (ρ : Nat → Nat) (ks : Nat → IntKind) (z : Nat → Nat → Int) (i : Nat) : ∀ (n f : Nat), (segsDen ρ (rowS ks z i f n)).length = n
  | 0, f => rfl
  | n + 1, f => by simp [rowS, segsDen, Seg.den, rowS_len ρ ks z i n (f + 1)]
/-- Cells one by one. -/
def onesS (k : Nat → CK) (g : Nat → Int) : Nat → Nat → List Seg
  | _, 0 => []
  | f, n + 1 => .one (.v (mkV (k f) (g f))) :: onesS k g (f + 1) n
theorem onesS_den (ρ : Nat → Nat) (k : Nat → CK) (g : Nat → Int) : ∀ (n f : Nat), segsDen ρ (onesS k g f n) = (List.range n).map fun j => mkV (k (f + j)) (g (f + j))
  | 0, f => rfl
  | n + 1, f => by
    rw [List.range_succ_eq_map]
    simp only [onesS, segsDen, Seg.den, List.singleton_append, List.map_cons, Nat.add_zero, List.map_map, onesS_den ρ k g n (f + 1)]
    congr 1
    exact List.map_congr_left fun j _ => by simp only [Function.comp]; rw [show f + 1 + j = f + j.succ by omega]
def isStr : TyI → Bool
  | .str _ _ => true
  | _ => false
/-- Some cells of a run. -/
def runS (i : TyI) (k : CK) (f : Nat → Int) (ix : Nat) : List Seg := bif isStr i then onesS (fun _ => k) (fun j => f (ix + j)) 0 i.size else [.ints k i.size (fun j => f (ix + j))]
theorem runS_den (ρ : Nat → Nat) (i : TyI) (k : CK) (f : Nat → Int) (ix : Nat) : segsDen ρ (runS i k f ix) = (List.range i.size).map fun j => mkV k (f (ix + j)) := by
  unfold runS
  cases isStr i
  · simp [segsDen, Seg.den]
  · simp [onesS_den]
def loadS (V : World) (T : Tab) (M : List SB) (t : TypeId) : Option SV → Eff
  | some (.o (.c (.p b off))) => match lkT T t, getB M b with
    | some (.one _ _), .cells l _ => match segGet l off with
      | some x => .eff [b] none (.o (.c x)) []
      | none => .no
    | some i, .cells l _ => match segSub l off i.size with
      | some l' => bif i.size.beq 0 then .no else .eff [b] none (.o (.a l')) []
      | none => .no
    | _, _ => .no
  | some (.o (.c (.e b off ix))) => match lkT T t, getB M b with
    | some (.one _ _), .cells l _ => match segInts l off with
      | some (k, n, f) => .eff [b] (some (ix < n)) (sv (mkV k (f ix))) []
      | none => .no
    | some i, .cells l _ => match segInts l off with
      | some (k, n, f) => .eff [b] (some (ix + i.size ≤ n)) (.o (.a (runS i k f ix))) []
      | none => .no
    | _, _ => .no
  | some (.o (.c (.er b sz ix f))) => match lkT T t, getB M b with
    | some (.one _ _), .rows _ ks sz' n c z => bif sz'.beq sz && f.blt sz then .eff [b] (some (ix < n)) (sv (mkV (ckAt ks f) (z ix f))) [] else .no
    | some i, .rows _ ks sz' n c z => bif sz'.beq sz && (f + i.size).ble sz then .eff [b] (some (ix < n)) (.o (.a (onesS (ckAt ks) (z ix) f i.size))) [] else .no
    | _, _ => .no
  | some (.o (.c (.re a c m sz ks z i f))) => match lkT T t with
    | some (.one _ _) => bif f.blt sz then .eff [] (some (Rws sz ks V a m c z ∧ i < m)) (sv (.int (ks f) (z i f))) [] else .no
    | some ti => bif f.beq 0 && ti.size.beq sz then .eff [] (some (Rws sz ks V a m c z ∧ i < m)) (.o (.a (rowS ks z i 0 sz))) [] else .no
    | none => .no
  | _ => .no
theorem loadAt_part {T : Tab} (hT : TabOk P T) {t : TypeId} {i : TyI} (h1 : lkT T t = some i) (hi : ∀ z k, i ≠ .one z k) {b off : Nat} {C : List Value} {t' : TypeId} (hB : Blk w b C t') (hl : off + i.size ≤ C.length) :
    (do pure (Next.value (← Instr.loadAt t (.pointer (some ⟨b, off, none⟩)))) : Sem Next).run P w = .ok (.value (.agg ((C.drop off).take i.size).toArray)) w := by
  obtain ⟨ha, hz, -, -, -⟩ := (hT _ _ h1).agg hi
  obtain ⟨d, hu, hd⟩ := aggOf_some ha
  have := run_loadVar_part (P := P) w b C t' t off i.size d hB hl hu (by cases d <;> simp_all) hz
  simp [Instr.loadAt, Instr.sureAddr, this]
theorem loadAt_one {T : Tab} (hT : TabOk P T) {t : TypeId} {z : Value} {kd : Kd} (h1 : lkT T t = some (.one z kd)) {b off : Nat} {v : Value} (hc : w.cell? ⟨b, off, none⟩ = some v) :
    (do pure (Next.value (← Instr.loadAt t (.pointer (some ⟨b, off, none⟩)))) : Sem Next).run P w = .ok (.value v) w := by
  have hs := (hT _ _ h1).2.1
  simp [Instr.loadAt, Instr.sureAddr, run_loadVar_cell t hs _ _ hc]
theorem rowsV_get (ks : Nat → CK) (sz : Nat) (z : Nat → Nat → Int) : ∀ (n i j : Nat), i < n → j < sz → (rowsV ks sz z n)[i * sz + j]? = some (mkV (ks j) (z i j))
  | 0, i, j, h, _ => by omega
  | n + 1, i, j, h, hj => by
    simp only [rowsV]
    rcases Nat.lt_or_ge i n with hi | hi
    · have : i * sz + j < n * sz := by
        have : (i + 1) * sz ≤ n * sz := Nat.mul_le_mul_right _ hi
        rw [Nat.add_mul] at this; omega
      rw [List.getElem?_append_left (by rw [rowsV_len]; exact this)]
      exact rowsV_get ks sz z n i j hi hj
    · obtain rfl : i = n := by omega
      rw [List.getElem?_append_right (by rw [rowsV_len]; omega), rowsV_len, show i * sz + j - i * sz = j by omega]
      simp [rowV, List.getElem?_map, List.getElem?_range hj]
theorem row_of {b : Nat} {t : TypeId} {ks : List CK} {sz n c : Nat} {z : Nat → Nat → Int} (h : getB M b = .rows t ks sz n c z) (hR : ∀ e ∈ denB ρ b (getB M b), e.at w) : RowAt w (ρ b) t sz n c (rowsV (ckAt ks) sz z n) := by
  rw [h] at hR
  exact hR (.row (ρ b) t sz n c (rowsV (ckAt ks) sz z n)) (by simp [denB])
theorem RowAt.blk {b : Nat} {t : TypeId} {sz n c : Nat} {xs : List Value} (h : RowAt w b t sz n c xs) (hn : 0 < n) : ∃ C, Blk w b C t ∧ C.length = c * sz ∧ C.take (n * sz) = xs ∧ c ≤ maxLen := h.2.2 (by have := h.1; omega)
theorem RowAt.cell {b : Nat} {t : TypeId} {ks : Nat → CK} {sz n c : Nat} {z : Nat → Nat → Int} (h : RowAt w b t sz n c (rowsV ks sz z n)) {i j : Nat} (hi : i < n) (hj : j < sz) : w.cell? ⟨b, i * sz + j, none⟩ = some (mkV (ks j) (z i j)) := by
  obtain ⟨C, hB, hl, ht, -⟩ := h.blk (by omega)
  rw [hB.cell, ← rowsV_get ks sz z n i j hi hj, ← ht, List.getElem?_take, if_pos]
  have : (i + 1) * sz ≤ n * sz := Nat.mul_le_mul_right _ hi
  rw [Nat.add_mul] at this; omega
/-- An operation that only reads. -/
def EffRd (P : Program) (ρ : Nat → Nat) (M : List SB) (w : World) (r : Sem Next) : Eff → Prop
  | .eff T vc x us => us = [] ∧ ((∀ b ∈ T, ∀ e ∈ denB ρ b (getB M b), e.at w) → vcP vc → r.run P w = .ok (.value (x.den ρ)) w)
  | .no => True
  | _ => False
theorem EffRd.ok {r : Sem Next} {e : Eff} (h : EffRd P ρ M w r e) : EffOk P V ρ M nx w r e := by
  cases e with
  | eff T vc x us => obtain ⟨rfl, h⟩ := h; exact ok_val h
  | no => trivial
  | _ => exact h.elim
theorem loadS_rd {T : Tab} (hT : TabOk P T) (hV : OldV V w) (t : TypeId) {x : Option SV} {v : Value} (hx : ∀ y, x = some y → v = y.den ρ) : EffRd P ρ M w (do pure (Next.value (← Instr.loadAt t v))) (loadS V T M t x) := by
  unfold loadS
  split
  · rename_i b off
    have := hx _ rfl
    subst this
    split
    · rename_i z k l t' h1 h2
      cases h3 : segGet l off with
      | none => trivial
      | some y =>
        refine ⟨rfl, fun hR _ => loadAt_one hT h1 ?_⟩
        rw [(blk_of h2 (hR b (by simp))).cell]; exact segGet_den ρ l off y h3
    · rename_i i l t' hi h1 h2
      cases h3 : segSub l off i.size with
      | none => trivial
      | some l' =>
        dsimp only
        cases h00 : i.size.beq 0
        case true => trivial
        rw [cond_false]
        have h0 : i.size ≠ 0 := fun e => by rw [e] at h00; cases h00
        refine ⟨rfl, fun hR _ => ?_⟩
        obtain ⟨e1, e2, e3⟩ := segSub_den ρ l off i.size l' h3
        have := loadAt_part hT h1 (fun z k e => hi z k e) (blk_of h2 (hR b (by simp))) (by rw [segsDen_len]; exact e2 h0)
        rw [e1] at this
        exact this
    · trivial
  · rename_i b off ix
    have := hx _ rfl
    subst this
    split
    · rename_i z k l t' h1 h2
      cases h3 : segInts l off with
      | none => trivial
      | some q =>
        obtain ⟨k, n, f⟩ := q
        refine ⟨rfl, fun hR hlt => loadAt_one hT h1 ?_⟩
        rw [(blk_of h2 (hR b (by simp))).cell]; exact segInts_den ρ l off k n f h3 ix hlt
    · rename_i i l t' hi h1 h2
      cases h3 : segInts l off with
      | none => trivial
      | some q =>
        obtain ⟨k, n, f⟩ := q
        refine ⟨rfl, fun hR hlt => ?_⟩
        simp only [vcP] at hlt
        have hB := blk_of h2 (hR b (by simp))
        have hle : off + n ≤ (segsDen ρ l).length := by
          rw [segsDen_len]; exact segInts_le l off k n f h3
        have := loadAt_part hT h1 (fun z k e => hi z k e) hB (off := off + ix) (by omega)
        rw [show (SV.o (.a (runS i k f ix))).den ρ = .agg (((segsDen ρ l).drop (off + ix)).take i.size).toArray by
          simp only [SV.den, SA.den, runS_den]
          congr 2
          apply List.ext_getElem?
          intro j
          by_cases hj : j < i.size
          · rw [List.getElem?_take_of_lt hj, List.getElem?_drop, List.getElem?_map, List.getElem?_range hj, Nat.add_assoc, segInts_den ρ l off k n f h3 (ix + j) (by omega)]; rfl
          · rw [List.getElem?_eq_none (by simp; omega), List.getElem?_eq_none (by simp; omega)]]
        exact this
    · trivial
  · rename_i b sz ix f
    have := hx _ rfl
    subst this
    split
    · rename_i z0 k0 t' ks sz' n c z h1 h2
      cases hb : (sz'.beq sz && f.blt sz)
      · trivial
      · simp only [Bool.and_eq_true] at hb
        obtain rfl := Nat.eq_of_beq_eq_true hb.1
        refine ⟨rfl, fun hR hlt => loadAt_one hT h1 ?_⟩
        simp only [vcP] at hlt
        exact (row_of h2 (hR b (by simp))).cell hlt (blt_t hb.2)
    · rename_i i t' ks sz' n c z hi h1 h2
      cases hb : (sz'.beq sz && (f + i.size).ble sz)
      · trivial
      · simp only [Bool.and_eq_true] at hb
        obtain rfl := Nat.eq_of_beq_eq_true hb.1
        have hf := ble_t hb.2
        refine ⟨rfl, fun hR hlt => ?_⟩
        simp only [vcP] at hlt
        have hrow := row_of h2 (hR b (by simp))
        obtain ⟨C, hB, hl, ht, -⟩ := hrow.blk (by omega)
        have h1n : (ix + 1) * sz' ≤ n * sz' := Nat.mul_le_mul_right _ hlt
        have hnc : n * sz' ≤ c * sz' := Nat.mul_le_mul_right _ hrow.1
        rw [Nat.add_mul] at h1n
        have := loadAt_part hT h1 (fun z k e => hi z k e) hB (off := ix * sz' + f) (by omega)
        rw [show (SV.o (.a (onesS (ckAt ks) (z ix) f i.size))).den ρ = .agg ((C.drop (ix * sz' + f)).take i.size).toArray by
          simp only [SV.den, SA.den, onesS_den]
          congr 2
          apply List.ext_getElem?
          intro j
          by_cases hj : j < i.size
          · rw [List.getElem?_take_of_lt hj, List.getElem?_drop, List.getElem?_map, List.getElem?_range hj]
            have := hrow.cell (i := ix) (j := f + j) hlt (by omega)
            rw [hB.cell] at this
            rw [Nat.add_assoc, this]; rfl
          · rw [List.getElem?_eq_none (by simp; omega), List.getElem?_eq_none (by simp; omega)]]
        exact this
    · trivial
  · rename_i a c m sz ks z i f
    have := hx _ rfl
    subst this
    split
    · rename_i z0 k0 h1
      cases hb : f.blt sz
      · trivial
      · refine ⟨rfl, fun _ h => ?_⟩
        obtain ⟨hr, hi⟩ := h
        obtain ⟨b, off, rfl, -, hc⟩ := (hV _ _ _ _ _ _ hr).at i hi
        have e : (SV.o (.c (.re (some ⟨b, off, none⟩) c m sz ks z i f))).den ρ = .pointer (some ⟨b, off + i * sz + f, none⟩) := by
          simp only [SV.den, SA.den, SC.den, elemAddr, Nat.add_assoc]
        rw [e]
        exact loadAt_one hT h1 (hc f (blt_t hb)).1
    · rename_i ti hone h1
      cases hb : (f.beq 0 && ti.size.beq sz)
      · trivial
      · simp only [Bool.and_eq_true] at hb
        obtain rfl := Nat.eq_of_beq_eq_true hb.1
        have hsz := Nat.eq_of_beq_eq_true hb.2
        refine ⟨rfl, fun _ h => ?_⟩
        obtain ⟨hr, hi⟩ := h
        obtain ⟨b, off, rfl, -, hc⟩ := (hV _ _ _ _ _ _ hr).at i hi
        obtain ⟨ha, hz, -, -, -⟩ := (hT _ _ h1).agg (fun z k e => hone z k e)
        obtain ⟨d, hu, hd⟩ := aggOf_some ha
        have e : (SV.o (.c (.re (some ⟨b, off, none⟩) c m sz ks z i 0))).den ρ = .pointer (some ⟨b, off + i * sz, none⟩) := by
          simp only [SV.den, SA.den, SC.den, elemAddr, Nat.add_zero]
        rw [e]
        have hmid := run_loadVar_mid (P := P) w b (off + i * sz) t (segsDen ρ (rowS ks z i 0 sz)) d (fun j v hv => by
          have hj : j < sz := by
            have := (List.getElem?_eq_some_iff.1 hv).1
            rwa [rowS_len] at this
          rw [rowS_get ρ ks z i sz 0 j hj, Nat.zero_add, Option.some.injEq] at hv
          subst hv
          exact (hc j hj).1) hu (by cases d <;> simp_all [TypeDesc.isRow]) (by rw [rowS_len, ← hsz]; exact hz)
        simp [Instr.loadAt, Instr.sureAddr, hmid, SV.den, SA.den]
    · trivial
  · trivial
theorem loadS_ok {T : Tab} (hT : TabOk P T) (hV : OldV V w) (t : TypeId) {x : Option SV} {v : Value} (hx : ∀ y, x = some y → v = y.den ρ) : EffOk P V ρ M nx w (do pure (Next.value (← Instr.loadAt t v))) (loadS V T M t x) := (loadS_rd hT hV t hx).ok
/-! Writing. -/
/-- Cells as numbers of one kind. -/
def segsNum (k : CK) : List Seg → Option (List Int)
  | [] => some []
  | .one (.v u) :: r => match valI k u, segsNum k r with
    | some z, some l => some (z :: l)
    | _, _ => none
  | _ => none
def segsFn (k : CK) : List Seg → Option (Nat → Int)
  | [.ints k' _ g] => bif (ckN k).beq (ckN k') then some g else none
  | l => match segsNum k l with
    | some zs => some (fun i => zs.getD i 0)
    | none => none
theorem segsNum_den (ρ : Nat → Nat) (k : CK) : ∀ (l : List Seg) (zs : List Int), segsNum k l = some zs → segsDen ρ l = (List.range (segsLen l)).map fun i => mkV k (zs.getD i 0)
  | [], zs, h => rfl
  | .ints _ _ _ :: r, zs, h => by simp [segsNum] at h
  | .one x :: r, zs, h => by
    cases x with
    | v u =>
      simp only [segsNum] at h
      split at h
      · rename_i z l h1 h2
        simp only [Option.some.injEq] at h; subst h
        have ih := segsNum_den ρ k r l h2
        simp only [segsDen, Seg.den, segsLen, Seg.len, SC.den, ← valI_mk h1, ih]
        rw [Nat.add_comm, List.range_succ_eq_map]
        simp
      · cases h
    | _ => simp [segsNum] at h
theorem segsFn_den (ρ : Nat → Nat) {k : CK} {l : List Seg} {g : Nat → Int} (h : segsFn k l = some g) : segsDen ρ l = (List.range (segsLen l)).map fun i => mkV k (g i) := by
  unfold segsFn at h
  split at h
  · rename_i k' n g'
    cases hk : (ckN k).beq (ckN k')
    · rw [hk] at h; cases h
    · rw [hk] at h
      have := ckN_inj hk
      subst this
      simp only [cond_true, Option.some.injEq] at h; subst h
      simp [segsDen, Seg.den, segsLen, Seg.len]
  · split at h
    · rename_i zs hz
      simp only [Option.some.injEq] at h; subst h
      exact segsNum_den ρ k _ zs hz
    · cases h
/-- Some cells in a row of rows, each of its kind. -/
def colNum (ks : Nat → CK) : Nat → List Seg → Option (List Int)
  | _, [] => some []
  | f, .one (.v u) :: r => match valI (ks f) u, colNum ks (f + 1) r with
    | some z, some l => some (z :: l)
    | _, _ => none
  | _, _ => none
theorem colNum_den (ρ : Nat → Nat) (ks : Nat → CK) : ∀ (l : List Seg) (f : Nat) (zs : List Int), colNum ks f l = some zs → zs.length = segsLen l ∧ segsDen ρ l = (List.range (segsLen l)).map fun i => mkV (ks (f + i)) (zs.getD i 0)
  | [], f, zs, h => by simp only [colNum, Option.some.injEq] at h; subst h; exact ⟨rfl, rfl⟩
  | .ints _ _ _ :: r, f, zs, h => by simp [colNum] at h
  | .one x :: r, f, zs, h => by
    cases x with
    | v u =>
      simp only [colNum] at h
      split at h
      · rename_i z l h1 h2
        simp only [Option.some.injEq] at h; subst h
        obtain ⟨ih1, ih⟩ := colNum_den ρ ks r (f + 1) l h2
        refine ⟨by simp only [List.length_cons, segsLen, Seg.len, ih1]; omega, ?_⟩
        simp only [segsDen, Seg.den, segsLen, Seg.len, SC.den, ← valI_mk h1, ih]
        rw [Nat.add_comm 1, List.range_succ_eq_map]
        simp only [List.singleton_append, List.map_cons, List.map_map, Nat.add_zero, List.getD_cons_zero]
        congr 1
        exact List.map_congr_left fun j _ => by simp only [Function.comp, List.getD_cons_succ]; rw [show f + 1 + j = f + j.succ by omega]
      · cases h
    | _ => simp [colNum] at h
def updR (z : Nat → Nat → Int) (ix f : Nat) (zs : List Int) : Nat → Nat → Int := fun i j => bif i.beq ix && (f.ble j && j.blt (f + zs.length)) then zs.getD (j - f) 0 else z i j
def storeS (T : Tab) (M : List SB) (t : TypeId) : Option SV → Option SV → Eff
  | some (.o (.c (.p b off))), some (.o (.c y)) => match lkT T t, getB M b with
    | some (.one _ _), .cells l t' => match segSet l off y with
      | some l' => bif y.ok then .eff [] none (sv undef) [(b, .cells l' t')] else .no
      | none => .no
    | _, _ => .no
  | some (.o (.c (.p b off))), some (.o (.a m)) => match lkT T t, getB M b with
    | some (.one _ _), _ => .no
    | some i, .cells l t' => match segPut l off m with
      | some l' => bif segsOk m && (segsLen m).beq i.size then .eff [] none (sv undef) [(b, .cells l' t')] else .no
      | none => .no
    | _, _ => .no
  | some (.o (.c (.e b off ix))), some (.o (.c (.v u))) => match lkT T t, getB M b with
    | some (.one _ _), .cells l t' => match segInts l off with
      | some (k, n, f) => match valI k u with
        | some z => match segSetI l off ix z with
          | some l' => .eff [] (some (ix < n)) (sv undef) [(b, .cells l' t')]
          | none => .no
        | none => .no
      | none => .no
    | _, _ => .no
  | some (.o (.c (.e b off ix))), some (.o (.a m)) => match lkT T t, getB M b with
    | some (.one _ _), _ => .no
    | some i, .cells l t' => match segInts l off with
      | some (k, n, f) => match segsFn k m with
        | some g => match segSetF l off (fun j => bif ix.ble j && j.blt (ix + i.size) then g (j - ix) else f j) with
          | some l' => bif (segsLen m).beq i.size then .eff [] (some (ix + i.size ≤ n)) (sv undef) [(b, .cells l' t')] else .no
          | none => .no
        | none => .no
      | none => .no
    | _, _ => .no
  | some (.o (.c (.er b sz ix f))), some (.o (.c (.v u))) => match lkT T t, getB M b with
    | some (.one _ _), .rows t' ks sz' n c z => bif sz'.beq sz && f.blt sz then (match valI (ckAt ks f) u with
      | some y => .eff [] (some (ix < n)) (sv undef) [(b, .rows t' ks sz' n c (updR z ix f [y]))]
      | none => .no) else .no
    | _, _ => .no
  | some (.o (.c (.er b sz ix f))), some (.o (.a m)) => match lkT T t, getB M b with
    | some (.one _ _), _ => .no
    | some i, .rows t' ks sz' n c z => bif sz'.beq sz && (f + i.size).ble sz && (segsLen m).beq i.size then (match colNum (ckAt ks) f m with
      | some zs => .eff [] (some (ix < n)) (sv undef) [(b, .rows t' ks sz' n c (updR z ix f zs))]
      | none => .no) else .no
    | _, _ => .no
  | _, _ => .no
theorem oneB_of {t : TypeId} (h : (P.info? t).map (·.size) = some 1) : oneB P t = true := by unfold oneB; rw [h]; rfl
theorem storeAt_one {T : Tab} (hT : TabOk P T) {t : TypeId} {z : Value} {kd : Kd} (h1 : lkT T t = some (.one z kd)) {b off : Nat} {C : List Value} {t' : TypeId} {v : Value} (hB : Blk w b C t') (hl : off < C.length) (hv : v.oneCell' = true) :
    (do Instr.storeAt t (.pointer (some ⟨b, off, none⟩)) v; pure Next.skip : Sem Next).run P w = .ok .skip (w.setCell ⟨b, off, none⟩ v) := by
  have hc : w.cell? ⟨b, off, none⟩ = some C[off] := by rw [hB.cell]; exact List.getElem?_eq_getElem hl
  have hr := run_storeVar_cell (P := P) t (oneB_of (hT _ _ h1).2.2.1) ⟨b, off, none⟩ v _ hv hc (hB.frozen _)
  simp only [Instr.storeAt, Instr.sureAddr, Sem.run_bind, Sem.run_pure, Result.andThen_ok, hr]
theorem storeAt_part {T : Tab} (hT : TabOk P T) {t : TypeId} {i : TyI} (h1 : lkT T t = some i) (hi : ∀ z k, i ≠ .one z k) {b off : Nat} {C vs : List Value} {t' : TypeId} (hB : Blk w b C t') (hn : vs.length = i.size) (hl : off + i.size ≤ C.length) (hv : ∀ v ∈ vs, v.oneCell' = true) :
    (do Instr.storeAt t (.pointer (some ⟨b, off, none⟩)) (.agg vs.toArray); pure Next.skip : Sem Next).run P w = .ok .skip (setBlk w b (spl C off vs)) := by
  obtain ⟨ha, hz, -, -, -⟩ := (hT _ _ h1).agg hi
  have hr := run_storeVar_part (P := P) w b C t' t off i.size vs hB hn hl hz hv
  simp only [Instr.storeAt, Instr.sureAddr, Sem.run_bind, Sem.run_pure, Result.andThen_ok, hr]
theorem kept_set (w : World) (b o : Nat) (v : Value) : Kept (fun g => g = b) w (w.setCell ⟨b, o, none⟩ v) := (Kept.refl (fun g => g = b) w).setCell (p := ⟨b, o, none⟩) (.inl rfl) _
theorem kept_blk (w : World) (b : Nat) (C : List Value) : Kept (fun g => g = b) w (setBlk w b C) := (Kept.setBlk w b C).mono (fun k hk => hk)
theorem row_w {b : Nat} {t : TypeId} {ks : List CK} {sz n c : Nat} {z : Nat → Nat → Int} {x : SB} (h : getB M b = .rows t ks sz n c z) (hW : Mem w (feet (denT ρ M (([(b, x)] : Ups).map (·.1)))) (denT ρ M (([(b, x)] : Ups).map (·.1))) w) : RowAt w (ρ b) t sz n c (rowsV (ckAt ks) sz z n) :=
  hW.holds (.row (ρ b) t sz n c (rowsV (ckAt ks) sz z n)) (by simp [denT, denB, h])
theorem out_row {b : Nat} {t : TypeId} {ks : List CK} {sz n c : Nat} {z z' : Nat → Nat → Int} (h : getB M b = .rows t ks sz n c z) (hc : 0 < c) {r : Sem Next} {x : SV} {w' : World} (hr : Res P w r (x.den ρ) w') (hk : Kept (fun g => g = ρ b) w w') (hB : RowAt w' (ρ b) t sz n c (rowsV (ckAt ks) sz z' n)) : Out P ρ M nx w r x [(b, .rows t ks sz n c z')] := by
  refine ⟨w', ρ, fun _ _ => rfl, hr, ?_⟩
  have hf : feet (denT ρ M ([(b, SB.rows t ks sz n c z')].map (·.1))) (ρ b) := ⟨.row (ρ b) t sz n c (rowsV (ckAt ks) sz z n), by simp [denT, denB, h], hc, rfl⟩
  exact .one (hk.mono (fun g hg => by subst hg; exact hf)) hB (fun g hg => .inl (by have hg : 0 < c ∧ ρ b = g := hg; rw [← hg.2]; exact hf))
theorem rowsV_ext {ks : Nat → CK} {sz n : Nat} {z : Nat → Nat → Int} {L : List Value} (hl : L.length = n * sz) (h : ∀ i j, i < n → j < sz → L[i * sz + j]? = some (mkV (ks j) (z i j))) : L = rowsV ks sz z n := by
  apply List.ext_getElem?
  intro q
  by_cases hq : q < n * sz
  · have hs : 0 < sz := by
      rcases Nat.eq_zero_or_pos sz with h0 | h0
      · subst h0; omega
      · exact h0
    have e : q = q / sz * sz + q % sz := by rw [Nat.mul_comm]; exact (Nat.div_add_mod q sz).symm
    have h1 : q / sz < n := Nat.div_lt_of_lt_mul (by rw [Nat.mul_comm]; exact hq)
    have h2 := Nat.mod_lt q hs
    rw [e, h _ _ h1 h2, rowsV_get ks sz z n _ _ h1 h2]
  · rw [List.getElem?_eq_none (by omega), List.getElem?_eq_none (by rw [rowsV_len]; omega)]
/-- Cells of one row are written. -/
theorem RowAt.put {w w' : World} {b : Nat} {t : TypeId} {ks : Nat → CK} {sz n c : Nat} {z : Nat → Nat → Int} (h : RowAt w b t sz n c (rowsV ks sz z n)) {ix f : Nat} {zs : List Int} (hix : ix < n) (hf : f + zs.length ≤ sz)
    (hw : ∀ C, Blk w b C t → Blk w' b (spl C (ix * sz + f) ((List.range zs.length).map fun i => mkV (ks (f + i)) (zs.getD i 0))) t) : RowAt w' b t sz n c (rowsV ks sz (updR z ix f zs) n) := by
  obtain ⟨C, hB, hl, ht, hm⟩ := h.blk (by omega)
  have h1n : (ix + 1) * sz ≤ n * sz := Nat.mul_le_mul_right _ hix
  have hnc : n * sz ≤ c * sz := Nat.mul_le_mul_right _ h.1
  rw [Nat.add_mul] at h1n
  refine ⟨h.1, rowsV_len _ _ _ _, fun _ => ⟨_, hw C hB, by rw [spl_length _ _ _ (by simp; omega)]; exact hl, ?_, hm⟩⟩
  apply rowsV_ext
  · rw [List.length_take, spl_length _ _ _ (by simp; omega)]; omega
  intro i j hi hj
  have hij : (i + 1) * sz ≤ n * sz := Nat.mul_le_mul_right _ hi
  rw [Nat.add_mul] at hij
  have hC : C[i * sz + j]? = some (mkV (ks j) (z i j)) := by
    rw [← rowsV_get ks sz z n i j hi hj, ← ht, List.getElem?_take, if_pos (by omega)]
  rw [List.getElem?_take, if_pos (by omega)]
  unfold spl updR
  simp only [List.getElem?_append, List.length_append, List.length_take, List.length_map, List.length_range, List.getElem?_take, List.getElem?_drop, List.getElem?_map]
  rw [Nat.min_eq_left (show ix * sz + f ≤ C.length by omega)]
  by_cases he : i = ix
  · subst he
    simp only [show i.beq i = true by simp, Bool.true_and]
    by_cases h1 : j < f
    · rw [if_pos (by omega), if_pos (by omega), if_pos (by omega), hC]
      simp [show f.ble j = false by cases hb : f.ble j; rfl; exact absurd (ble_t hb) (by omega)]
    · by_cases h2 : j < f + zs.length
      · rw [if_pos (by omega), if_neg (by omega), List.getElem?_range (by omega)]
        simp only [show f.ble j = true from Nat.ble_eq_true_of_le (by omega), show j.blt (f + zs.length) = true by simpa [Nat.blt_eq] using h2, Bool.and_self, cond_true, Option.map_some]
        rw [show i * sz + j - (i * sz + f) = j - f by omega, show f + (j - f) = j by omega]
      · rw [if_neg (by omega), show i * sz + f + zs.length + (i * sz + j - (i * sz + f + zs.length)) = i * sz + j by omega, hC]
        simp [show j.blt (f + zs.length) = false by cases hb : j.blt (f + zs.length); rfl; exact absurd (blt_t hb) (by omega)]
  · simp only [nbeq he, Bool.false_and, cond_false]
    rcases Nat.lt_or_gt_of_ne he with hlt | hgt
    · have : (i + 1) * sz ≤ ix * sz := Nat.mul_le_mul_right _ hlt
      rw [Nat.add_mul] at this
      rw [if_pos (by omega), if_pos (by omega), if_pos (by omega), hC]
    · have : (ix + 1) * sz ≤ i * sz := Nat.mul_le_mul_right _ hgt
      rw [Nat.add_mul] at this
      rw [if_neg (by omega), show ix * sz + f + zs.length + (i * sz + j - (ix * sz + f + zs.length)) = i * sz + j by omega, hC]
theorem storeS_ok {T : Tab} (hT : TabOk P T) (t : TypeId) {x y : Option SV} {v u : Value} (hx : ∀ s, x = some s → v = s.den ρ) (hy : ∀ s, y = some s → u = s.den ρ) : EffOk P V ρ M nx w (do Instr.storeAt t v u; pure Next.skip) (storeS T M t x y) := by
  unfold storeS
  split
  · rename_i b off y
    have := hx _ rfl
    subst this
    have := hy _ rfl
    subst this
    split
    · rename_i z k l t' h1 h2
      cases h3 : segSet l off y with
      | none => trivial
      | some l' =>
        dsimp only
        cases ho : y.ok
        · trivial
        · intro _ hW _
          obtain ⟨e1, e2⟩ := segSet_den ρ l off y l' h3
          have hB := blk_w h2 hW
          exact out_blk h2 (.skip (storeAt_one hT h1 hB (by rw [segsDen_len]; exact e2) (SC.ok_den ho ρ))) (kept_set w _ _ _) (by rw [← e1]; exact hB.set off _)
    · trivial
  · rename_i b off m
    have := hx _ rfl
    subst this
    have := hy _ rfl
    subst this
    split
    · trivial
    · rename_i i l t' hi h1 h2
      cases h3 : segPut l off m with
      | none => trivial
      | some l' =>
        dsimp only
        cases ho : (segsOk m && (segsLen m).beq i.size)
        · trivial
        · simp only [Bool.and_eq_true] at ho
          intro _ hW _
          obtain ⟨e1, e2⟩ := segPut_den ρ l off m l' h3
          have hB := blk_w h2 hW
          have hsz := Nat.eq_of_beq_eq_true ho.2
          exact out_blk h2 (.skip (storeAt_part hT h1 (fun z k e => hi z k e) hB (vs := segsDen ρ m) (by rw [segsDen_len, hsz]) (by rw [segsDen_len]; omega) (segsDen_one ho.1))) (kept_blk w _ _) (by rw [← e1]; exact hB.setBlk _)
    · trivial
  · rename_i b off ix u
    have := hx _ rfl
    subst this
    have := hy _ rfl
    subst this
    split
    · rename_i z0 k0 l t' h1 h2
      cases h3 : segInts l off with
      | none => trivial
      | some q =>
        obtain ⟨k, n, f⟩ := q
        dsimp only
        cases h4 : valI k u with
        | none => trivial
        | some z =>
          dsimp only
          cases h5 : segSetI l off ix z with
          | none => trivial
          | some l' =>
            intro _ hW hlt
            simp only [vcP] at hlt
            obtain ⟨e1, e2⟩ := segSetI_den ρ l off ix z l' k n f h3 hlt h5
            have hB := blk_w h2 hW
            rw [valI_mk h4] at e1
            exact out_blk h2 (.skip (storeAt_one hT h1 hB (by rw [segsDen_len]; exact e2) (by rw [← valI_mk h4]; exact mkV_one _ _))) (kept_set w _ _ _) (by rw [← e1]; exact hB.set _ _)
    · trivial
  · rename_i b off ix m
    have := hx _ rfl
    subst this
    have := hy _ rfl
    subst this
    split
    · trivial
    · rename_i i l t' hi h1 h2
      cases h3 : segInts l off with
      | none => trivial
      | some q =>
        obtain ⟨k, n, f⟩ := q
        dsimp only
        cases h4 : segsFn k m with
        | none => trivial
        | some g =>
          dsimp only
          cases h5 : segSetF l off (fun j => bif ix.ble j && j.blt (ix + i.size) then g (j - ix) else f j) with
          | none => trivial
          | some l' =>
            dsimp only
            cases ho : (segsLen m).beq i.size
            · trivial
            · intro _ hW hlt
              simp only [vcP] at hlt
              have hsz := Nat.eq_of_beq_eq_true ho
              have hB := blk_w h2 hW
              have hle := segInts_le l off k n f h3
              have hd := segSetF_den ρ l off _ l' k n f h3 h5
              have hm := segsFn_den ρ h4
              have e1 : spl (segsDen ρ l) (off + ix) (segsDen ρ m) = segsDen ρ l' := by
                rw [hd, hm, hsz]
                apply List.ext_getElem?
                intro j
                unfold spl
                simp only [List.getElem?_append, List.length_append, List.length_take, List.length_map, List.length_range, List.getElem?_take, List.getElem?_drop, List.getElem?_map, segsDen_len]
                rw [Nat.min_eq_left (by omega), Nat.min_eq_left (by omega)]
                by_cases c1 : j < off
                · rw [if_pos (by omega), if_pos (by omega), if_pos (by omega), if_pos (by omega), if_pos c1, if_pos c1]
                · by_cases c2 : j < off + n
                  · rw [if_pos c2, if_neg c1, List.getElem?_range (show j - off < n by omega)]
                    have hlj := segInts_den ρ l off k n f h3 (j - off) (by omega)
                    rw [show off + (j - off) = j by omega] at hlj
                    by_cases c3 : j < off + ix
                    · rw [if_pos (by omega), if_pos c3, if_pos c3, hlj]
                      simp only [Option.map_some, ble_ff (show j - off < ix by omega), Bool.false_and, cond_false]
                    · by_cases c4 : j < off + ix + i.size
                      · rw [if_pos c4, if_neg c3, List.getElem?_range (show j - (off + ix) < i.size by omega)]
                        simp only [Option.map_some, show ix.ble (j - off) = true from Nat.ble_eq_true_of_le (by omega), blt_tt (show j - off < ix + i.size by omega), Bool.and_self, cond_true]
                        rw [show j - off - ix = j - (off + ix) by omega]
                      · rw [if_neg c4, show off + ix + i.size + (j - (off + ix + i.size)) = j by omega, hlj]
                        simp only [Option.map_some, blt_ff (show ix + i.size ≤ j - off by omega), Bool.and_false, cond_false]
                  · rw [if_neg (by omega), if_neg c2, show off + ix + i.size + (j - (off + ix + i.size)) = j by omega, show off + n + (j - (off + n)) = j by omega]
              exact out_blk h2 (.skip (storeAt_part hT h1 (fun z k e => hi z k e) hB (vs := segsDen ρ m) (by rw [segsDen_len, hsz]) (by rw [segsDen_len]; omega) (by rw [hm]; intro v hv; simp only [List.mem_map] at hv; obtain ⟨_, -, rfl⟩ := hv; exact mkV_one _ _))) (kept_blk w _ _) (by rw [← e1]; exact hB.setBlk _)
    · trivial
  · rename_i b sz ix f u
    have := hx _ rfl
    subst this
    have := hy _ rfl
    subst this
    split
    · rename_i z0 k0 t' ks sz' n c z h1 h2
      cases hb : (sz'.beq sz && f.blt sz)
      · trivial
      · simp only [Bool.and_eq_true] at hb
        obtain rfl := Nat.eq_of_beq_eq_true hb.1
        have hf := blt_t hb.2
        dsimp only [cond_true]
        cases h4 : valI (ckAt ks f) u with
        | none => trivial
        | some y =>
          intro _ hW hlt
          simp only [vcP] at hlt
          have hrow := row_w h2 hW
          obtain ⟨C, hB, hl, ht, -⟩ := hrow.blk (by omega)
          have h1n : (ix + 1) * sz' ≤ n * sz' := Nat.mul_le_mul_right _ hlt
          have hnc : n * sz' ≤ c * sz' := Nat.mul_le_mul_right _ hrow.1
          rw [Nat.add_mul] at h1n
          refine out_row h2 (by have := hrow.1; omega) (.skip (storeAt_one hT h1 hB (off := ix * sz' + f) (v := u) (by omega) (by rw [← valI_mk h4]; exact mkV_one _ _))) (kept_set w _ _ _) (hrow.put hlt (zs := [y]) (by simp; omega) (fun C' hC' => ?_))
          have he : C' = C := by
            have h1 : w.heap[ρ b]? = some (.cells C'.toArray t' (0, 0)) := hC'
            have h2 : w.heap[ρ b]? = some (.cells C.toArray t' (0, 0)) := hB
            rw [h1] at h2; simpa using h2
          subst he
          have := hB.set (ix * sz' + f) u
          have e : spl C' (ix * sz' + f) ((List.range ([y] : List Int).length).map fun i => mkV (ckAt ks (f + i)) (([y] : List Int).getD i 0)) = C'.set (ix * sz' + f) u := by
            simp only [List.length_singleton, List.range_one, List.map_cons, List.map_nil, Nat.add_zero, List.getD_cons_zero, valI_mk h4]
            unfold spl
            rw [List.set_eq_take_append_cons_drop, if_pos (by omega)]; simp
          rw [e]; exact this
    · trivial
  · rename_i b sz ix f m
    have := hx _ rfl
    subst this
    have := hy _ rfl
    subst this
    split
    · trivial
    · rename_i i t' ks sz' n c z hi h1 h2
      cases hb : (sz'.beq sz && (f + i.size).ble sz && (segsLen m).beq i.size)
      · trivial
      · simp only [Bool.and_eq_true] at hb
        obtain ⟨⟨hb1, hb2⟩, hb3⟩ := hb
        obtain rfl := Nat.eq_of_beq_eq_true hb1
        have hf := ble_t hb2
        have hsz := Nat.eq_of_beq_eq_true hb3
        dsimp only [cond_true]
        cases h4 : colNum (ckAt ks) f m with
        | none => trivial
        | some zs =>
          intro _ hW hlt
          simp only [vcP] at hlt
          have hrow := row_w h2 hW
          obtain ⟨C, hB, hl, ht, -⟩ := hrow.blk (by omega)
          have h1n : (ix + 1) * sz' ≤ n * sz' := Nat.mul_le_mul_right _ hlt
          have hnc : n * sz' ≤ c * sz' := Nat.mul_le_mul_right _ hrow.1
          rw [Nat.add_mul] at h1n
          obtain ⟨hz1, hz2⟩ := colNum_den ρ (ckAt ks) m f zs h4
          refine out_row h2 (by have := hrow.1; omega) (.skip (storeAt_part hT h1 (fun z k e => hi z k e) hB (off := ix * sz' + f) (vs := segsDen ρ m) (by rw [segsDen_len, hsz]) (by omega) (by rw [hz2]; intro v hv; simp only [List.mem_map] at hv; obtain ⟨_, -, rfl⟩ := hv; exact mkV_one _ _))) (kept_blk w _ _) (hrow.put hlt (zs := zs) (by omega) (fun C' hC' => ?_))
          have he : C' = C := by
            have h1 : w.heap[ρ b]? = some (.cells C'.toArray t' (0, 0)) := hC'
            have h2 : w.heap[ρ b]? = some (.cells C.toArray t' (0, 0)) := hB
            rw [h1] at h2; simpa using h2
          subst he
          rw [hz1, ← hz2]; exact hB.setBlk _
    · trivial
  · trivial
end
end Go.Proofs.YtacgihekdmoceaaDoor
end
section
namespace Go.Proofs.YtacgihekdmoceaaDoor
open Go.RowKit
set_option linter.unusedVariables false
section
variable {P : Program} {V w : World} {ρ : Nat → Nat} {M : List SB} {nx : Nat}
theorem partsOf_get {t : TypeId} {ps : List (Nat × Nat × Bool)} (h : partsOf P t = some ps) {f : Nat} {o n : Nat} {ag : Bool} (hf : ps[f]? = some (o, n, ag)) :
    ∃ fs fd, P.underlying t = some (.struct fs) ∧ fs[f]? = some fd ∧ fd.offset = o ∧ ((P.info? fd.type).map (·.size)).getD 0 = n ∧ aggOf P fd.type = ag := by
  unfold partsOf at h
  split at h
  · rename_i fs hu
    simp only [Option.some.injEq] at h; subst h
    rw [List.getElem?_map] at hf
    cases hg : fs.toList[f]? with
    | none => rw [hg] at hf; cases hf
    | some fd =>
      rw [hg] at hf
      simp only [Option.map_some, Option.some.injEq, Prod.mk.injEq] at hf
      exact ⟨fs, fd, hu, by rw [← Array.getElem?_toList]; exact hg, hf.1, hf.2.1, hf.2.2⟩
  · cases h
theorem arrOf_get {t n es : Nat} {ea : Bool} (h : arrOf P t = some (n, es, ea)) : ∃ e, P.underlying t = some (.array n e) ∧ ((P.info? e).map (·.size)).getD 0 = es ∧ aggOf P e = ea := by
  unfold arrOf at h
  split at h
  · rename_i m e hu
    simp only [Option.some.injEq, Prod.mk.injEq] at h
    obtain ⟨rfl, h2, h3⟩ := h
    exact ⟨e, hu, h2, h3⟩
  · cases h
theorem info_getD {t n : Nat} (h : ((P.info? t).map (·.size)).getD 0 = n) (hn : n ≠ 0) : ∃ i, P.info? t = some i ∧ i.size = n := by
  cases hq : P.info? t with
  | none => rw [hq] at h; exact absurd h.symm hn
  | some i => exact ⟨i, rfl, by rw [hq] at h; simpa using h⟩
theorem add_addr (b off n : Nat) : (⟨b, off, none⟩ : Addr).add n = ⟨b, off + n, none⟩ := by unfold Addr.add; split <;> simp_all
theorem TyOk.size {t : TypeId} {i : TyI} (h : TyOk P t i) : (P.info? t).map (·.size) = some i.size := by
  cases i with
  | one z k => exact h.2.2.1
  | str z ps => exact h.2.1
  | arr z n es ea => exact h.2.1
theorem kd_sliceT {t e : Nat} (h : kdOf P t = .slice e) : P.underlying t = some (.slice e) := by
  unfold kdOf at h; split at h <;> simp_all
/-! The address of a field. -/
def fldP (T : Tab) (t f : Nat) : Option Nat := match lkT T t with
  | some (.str _ ps) => match ps[f]? with
    | some (o, n, _) => bif n.beq 0 then none else some o
    | none => none
  | _ => none
theorem fieldAt_run {T : Tab} (hT : TabOk P T) {t f o : Nat} (h : fldP T t f = some o) (b off : Nat) : (Instr.fieldAt t (.pointer (some ⟨b, off, none⟩)) f).run P w = .ok (.pointer (some ⟨b, off + o, none⟩)) w := by
  unfold fldP at h
  split at h
  · rename_i z ps h1
    split at h
    · rename_i o' n ag h2
      cases h3 : n.beq 0
      · rw [h3] at h
        simp only [cond_false, Option.some.injEq] at h; subst h
        obtain ⟨fs, fd, hu, hg, ho, hn, -⟩ := partsOf_get (hT _ _ h1).1 h2
        have hn0 : n ≠ 0 := fun e => by subst e; cases h3
        obtain ⟨i, hi, hs⟩ := info_getD hn hn0
        simp [Instr.fieldAt, run_underlying hu, hg, Instr.sureAddr, fieldPlace, sizeOf, typeInfo, hi, hs, hn0, Sem.run_bind, add_addr, ho]
      · rw [h3] at h; cases h
    · cases h
  · cases h
def fieldAddrS (V : World) (T : Tab) (t f : Nat) : Option SV → Eff
  | some (.o (.c (.p b off))) => match fldP T t f with
    | some o => .val none (.o (.c (.p b (off + o))))
    | none => .no
  | some (.o (.c (.e b off ix))) => match fldP T t f with
    | some o => .val none (.o (.c (.e b off (ix + o))))
    | none => .no
  | some (.o (.c (.er b sz ix g))) => match fldP T t f with
    | some o => .val none (.o (.c (.er b sz ix (g + o))))
    | none => .no
  | some (.o (.c (.re a c m sz ks z i g))) => match fldP T t f with
    | some o => .val (some (Rws sz ks V a m c z ∧ i < m)) (.o (.c (.re a c m sz ks z i (g + o))))
    | none => .no
  | _ => .no
theorem fieldAddrS_ok {T : Tab} (hT : TabOk P T) (t f : Nat) {x : Option SV} {v : Value} (hx : ∀ y, x = some y → v = y.den ρ) : EffOk P V ρ M nx w (do pure (Next.value (← Instr.fieldAt t v f))) (fieldAddrS V T t f x) := by
  unfold fieldAddrS
  split
  case h_5 => trivial
  all_goals (have := hx _ rfl; subst this; cases h : fldP T t f with
    | none => trivial
    | some o => ?_)
  · refine ok_val fun _ _ => ?_
    simp only [SV.den, SA.den, SC.den, Sem.run_bind, fieldAt_run hT h, Result.andThen_ok, Sem.run_pure]
  · refine ok_val fun _ _ => ?_
    simp only [SV.den, SA.den, SC.den, Sem.run_bind, fieldAt_run hT h, Result.andThen_ok, Sem.run_pure, Nat.add_assoc]
  · refine ok_val fun _ _ => ?_
    simp only [SV.den, SA.den, SC.den, Sem.run_bind, fieldAt_run hT h, Result.andThen_ok, Sem.run_pure, Nat.add_assoc]
  · refine ok_val fun _ hr => ?_
    obtain ⟨b, off, rfl, -, -⟩ := hr.1.at _ hr.2
    simp only [SV.den, SA.den, SC.den, elemAddr, Sem.run_bind, fieldAt_run hT h, Result.andThen_ok, Sem.run_pure, Nat.add_assoc]
/-! A part of a struct. -/
def partS (l : List Seg) (o n : Nat) (ag : Bool) : Eff :=
  bif ag then (match segSub l o n with
    | some l' => bif n.beq 0 then .no else .val none (.o (.a l'))
    | none => .no)
  else match segGet l o with
    | some x => .val none (.o (.c x))
    | none => .no
theorem partS_ok {l : List Seg} {o n e : Nat} {ag : Bool} (hn : ((P.info? e).map (·.size)).getD 0 = n) (ha : aggOf P e = ag) (hs : (P.underlying e).isSome = true ) :
    EffOk P V ρ M nx w (do pure (Next.value (← part e (segsDen ρ l).toArray o))) (partS l o n ag) := by
  unfold partS
  obtain ⟨d, hd⟩ := Option.isSome_iff_exists.mp hs
  cases hb : ag
  · dsimp only [cond_false]
    cases h1 : segGet l o with
    | none => trivial
    | some x =>
      refine ok_val fun _ _ => ?_
      have hc := segGet_den ρ l o x h1
      have hag : (isAgg e).run P w = .ok false w := by
        rw [hb] at ha
        unfold aggOf at ha
        unfold isAgg
        rw [Sem.run_bind, run_underlying hd w]
        rw [hd] at ha
        cases d <;> simp_all
      simp [part, hag, hc, Sem.run_bind, SV.den, SA.den]
  · dsimp only [cond_true]
    cases h1 : segSub l o n with
    | none => trivial
    | some l' =>
      dsimp only
      cases h00 : n.beq 0
      case true => trivial
      rw [cond_false]
      have h0 : n ≠ 0 := fun e => by rw [e] at h00; cases h00
      refine ok_val fun _ _ => ?_
      obtain ⟨i, hi, hsz⟩ := info_getD hn h0
      obtain ⟨e1, e2, e3⟩ := segSub_den ρ l o n l' h1
      have hag : (isAgg e).run P w = .ok true w := by
        rw [hb] at ha
        unfold aggOf at ha
        unfold isAgg
        rw [Sem.run_bind, run_underlying hd w]
        rw [hd] at ha
        cases d <;> simp_all
      have e4 : ((segsDen ρ l).toArray.extract o (o + n)) = (segsDen ρ l').toArray := by
        rw [← e1]
        simp [List.extract_toArray, List.extract_eq_take_drop]
      simp [part, hag, sizeOf, typeInfo, hi, hsz, Sem.run_bind, e1, SV.den, SA.den]
def fieldS (T : Tab) (t f : Nat) : Option SV → Eff
  | some (.o (.a l)) => match lkT T t with
    | some (.str _ ps) => match ps[f]? with
      | some (o, n, ag) => partS l o n ag
      | none => .no
    | _ => .no
  | _ => .no
def partsTy (P : Program) (t : TypeId) : Bool := match P.underlying t with
  | some (.struct fs) => fs.toList.all fun f => (P.underlying f.type).isSome
  | some (.array _ e) => (P.underlying e).isSome
  | _ => true
def cellsQ (P : Program) (t : TypeId) : Nat := ((P.info? t).map (·.size)).getD 0
def seqF (P : Program) : Nat → List Field → Option Nat
  | o, [] => some o
  | o, f :: r => if f.offset = o ∧ f.name ≠ "_" then seqF P (o + cellsQ P f.type) r else none
/-- A type all of whose cells are whole numbers, and that '==' compares cell by cell. -/
def flatQ (P : Program) : Nat → TypeId → Bool
  | 0, _ => false
  | d + 1, t => (P.info? t).isSome && match P.underlying t with
    | some (.int _) => cellsQ P t == 1
    | some (.struct fs) => !P.stoodInHeld t && (fs.toList.all (fun f => flatQ P d f.type)) && seqF P 0 fs.toList == some (cellsQ P t)
    | some (.array n e) => flatQ P d e && cellsQ P t == n * cellsQ P e && !(cellsQ P e == 0)
    | _ => false
def eqTy (P : Program) (t : TypeId) : Bool := flatQ P 12 t && !P.eqGuardType P.depth t
def intSegs : List Seg → Bool
  | [] => true
  | .one (.v (.int _ _)) :: r => intSegs r
  | .ints (.int _) _ _ :: r => intSegs r
  | _ => false
def intsOnly : TyI → Bool
  | .one _ _ => false
  | .str z _ => intSegs z
  | .arr z _ _ _ => intSegs z
def bytesOk (P : Program) (t : TypeId) : Bool := match P.info? t with
  | some i => i.bytes.ble 1024
  | none => false
def TysOk (P : Program) (T : Tab) : Prop := P.follows .mixedOrders = true ∧ ∀ t i, lkT T t = some i → partsTy P t = true ∧ (intsOnly i = true → eqTy P t = true) ∧ bytesOk P t = true
theorem fieldS_ok {T : Tab} (hT : TabOk P T) (hT2 : TysOk P T) (t f : Nat) {x : Option SV} {v : Value} (hx : ∀ y, x = some y → v = y.den ρ) : EffOk P V ρ M nx w (do pure (Next.value (← Instr.field t v f))) (fieldS T t f x) := by
  unfold fieldS
  split
  · rename_i l
    have := hx _ rfl
    subst this
    split
    · rename_i z ps h1
      cases h2 : ps[f]? with
      | none => trivial
      | some q =>
        obtain ⟨o, n, ag⟩ := q
        dsimp only
        obtain ⟨fs, fd, hu, hg, ho, hn, ha⟩ := partsOf_get (hT _ _ h1).1 h2
        have hsome : (P.underlying fd.type).isSome = true := by
          have := (hT2.2 _ _ h1).1
          unfold partsTy at this
          rw [hu] at this
          exact List.all_eq_true.1 this fd (Array.mem_toList_iff.2 (Array.mem_of_getElem? hg))
        have hp := partS_ok (P := P) (V := V) (w := w) (M := M) (ρ := ρ) (nx := nx) (l := l) (o := o) hn ha hsome
        have e : (do pure (Next.value (← Instr.field t (SV.den ρ (.o (.a l))) f)) : Sem Next).run P w = (do pure (Next.value (← part fd.type (segsDen ρ l).toArray o)) : Sem Next).run P w := by
          simp [Instr.field, run_underlying hu, hg, ho, asAgg, SV.den, SA.den, Sem.run_bind]
        revert hp
        unfold partS
        cases ag
        · dsimp only [cond_false]
          cases segGet l o with
          | none => exact fun _ => trivial
          | some y => intro hp h1 h2 h3; obtain ⟨w', ρ', g1, ⟨n, g2, g3⟩, g4⟩ := hp h1 h2 h3; exact ⟨w', ρ', g1, ⟨n, by rw [e]; exact g2, g3⟩, g4⟩
        · dsimp only [cond_true]
          cases segSub l o n with
          | none => exact fun _ => trivial
          | some y =>
            cases n.beq 0
            · intro hp h1 h2 h3; obtain ⟨w', ρ', g1, ⟨n, g2, g3⟩, g4⟩ := hp h1 h2 h3; exact ⟨w', ρ', g1, ⟨n, by rw [e]; exact g2, g3⟩, g4⟩
            · exact fun _ => trivial
    · trivial
  · trivial
/-! The address of an element of an array or a slice. -/
def arrP (T : Tab) (t : Nat) : Option (Nat × Nat) := match lkT T t with
  | some (.arr _ n es _) => bif es.beq 0 then none else some (n, es)
  | _ => none
def slcP (T : Tab) (t : Nat) : Option Nat := match lkT T t with
  | some (.one _ (.slice e)) => match lkT T e with
    | some ti => some ti.size
    | none => none
  | _ => none
theorem indexArr_run {T : Tab} (hT : TabOk P T) {t n es : Nat} (h : arrP T t = some (n, es)) (b off : Nat) (k : IntKind) (i : Int) (hb : 0 ≤ i ∧ i < n) : (Instr.indexAt t (.pointer (some ⟨b, off, none⟩)) (.int k i)).run P w = .ok (.pointer (some ⟨b, off + i.toNat * es, none⟩)) w := by
  unfold arrP at h
  split at h
  · rename_i z n' es' ea h1
    cases h3 : es'.beq 0
    · rw [h3] at h
      simp only [cond_false, Option.some.injEq, Prod.mk.injEq] at h
      obtain ⟨rfl, rfl⟩ := h
      have hes : es' ≠ 0 := fun e => by subst e; cases h3
      obtain ⟨e, hu, hn, -⟩ := arrOf_get (hT _ _ h1).1
      obtain ⟨j, hj, hs⟩ := info_getD hn hes
      simp [Instr.indexAt, run_underlying hu, Instr.sureAddr, asIntOf, sizeOf, typeInfo, hj, hs, hb, Sem.run_bind, add_addr]
    · rw [h3] at h; cases h
  · cases h
theorem indexSlc_run {T : Tab} (hT : TabOk P T) {t es : Nat} (h : slcP T t = some es) (b off n c : Nat) (k : IntKind) (i : Int) (hb : 0 ≤ i ∧ i < n) : (Instr.indexAt t (.slice (some ⟨b, off, none⟩) n c) (.int k i)).run P w = .ok (.pointer (some ⟨b, off + i.toNat * es, none⟩)) w := by
  unfold slcP at h
  split at h
  · rename_i z e h1
    split at h
    · rename_i ti h2
      simp only [Option.some.injEq] at h; subst h
      have hu := kd_sliceT (hT _ _ h1).1
      obtain ⟨j, hj, hs⟩ := info_size (hT _ _ h2).size
      simp [Instr.indexAt, run_underlying hu, asIntOf, sizeOf, typeInfo, hj, hs, hb, Sem.run_bind, add_addr]
    · cases h
  · cases h
def isRun (M : List SB) (b off : Nat) : Bool := match getB M b with
  | .cells l _ => (segInts l off).isSome
  | _ => false
/-- The run of numbers in which a place lies. -/
def runIn : List Seg → Nat → Nat → Option Nat
  | [], _, _ => none
  | .one _ :: r, base, off => runIn r base.succ off
  | .ints _ n _ :: r, base, off => bif off.blt (base + n) then some base else runIn r (base + n) off
def runAt (M : List SB) (b off : Nat) : Option Nat := match getB M b with
  | .cells l _ => runIn l 0 off
  | _ => none
def mulE (i es : Nat) : Nat := bif es.beq 1 then i else i * es
theorem mulE_eq (i es : Nat) : mulE i es = i * es := by
  unfold mulE
  cases h : es.beq 1
  · rfl
  · have := Nat.eq_of_beq_eq_true h
    subst this; simp
def indexAddrS (V : World) (T : Tab) (M : List SB) (t : Nat) : Option SV → Option SV → Eff
  | some (.o (.c (.r a n c m sz ks z))), some (.o (.c (.v (.int _ i)))) => match slcP T t with
    | some es => bif es.beq sz then .val (some (Rws sz ks V a m c z ∧ 0 ≤ i ∧ i < n ∧ i.toNat < m)) (.o (.c (.re a c m sz ks z i.toNat 0))) else .no
    | none => .no
  | some (.o (.c (.s b off n _))), some (.o (.c (.v (.int _ i)))) => match slcP T t with
    | some es => bif isRun M b off then .val (some (0 ≤ i ∧ i < n)) (.o (.c (.e b off (mulE i.toNat es))))
        else match runAt M b off with
          | some base => bif base.ble off then .val (some (0 ≤ i ∧ i < n)) (.o (.c (.e b base (off - base + mulE i.toNat es)))) else .no
          | none => .val (some (0 ≤ i ∧ i < n)) (.o (.c (.p b (off + mulE i.toNat es))))
    | none => .no
  | some (.o (.c (.o b n c))), some (.o (.c (.v (.int _ i)))) => match slcP T t with
    | some es => .val (some (0 ≤ i ∧ i < n ∧ 0 < c)) (.o (.c (.er b es i.toNat 0)))
    | none => .no
  | some (.o (.c (.so b lo sz n c nn))), some (.o (.c (.v (.int _ i)))) => match slcP T t with
    | some es => bif es.beq sz then .val (some (0 ≤ i ∧ i < n ∧ lo + n ≤ c)) (.o (.c (.er b es (lo + i.toNat) 0))) else .no
    | none => .no
  | some (.o (.c (.p b off))), some (.o (.c (.v (.int _ i)))) => match arrP T t with
    | some (n, es) => bif isRun M b off then .val (some (0 ≤ i ∧ i < n)) (.o (.c (.e b off (mulE i.toNat es))))
        else .val (some (0 ≤ i ∧ i < n)) (.o (.c (.p b (off + mulE i.toNat es))))
    | none => .no
  | some (.o (.c (.e b off ix))), some (.o (.c (.v (.int _ i)))) => match arrP T t with
    | some (n, es) => .val (some (0 ≤ i ∧ i < n)) (.o (.c (.e b off (ix + mulE i.toNat es))))
    | none => .no
  | _, _ => .no
theorem indexAddrS_ok {T : Tab} (hT : TabOk P T) (t : Nat) {x y : Option SV} {v u : Value} (hx : ∀ s, x = some s → v = s.den ρ) (hy : ∀ s, y = some s → u = s.den ρ) : EffOk P V ρ M nx w (do pure (Next.value (← Instr.indexAt t v u))) (indexAddrS V T M t x y) := by
  unfold indexAddrS
  split
  case h_7 => trivial
  all_goals (have := hx _ rfl; subst this; have := hy _ rfl; subst this)
  · rename_i a n c m sz ks z k i
    cases h : slcP T t with
    | none => trivial
    | some es =>
      dsimp only
      cases hb : es.beq sz
      · trivial
      · obtain rfl := Nat.eq_of_beq_eq_true hb
        refine ok_val fun _ hr => ?_
        obtain ⟨hr, h0, hn, hm⟩ := hr
        obtain ⟨b, off, rfl, -, -⟩ := hr.at i.toNat hm
        simp only [SV.den, SA.den, SC.den, elemAddr, Sem.run_bind, indexSlc_run hT h _ _ _ _ _ _ ⟨h0, hn⟩, Result.andThen_ok, Sem.run_pure, Nat.add_zero]
  · rename_i b off n c k i
    cases h : slcP T t with
    | none => trivial
    | some es =>
      dsimp only
      cases isRun M b off
      · dsimp only [cond_false]
        cases runAt M b off with
        | none => refine ok_val fun _ hr => ?_; simp only [mulE_eq, SV.den, SA.den, SC.den, Sem.run_bind, indexSlc_run hT h _ _ _ _ _ _ hr, Result.andThen_ok, Sem.run_pure]
        | some base =>
          dsimp only
          cases hb : base.ble off
          · trivial
          · have hb := ble_t hb
            refine ok_val fun _ hr => ?_
            simp only [mulE_eq, SV.den, SA.den, SC.den, Sem.run_bind, indexSlc_run hT h _ _ _ _ _ _ hr, Result.andThen_ok, Sem.run_pure]
            rw [show base + (off - base + i.toNat * es) = off + i.toNat * es by omega]
      · refine ok_val fun _ hr => ?_; simp only [mulE_eq, SV.den, SA.den, SC.den, Sem.run_bind, indexSlc_run hT h _ _ _ _ _ _ hr, Result.andThen_ok, Sem.run_pure]
  · rename_i b n c k i
    cases h : slcP T t with
    | none => trivial
    | some es =>
      refine ok_val fun _ hr => ?_
      obtain ⟨h0, hn, hc⟩ := hr
      have : c.beq 0 = false := by cases hb : c.beq 0; rfl; exact absurd (Nat.eq_of_beq_eq_true hb) (by omega)
      simp only [SV.den, SA.den, SC.den, this, cond_false, Sem.run_bind, indexSlc_run hT h _ _ _ _ _ _ ⟨h0, hn⟩, Result.andThen_ok, Sem.run_pure, Nat.zero_add, Nat.add_zero]
  · rename_i b lo sz n c nn k i
    cases h : slcP T t with
    | none => trivial
    | some es =>
      dsimp only
      cases hb : es.beq sz
      · trivial
      · obtain rfl := Nat.eq_of_beq_eq_true hb
        refine ok_val fun _ hr => ?_
        obtain ⟨h0, hn, hc⟩ := hr
        have e1 : (c.beq 0 && !nn) = false := by cases hb : c.beq 0; rfl; exact absurd (Nat.eq_of_beq_eq_true hb) (by omega)
        have e2 : (c - lo).beq 0 = false := by cases hb : (c - lo).beq 0; rfl; exact absurd (Nat.eq_of_beq_eq_true hb) (by omega)
        simp only [SV.den, SA.den, SC.den, e1, e2, cond_false, Sem.run_bind, indexSlc_run hT h _ _ _ _ _ _ ⟨h0, hn⟩, Result.andThen_ok, Sem.run_pure, Nat.add_zero, Nat.add_mul]
  · rename_i b off k i
    cases h : arrP T t with
    | none => trivial
    | some q =>
      obtain ⟨n, es⟩ := q
      dsimp only
      cases isRun M b off
      all_goals (refine ok_val fun _ hr => ?_; simp only [mulE_eq, SV.den, SA.den, SC.den, Sem.run_bind, indexArr_run hT h _ _ _ _ hr, Result.andThen_ok, Sem.run_pure])
  · rename_i b off ix k i
    cases h : arrP T t with
    | none => trivial
    | some q =>
      obtain ⟨n, es⟩ := q
      refine ok_val fun _ hr => ?_
      simp only [mulE_eq, SV.den, SA.den, SC.den, Sem.run_bind, indexArr_run hT h _ _ _ _ hr, Result.andThen_ok, Sem.run_pure, Nat.add_assoc]
/-! An element of an array value. -/
def indexS (T : Tab) (t : Nat) : Option SV → Option SV → Eff
  | some (.o (.a [.ints k n f])), some (.o (.c (.v (.int _ i)))) => match lkT T t with
    | some (.arr _ m es ea) => bif es.beq 1 && m.beq n && !ea then .val (some (0 ≤ i ∧ i < n)) (sv (mkV k (f i.toNat)))
        else bif ea && (m * es).beq n && !es.beq 0 then .val (some (0 ≤ i ∧ i < m)) (.o (.a (onesS (fun _ => k) (fun j => f (i.toNat * es + j)) 0 es))) else .no
    | _ => .no
  | _, _ => .no
theorem indexS_ok {T : Tab} (hT : TabOk P T) (hT2 : TysOk P T) (t : Nat) {x y : Option SV} {v u : Value} (hx : ∀ s, x = some s → v = s.den ρ) (hy : ∀ s, y = some s → u = s.den ρ) : EffOk P V ρ M nx w (do pure (Next.value (← Instr.index t v u))) (indexS T t x y) := by
  unfold indexS
  split
  · rename_i k n f k' i
    have := hx _ rfl
    subst this
    have := hy _ rfl
    subst this
    split
    · rename_i z m es ea h1
      obtain ⟨e, hu, hn, ha⟩ := arrOf_get (hT _ _ h1).1
      have hsome : (P.underlying e).isSome = true := by
        have := (hT2.2 _ _ h1).1
        unfold partsTy at this
        rw [hu] at this
        exact this
      obtain ⟨d, hd⟩ := Option.isSome_iff_exists.mp hsome
      have hag : (isAgg e).run P w = .ok ea w := by
        unfold aggOf at ha
        unfold isAgg
        rw [Sem.run_bind, run_underlying hd w]
        rw [hd] at ha
        cases d <;> simp_all
      cases hc : (es.beq 1 && m.beq n && !ea)
      · simp only [cond_false]
        cases hc2 : (ea && (m * es).beq n && !es.beq 0)
        · trivial
        · simp only [Bool.and_eq_true, Bool.not_eq_true'] at hc2
          obtain ⟨⟨rfl, h4⟩, h5⟩ := hc2
          have h4 := Nat.eq_of_beq_eq_true h4
          have hes : es ≠ 0 := fun e => by rw [e] at h5; cases h5
          refine ok_val fun _ hb => ?_
          simp only [vcP] at hb
          have hb1 := hb.1
          have hb2 := hb.2
          obtain ⟨j, hj, hs⟩ := info_getD hn hes
          have hlt : (i.toNat + 1) * es ≤ m * es := Nat.mul_le_mul_right _ (by omega)
          rw [Nat.add_mul, Nat.one_mul] at hlt
          have e4 := take_ints k n es (i.toNat * es) f (by omega)
          have e5 : segsDen ρ [.ints k n f] = (List.range n).map fun i => mkV k (f i) := by simp [segsDen, Seg.den]
          simp [Instr.index, run_underlying hu, SV.den, SA.den, SC.den, asIntOf, hb1, hb2, part, hag, sizeOf, typeInfo, hj, hs, Sem.run_bind, onesS_den, e5, e4]
      · simp only [Bool.and_eq_true, Bool.not_eq_true'] at hc
        obtain ⟨⟨h3, h4⟩, h5⟩ := hc
        have := Nat.eq_of_beq_eq_true h3
        subst this
        have := Nat.eq_of_beq_eq_true h4
        subst this
        subst h5
        refine ok_val fun _ hb => ?_
        simp only [vcP] at hb
        obtain ⟨j, hj, hs⟩ := info_getD hn (by omega)
        have hlt : i.toNat < m := by omega
        have hg := ints_get k m f i.toNat hlt
        have hb1 := hb.1
        have hb2 := hb.2
        simp [Instr.index, run_underlying hu, SV.den, SA.den, SC.den, asIntOf, hb1, hb2, part, hag, sizeOf, typeInfo, hj, hs, Sem.run_bind, segsDen, Seg.den, hlt]
    · trivial
  · trivial
end
end Go.Proofs.YtacgihekdmoceaaDoor
end
section
namespace Go.Proofs.YtacgihekdmoceaaDoor
open Go.RowKit
set_option linter.unusedVariables false
def binS : BinOp → Value → Value → Option (Option Prop × Value)
  | .add, .int k a, .int k' b => ifK k k' (some (none, .int k (k.wrap (a + b))))
  | .sub, .int k a, .int k' b => ifK k k' (some (none, .int k (k.wrap (a - b))))
  | .mul, .int k a, .int k' b => ifK k k' (some (none, .int k (k.wrap (a * b))))
  | .quo, .int k a, .int k' b => ifK k k' (some (some (b ≠ 0), .int k (k.wrap (a.tdiv b))))
  | .rem, .int k a, .int k' b => ifK k k' (some (some (b ≠ 0), .int k (a.tmod b)))
  | .and, .int k a, .int k' b => ifK k k' (some (none, .int k (bits .and k a b)))
  | .or, .int k a, .int k' b => ifK k k' (some (none, .int k (bits .or k a b)))
  | .xor, .int k a, .int k' b => ifK k k' (some (none, .int k (bits .xor k a b)))
  | .andNot, .int k a, .int k' b => ifK k k' (some (none, .int k (bits .andNot k a b)))
  | .shl, .int k a, .int _ b => some (some (0 ≤ b), .int k (k.wrap (a * 2 ^ (min b.toNat k.bits))))
  | .shr, .int k a, .int _ b => some (some (0 ≤ b), .int k (a.fdiv (2 ^ (min b.toNat k.bits))))
  | .eql, .int k a, .int k' b => ifK k k' (some (none, .bool (a == b)))
  | .neq, .int k a, .int k' b => ifK k k' (some (none, .bool (a != b)))
  | .lss, .int k a, .int k' b => ifK k k' (some (none, .bool (decide (a < b))))
  | .leq, .int k a, .int k' b => ifK k k' (some (none, .bool (decide (a ≤ b))))
  | .gtr, .int k a, .int k' b => ifK k k' (some (none, .bool (decide (a > b))))
  | .geq, .int k a, .int k' b => ifK k k' (some (none, .bool (decide (a ≥ b))))
  | .add, .string a, .string b => some (some (a.size + b.size ≤ 1099511627776), .string (a ++ b))
  | .eql, .string a, .string b => some (none, .bool (a.toList == b.toList))
  | .neq, .string a, .string b => some (none, .bool (!(a.toList == b.toList)))
  | _, _, _ => none
theorem binS_run {P : Program} {op : BinOp} {x y z : Value} {vc : Option Prop} (h : binS op x y = some (vc, z)) (hv : vcP vc) (t : TypeId) (u v : Operand) (w : World) :
    (do eqGuard op t u v x y; binOp op t x y : Sem Value).run P w = .ok z w := by
  unfold binS at h
  split at h
  all_goals (try (replace h := ifK_some h; obtain ⟨rfl, h⟩ := h))
  all_goals simp only [Option.some.injEq, Prod.mk.injEq, reduceCtorEq] at h
  all_goals (obtain ⟨rfl, rfl⟩ := h)
  all_goals (try simp only [vcP] at hv)
  case h_18 a b =>
    have : ¬ (9223372036854775807 < (a.size : Int) + (b.size : Int)) := by omega
    simp [go_sem, binOp, Op.stringOp]
    omega
  all_goals simp_all [go_sem, Sem.run_bind, Op.intArith, Op.intDiv, Op.shift, binOp, Op.intCmp, Op.intBits, bits, Op.stringOp]
  all_goals (rw [if_neg (by omega)]; rfl)
/-! Comparing with nil, and reckoning. -/
def isC : Operand → Bool
  | .const _ => true
  | _ => false
def cmpO (T : Tab) (op : BinOp) (t : Nat) (cst : Bool) : SC → SC → Option (Option Prop × Value)
  | .v (.nilIface), .v (.nilIface) => match op, lkT T t with
    | .eql, some (.one _ .iface) => (bif cst then some (none, .bool true) else none)
    | .neq, some (.one _ .iface) => (bif cst then some (none, .bool false) else none)
    | _, _ => none
  | .v (.iface _ _), .v (.nilIface) => match op, lkT T t with
    | .eql, some (.one _ .iface) => some (none, .bool false)
    | .neq, some (.one _ .iface) => some (none, .bool true)
    | _, _ => none
  | .i _ _ _, .v (.nilIface) => match op, lkT T t with
    | .eql, some (.one _ .iface) => some (none, .bool false)
    | .neq, some (.one _ .iface) => some (none, .bool true)
    | _, _ => none
  | .p _ _, .v (.pointer none) => match op, lkT T t with
    | .eql, some (.one _ (.ptr _)) => some (none, .bool false)
    | .neq, some (.one _ (.ptr _)) => some (none, .bool true)
    | _, _ => none
  | .v (.pointer none), .v (.pointer none) => match op, lkT T t with
    | .eql, some (.one _ (.ptr _)) => some (none, .bool true)
    | .neq, some (.one _ (.ptr _)) => some (none, .bool false)
    | _, _ => none
  | .v (.bool a), .v (.bool b) => match op, lkT T t with
    | .eql, some (.one _ .bool) => some (none, .bool (a == b))
    | .neq, some (.one _ .bool) => some (none, .bool (!(a == b)))
    | _, _ => none
  | .v a, .v b => binS op a b
  | _, _ => none
def isNilV : SC → Bool
  | .v (.slice none n m) => n.beq 0 && m.beq 0
  | _ => false
def nilS : SC → Option Bool
  | .so _ _ _ _ c nn => some (c.beq 0 && !nn)
  | .r a _ _ _ _ _ _ => some a.isNone
  | .v (.slice a _ _) => some a.isNone
  | _ => none
/-- A slice is compared with nil. -/
def cmpS (T : Tab) (op : BinOp) (t : Nat) (cst : Bool) (x y : SC) : Option (Option Prop × Value) :=
  bif isNilV y then (match op, lkT T t, nilS x with
    | .eql, some (.one _ (.slice _)), some b => some (none, .bool b)
    | .neq, some (.one _ (.slice _)), some b => some (none, .bool (!b))
    | _, _, _ => none) else cmpO T op t cst x y
theorem isNilV_iff {x : SC} (h : isNilV x = true) : x = .v (.slice none 0 0) := by
  unfold isNilV at h
  split at h
  · simp only [Bool.and_eq_true] at h
    rw [Nat.eq_of_beq_eq_true h.1, Nat.eq_of_beq_eq_true h.2]
  · cases h
section
variable {P : Program} {V w : World} {ρ : Nat → Nat} {M : List SB} {nx : Nat}
theorem kd_bool {t : Nat} (h : kdOf P t = .bool) : P.underlying t = some .bool := by
  unfold kdOf at h; split at h <;> simp_all
theorem kd_iface {t : Nat} (h : kdOf P t = .iface) : ∃ m, P.underlying t = some (.interface m) := by
  unfold kdOf at h; split at h <;> simp_all
theorem kd_ptr {t e : Nat} (h : kdOf P t = .ptr e) : P.underlying t = some (.pointer e) := by
  unfold kdOf at h; split at h <;> simp_all
theorem kd_slice {t e : Nat} (h : kdOf P t = .slice e) : P.underlying t = some (.slice e) := by
  unfold kdOf at h; split at h <;> simp_all
theorem kd_str {t : Nat} (h : kdOf P t = .str) : P.underlying t = some .string := by
  unfold kdOf at h; split at h <;> simp_all
theorem kd_int {t : Nat} {k : IntKind} (h : kdOf P t = .int k) : P.underlying t = some (.int k) := by
  unfold kdOf at h; split at h <;> simp_all
theorem maxD : ∃ d, Op.maxDepth = d + 1 := ⟨9999, rfl⟩
theorem binOp_eqlP {t : Nat} {a b : Value} (h : ∀ k m, a ≠ .int k m) (h2 : ∀ k m, a ≠ .float k m) (h3 : ∀ k m n, a ≠ .complex k m n) (h4 : ∀ m, a ≠ .string m) : binOp .eql t a b = (do pure (.bool (← Op.equal t a b))) := by
  cases a <;> first | rfl | (cases b <;> rfl) | (exact absurd rfl (h _ _)) | (exact absurd rfl (h2 _ _)) | (exact absurd rfl (h3 _ _ _)) | (exact absurd rfl (h4 _))
theorem binOp_neqP {t : Nat} {a b : Value} (h : ∀ k m, a ≠ .int k m) (h2 : ∀ k m, a ≠ .float k m) (h3 : ∀ k m n, a ≠ .complex k m n) (h4 : ∀ m, a ≠ .string m) : binOp .neq t a b = (do pure (.bool (!(← Op.equal t a b)))) := by
  cases a <;> first | rfl | (cases b <;> rfl) | (exact absurd rfl (h _ _)) | (exact absurd rfl (h2 _ _)) | (exact absurd rfl (h3 _ _ _)) | (exact absurd rfl (h4 _))
theorem nilS_eql {t e : Nat} (hu : P.underlying t = some (.slice e)) (u v : Operand) (a : Option Addr) (n c : Nat) : (do eqGuard .eql t u v (.slice a n c) (.slice none 0 0); binOp .eql t (.slice a n c) (.slice none 0 0) : Sem Value).run P w = .ok (.bool a.isNone) w := by
  obtain ⟨d, hd⟩ := maxD
  cases a <;> simp [eqGuard_at_slice, binOp_eqlP, Op.equal, hd, Op.equalIn, run_underlying hu]
theorem nilS_neq {t e : Nat} (hu : P.underlying t = some (.slice e)) (u v : Operand) (a : Option Addr) (n c : Nat) : (do eqGuard .neq t u v (.slice a n c) (.slice none 0 0); binOp .neq t (.slice a n c) (.slice none 0 0) : Sem Value).run P w = .ok (.bool (!a.isNone)) w := by
  obtain ⟨d, hd⟩ := maxD
  cases a <;> simp [eqGuard_at_slice, binOp_neqP, Op.equal, hd, Op.equalIn, run_underlying hu]
theorem cmpO_run {T : Tab} (hT : TabOk P T) {op : BinOp} {t : Nat} {x y : SC} {z : Value} {vc : Option Prop} {u v : Operand} (h : cmpO T op t (isC u || isC v) x y = some (vc, z)) (hv : vcP vc) :
    (do eqGuard op t u v (x.den ρ) (y.den ρ); binOp op t (x.den ρ) (y.den ρ) : Sem Value).run P w = .ok z w := by
  obtain ⟨d, hd⟩ := maxD
  unfold cmpO at h
  split at h
  all_goals (try (split at h <;> first | (cases h; done) | skip))
  next h1 =>
    cases hv : (isC u || isC v)
    · rw [hv] at h; cases h
    rw [hv] at h
    simp only [cond_true, Option.some.injEq, Prod.mk.injEq] at h
    obtain ⟨rfl, rfl⟩ := h
    obtain ⟨m, hu⟩ := kd_iface (hT _ _ h1).1
    have hg : eqGuard .eql t u v (SC.den ρ (.v .nilIface)) (SC.den ρ (.v .nilIface)) = pure () := by
      cases u <;> cases v <;> first | rfl | (simp [isC] at hv)
    rw [hg]
    simp [SC.den, binOp_eqlP, Op.equal, hd, Op.equalIn, run_underlying hu]
  next h1 =>
    cases hv : (isC u || isC v)
    · rw [hv] at h; cases h
    rw [hv] at h
    simp only [cond_true, Option.some.injEq, Prod.mk.injEq] at h
    obtain ⟨rfl, rfl⟩ := h
    obtain ⟨m, hu⟩ := kd_iface (hT _ _ h1).1
    have hg : eqGuard .neq t u v (SC.den ρ (.v .nilIface)) (SC.den ρ (.v .nilIface)) = pure () := by
      cases u <;> cases v <;> first | rfl | (simp [isC] at hv)
    rw [hg]
    simp [SC.den, binOp_neqP, Op.equal, hd, Op.equalIn, run_underlying hu]
  next h1 => simp only [Option.some.injEq, Prod.mk.injEq] at h; obtain ⟨rfl, rfl⟩ := h; obtain ⟨m, hu⟩ := kd_iface (hT _ _ h1).1; simp [SC.den, eqGuard_at_iface, binOp_eqlP, Op.equal, hd, Op.equalIn, run_underlying hu]
  next h1 => simp only [Option.some.injEq, Prod.mk.injEq] at h; obtain ⟨rfl, rfl⟩ := h; obtain ⟨m, hu⟩ := kd_iface (hT _ _ h1).1; simp [SC.den, eqGuard_at_iface, binOp_neqP, Op.equal, hd, Op.equalIn, run_underlying hu]
  next h1 => simp only [Option.some.injEq, Prod.mk.injEq] at h; obtain ⟨rfl, rfl⟩ := h; obtain ⟨m, hu⟩ := kd_iface (hT _ _ h1).1; simp [SC.den, eqGuard_at_iface, binOp_eqlP, Op.equal, hd, Op.equalIn, run_underlying hu]
  next h1 => simp only [Option.some.injEq, Prod.mk.injEq] at h; obtain ⟨rfl, rfl⟩ := h; obtain ⟨m, hu⟩ := kd_iface (hT _ _ h1).1; simp [SC.den, eqGuard_at_iface, binOp_neqP, Op.equal, hd, Op.equalIn, run_underlying hu]
  next h1 => simp only [Option.some.injEq, Prod.mk.injEq] at h; obtain ⟨rfl, rfl⟩ := h; have hu := kd_ptr (hT _ _ h1).1; simp [SC.den, eqGuard_at_pointer, binOp_eqlP, Op.equal, hd, Op.equalIn, run_underlying hu]
  next h1 => simp only [Option.some.injEq, Prod.mk.injEq] at h; obtain ⟨rfl, rfl⟩ := h; have hu := kd_ptr (hT _ _ h1).1; simp [SC.den, eqGuard_at_pointer, binOp_neqP, Op.equal, hd, Op.equalIn, run_underlying hu]
  next h1 => simp only [Option.some.injEq, Prod.mk.injEq] at h; obtain ⟨rfl, rfl⟩ := h; have hu := kd_ptr (hT _ _ h1).1; simp [SC.den, eqGuard_at_pointer, binOp_eqlP, Op.equal, hd, Op.equalIn, run_underlying hu]
  next h1 => simp only [Option.some.injEq, Prod.mk.injEq] at h; obtain ⟨rfl, rfl⟩ := h; have hu := kd_ptr (hT _ _ h1).1; simp [SC.den, eqGuard_at_pointer, binOp_neqP, Op.equal, hd, Op.equalIn, run_underlying hu]
  next h1 => simp only [Option.some.injEq, Prod.mk.injEq] at h; obtain ⟨rfl, rfl⟩ := h; have hu := kd_bool (hT _ _ h1).1; simp [SC.den, eqGuard_at_bool, binOp_eqlP, Op.equal, hd, Op.equalIn, run_underlying hu]
  next h1 => simp only [Option.some.injEq, Prod.mk.injEq] at h; obtain ⟨rfl, rfl⟩ := h; have hu := kd_bool (hT _ _ h1).1; simp [SC.den, eqGuard_at_bool, binOp_neqP, Op.equal, hd, Op.equalIn, run_underlying hu]
  next => exact binS_run h hv t u v w
  next => cases h
theorem nilS_den {x : SC} {b : Bool} (h : nilS x = some b) (ρ : Nat → Nat) : ∃ a n c, x.den ρ = .slice a n c ∧ a.isNone = b := by
  unfold nilS at h
  split at h
  · rename_i b' lo sz n c nn
    simp only [Option.some.injEq] at h; subst h
    simp only [SC.den]
    cases (c.beq 0 && !nn)
    · exact ⟨_, _, _, rfl, rfl⟩
    · exact ⟨_, _, _, rfl, rfl⟩
  · simp only [Option.some.injEq] at h; subst h; exact ⟨_, _, _, rfl, rfl⟩
  · simp only [Option.some.injEq] at h; subst h; exact ⟨_, _, _, rfl, rfl⟩
  · cases h
theorem cmpS_run {T : Tab} (hT : TabOk P T) {op : BinOp} {t : Nat} {x y : SC} {z : Value} {vc : Option Prop} {u v : Operand} (h : cmpS T op t (isC u || isC v) x y = some (vc, z)) (hv : vcP vc) :
    (do eqGuard op t u v (x.den ρ) (y.den ρ); binOp op t (x.den ρ) (y.den ρ) : Sem Value).run P w = .ok z w := by
  unfold cmpS at h
  cases hn : isNilV y
  · rw [hn] at h; exact cmpO_run hT h hv
  · rw [hn] at h
    obtain rfl := isNilV_iff hn
    simp only [cond_true] at h
    split at h
    · rename_i z0 e b h1 h2
      simp only [Option.some.injEq, Prod.mk.injEq] at h
      obtain ⟨rfl, rfl⟩ := h
      obtain ⟨a, n, c, e1, rfl⟩ := nilS_den h2 ρ
      rw [e1]
      exact nilS_eql (kd_slice (hT _ _ h1).1) _ _ _ _ _
    · rename_i z0 e b h1 h2
      simp only [Option.some.injEq, Prod.mk.injEq] at h
      obtain ⟨rfl, rfl⟩ := h
      obtain ⟨a, n, c, e1, rfl⟩ := nilS_den h2 ρ
      rw [e1]
      exact nilS_neq (kd_slice (hT _ _ h1).1) _ _ _ _ _
    · cases h
/-! Small operations. -/
def unS : UnOp → SC → Option SC
  | .not, .v (.bool b) => some (.v (.bool (!b)))
  | .neg, .v (.int k n) => some (.v (.int k (k.wrap (0 - n))))
  | .xor, .v (.int k n) => some (.v (.int k (bits .xor k (if k.signed then -1 else k.max) n)))
  | _, _ => none
theorem unS_run {op : UnOp} {x z : SC} (h : unS op x = some z) : (Op.unary op (x.den ρ)).run P w = .ok (z.den ρ) w := by
  unfold unS at h
  split at h <;> simp only [Option.some.injEq, reduceCtorEq] at h
  all_goals (subst h)
  all_goals simp [Op.unary, SC.den, Op.intArith, intBits_xor]
def ifaceS (T : Tab) (t : Nat) : SC → Option SC
  | .v x => match lkT T t with
    | some (.one _ .iface) => none
    | some (.one _ .other) => none
    | some _ => some (.v (.iface t x))
    | none => none
  | .p b off => match lkT T t with
    | some (.one _ (.ptr _)) => some (.i t b off)
    | _ => none
  | _ => none
theorem mk_run {t : Nat} {x : Value} (h : ∀ m, P.underlying t ≠ some (.interface m)) (hs : (P.underlying t).isSome = true) : (Instr.makeInterface t x).run P w = .ok (.iface t x) w := by
  obtain ⟨d, hd⟩ := Option.isSome_iff_exists.mp hs
  have hn : ∀ m, d ≠ .interface m := fun m e => h m (by rw [hd, e])
  cases d <;> first | (exact absurd rfl (hn _)) | simp [Instr.makeInterface, run_underlying hd]
theorem ifaceS_run {T : Tab} (hT : TabOk P T) {t : Nat} {x z : SC} (h : ifaceS T t x = some z) : (Instr.makeInterface t (x.den ρ)).run P w = .ok (z.den ρ) w := by
  unfold ifaceS at h
  split at h
  · split at h <;> simp only [Option.some.injEq, reduceCtorEq] at h
    subst h
    rename_i x i hn hn2 h1
    have ok := hT _ _ h1
    cases i with
    | one z k =>
      have hk := ok.1
      cases hu : P.underlying t with
      | none =>
        have : k = .other := by rw [← hk]; unfold kdOf; rw [hu]
        exact absurd (by rw [this]) (hn2 z)
      | some d =>
        refine mk_run (fun m e => ?_) (by rw [hu]; rfl)
        have : k = .iface := by rw [← hk]; unfold kdOf; rw [e]
        exact hn z (by rw [this])
    | str z ps =>
      obtain ⟨ha, -⟩ := ok.agg (fun z k e => by cases e)
      obtain ⟨d, hd, he⟩ := aggOf_some ha
      exact mk_run (fun m e => by rw [hd] at e; cases e; simp at he) (by rw [hd]; rfl)
    | arr z n es ea =>
      obtain ⟨ha, -⟩ := ok.agg (fun z k e => by cases e)
      obtain ⟨d, hd, he⟩ := aggOf_some ha
      exact mk_run (fun m e => by rw [hd] at e; cases e; simp at he) (by rw [hd]; rfl)
  · split at h <;> simp only [Option.some.injEq, reduceCtorEq] at h
    subst h
    rename_i h1
    have hu := kd_ptr (hT _ _ h1).1
    exact mk_run (fun m e => by rw [hu] at e; cases e) (by rw [hu]; rfl)
  · cases h
def convS (T : Tab) (s d : Nat) : SC → Option SC
  | .v (.int _ n) => match lkT T s, lkT T d with
    | some (.one _ (.int _)), some (.one _ (.int k)) => some (.v (.int k (k.wrap n)))
    | _, _ => none
  | _ => none
theorem convS_run {T : Tab} (hT : TabOk P T) {s d : Nat} {x z : SC} (h : convS T s d x = some z) : (convert s d (x.den ρ)).run P w = .ok (z.den ρ) w := by
  unfold convS at h
  split at h
  · split at h <;> simp only [Option.some.injEq, reduceCtorEq] at h
    subst h
    rename_i h1 h2
    have hu := kd_int (hT _ _ h1).1
    have hv := kd_int (hT _ _ h2).1
    simp [convert, SC.den, run_underlying hu, run_underlying hv, Conv.intToInt]
  · cases h
def nilOk : SV → Bool
  | .o (.c (.p _ _)) => true
  | .o (.c (.e _ _ _)) => true
  | .o (.c (.i _ _ _)) => true
  | .o (.c (.er _ _ _ _)) => true
  | .o (.c (.fn _ _)) => true
  | .o (.c (.v (.iface _ _))) => true
  | .o (.c (.v (.func (.func _) _ _))) => true
  | _ => false
def extractS : SV → Nat → Option SV
  | .t l, i => match l[i]? with
    | some x => some (.o x)
    | none => none
  | _, _ => none
theorem extractS_run {x z : SV} {i : Nat} (h : extractS x i = some z) : (Instr.extract (x.den ρ) i).run P w = .ok (z.den ρ) w := by
  cases x with
  | o x => cases h
  | t l =>
    simp only [extractS] at h
    cases hg : l[i]? with
    | none => rw [hg] at h; cases h
    | some y =>
      rw [hg] at h
      simp only [Option.some.injEq] at h; subst h
      simp [Instr.extract, SV.den, hg]
/-! A struct or an array put together. -/
def partSegs : SA → Option (List Seg)
  | .c x => bif x.ok then some [.one x] else none
  | .a l => some l
/-- A part is put in its place; a run of numbers stays one. -/
def putS1 (l : List Seg) (o : Nat) : List Seg → Option (List Seg)
  | [.one x] => match segSet l o x with
    | some l' => some l'
    | none => segPut l o [.one x]
  | m => segPut l o m
theorem putS1_den (ρ : Nat → Nat) (l : List Seg) (o : Nat) (m l' : List Seg) (h : putS1 l o m = some l') : spl (segsDen ρ l) o (segsDen ρ m) = segsDen ρ l' ∧ o + segsLen m ≤ segsLen l := by
  unfold putS1 at h
  split at h
  · rename_i x
    cases h1 : segSet l o x with
    | none => rw [h1] at h; exact segPut_den ρ l o _ l' h
    | some l2 =>
      rw [h1] at h
      simp only [Option.some.injEq] at h; subst h
      obtain ⟨e1, e2⟩ := segSet_den ρ l o x l2 h1
      refine ⟨?_, by simp only [segsLen, Seg.len]; omega⟩
      rw [← e1]
      simp only [segsDen, Seg.den, List.append_nil, spl, List.length_singleton]
      rw [List.set_eq_take_append_cons_drop, if_pos (by rw [segsDen_len]; exact e2)]
      simp
  · exact segPut_den ρ l o _ l' h
def fillS (ps : Nat → Option (Nat × Nat)) : List Seg → List (Nat × Option SV) → Option (List Seg)
  | l, [] => some l
  | l, (i, some (.o x)) :: r => match ps i, partSegs x with
    | some (o, n), some m => bif (segsLen m).beq n then (match putS1 l o m with
      | some l' => fillS ps l' r
      | none => none) else none
    | _, _ => none
  | _, _ => none
theorem foldl_set (vs : List Value) : ∀ (cs : Array Value) (o : Nat), o + vs.length ≤ cs.size → (vs.toArray.zipIdx.foldl (fun cs (x : Value × Nat) => cs.setIfInBounds (o + x.2) x.1) cs) = (spl cs.toList o vs).toArray := by
  have key : ∀ (vs : List Value) (k : Nat) (cs : List Value) (o : Nat), o + k + vs.length ≤ cs.length → (List.zipIdx vs k).foldl (fun cs (x : Value × Nat) => cs.setIfInBounds (o + x.2) x.1) cs.toArray = (spl cs (o + k) vs).toArray := by
    intro vs
    induction vs with
    | nil => intro k cs o h; simp [spl]
    | cons v r ih =>
      intro k cs o h
      simp only [List.length_cons] at h
      simp only [List.zipIdx_cons, List.foldl_cons, List.setIfInBounds_toArray]
      rw [ih (k + 1) (cs.set (o + k) v) o (by rw [List.length_set]; omega)]
      congr 1
      unfold spl
      have h1 : (cs.set (o + k) v).take (o + (k + 1)) = cs.take (o + k) ++ [v] := by
        rw [show o + (k + 1) = o + k + 1 by omega, List.take_succ_eq_append_getElem (by rw [List.length_set]; omega), List.getElem_set_self, List.take_set_of_le (Nat.le_refl _)]
      have h2 : (cs.set (o + k) v).drop (o + (k + 1) + r.length) = cs.drop (o + k + (v :: r).length) := by
        rw [List.drop_set_of_lt (by omega)]
        simp only [List.length_cons]; congr 1; omega
      rw [h1, h2]; simp
  intro cs o h
  have := key vs 0 cs.toList o (by simpa using h)
  simpa [Array.zipIdx_toArray] using this
theorem partSegs_cells {x : SA} {m : List Seg} (h : partSegs x = some m) : (x.den ρ).cells = (segsDen ρ m).toArray := by
  cases x with
  | c x =>
    simp only [partSegs] at h
    cases ho : x.ok
    · rw [ho] at h; cases h
    · rw [ho] at h
      simp only [cond_true, Option.some.injEq] at h; subst h
      simp [SA.den, one_cells (SC.ok_den ho ρ), segsDen, Seg.den]
  | a l =>
    simp only [partSegs, Option.some.injEq] at h; subst h
    rfl
theorem fillS_run (ps : Nat → Option (Nat × Nat)) : ∀ (l : List Seg) (parts : List (Nat × Option SV)) (vs : List (Nat × Value)) (l' : List Seg), fillS ps l parts = some l' →
    parts.length = vs.length → (∀ (i : Nat) (p : Nat × Option SV) (v : Nat × Value), parts[i]? = some p → vs[i]? = some v → v.1 = p.1 ∧ ∀ y, p.2 = some y → v.2 = y.den ρ) →
    Instr.fill ps (segsDen ρ l).toArray vs = some (segsDen ρ l').toArray
  | l, [], vs, l', h, hl, _ => by
    simp only [fillS, Option.some.injEq] at h; subst h
    obtain rfl : vs = [] := by cases vs <;> simp_all
    rfl
  | l, (i, q) :: r, [], l', h, hl, _ => by simp at hl
  | l, (i, q) :: r, (j, v) :: vs, l', h, hl, hp => by
    have h0 := hp 0 _ _ rfl rfl
    obtain ⟨rfl, hq⟩ := h0
    dsimp only at hq hp
    cases q with
    | none => simp [fillS] at h
    | some y => cases y with
      | t _ => simp [fillS] at h
      | o x =>
        simp only [fillS] at h
        cases h1 : ps j with
        | none => rw [h1] at h; cases h
        | some on =>
          obtain ⟨o, n⟩ := on
          cases h2 : partSegs x with
          | none => rw [h1, h2] at h; cases h
          | some m =>
            rw [h1, h2] at h
            dsimp only at h
            cases hb : (segsLen m).beq n
            · rw [hb] at h; cases h
            · rw [hb] at h
              have hlen := Nat.eq_of_beq_eq_true hb
              simp only [cond_true] at h
              cases h3 : putS1 l o m with
              | none => rw [h3] at h; cases h
              | some l2 =>
                rw [h3] at h
                obtain ⟨e1, e2⟩ := putS1_den ρ l o m l2 h3
                have hv : v = x.den ρ := hq _ rfl
                subst hv
                have hc := partSegs_cells (ρ := ρ) h2
                have ih := fillS_run ps l2 r vs l' h (by simpa using hl) (fun k p u hk hu => hp (k + 1) p u hk hu)
                unfold Instr.fill
                have hsz : (SA.den ρ x).cells.size = n := by rw [hc]; simp [segsDen_len, hlen]
                simp only [h1]
                rw [if_neg (by rw [hsz]; simp [segsDen_len]; omega), hc, foldl_set _ _ _ (by simp [segsDen_len]; omega)]
                simp only [e1]
                exact ih
def partsS (env : Env) : List (Nat × Operand) → List (Nat × Option SV)
  | [] => []
  | p :: r => (p.1, evalS env p.2) :: partsS env r
theorem partsS_eq (env : Env) : ∀ l, partsS env l = l.map fun p => (p.1, evalS env p.2)
  | [] => rfl
  | p :: r => by simp [partsS, partsS_eq env r]
def strPlace (ps : List (Nat × Nat × Bool)) (i : Nat) : Option (Nat × Nat) := match ps[i]? with
  | some (o, n, _) => some (o, n)
  | none => none
def buildS (T : Tab) (env : Env) (t : TypeId) (parts : Array (Nat × Operand)) : Eff := match lkT T t with
  | some (.str z ps) => bif segsAv (fun _ => false) z then (match fillS (strPlace ps) z (partsS env parts.toList) with
    | some l => .val none (.o (.a l))
    | none => .no) else .no
  | some (.arr z n es ea) => bif segsAv (fun _ => false) z then (match fillS (fun i => some (i * es, es)) z (partsS env parts.toList) with
    | some l => .val none (.o (.a l))
    | none => .no) else .no
  | _ => .no
theorem info_of_underlying {t : TypeId} (h : (P.underlying t).isSome = true) : (P.info? t).isSome = true := by
  unfold Program.underlying at h
  cases hq : P.info? t with
  | none => rw [hq] at h; simp at h
  | some i => rfl
theorem places_ok : ∀ (fs : List Field), (fs.all fun f => (P.underlying f.type).isSome) = true →
    fs.mapM (fun f => (P.info? f.type).map fun i => (f.offset, i.size)) = some (fs.map fun f => (f.offset, ((P.info? f.type).map (·.size)).getD 0))
  | [], _ => rfl
  | f :: r, h => by
    rw [List.all_cons, Bool.and_eq_true] at h
    have h1 := info_of_underlying h.1
    obtain ⟨i, hi⟩ := Option.isSome_iff_exists.mp h1
    simp [List.mapM_cons, hi, places_ok r h.2]
theorem buildS_ok {T : Tab} (hT : TabOk P T) (hT2 : TysOk P T) {nt : Nat} {env : Env} {a : Act} (hE : EnvOk ρ nt env a) (t : TypeId) (parts : Array (Nat × Operand)) : EffOk P V ρ M nx w (do pure (Next.value (← Instr.build t (parts.map fun (i, x) => (i, a.eval x))))) (buildS T env t parts) := by
  have hfill : ∀ (pl : Nat → Option (Nat × Nat)) (z l : List Seg), segsAv (fun _ => false) z = true → fillS pl z (partsS env parts.toList) = some l → Instr.fill pl (segsDen (fun _ => 0) z).toArray (parts.map fun (i, x) => (i, a.eval x)).toList = some (segsDen ρ l).toArray := by
    intro pl z l hz hf
    rw [segs_noptr (ρ' := ρ) hz]
    refine fillS_run pl z _ _ l hf (by rw [partsS_eq]; simp) (fun i p v hp hv => ?_)
    rw [partsS_eq, List.getElem?_map] at hp
    rw [Array.toList_map, List.getElem?_map] at hv
    cases hq : parts.toList[i]? with
    | none => rw [hq] at hp; cases hp
    | some q =>
      rw [hq] at hp hv
      simp only [Option.map_some, Option.some.injEq] at hp hv
      subst hp; subst hv
      exact ⟨rfl, fun y hy => hE.eval hy⟩
  unfold buildS
  split
  · rename_i z ps h1
    cases hz : segsAv (fun _ => false) z
    · trivial
    · dsimp only [cond_true]
      cases hf : fillS (strPlace ps) z (partsS env parts.toList) with
      | none => trivial
      | some l =>
        refine ok_val fun _ _ => ?_
        obtain ⟨o1, o2, o3, o4⟩ := hT _ _ h1
        have hty := (hT2.2 _ _ h1).1
        have hb : P.built t (parts.map fun (i, x) => (i, a.eval x)).toList = some (segsDen ρ l).toArray := by
          unfold partsOf at o1
          split at o1
          · rename_i fs hu
            simp only [Option.some.injEq] at o1
            unfold partsTy at hty
            rw [hu] at hty
            cases hi : P.info? t with
            | none => rw [hi] at o3; cases o3
            | some it =>
              rw [hi] at o3
              simp only [Option.bind_some] at o3
              simp only [Program.built, hi, hu, o3, places_ok fs.toList hty]
              rw [← hfill (strPlace ps) z l hz hf]
              simp only [Value.cells]
              congr 1
              funext i
              unfold strPlace
              rw [← o1]
              simp only [List.getElem?_toArray, List.getElem?_map]
              cases fs.toList[i]? <;> rfl
          · cases o1
        have := run_build (P := P) w t _ _ hb
        simp only [Sem.run_bind, this, Result.andThen_ok, Sem.run_pure]; rfl
  · rename_i z n es ea h1
    cases hz : segsAv (fun _ => false) z
    · trivial
    · dsimp only [cond_true]
      cases hf : fillS (fun i => some (i * es, es)) z (partsS env parts.toList) with
      | none => trivial
      | some l =>
        refine ok_val fun _ _ => ?_
        obtain ⟨o1, o2, o3, o4⟩ := hT _ _ h1
        have hty := (hT2.2 _ _ h1).1
        have hb : P.built t (parts.map fun (i, x) => (i, a.eval x)).toList = some (segsDen ρ l).toArray := by
          obtain ⟨e, hu, hes, -⟩ := arrOf_get o1
          unfold partsTy at hty
          rw [hu] at hty
          obtain ⟨ie, hie⟩ := Option.isSome_iff_exists.mp (info_of_underlying hty)
          have hsz : ie.size = es := by rw [hie] at hes; simpa using hes
          cases hi : P.info? t with
          | none => rw [hi] at o3; cases o3
          | some it =>
            rw [hi] at o3
            simp only [Option.bind_some] at o3
            simp only [Program.built, hi, hu, o3, hie, hsz]
            exact hfill _ z l hz hf
        have := run_build (P := P) w t _ _ hb
        simp only [Sem.run_bind, this, Result.andThen_ok, Sem.run_pure]; rfl
  · trivial
end
end Go.Proofs.YtacgihekdmoceaaDoor
end
section
namespace Go.Proofs.YtacgihekdmoceaaDoor
open Go.RowKit
set_option linter.unusedVariables false
section
variable {P : Program}
theorem run_forIn_list {w : World} (f : Nat → Bool) (g : Nat → Option Bool × Unit → Sem (ForInStep (Option Bool × Unit))) : ∀ (l : List Nat),
    (∀ i ∈ l, (g i (none, ())).run P w = .ok (if f i then .yield (none, ()) else .done (some false, ())) w) →
    (forIn (m := Sem) l (none, ()) g).run P w = .ok (if l.all f then (none, ()) else (some false, ())) w := by
  intro l
  induction l with
  | nil => intro _; rfl
  | cons i l ih =>
    intro h
    have h1 := h i (by simp)
    have h2 := ih (fun j hj => h j (by simp [hj]))
    rw [List.forIn_cons]
    simp only [Sem.run_bind, h1, Result.andThen_ok]
    cases hf : f i
    · simp [hf, Sem.run_pure]
    · simp only [if_true]
      rw [h2]
      simp [hf]
/-- Two arrays of n elements, each of 'sz' cells: equal if they are so element by element. -/
theorem run_equalIn_array (w : World) (d : Nat) (t elem : TypeId) (n sz : Nat) (xs ys : Array Value) (f : Nat → Bool)
    (ht : P.underlying t = some (.array n elem)) (hs : (P.info? elem).map (·.size) = some sz)
    (hf : ∀ i, i < n → ∃ a b, (part elem xs (i * sz)).run P w = .ok a w ∧ (part elem ys (i * sz)).run P w = .ok b w ∧ (Op.equalIn d elem a b).run P w = .ok (f i) w) :
    (Op.equalIn (d + 1) t (.agg xs) (.agg ys)).run P w = .ok ((List.range n).all f) w := by
  have hz : (sizeOf elem).run P w = .ok sz w := by
    cases hq : P.info? elem with
    | none => simp [hq] at hs
    | some i => simp [hq] at hs; simp [sizeOf, typeInfo, hq, hs]
  simp only [Op.equalIn, Sem.run_bind, run_underlying ht, Result.andThen_ok, hz]
  rw [Std.Legacy.Range.forIn_eq_forIn_range', run_forIn_list f]
  · simp only [Std.Legacy.Range.size, Nat.sub_zero, Nat.add_sub_cancel, Nat.div_one]
    rw [← List.range_eq_range']
    by_cases h : (List.range n).all f = true
    · simp [h, Sem.run_pure]
    · simp [h, Sem.run_pure]
  · intro i hi
    have hin : i < n := by
      simp [Std.Legacy.Range.size] at hi
      omega
    obtain ⟨a, b, ha, hb, he⟩ := hf i hin
    simp only [Sem.run_bind, ha, hb, he, Result.andThen_ok]
    cases f i <;> simp [Sem.run_pure]
end
def eqV : List Value → List Value → Bool
  | [], [] => true
  | .int k a :: r, .int k' b :: s => (a == b) && eqV r s
  | _, _ => false
/-- Numbers of the same kinds. -/
inductive Ints2 : List Value → List Value → Prop
  | nil : Ints2 [] []
  | cons {k : IntKind} {a b : Int} {r s : List Value} (h : Ints2 r s) : Ints2 (.int k a :: r) (.int k b :: s)
theorem Ints2.len {r s : List Value} (h : Ints2 r s) : r.length = s.length := by induction h <;> simp_all
theorem Ints2.drop {r s : List Value} (h : Ints2 r s) : ∀ n, Ints2 (r.drop n) (s.drop n) := by
  induction h with
  | nil => intro n; simp; exact .nil
  | cons h ih => intro n; cases n with
    | zero => exact .cons h
    | succ n => exact ih n
theorem Ints2.take {r s : List Value} (h : Ints2 r s) : ∀ n, Ints2 (r.take n) (s.take n) := by
  induction h with
  | nil => intro n; simp; exact .nil
  | cons h ih => intro n; cases n with
    | zero => exact .nil
    | succ n => exact .cons (ih n)
theorem eqV_split {r s : List Value} (h : Ints2 r s) : ∀ n, eqV r s = (eqV (r.take n) (s.take n) && eqV (r.drop n) (s.drop n)) := by
  induction h with
  | nil => intro n; simp [eqV]
  | cons h ih => intro n; cases n with
    | zero => simp [eqV]
    | succ n => simp only [List.take_succ_cons, List.drop_succ_cons, eqV, ih n, Bool.and_assoc]
section
variable (P : Program)
def valQ (t : TypeId) (xs : List Value) : Value := if aggOf P t then .agg xs.toArray else xs.headD undef
end
section
variable {P : Program} {w : World}
theorem part_flat {d e : Nat} {xs : List Value} {off : Nat} (h : flatQ P d e = true) (hl : off + cellsQ P e ≤ xs.length) : (part e xs.toArray off).run P w = .ok (valQ P e ((xs.drop off).take (cellsQ P e))) w := by
  cases d with
  | zero => simp [flatQ] at h
  | succ d =>
    unfold flatQ at h
    rw [Bool.and_eq_true] at h
    obtain ⟨i, hi⟩ := Option.isSome_iff_exists.mp h.1
    have hsz : i.size = cellsQ P e := by simp [cellsQ, hi]
    have h2 := h.2
    cases hu : P.underlying e with
    | none => rw [hu] at h2; simp at h2
    | some dd =>
      rw [hu] at h2
      have hag : ∀ b, aggOf P e = b → (isAgg e).run P w = .ok b w := by
        intro b hb
        unfold aggOf at hb
        unfold isAgg
        rw [Sem.run_bind, run_underlying hu w]
        rw [hu] at hb
        cases dd <;> simp_all
      cases ha : aggOf P e with
      | false =>
        have hc : cellsQ P e = 1 := by
          unfold aggOf at ha
          rw [hu] at ha
          cases dd <;> simp_all
        rw [hc] at hl ⊢
        have hg : xs[off]? = some xs[off] := List.getElem?_eq_getElem (by omega)
        unfold valQ
        rw [ha]
        simp only [part, Sem.run_bind, hag _ ha, Result.andThen_ok, Bool.false_eq_true, if_false]
        rw [List.getElem?_toArray, hg]
        simp only [Sem.run_pure]
        congr 1
        rw [List.drop_eq_getElem_cons (by omega)]
        rfl
      | true =>
        unfold valQ
        rw [ha]
        simp only [part, Sem.run_bind, hag _ ha, Result.andThen_ok, if_true, sizeOf, typeInfo, run_program, hi, Sem.run_pure, hsz]
        simp [List.extract_toArray, List.extract_eq_take_drop]
theorem fields_flat {d : Nat} (ih : ∀ t, flatQ P d t = true → ∀ d', d ≤ d' → ∀ xs ys, Ints2 xs ys → xs.length = cellsQ P t → (Op.equalIn d' t (valQ P t xs) (valQ P t ys)).run P w = .ok (eqV xs ys) w) {d' : Nat} (hd : d ≤ d') {xs ys : List Value} (hi : Ints2 xs ys) :
    ∀ (fs : List Field) (o : Nat), (fs.all fun f => flatQ P d f.type) = true → seqF P o fs = some xs.length → o ≤ xs.length → (Op.eqFields d' xs.toArray ys.toArray fs).run P w = .ok (eqV (xs.drop o) (ys.drop o)) w
  | [], o, _, h, _ => by
    simp only [seqF, Option.some.injEq] at h
    subst h
    rw [List.drop_of_length_le (Nat.le_refl _), List.drop_of_length_le (by rw [hi.len]; exact Nat.le_refl _)]
    simp [Op.eqFields, eqV]
  | f :: r, o, hall, h, ho => by
    simp only [List.all_cons, Bool.and_eq_true] at hall
    unfold seqF at h
    split at h
    · rename_i hc
      obtain ⟨rfl, hn⟩ := hc
      have hle : f.offset + cellsQ P f.type ≤ xs.length := by
        have : ∀ (fs : List Field) (o t : Nat), seqF P o fs = some t → o ≤ t := by
          intro fs
          induction fs with
          | nil => intro o t h; simp only [seqF, Option.some.injEq] at h; omega
          | cons g s ih => intro o t h; unfold seqF at h; split at h
                           · have := ih _ _ h; omega
                           · cases h
        exact this _ _ _ h
      have e1 := part_flat (w := w) (xs := xs) hall.1 hle
      have e2 := part_flat (w := w) (xs := ys) hall.1 (by rw [← hi.len]; exact hle)
      have e3 := ih f.type hall.1 d' hd _ _ ((hi.drop f.offset).take (cellsQ P f.type)) (by simp; omega)
      have e4 := fields_flat ih hd hi r _ hall.2 h hle
      simp only [Op.eqFields, ne_eq, hn, not_false_eq_true, if_true, Sem.run_bind, e1, e2, e3, Result.andThen_ok]
      rw [eqV_split (hi.drop f.offset) (cellsQ P f.type), List.drop_drop, List.drop_drop]
      cases eqV ((xs.drop f.offset).take (cellsQ P f.type)) ((ys.drop f.offset).take (cellsQ P f.type))
      · simp
      · simp [e4]
    · cases h
theorem all_flat (sz : Nat) : ∀ (n : Nat) {xs ys : List Value}, Ints2 xs ys → xs.length = n * sz → (List.range n).all (fun i => eqV ((xs.drop (i * sz)).take sz) ((ys.drop (i * sz)).take sz)) = eqV xs ys
  | 0, xs, ys, h, hl => by
    rw [Nat.zero_mul] at hl
    cases h with
    | nil => rfl
    | cons h => simp at hl
  | n + 1, xs, ys, h, hl => by
    have hm : (n + 1) * sz = n * sz + sz := Nat.succ_mul n sz
    rw [List.range_succ, List.all_append]
    have h1 := all_flat sz n (h.take (n * sz)) (by simp; omega)
    rw [eqV_split h (n * sz), ← h1]
    congr 1
    · apply Bool.eq_iff_iff.2
      simp only [List.all_eq_true, List.mem_range]
      have key : ∀ (l : List Value) i, i < n → ((l.take (n * sz)).drop (i * sz)).take sz = (l.drop (i * sz)).take sz := by
        intro l i hi
        have : i * sz + sz ≤ n * sz := by
          have := Nat.mul_le_mul_right sz (show i + 1 ≤ n by omega)
          rwa [Nat.succ_mul] at this
        rw [List.drop_take, List.take_take, Nat.min_eq_left (by omega)]
      constructor <;> (intro hh i hi; have := hh i hi; first | (rw [key xs i hi, key ys i hi]; exact this) | (rw [key xs i hi, key ys i hi] at this; exact this))
    · simp only [List.all_cons, List.all_nil, Bool.and_true]
      rw [List.take_of_length_le (by simp; omega), List.take_of_length_le (by simp [← h.len]; omega)]
theorem equal_flat : ∀ (d : Nat) (t : TypeId), flatQ P d t = true → ∀ d', d ≤ d' → ∀ xs ys, Ints2 xs ys → xs.length = cellsQ P t → (Op.equalIn d' t (valQ P t xs) (valQ P t ys)).run P w = .ok (eqV xs ys) w
  | 0, t, h => by simp [flatQ] at h
  | d + 1, t, h => by
    intro d' hd xs ys hi hl
    obtain ⟨d2, rfl⟩ : ∃ d2, d' = d2 + 1 := ⟨d' - 1, by omega⟩
    have h0 := h
    unfold flatQ at h
    rw [Bool.and_eq_true] at h
    have h2 := h.2
    cases hu : P.underlying t with
    | none => rw [hu] at h2; simp at h2
    | some dd =>
      rw [hu] at h2
      cases dd <;> try (simp at h2; done)
      case int k0 =>
        have hc : cellsQ P t = 1 := by simpa using h2
        rw [hc] at hl
        have ha : aggOf P t = false := by unfold aggOf; rw [hu]
        cases hi with
        | nil => simp at hl
        | cons hr =>
          rename_i k a b r s
          have : r = [] := List.length_eq_zero_iff.1 (by simpa using hl)
          subst this
          cases hr
          simp only [valQ, ha, Bool.false_eq_true, if_false, List.headD_cons]
          rw [run_equalIn_int w d2 t k k0 a b hu]
          simp [eqV]
      case struct fs =>
        simp only [Bool.and_eq_true, Bool.not_eq_true', beq_iff_eq] at h2
        have ha : aggOf P t = true := by unfold aggOf; rw [hu]
        have hfs : P.fieldsOf t = fs := by unfold Program.fieldsOf; rw [hu]
        simp only [valQ, ha, if_true]
        rw [run_equalIn_struct w d2 t _ _ (by rw [hfs]; exact hu) h2.1.1, hfs]
        have := fields_flat (w := w) (fun t ht d' hd xs ys hi hl => equal_flat d t ht d' hd xs ys hi hl) (show d ≤ d2 by omega) hi fs.toList 0 h2.1.2 (by rw [h2.2, hl]) (Nat.zero_le _)
        simpa using this
      case array n e =>
        simp only [Bool.and_eq_true, Bool.not_eq_true', beq_iff_eq, beq_eq_false_iff_ne, ne_eq] at h2
        obtain ⟨⟨h3, h4⟩, h5⟩ := h2
        have ha : aggOf P t = true := by unfold aggOf; rw [hu]
        simp only [valQ, ha, if_true]
        have hsz : (P.info? e).map (·.size) = some (cellsQ P e) := by
          unfold cellsQ
          unfold cellsQ at h5
          cases hq : P.info? e with
          | none => rw [hq] at h5; simp at h5
          | some i => rfl
        rw [run_equalIn_array w d2 t e n (cellsQ P e) _ _ (fun i => eqV ((xs.drop (i * cellsQ P e)).take (cellsQ P e)) ((ys.drop (i * cellsQ P e)).take (cellsQ P e))) hu hsz (fun i hin => ?_)]
        · rw [all_flat (cellsQ P e) n hi (by rw [hl, h4])]
        · have hle : i * cellsQ P e + cellsQ P e ≤ xs.length := by
            have := Nat.mul_le_mul_right (cellsQ P e) (show i + 1 ≤ n by omega)
            rw [Nat.succ_mul] at this
            omega
          exact ⟨_, _, part_flat h3 hle, part_flat h3 (by rw [← hi.len]; exact hle), equal_flat d e h3 d2 (by omega) _ _ ((hi.drop _).take _) (by simp; omega)⟩
/-- Are two runs of numbers the same? -/
def intsE (n : Nat) (f g : Nat → Int) : Bool := decide ((List.range n).map f = (List.range n).map g)
def eqSegs : List Seg → List Seg → Option Bool
  | [], [] => some true
  | .one (.v (.int k a)) :: r, .one (.v (.int k' b)) :: s => bif ikE k k' then (match eqSegs r s with
    | some e => some (bif a == b then e else false)
    | none => none) else none
  | .ints (.int k) n f :: r, .ints (.int k') n' g :: s => bif ikE k k' && n.beq n' then (match eqSegs r s with
    | some e => some (bif intsE n f g then e else false)
    | none => none) else none
  | _, _ => none
theorem ints_two (k : IntKind) (f g : Nat → Int) {r s : List Value} (h : Ints2 r s) : ∀ (l : List Nat), Ints2 ((l.map fun i => Value.int k (f i)) ++ r) ((l.map fun i => Value.int k (g i)) ++ s) ∧
    eqV ((l.map fun i => Value.int k (f i)) ++ r) ((l.map fun i => Value.int k (g i)) ++ s) = (decide (l.map f = l.map g) && eqV r s)
  | [] => ⟨h, by simp⟩
  | i :: l => by
    obtain ⟨h1, h2⟩ := ints_two k f g h l
    refine ⟨.cons h1, ?_⟩
    simp only [List.map_cons, List.cons_append, eqV, h2, ← Bool.and_assoc]
    congr 1
    rw [Bool.eq_iff_iff]
    simp
theorem eqSegs_den (ρ : Nat → Nat) : ∀ (l m : List Seg) (b : Bool), eqSegs l m = some b → Ints2 (segsDen ρ l) (segsDen ρ m) ∧ eqV (segsDen ρ l) (segsDen ρ m) = b := by
  intro l
  induction l with
  | nil =>
    intro m b h
    cases m with
    | nil => simp only [eqSegs, Option.some.injEq] at h; subst h; exact ⟨.nil, rfl⟩
    | cons y s => simp [eqSegs] at h
  | cons x r ih =>
    intro m b h
    unfold eqSegs at h
    split at h
    · rename_i e; cases e
    · rename_i k a r' k' b' s e1
      simp only [List.cons.injEq] at e1
      obtain ⟨rfl, rfl⟩ := e1
      cases hk : ikE k k'
      · rw [hk] at h; cases h
      · rw [hk] at h
        obtain rfl := ikN_inj hk
        simp only [cond_true] at h
        cases he : eqSegs r s with
        | none => rw [he] at h; cases h
        | some e =>
          rw [he] at h
          simp only [Option.some.injEq] at h; subst h
          obtain ⟨h1, h2⟩ := ih s e he
          refine ⟨.cons h1, ?_⟩
          simp only [segsDen, Seg.den, SC.den, List.cons_append, List.nil_append, eqV, h2]
          cases a == b' <;> rfl
    · rename_i k n f r' k' n' g s e1
      simp only [List.cons.injEq] at e1
      obtain ⟨rfl, rfl⟩ := e1
      cases hk : (ikE k k' && n.beq n')
      · rw [hk] at h; cases h
      · rw [hk] at h
        simp only [Bool.and_eq_true] at hk
        obtain rfl := ikN_inj hk.1
        obtain rfl := Nat.eq_of_beq_eq_true hk.2
        simp only [cond_true] at h
        cases he : eqSegs r s with
        | none => rw [he] at h; cases h
        | some e =>
          rw [he] at h
          simp only [Option.some.injEq] at h; subst h
          obtain ⟨h1, h2⟩ := ih s e he
          obtain ⟨g1, g2⟩ := ints_two k f g h1 (List.range n)
          refine ⟨g1, ?_⟩
          simp only [segsDen, Seg.den, mkV]
          rw [g2, h2]
          unfold intsE
          cases decide (List.map f (List.range n) = List.map g (List.range n)) <;> rfl
    · cases h
def cmpA (T : Tab) (op : BinOp) (t : Nat) (l m : List Seg) : Option Bool := match lkT T t with
  | some i => bif intsOnly i && (segsLen l).beq i.size then (match op, eqSegs l m with
    | .eql, some b => some b
    | .neq, some b => some (bif b then false else true)
    | _, _ => none) else none
  | none => none
theorem cmpA_run {T : Tab} (hT : TabOk P T) (hT2 : TysOk P T) {op : BinOp} {t : Nat} {l m : List Seg} {b : Bool} {u v : Operand} {ρ : Nat → Nat} (h : cmpA T op t l m = some b) :
    (do eqGuard op t u v ((SA.a l).den ρ) ((SA.a m).den ρ); binOp op t ((SA.a l).den ρ) ((SA.a m).den ρ) : Sem Value).run P w = .ok (.bool b) w := by
  unfold cmpA at h
  cases h1 : lkT T t with
  | none => rw [h1] at h; cases h
  | some i =>
    rw [h1] at h
    dsimp only at h
    cases hc : (intsOnly i && (segsLen l).beq i.size)
    · rw [hc] at h; cases h
    · rw [hc] at h
      simp only [cond_true] at h
      simp only [Bool.and_eq_true] at hc
      have hq := (hT2.2 _ _ h1).2.1 hc.1
      unfold eqTy at hq
      simp only [Bool.and_eq_true, Bool.not_eq_true'] at hq
      have hlen := Nat.eq_of_beq_eq_true hc.2
      obtain ⟨ha, hz, -, -, -⟩ := (hT _ _ h1).agg (fun z k e => by subst e; simp [intsOnly] at hc)
      have hcq : cellsQ P t = i.size := by unfold cellsQ; rw [hz]; rfl
      have key : ∀ e, eqSegs l m = some e → (Op.equalIn 10000 t (.agg (segsDen ρ l).toArray) (.agg (segsDen ρ m).toArray)).run P w = .ok e w := by
        intro e he
        obtain ⟨g1, g2⟩ := eqSegs_den ρ l m e he
        have := equal_flat (w := w) 12 t hq.1 10000 (by decide) _ _ g1 (by rw [segsDen_len, hlen, hcq])
        unfold valQ at this
        rw [ha] at this
        simp only [if_true] at this
        rw [this, g2]
      have hg := run_eqGuard_agg (P := P) w op t u v (segsDen ρ l).toArray (segsDen ρ m).toArray hq.2
      simp only [SA.den, Sem.run_bind, hg, Result.andThen_ok]
      split at h
      · rename_i e he
        simp only [Option.some.injEq] at h; subst h
        rw [run_eql_struct, key _ he]; rfl
      · rename_i e he
        simp only [Option.some.injEq] at h; subst h
        rw [run_neq_struct, key _ he]
        cases e <;> rfl
      · cases h
end
end Go.Proofs.YtacgihekdmoceaaDoor
end
section
namespace Go.Proofs.YtacgihekdmoceaaDoor
open Go.RowKit
set_option linter.unusedVariables false
section
variable {P : Program} {V w : World} {ρ : Nat → Nat} {M : List SB} {nx : Nat}
/-- The kinds of a type's cells, if all are numbers and truth values. -/
def kindsL : List Seg → Option (List CK)
  | [] => some []
  | .one (.v (.int k _)) :: r => match kindsL r with
    | some l => some (.int k :: l)
    | none => none
  | .one (.v (.bool _)) :: r => match kindsL r with
    | some l => some (.bool :: l)
    | none => none
  | .ints k n _ :: r => match kindsL r with
    | some l => some (List.replicate n k ++ l)
    | none => none
  | _ => none
/-- A slice type: its element's number, size, zero cells and kinds. -/
def rowP (T : Tab) (t : Nat) : Option (Nat × Nat × List CK) := match lkT T t with
  | some (.one _ (.slice e)) => match lkT T e with
    | some ti => match kindsL ti.zero with
      | some ks => bif segsAv (fun _ => false) ti.zero && ks.length.beq ti.size && !ti.size.beq 0 then some (e, ti.size, ks) else none
      | none => none
    | none => none
  | _ => none
theorem rowP_spec {T : Tab} (hT : TabOk P T) (hT2 : TysOk P T) {t e sz : Nat} {ks : List CK} (h : rowP T t = some (e, sz, ks)) :
    P.underlying t = some (.slice e) ∧ 0 < sz ∧ ks.length = sz ∧ ∃ i z, P.info? e = some i ∧ i.zero = some z ∧ i.size = sz ∧ i.bytes ≤ 1024 ∧ z.cells.size = sz := by
  unfold rowP at h
  split at h
  · rename_i z e' h1
    split at h
    · rename_i ti h2
      split at h
      · rename_i ks' h3
        cases hc : (segsAv (fun _ => false) ti.zero && ks'.length.beq ti.size && !ti.size.beq 0)
        · rw [hc] at h; cases h
        · rw [hc] at h
          simp only [cond_true, Option.some.injEq, Prod.mk.injEq] at h
          obtain ⟨rfl, rfl, rfl⟩ := h
          simp only [Bool.and_eq_true, Bool.not_eq_true'] at hc
          obtain ⟨⟨c1, c2⟩, c3⟩ := hc
          have hne : ti.size ≠ 0 := fun e => by rw [e] at c3; cases c3
          obtain ⟨z, j, hj, hz, hzc, hs⟩ := zero_cells (ρ := fun _ => 0) hT h2 c1
          have hb := (hT2.2 _ _ h2).2.2
          unfold bytesOk at hb
          rw [hj] at hb
          refine ⟨kd_sliceT (hT _ _ h1).1, by omega, Nat.eq_of_beq_eq_true c2, j, z, hj, hz, hs, ble_t hb, ?_⟩
          rw [hzc, List.size_toArray, segsDen_len]
          cases ti <;> rfl
      · cases h
    · cases h
  · cases h
def ksE : List CK → List CK → Bool
  | [], [] => true
  | a :: r, b :: s => (ckN a).beq (ckN b) && ksE r s
  | _, _ => false
theorem ksE_eq : ∀ {r s : List CK}, ksE r s = true → r = s
  | [], [], _ => rfl
  | [], _ :: _, h => by cases h
  | _ :: _, [], h => by cases h
  | a :: r, b :: s, h => by
    simp only [ksE, Bool.and_eq_true] at h
    rw [ckN_inj h.1, ksE_eq h.2]
/-- What a slice holds: its length and its rows, under a condition; which block is read. -/
structure Src where
  b : Nat
  vc : Prop
  m : Nat
  z : Nat → Nat → Int
def kOk : List CK → (Nat → IntKind) → Nat → Bool
  | [], _, _ => true
  | .int k :: r, f, i => ikE k (f i) && kOk r f (i + 1)
  | .bool :: _, _, _ => false
theorem kOk_at {f : Nat → IntKind} {z : Int} : ∀ {ks : List CK} {i j : Nat}, kOk ks f i = true → j < ks.length → mkV (ckAt ks j) z = .int (f (i + j)) z
  | [], _, _, _, h => by simp at h
  | .int k :: r, i, 0, h, _ => by
    simp only [kOk, Bool.and_eq_true] at h
    have := ikN_inj h.1
    subst this; rfl
  | .int k :: r, i, j + 1, h, hj => by
    simp only [kOk, Bool.and_eq_true] at h
    have := kOk_at (z := z) (j := j) h.2 (by simpa using hj)
    rw [show i + (j + 1) = i + 1 + j by omega]; exact this
  | .bool :: _, _, _, h, _ => by simp [kOk] at h
def srcS (V : World) (M : List SB) (e sz : Nat) (ks : List CK) : Option SV → Option Src
  | some (.o (.c (.o b m c))) => match getB M b with
    | .rows t' ks' sz' n' c' z => bif t'.beq e && sz'.beq sz && ksE ks' ks then some ⟨b, m ≤ n' ∧ c = c', m, z⟩ else none
    | _ => none
  | some (.o (.c (.so b lo sz2 m c nn))) => match getB M b with
    | .rows t' ks' sz' n' c' z => bif t'.beq e && sz'.beq sz && sz2.beq sz && ksE ks' ks then some ⟨b, lo + m ≤ n' ∧ c = c', m, fun i => z (lo + i)⟩ else none
    | _ => none
  | some (.o (.c (.v (.slice none n m)))) => bif n.beq 0 && m.beq 0 then some ⟨M.length, True, 0, fun _ _ => 0⟩ else none
  | some (.o (.c (.r a n c m sz2 kf z))) => bif sz2.beq sz && kOk ks kf 0 && ks.length.beq sz then some ⟨M.length, Rws sz kf V a m c z ∧ n ≤ m, n, z⟩ else none
  | _ => none
theorem rowsV_take (ks : Nat → CK) (sz : Nat) (z : Nat → Nat → Int) (n m : Nat) (h : m ≤ n) : (rowsV ks sz z n).take (m * sz) = rowsV ks sz z m := by
  apply rowsV_ext
  · rw [List.length_take, rowsV_len]
    have := Nat.mul_le_mul_right sz h
    omega
  · intro i j hi hj
    have : (i + 1) * sz ≤ m * sz := Nat.mul_le_mul_right _ hi
    rw [Nat.add_mul] at this
    rw [List.getElem?_take, if_pos (by omega), rowsV_get ks sz z n i j (by omega) hj]
theorem rowsV_drop (ks : Nat → CK) (sz : Nat) (z : Nat → Nat → Int) (n lo m : Nat) (h : lo + m ≤ n) : ((rowsV ks sz z n).drop (lo * sz)).take (m * sz) = rowsV ks sz (fun i => z (lo + i)) m := by
  apply rowsV_ext
  · rw [List.length_take, List.length_drop, rowsV_len]
    have := Nat.mul_le_mul_right sz h
    rw [Nat.add_mul] at this
    omega
  · intro i j hi hj
    have : (i + 1) * sz ≤ m * sz := Nat.mul_le_mul_right _ hi
    rw [Nat.add_mul] at this
    rw [List.getElem?_take, if_pos (by omega), List.getElem?_drop, show lo * sz + (i * sz + j) = (lo + i) * sz + j by rw [Nat.add_mul]; omega, rowsV_get ks sz z n (lo + i) j (by omega) hj]
/-- Where the source's cells lie. -/
theorem srcS_spec (hV : OldV V w) {e sz : Nat} {ks : List CK} {x : Option SV} {v : Value} {s : Src} (h : srcS V M e sz ks x = some s) (hx : ∀ y, x = some y → v = y.den ρ) (hR : ∀ e ∈ denB ρ s.b (getB M s.b), e.at w) (hv : s.vc) :
    ∃ a c, v = .slice a s.m c ∧ (s.m = 0 ∨ ∃ b off, a = some ⟨b, off, none⟩ ∧ ∀ j u, (rowsV (ckAt ks) sz s.z s.m)[j]? = some u → w.cell? ⟨b, off + j, none⟩ = some u) := by
  unfold srcS at h
  split at h
  · rename_i b m c
    have := hx _ rfl
    subst this
    split at h
    · rename_i t' ks' sz' n' c' z hb
      cases hc : (t'.beq e && sz'.beq sz && ksE ks' ks)
      · rw [hc] at h; cases h
      · rw [hc] at h
        simp only [cond_true, Option.some.injEq] at h; subst h
        simp only [Bool.and_eq_true] at hc
        obtain ⟨⟨-, h2⟩, h3⟩ := hc
        obtain rfl := Nat.eq_of_beq_eq_true h2
        obtain rfl := ksE_eq h3
        obtain ⟨h1, rfl⟩ := hv
        have hrow := row_of hb hR
        cases hcc : c.beq 0
        · refine ⟨some ⟨ρ b, 0, none⟩, c, by simp only [SV.den, SA.den, SC.den, hcc, cond_false], ?_⟩
          rcases Nat.eq_zero_or_pos m with h0 | h0
          · exact .inl h0
          · obtain ⟨C, hB, hl, ht, -⟩ := hrow.blk (by omega)
            refine .inr ⟨ρ b, 0, rfl, fun j u hj => ?_⟩
            rw [hB.cell, Nat.zero_add]
            rw [← rowsV_take _ _ _ n' m h1, ← ht, List.take_take, List.getElem?_take] at hj
            split at hj
            · exact hj
            · cases hj
        · have h0 := Nat.eq_of_beq_eq_true hcc
          have := hrow.1
          exact ⟨none, 0, by simp only [SV.den, SA.den, SC.den, hcc, cond_true]; rw [show m = 0 by omega], .inl (by simp only; omega)⟩
    · cases h
  · rename_i b lo sz2 m c nn
    have := hx _ rfl
    subst this
    split at h
    · rename_i t' ks' sz' n' c' z hb
      cases hc : (t'.beq e && sz'.beq sz && sz2.beq sz && ksE ks' ks)
      · rw [hc] at h; cases h
      · rw [hc] at h
        simp only [cond_true, Option.some.injEq] at h; subst h
        simp only [Bool.and_eq_true] at hc
        obtain ⟨⟨⟨-, h2⟩, h4⟩, h3⟩ := hc
        obtain rfl := Nat.eq_of_beq_eq_true h2
        obtain rfl := Nat.eq_of_beq_eq_true h4
        obtain rfl := ksE_eq h3
        obtain ⟨h1, rfl⟩ := hv
        have hrow := row_of hb hR
        have hnc := hrow.1
        cases hcc : (c.beq 0 && !nn)
        · refine ⟨some ⟨ρ b, bif (c - lo).beq 0 then 0 else lo * sz2, none⟩, c - lo, by simp only [SV.den, SA.den, SC.den, hcc, cond_false], ?_⟩
          rcases Nat.eq_zero_or_pos m with h0 | h0
          · exact .inl h0
          · obtain ⟨C, hB, hl, ht, -⟩ := hrow.blk (by omega)
            have hz : (c - lo).beq 0 = false := by cases hq : (c - lo).beq 0; rfl; exact absurd (Nat.eq_of_beq_eq_true hq) (by omega)
            refine .inr ⟨ρ b, lo * sz2, by rw [hz]; rfl, fun j u hj => ?_⟩
            rw [hB.cell]
            rw [← rowsV_drop _ _ _ n' lo m h1, ← ht, List.getElem?_take] at hj
            split at hj
            · rw [List.getElem?_drop, List.getElem?_take] at hj
              split at hj
              · exact hj
              · cases hj
            · cases hj
        · simp only [Bool.and_eq_true] at hcc
          have h0 := Nat.eq_of_beq_eq_true hcc.1
          exact ⟨none, 0, by simp only [SV.den, SA.den, SC.den, hcc.1, hcc.2, Bool.and_self, cond_true]; rw [show m = 0 by omega], .inl (by simp only; omega)⟩
    · cases h
  · rename_i n m
    cases hc : (n.beq 0 && m.beq 0)
    · rw [hc] at h; cases h
    · rw [hc] at h
      simp only [Bool.and_eq_true] at hc
      obtain rfl := Nat.eq_of_beq_eq_true hc.1
      obtain rfl := Nat.eq_of_beq_eq_true hc.2
      simp only [cond_true, Option.some.injEq] at h; subst h
      have := hx _ rfl
      subst this
      exact ⟨none, 0, rfl, .inl rfl⟩
  · rename_i a n c m sz2 kf z
    cases hc : (sz2.beq sz && kOk ks kf 0 && ks.length.beq sz)
    · rw [hc] at h; cases h
    · rw [hc] at h
      simp only [Bool.and_eq_true] at hc
      obtain ⟨⟨h1, h2⟩, h3⟩ := hc
      obtain rfl := Nat.eq_of_beq_eq_true h1
      have h3 := Nat.eq_of_beq_eq_true h3
      simp only [cond_true, Option.some.injEq] at h; subst h
      have := hx _ rfl
      subst this
      obtain ⟨hr, hn⟩ := hv
      dsimp only at hn ⊢
      rcases Nat.eq_zero_or_pos n with h0 | h0
      · exact ⟨a, c, rfl, .inl h0⟩
      · obtain ⟨-, -, g | ⟨b, off, rfl, hb, hcell⟩⟩ := hV _ _ _ _ _ _ hr
        · omega
        · refine ⟨_, c, rfl, .inr ⟨b, off, rfl, fun j u hj => ?_⟩⟩
          have hjl : j < n * sz2 := by
            rcases Nat.lt_or_ge j (n * sz2) with h | h
            · exact h
            · rw [List.getElem?_eq_none (by rw [rowsV_len]; exact h)] at hj; cases hj
          have hs : 0 < sz2 := by
            rcases Nat.eq_zero_or_pos sz2 with h | h
            · subst h; simp at hjl
            · exact h
          have hq : j / sz2 < n := Nat.div_lt_of_lt_mul (by rw [Nat.mul_comm]; exact hjl)
          have hm := Nat.mod_lt j hs
          have hdm : j / sz2 * sz2 + j % sz2 = j := by rw [Nat.mul_comm]; exact Nat.div_add_mod j sz2
          have h4 := rowsV_get (ckAt ks) sz2 z n (j / sz2) (j % sz2) hq hm
          rw [hdm, hj, kOk_at h2 (by omega), Nat.zero_add] at h4
          rw [Option.some.inj h4, ← (hcell (j / sz2) (by omega) (j % sz2) hm).1]
          congr 2; omega
  · cases h
/-- One behind the other. -/
def catR (n : Nat) (z z2 : Nat → Nat → Int) : Nat → Nat → Int := fun i j => bif i.blt n then z i j else z2 (i - n) j
theorem rowsV_cat (ks : Nat → CK) (sz n m : Nat) (z z2 : Nat → Nat → Int) : rowsV ks sz z n ++ rowsV ks sz z2 m = rowsV ks sz (catR n z z2) (n + m) := by
  apply rowsV_ext
  · rw [List.length_append, rowsV_len, rowsV_len, Nat.add_mul]
  · intro i j hi hj
    unfold catR
    rcases Nat.lt_or_ge i n with h | h
    · have : (i + 1) * sz ≤ n * sz := Nat.mul_le_mul_right _ h
      rw [Nat.add_mul] at this
      rw [List.getElem?_append_left (by rw [rowsV_len]; omega), rowsV_get ks sz z n i j h hj]
      simp [show i.blt n = true by simpa [Nat.blt_eq] using h]
    · have : n * sz ≤ i * sz := Nat.mul_le_mul_right _ h
      rw [List.getElem?_append_right (by rw [rowsV_len]; omega), rowsV_len, show i * sz + j - n * sz = (i - n) * sz + j by rw [Nat.sub_mul]; omega, rowsV_get ks sz z2 m (i - n) j (by omega) hj]
      simp [show i.blt n = false by cases hb : i.blt n; rfl; exact absurd (blt_t hb) (by omega)]
theorem RowAt.own {b : Nat} {t : TypeId} {ks : Nat → CK} {sz n c : Nat} {z : Nat → Nat → Int} (h : RowAt w b t sz n c (rowsV ks sz z n)) {m : Nat} (hm : m ≤ n) : w.ownsRow 0 t sz (bif c.beq 0 then .slice none 0 0 else .slice (some ⟨b, 0, none⟩) m c) m (rowsV ks sz z m) := by
  refine ⟨rowsV_len _ _ _ _, ?_⟩
  cases hc : c.beq 0
  · have h0 : c ≠ 0 := fun e => by subst e; simp at hc
    obtain ⟨C, hB, hl, ht, hmx⟩ := h.2.2 (by omega)
    refine .inr ⟨b, c, C.toArray, rfl, Nat.zero_le _, hB, by have := h.1; omega, hmx, by simpa using hl, ?_⟩
    have := Nat.mul_le_mul_right sz hm
    have e : C.take (m * sz) = (C.take (n * sz)).take (m * sz) := by rw [List.take_take, Nat.min_eq_left this]
    rw [e, ht, rowsV_take _ _ _ n m hm]
  · have h0 := Nat.eq_of_beq_eq_true hc
    have := h.1
    exact .inl ⟨rfl, by omega⟩
/-- The block that a slice holds behind an append. -/
theorem own_row {t sz k : Nat} {v : Value} {xs : List Value} (h : w.ownsRow 0 t sz v k xs) (hk : 0 < k) : ∃ g c, v = .slice (some ⟨g, 0, none⟩) k c ∧ k ≤ c ∧ RowAt w g t sz k c xs ∧ v.ownBlock = some g := by
  obtain ⟨h1, ⟨rfl, rfl⟩ | ⟨g, c, cur, rfl, hb, hg, hl, hm, hs, ht⟩⟩ := h
  · omega
  · exact ⟨g, c, rfl, hl, ⟨hl, h1, fun _ => ⟨cur.toList, by unfold Blk; simpa using hg, by simpa using hs, ht, hm⟩⟩, rfl⟩
theorem bz {c : Nat} (h : 0 < c) : c.beq 0 = false := by cases hb : c.beq 0; rfl; exact absurd (Nat.eq_of_beq_eq_true hb) (by omega)
/-- The slice to which is appended: which block holds it, its length, its room, its rows. -/
def dstS (M : List SB) (e sz : Nat) (ks : List CK) : Option SV → Option (Option Nat × Prop × Nat × Nat × (Nat → Nat → Int) × Bool)
  | some (.o (.c (.o b n c))) => match getB M b with
    | .rows t' ks' sz' n' c' z => bif t'.beq e && sz'.beq sz && ksE ks' ks then some (some b, n ≤ n' ∧ c = c', n, c, z, false) else none
    | _ => none
  | some (.o (.c (.so b lo _ n c nn))) => match getB M b with
    | .rows t' ks' sz' n' c' z => bif t'.beq e && sz'.beq sz && ksE ks' ks && lo.beq 0 then some (some b, n ≤ n' ∧ c = c', n, c, z, nn) else none
    | _ => none
  | some (.o (.c (.v (.slice none n m)))) => bif n.beq 0 && m.beq 0 then some (none, True, 0, 0, fun _ _ => 0, false) else none
  | _ => none
def appU (nx e sz n m c : Nat) (ks : List CK) (z : Nat → Nat → Int) : Option Nat → Nat → List SB
  | some _, c' => [.gone, .rows e ks sz (n + m) c' z]
  | none, c' => [.rows e ks sz (n + m) c' z]
def appW (nx : Nat) : Option Nat → List Nat
  | some b => [b, nx]
  | none => [nx]
def neB : Option Nat → Nat → Bool
  | some b, c => !b.beq c
  | none, _ => true
def appendS (V : World) (T : Tab) (M : List SB) (nx : Nat) (t : Nat) (x y : Option SV) : Eff := match rowP T t with
  | some (e, sz, ks) => match dstS M e sz ks x, srcS V M e sz ks y with
    | some (ob, p, n, c, z, nn), some s => bif neB ob s.b && neB ob nx then
        .any Nat [s.b] (some (p ∧ s.vc ∧ n + s.m ≤ 68719476736)) (fun c' => n + s.m ≤ c') (fun c' => .o (.c (.so nx 0 sz (n + s.m) c' nn))) (appW nx ob) (appU nx e sz n s.m c ks (catR n z s.z) ob) else .no
    | _, _ => .no
  | none => .no
theorem so_den (ρ : Nat → Nat) (b sz n c : Nat) (nn : Bool) : (SC.so b 0 sz n c nn).den ρ = bif c.beq 0 && !nn then .slice none 0 0 else .slice (some ⟨ρ b, 0, none⟩) n c := by
  simp only [SC.den, Nat.sub_zero, Nat.zero_mul]
  cases c.beq 0 <;> rfl
theorem owns_mono {base t sz k : Nat} {v : Value} {xs : List Value} (h : w.ownsRow base t sz v k xs) : w.ownsRow 0 t sz v k xs := by
  obtain ⟨h1, h2 | ⟨g, c, cur, hv, hb, h3⟩⟩ := h
  · exact ⟨h1, .inl h2⟩
  · exact ⟨h1, .inr ⟨g, c, cur, hv, Nat.zero_le _, h3⟩⟩
theorem run_append_zero {t e : Nat} {i : TypeInfo} (ht : P.underlying t = some (.slice e)) (hi : P.info? e = some i) (ty : TypeId) (base a : Option Addr) (n c c2 : Nat) (hn : n ≤ c) :
    (Builtin.append_ #[t, t] ty #[.slice base n c, .slice a 0 c2]).run P w = .ok (.slice base n c) w := by
  have hcs : ∀ (b : Addr), (loadCells b 0).run P w = .ok #[] w := fun b => by
    have := run_loadCells_list (P := P) w b [] (by simp)
    simpa using this
  cases base <;> cases a <;> simp [Builtin.append_, run_underlying ht, sizeOf, typeInfo, hi, Sem.run_bind, Builtin.lenOf, Builtin.firstCells, hn, hcs, storeCells]
theorem appendS_ok {T : Tab} (hV : OldV V w) (hT : TabOk P T) (hT2 : TysOk P T) (t : Nat) (ty : TypeId) {x y : Option SV} {v u : Value} (hx : ∀ s, x = some s → v = s.den ρ) (hy : ∀ s, y = some s → u = s.den ρ) :
    EffOk P V ρ M nx w (do let r ← Builtin.append_ #[t, t] ty #[v, u]; pure (Next.value r)) (appendS V T M nx t x y) := by
  unfold appendS
  split
  · rename_i e sz ks hp
    obtain ⟨hu, hsz, hkl, i, zv, hi, hz, his, hib, hzs⟩ := rowP_spec hT hT2 hp
    split
    · rename_i ob p n c z nn s hd hs
      cases hne : (neB ob s.b && neB ob nx)
      · trivial
      · intro hR hW hv
        obtain ⟨hp1, hp2, hlen⟩ := hv
        simp only [Bool.and_eq_true] at hne
        obtain ⟨a, c2, rfl, hsrc⟩ := srcS_spec hV hs hy (hR s.b (by simp)) hp2
        -- the slice to which is appended
        have hdst : (∃ b n' , ob = some b ∧ n ≤ n' ∧ n ≤ c ∧ v = (bif c.beq 0 && !nn then .slice none 0 0 else .slice (some ⟨ρ b, 0, none⟩) n c) ∧ getB M b = .rows e ks sz n' c z ∧ RowAt w (ρ b) e sz n' c (rowsV (ckAt ks) sz z n')) ∨ (ob = none ∧ n = 0 ∧ c = 0 ∧ v = .slice none 0 0 ∧ nn = false) := by
          unfold dstS at hd
          split at hd
          · rename_i b n1 c1
            split at hd
            · rename_i t' ks' sz' n' c' z' hb
              cases hc : (t'.beq e && sz'.beq sz && ksE ks' ks)
              · rw [hc] at hd; cases hd
              · rw [hc] at hd
                simp only [cond_true, Option.some.injEq, Prod.mk.injEq] at hd
                obtain ⟨rfl, rfl, rfl, rfl, rfl, rfl⟩ := hd
                simp only [Bool.and_eq_true] at hc
                obtain ⟨⟨h2, h4⟩, h3⟩ := hc
                obtain rfl := Nat.eq_of_beq_eq_true h2
                obtain rfl := Nat.eq_of_beq_eq_true h4
                obtain rfl := ksE_eq h3
                obtain ⟨g1, rfl⟩ := hp1
                have hrow : RowAt w (ρ b) t' sz' n' c1 (rowsV (ckAt ks') sz' z' n') := hW.holds (.row (ρ b) t' sz' n' c1 (rowsV (ckAt ks') sz' z' n')) (by simp [denT, denB, hb, appW])
                exact .inl ⟨b, n', rfl, g1, Nat.le_trans g1 hrow.1, (hx _ rfl).trans (by simp only [SV.den, SA.den, SC.den, Bool.not_false, Bool.and_true]), hb, hrow⟩
            · cases hd
          · rename_i b lo sz2 n1 c1 nn1
            split at hd
            · rename_i t' ks' sz' n' c' z' hb
              cases hc : (t'.beq e && sz'.beq sz && ksE ks' ks && lo.beq 0)
              · rw [hc] at hd; cases hd
              · rw [hc] at hd
                simp only [cond_true, Option.some.injEq, Prod.mk.injEq] at hd
                obtain ⟨rfl, rfl, rfl, rfl, rfl, rfl⟩ := hd
                simp only [Bool.and_eq_true] at hc
                obtain ⟨⟨⟨h2, h4⟩, h3⟩, h5⟩ := hc
                obtain rfl := Nat.eq_of_beq_eq_true h2
                obtain rfl := Nat.eq_of_beq_eq_true h4
                obtain rfl := Nat.eq_of_beq_eq_true h5
                obtain rfl := ksE_eq h3
                obtain ⟨g1, rfl⟩ := hp1
                have hrow : RowAt w (ρ b) t' sz' n' c1 (rowsV (ckAt ks') sz' z' n') := hW.holds (.row (ρ b) t' sz' n' c1 (rowsV (ckAt ks') sz' z' n')) (by simp [denT, denB, hb, appW])
                exact .inl ⟨b, n', rfl, g1, Nat.le_trans g1 hrow.1, (hx _ rfl).trans (so_den _ _ _ _ _ _), hb, hrow⟩
            · cases hd
          · rename_i n1 m1
            cases hc : (n1.beq 0 && m1.beq 0)
            · rw [hc] at hd; cases hd
            · rw [hc] at hd
              simp only [Bool.and_eq_true] at hc
              obtain rfl := Nat.eq_of_beq_eq_true hc.1
              obtain rfl := Nat.eq_of_beq_eq_true hc.2
              simp only [cond_true, Option.some.injEq, Prod.mk.injEq] at hd
              obtain ⟨rfl, rfl, rfl, rfl, rfl, rfl⟩ := hd
              exact .inr ⟨rfl, rfl, rfl, hx _ rfl, rfl⟩
          · cases hd
        by_cases hm : s.m = 0
        · -- nothing is appended
          rw [hm] at hsrc ⊢
          refine ⟨c, ?_⟩
          rcases hdst with ⟨b, n', rfl, h1, hnc, rfl, hb, hrow⟩ | ⟨rfl, rfl, rfl, rfl, rfl⟩
          · have hbn : b ≠ nx := fun e => by subst e; simp [neB] at hne
            have hr : (Builtin.append_ #[t, t] ty #[bif c.beq 0 && !nn then .slice none 0 0 else .slice (some ⟨ρ b, 0, none⟩) n c, .slice a 0 c2]).run P w = .ok (bif c.beq 0 && !nn then .slice none 0 0 else .slice (some ⟨ρ b, 0, none⟩) n c) w := by
              cases hc : (c.beq 0 && !nn)
              · exact run_append_zero hu hi ty _ _ _ _ _ hnc
              · exact run_append_zero hu hi ty _ _ _ _ _ (Nat.le_refl _)
            refine ⟨by omega, rfl, w, fun i => if i = nx then ρ b else ρ i, fun i hi => if_neg (by simp [appW, appU] at hi; omega), .val (by
              simp only [Sem.run_bind, hr, Result.andThen_ok, Sem.run_pure, SV.den, SA.den, so_den, if_pos]; rfl), ?_⟩
            have hf : ∀ g, (0 < c ∧ ρ b = g) → feet (denT ρ M ((List.zip (appW nx (some b)) (appU nx e sz n 0 c ks (catR n z s.z) (some b) c)).map (·.1))) g := fun g hg => ⟨.row (ρ b) e sz n' c (rowsV (ckAt ks) sz z n'), by simp [denT, denB, hb, appW, appU], hg⟩
            have hrow2 : RowAt w (ρ b) e sz (n + 0) c (rowsV (ckAt ks) sz (catR n z s.z) (n + 0)) := by
              refine ⟨hnc, rowsV_len _ _ _ _, fun hc => ?_⟩
              obtain ⟨C, hB, hl, ht, hmx⟩ := hrow.2.2 hc
              refine ⟨C, hB, hl, ?_, hmx⟩
              rw [← rowsV_cat]
              simp only [rowsV, List.append_nil, Nat.add_zero]
              have := Nat.mul_le_mul_right sz h1
              rw [show C.take (n * sz) = (C.take (n' * sz)).take (n * sz) by rw [List.take_take, Nat.min_eq_left this], ht, rowsV_take _ _ _ n' n h1]
            have := Mem.one (w := w) (S := feet (denT ρ M ((List.zip (appW nx (some b)) (appU nx e sz n 0 c ks (catR n z s.z) (some b) c)).map (·.1)))) (Kept.refl _ w) (e := .row (ρ b) e sz (n + 0) c (rowsV (ckAt ks) sz (catR n z s.z) (n + 0))) hrow2 (fun g hg => .inl (hf g hg))
            simpa [denU, denB, appW, appU] using this
          · refine ⟨by omega, rfl, w, fun i => if i = nx then 0 else ρ i, fun i hi => if_neg (by simp [appW, appU] at hi; omega), .val (by
              have := run_append_zero (P := P) (w := w) hu hi ty none a 0 0 c2 (Nat.le_refl _)
              simp only [Sem.run_bind, this, Result.andThen_ok, Sem.run_pure, SV.den, SA.den, SC.den]; rfl), ?_⟩
            have := Mem.one (w := w) (S := feet (denT ρ M ((List.zip (appW nx none) (appU nx e sz 0 0 0 ks (catR 0 z s.z) none 0)).map (·.1)))) (Kept.refl _ w) (e := .row 0 e sz 0 0 []) ⟨Nat.le_refl _, by simp, fun h => by omega⟩ (fun g hg => by have := hg.1; omega)
            simpa [denU, denB, appW, appU, rowsV] using this
        · -- something is
          rcases hsrc with h0 | ⟨b2, off2, rfl, hnews⟩
          · exact absurd h0 hm
          have h1v : ∀ n, ∀ u ∈ rowsV (ckAt ks) sz s.z n, u.oneCell' = true := by
            intro n
            induction n with
            | zero => intro u hu; simp [rowsV] at hu
            | succ n ih =>
              intro u hu
              simp only [rowsV, List.mem_append] at hu
              rcases hu with hu | hu
              · exact ih u hu
              · simp only [rowV, List.mem_map] at hu; obtain ⟨_, -, rfl⟩ := hu; exact mkV_one _ _
          have hbytes : (n + s.m) * i.bytes ≤ 140737488355328 := by
            have h1 : (n + s.m) * i.bytes ≤ 68719476736 * i.bytes := Nat.mul_le_mul_right _ hlen
            omega
          obtain ⟨v', w', row, hr, hown', hgrow, hblk, hat⟩ : ∃ v' w' row, (Builtin.append_ #[t, t] ty #[v, .slice (some ⟨b2, off2, none⟩) s.m c2]).run P w = .ok v' w' ∧ w'.ownsRow 0 e sz v' (n + s.m) (rowsV (ckAt ks) sz z n ++ rowsV (ckAt ks) sz s.z s.m) ∧
              w.grownBy w' row ∧ (∀ g, row = some g → ∃ b, ob = some b ∧ 0 < c ∧ g = ρ b) ∧ (v'.ownBlock = row ∨ v'.ownBlock = some w.heap.size ∨ ∃ g, v'.ownBlock = some g ∧ w.heap.size ≤ g) := by
            have own : ∀ (hown : w.ownsRow 0 e sz v n (rowsV (ckAt ks) sz z n)), (∀ g, v.ownBlock = some g → ∃ b, ob = some b ∧ 0 < c ∧ g = ρ b) → ∃ v' w' row, (Builtin.append_ #[t, t] ty #[v, .slice (some ⟨b2, off2, none⟩) s.m c2]).run P w = .ok v' w' ∧ w'.ownsRow 0 e sz v' (n + s.m) (rowsV (ckAt ks) sz z n ++ rowsV (ckAt ks) sz s.z s.m) ∧
              w.grownBy w' row ∧ (∀ g, row = some g → ∃ b, ob = some b ∧ 0 < c ∧ g = ρ b) ∧ (v'.ownBlock = row ∨ v'.ownBlock = some w.heap.size ∨ ∃ g, v'.ownBlock = some g ∧ w.heap.size ≤ g) := fun hown hblk => by
              obtain ⟨v', w', hr, hown', hgrow, -, hat⟩ := run_append_own_at (P := P) w 0 t ty e i zv sz i.bytes hu hi hz his rfl hzs hsz v n _ hown ⟨b2, off2, none⟩ s.m c2 (rowsV (ckAt ks) sz s.z s.m) (rowsV_len _ _ _ _)
                (fun j u hj => by rw [add_addr]; exact hnews j u hj) (h1v _) (by unfold maxLen; omega) hbytes (Nat.zero_le _)
              exact ⟨v', w', v.ownBlock, hr, hown', hgrow, hblk, hat.imp id .inl⟩
            rcases hdst with ⟨b, n', rfl, h1, hnc, rfl, hb, hrow⟩ | ⟨rfl, rfl, rfl, rfl, -⟩
            · cases hc : c.beq 0
              · have hc0 : 0 < c := by
                  rcases Nat.eq_zero_or_pos c with h | h
                  · subst h; simp at hc
                  · exact h
                have ho := hrow.own h1
                rw [hc] at ho own
                simp only [Bool.false_and, cond_false] at own ho ⊢
                exact own ho (fun g hg => ⟨b, rfl, hc0, by simpa [Value.ownBlock] using hg.symm⟩)
              · have hc0 := Nat.eq_of_beq_eq_true hc
                subst hc0
                obtain rfl : n = 0 := by omega
                cases nn
                · exact own ⟨by simp [rowsV], .inl ⟨rfl, rfl⟩⟩ (fun g hg => by simp [Value.ownBlock] at hg)
                · obtain ⟨v', w', hr, hown', hgrow⟩ := run_append_arg_grows (P := P) w t ty e i zv sz i.bytes hu hi hz his rfl hzs hsz ⟨ρ b, 0, none⟩ 0 0 [] (by simp) (fun j u hj => by simp at hj) ⟨b2, off2, none⟩ s.m c2 (rowsV (ckAt ks) sz s.z s.m) (rowsV_len _ _ _ _)
                    (fun j u hj => by rw [add_addr]; exact hnews j u hj) (by omega) (by unfold maxLen; omega) hbytes
                  obtain ⟨g, c', rfl, -, -, hob⟩ := own_row (owns_mono hown') (by omega)
                  refine ⟨_, w', none, hr, owns_mono hown', hgrow, (fun g h => by cases h), .inr (.inr ⟨g, hob, ?_⟩)⟩
                  obtain ⟨-, ⟨hv, -⟩ | ⟨g2, c2, cur, hv, hbg, -⟩⟩ := hown'
                  · cases hv
                  · simp only [Value.slice.injEq, Option.some.injEq, Addr.mk.injEq] at hv
                    omega
            · exact own ⟨by simp [rowsV], .inl ⟨rfl, rfl⟩⟩ (fun g hg => by simp [Value.ownBlock] at hg)
          rw [rowsV_cat] at hown'
          obtain ⟨g, c', rfl, hle, hrow', hob⟩ := own_row hown' (by omega)
          have hS : ∀ g', row = some g' → feet (denT ρ M (appW nx ob)) g' := by
            intro g' hg'
            obtain ⟨b, rfl, hc, rfl⟩ := hblk g' hg'
            rcases hdst with ⟨b', n', h0, h1, hnc, hve, hb, hrow⟩ | ⟨h0, -⟩
            · simp only [Option.some.injEq] at h0
              subst h0
              exact ⟨.row (ρ b) e sz n' c (rowsV (ckAt ks) sz z n'), by simp [denT, denB, hb, appW], hc, rfl⟩
            · cases h0
          have hzip : (List.zip (appW nx ob) (appU nx e sz n s.m c ks (catR n z s.z) ob c')).map (·.1) = appW nx ob := by cases ob <;> rfl
          have hob2 : ob ≠ some nx := fun e => by subst e; simp [neB] at hne
          have hbz : c'.beq 0 = false := bz (by omega)
          refine ⟨c', hle, by cases ob <;> rfl, w', fun i => if i = nx then g else ρ i, fun i hi => if_neg (fun e => by
            subst e
            rw [hzip] at hi
            rcases hi with hi | hi
            · omega
            · cases ob <;> simp [appW] at hi), .val (by simp only [Sem.run_bind, hr, Result.andThen_ok, Sem.run_pure, SV.den, SA.den, so_den, if_pos, hbz, Bool.false_and, cond_false]), ?_⟩
          rw [hzip]
          have hk : Kept (feet (denT ρ M (appW nx ob))) w w' := ⟨hgrow.os, hgrow.tape, hgrow.output, hgrow.size, fun k hk hn => hgrow.block k hk (fun hh => hn (hS k hh.symm))⟩
          have := Mem.one hk (e := .row g e sz (n + s.m) c' (rowsV (ckAt ks) sz (catR n z s.z) (n + s.m))) hrow' (fun g' hg' => by
            obtain ⟨-, rfl⟩ := hg'
            rcases hat with hat | hat | ⟨g2, hat, hg2⟩
            · exact .inl (hS g (by rw [← hat]; exact hob))
            · rw [hob] at hat
              simp only [Option.some.injEq] at hat
              exact .inr (by omega)
            · rw [hob] at hat
              simp only [Option.some.injEq] at hat
              exact .inr (by omega))
          cases ob with
          | none => simpa [denU, denB, appW, appU] using this
          | some b =>
            simpa [denU, denB, appW, appU] using this
    · trivial
  · trivial
end
end Go.Proofs.YtacgihekdmoceaaDoor
end
