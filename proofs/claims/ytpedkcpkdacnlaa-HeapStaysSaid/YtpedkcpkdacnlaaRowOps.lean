/- Loads and stores of a whole array or struct in the middle of a block of cells. No program is named here. -/
import Derived.Test.YtpedkcpkdacnlaaKeep
namespace Go.Proofs.Ytpedkcpkdacnlaa
open Go.RowKit
def spl (C : List Value) (o : Nat) (vs : List Value) : List Value := C.take o ++ vs ++ C.drop (o + vs.length)
theorem spl_length (C : List Value) (o : Nat) (vs : List Value) (h : o + vs.length ≤ C.length) : (spl C o vs).length = C.length := by
  unfold spl; simp; omega
/-- The world in which block b holds the cells C. -/
def setBlk (w : World) (b : Nat) (C : List Value) : World := w.setRow b C.toArray
theorem Blk.setBlk {w : World} {b : Nat} {C : List Value} {t : TypeId} (h : Blk w b C t) (C' : List Value) : Blk (setBlk w b C') b C' t := by
  unfold Blk at h ⊢
  unfold Proofs.Ytpedkcpkdacnlaa.setBlk World.setRow
  simp [Array.getElem?_modify, h]
theorem setBlk_heap (w : World) (b : Nat) (C : List Value) (k : Nat) (h : k ≠ b) : (setBlk w b C).heap[k]? = w.heap[k]? := by
  unfold setBlk World.setRow
  simp only [Array.getElem?_modify]
  rw [if_neg (by omega)]
theorem setBlk_size (w : World) (b : Nat) (C : List Value) : (setBlk w b C).heap.size = w.heap.size := by
  unfold setBlk World.setRow; simp
theorem Kept.setBlk (w : World) (b : Nat) (C : List Value) : Kept (· = b) w (setBlk w b C) :=
  ⟨rfl, rfl, rfl, by rw [setBlk_size]; exact Nat.le_refl _, fun k _ hn => setBlk_heap w b C k hn⟩
theorem Blk.otherBlk {w : World} {b b' : Nat} {C : List Value} {t : TypeId} (h : Blk w b C t) (C' : List Value) (hb : b ≠ b') : Blk (Proofs.Ytpedkcpkdacnlaa.setBlk w b' C') b C t :=
  (setBlk_heap w b' C' b hb).trans h
theorem bsetBlk {w a : World} {b : Nat} (h : Below w.heap.size w a) (hb : w.heap.size ≤ b) (C : List Value) : Below w.heap.size w (setBlk a b C) :=
  bkept h (Kept.setBlk a b C) (by rintro n rfl; exact hb)

section
variable {P : Program}
theorem run_loadVar_part (w : World) (b : Nat) (C : List Value) (t ty : TypeId) (o n : Nat) (d : TypeDesc) (hB : Blk w b C t) (hfit : o + n ≤ C.length)
    (hu : P.underlying ty = some d) (hd : (match d with | .struct _ | .array _ _ => true | _ => false) = true) (hi : (P.info? ty).map (·.size) = some n) :
    (loadVar ty ⟨b, o, none⟩).run P w = .ok (.agg ((C.drop o).take n).toArray) w := by
  have hlen : ((C.drop o).take n).length = n := by simp; omega
  have hl := run_loadCells_list (P := P) w ⟨b, o, none⟩ ((C.drop o).take n) (fun j v hv => by
    have hadd : (⟨b, o, none⟩ : Addr).add j = ⟨b, o + j, none⟩ := by unfold Addr.add; split <;> simp_all
    have hj : j < n := by
      rcases Nat.lt_or_ge j n with h | h
      · exact h
      · rw [List.getElem?_eq_none (by omega)] at hv; cases hv
    rw [hadd, hB.cell (o + j)]
    rw [List.getElem?_take, if_pos hj, List.getElem?_drop] at hv
    exact hv)
  rw [hlen] at hl
  cases hq : P.info? ty with
  | none => simp [hq] at hi
  | some i =>
    have hs : i.size = n := by simpa [hq] using hi
    have hagg : (isAgg ty).run P w = .ok true w := by
      unfold isAgg
      rw [Sem.run_bind, run_underlying hu w]
      cases d <;> simp_all
    simp [loadVar, Sem.run_bind, hagg, sizeOf, typeInfo, hq, hs, hl]
theorem run_storeVar_part (w : World) (b : Nat) (C : List Value) (t ty : TypeId) (o n : Nat) (vs : List Value) (hB : Blk w b C t) (hn : vs.length = n) (hfit : o + n ≤ C.length)
    (hi : (P.info? ty).map (·.size) = some n) (h1 : ∀ v ∈ vs, v.oneCell' = true) :
    (storeVar ty ⟨b, o, none⟩ (.agg vs.toArray)).run P w = .ok () (setBlk w b (spl C o vs)) := by
  have hst := run_storeCells_at P b o t vs 0 C.toArray w hB (by simpa [hn] using hfit) h1
  cases hq : P.info? ty with
  | none => simp [hq] at hi
  | some i =>
    have hs : i.size = n := by simpa [hq] using hi
    simp only [Nat.add_zero] at hst
    simp [storeVar, sizeOf, typeInfo, hq, Value.cells, hs, hn, hst, setBlk, spl]
theorem wpList_load_part {ops : Array Oper} {rest : List Oper} {o : Oper} {a : Act} {w : World} {Q : Exit → Act → World → Prop} (hgd : o.guard = none) (ty : TypeId) (x : Operand) (ho : o.op = .load ty x)
    (b off n : Nat) (hx : a.eval x = .pointer (some ⟨b, off, none⟩)) (t : TypeId) (C : List Value) (d : TypeDesc) (hB : Blk w b C t) (hfit : off + n ≤ C.length)
    (hu : P.underlying ty = some d) (hd : (match d with | .struct _ | .array _ _ => true | _ => false) = true) (hi : (P.info? ty).map (·.size) = some n)
    (h : wpList P ops Q rest (a.put o.dst (.agg ((C.drop off).take n).toArray)) w) : wpList P ops Q (o :: rest) a w :=
  wpList_plain hgd fun _ hK => by
    unfold Oper.wp execOp
    simp only [ho, hx, Instr.loadAt, Instr.sureAddr, Sem.run_bind, Sem.run_pure, Result.andThen_ok, run_loadVar_part w b C t ty off n d hB hfit hu hd hi]
    exact hK _ _ h
theorem wpList_store_part {ops : Array Oper} {rest : List Oper} {o : Oper} {a : Act} {w : World} {Q : Exit → Act → World → Prop} (hgd : o.guard = none) (ty : TypeId) (x y : Operand) (ho : o.op = .store ty x y)
    (b off n : Nat) (vs : List Value) (hx : a.eval x = .pointer (some ⟨b, off, none⟩)) (hy : a.eval y = .agg vs.toArray) (t : TypeId) (C : List Value) (hB : Blk w b C t) (hn : vs.length = n) (hfit : off + n ≤ C.length)
    (hi : (P.info? ty).map (·.size) = some n) (h1 : ∀ v ∈ vs, v.oneCell' = true)
    (h : wpList P ops Q rest (a.put o.dst undef) (setBlk w b (spl C off vs))) : wpList P ops Q (o :: rest) a w :=
  wpList_plain hgd fun _ hK => by
    unfold Oper.wp execOp
    simp only [ho, hx, hy, Instr.storeAt, Instr.sureAddr, Sem.run_bind, Sem.run_pure, Result.andThen_ok, run_storeVar_part w b C t ty off n vs hB hn hfit hi h1]
    exact hK _ _ h
end
end Go.Proofs.Ytpedkcpkdacnlaa
