/- Results that lie in memory: what a function hands back whose result variables are blocks of cells. No program is named here. -/
import Derived.Test.YtpedkcpkdacnlaaRowOps
import Derived.Deep.MidRow
namespace Go.Proofs.Ytpedkcpkdacnlaa
open Go.RowKit
theorem Blk.setCells {b : Nat} {t : TypeId} : ∀ (vs : List Value) (o : Nat) (w : World) (C : List Value), Blk w b C t → o + vs.length ≤ C.length → Blk (w.setCells b o vs) b (spl C o vs) t
  | [], o, w, C, h, _ => by
    have : spl C o [] = C := by simp [spl]
    rw [this]; exact h
  | v :: r, o, w, C, h, hl => by
    simp only [List.length_cons] at hl
    have ih := Blk.setCells r (o + 1) _ _ (h.set o v) (by rw [List.length_set]; omega)
    have e : spl (C.set o v) (o + 1) r = spl C o (v :: r) := by
      unfold spl
      have h1 : (C.set o v).take (o + 1) = C.take o ++ [v] := by
        rw [List.take_succ_eq_append_getElem (by rw [List.length_set]; omega), List.getElem_set_self, List.take_set_of_le (Nat.le_refl _)]
      have h2 : (C.set o v).drop (o + 1 + r.length) = C.drop (o + (v :: r).length) := by
        rw [List.drop_set_of_lt (by omega)]
        simp only [List.length_cons]; congr 1; omega
      rw [h1, h2]; simp
    rw [e] at ih
    exact ih
theorem Blk.setCellsWhole {b : Nat} {t : TypeId} {w : World} {C vs : List Value} (h : Blk w b C t) (hl : vs.length = C.length) : Blk (w.setCells b 0 vs) b vs t := by
  have := Blk.setCells vs 0 w C h (by omega)
  rwa [show spl C 0 vs = vs by unfold spl; rw [List.take_zero, List.nil_append, List.drop_of_length_le (by omega), List.append_nil]] at this
theorem setCells_kept (b : Nat) : ∀ (vs : List Value) (o : Nat) (w : World), Kept (· = b) w (w.setCells b o vs)
  | [], _, w => Kept.refl _ w
  | v :: r, o, w => ((Kept.refl _ w).own o v).trans (setCells_kept b r (o + 1) _)
theorem Blk.rangeAt {w : World} {b : Nat} {C : List Value} {t : TypeId} (h : Blk w b C t) (o n : Nat) : w.rangeAt b o ((C.drop o).take n) := fun j v hv => by
  rw [h.cell]
  rw [List.getElem?_take] at hv
  split at hv
  · rw [List.getElem?_drop] at hv; exact hv
  · cases hv
theorem Blk.range {w : World} {b : Nat} {C : List Value} {t : TypeId} (h : Blk w b C t) : w.rangeAt b 0 C := fun j v hv => by
  rw [h.cell, Nat.zero_add]; exact hv
theorem Blk.there {w : World} {b : Nat} {C : List Value} {t : TypeId} (h : Blk w b C t) (o n : Nat) (hn : o + n ≤ C.length) : w.there b o n := fun j hj => by
  refine ⟨?_, h.frozen _⟩
  rw [h.cell, List.getElem?_eq_getElem (by omega)]; rfl
/-- Two variables made one behind the other, and the first one filled. -/
theorem def_pair (w : World) (C Z A : List Value) (t t' : TypeId) :
    Blk (Proofs.Ytpedkcpkdacnlaa.setBlk ((w.alloc (.cells Z.toArray t)).alloc (.cells A.toArray t')) w.heap.size C) w.heap.size C t ∧
    Blk (Proofs.Ytpedkcpkdacnlaa.setBlk ((w.alloc (.cells Z.toArray t)).alloc (.cells A.toArray t')) w.heap.size C) (w.heap.size + 1) A t' ∧
    Below w.heap.size w (Proofs.Ytpedkcpkdacnlaa.setBlk ((w.alloc (.cells Z.toArray t)).alloc (.cells A.toArray t')) w.heap.size C) := by
  have h1 := (Blk.new w Z t).alloc (.cells A.toArray t')
  have h2 := Blk.new (w.alloc (.cells Z.toArray t)) A t'
  rw [World.size_alloc] at h2
  exact ⟨h1.setBlk C, h2.otherBlk C (by omega), bsetBlk (balloc (balloc (Below.refl _ _) _) _) (Nat.le_refl _) C⟩
/-- A variable that there was is filled anew, and another one made. -/
theorem asg_pair (w : World) (b : Nat) (C C' A : List Value) (t t' : TypeId) (h : Blk w b C t) :
    Blk (Proofs.Ytpedkcpkdacnlaa.setBlk (w.alloc (.cells A.toArray t')) b C') b C' t ∧ Blk (Proofs.Ytpedkcpkdacnlaa.setBlk (w.alloc (.cells A.toArray t')) b C') w.heap.size A t' ∧
    Kept (· = b) w (Proofs.Ytpedkcpkdacnlaa.setBlk (w.alloc (.cells A.toArray t')) b C') :=
  ⟨(h.alloc _).setBlk C', (Blk.new w A t').otherBlk C' (Nat.ne_of_gt h.lt), ((Kept.refl _ w).alloc _).trans (Kept.setBlk _ b C')⟩
section
variable {P : Program} {fn : Func} {tmps : Array Value} {w : World}
theorem run_loadVar_whole (b : Nat) (C : List Value) (t ty : TypeId) (d : TypeDesc) (hB : Blk w b C t)
    (hu : P.underlying ty = some d) (hd : (match d with | .struct _ | .array _ _ => true | _ => false) = true) (hi : (P.info? ty).map (·.size) = some C.length) :
    (loadVar ty ⟨b, 0, none⟩).run P w = .ok (.agg C.toArray) w := by
  rw [run_loadVar_part w b C t ty 0 C.length d hB (by omega) hu hd hi, List.drop_zero, List.take_length]
theorem wpList_load_part_g {ops : Array Oper} {rest : List Oper} {o : Oper} {a : Act} {Q : Exit → Act → World → Prop} (hw : Region.wanted o (yielded ops a.tmps) = true) (ty : TypeId) (x : Operand) (ho : o.op = .load ty x)
    (b off n : Nat) (hx : a.eval x = .pointer (some ⟨b, off, none⟩)) (t : TypeId) (C : List Value) (d : TypeDesc) (hB : Blk w b C t) (hfit : off + n ≤ C.length)
    (hu : P.underlying ty = some d) (hd : (match d with | .struct _ | .array _ _ => true | _ => false) = true) (hi : (P.info? ty).map (·.size) = some n)
    (h : wpList P ops Q rest (a.put o.dst (.agg ((C.drop off).take n).toArray)) w) : wpList P ops Q (o :: rest) a w :=
  wpList_step fun _ hK => by
    rw [if_pos hw]
    unfold Oper.wp execOp
    simp only [ho, hx, Instr.loadAt, Instr.sureAddr, Sem.run_bind, Sem.run_pure, Result.andThen_ok, run_loadVar_part w b C t ty off n d hB hfit hu hd hi]
    exact hK _ _ h
theorem results1_cell (a : Tmp) (ty : TypeId) (hr : fn.results = #[.cell a ty]) (b : Nat) (C : List Value) (t : TypeId) (d : TypeDesc) (ha : tmps.getD a undef = .pointer (some ⟨b, 0, none⟩)) (hB : Blk w b C t)
    (hu : P.underlying ty = some d) (hd : (match d with | .struct _ | .array _ _ => true | _ => false) = true) (hi : (P.info? ty).map (·.size) = some C.length) :
    (results fn tmps).run P w = .ok (.agg C.toArray) w := by
  have h := run_loadVar_whole b C t ty d hB hu hd hi
  rw [Array.getD_eq_getD_getElem?] at ha
  simp [results, hr, Array.mapM_eq_mapM_toList, ha, asAddr, h]
theorem results2_cells (a a' : Tmp) (ty ty' : TypeId) (hr : fn.results = #[.cell a ty, .cell a' ty']) (b b' : Nat) (C C' : List Value) (t t' : TypeId) (d d' : TypeDesc)
    (ha : tmps.getD a undef = .pointer (some ⟨b, 0, none⟩)) (ha' : tmps.getD a' undef = .pointer (some ⟨b', 0, none⟩)) (hB : Blk w b C t) (hB' : Blk w b' C' t')
    (hu : P.underlying ty = some d) (hd : (match d with | .struct _ | .array _ _ => true | _ => false) = true) (hi : (P.info? ty).map (·.size) = some C.length)
    (hu' : P.underlying ty' = some d') (hd' : (match d' with | .struct _ | .array _ _ => true | _ => false) = true) (hi' : (P.info? ty').map (·.size) = some C'.length) :
    (results fn tmps).run P w = .ok (.tuple #[.agg C.toArray, .agg C'.toArray]) w := by
  have h := run_loadVar_whole b C t ty d hB hu hd hi
  have h' := run_loadVar_whole b' C' t' ty' d' hB' hu' hd' hi'
  rw [Array.getD_eq_getD_getElem?] at ha ha'
  simp [results, hr, Array.mapM_eq_mapM_toList, ha, ha', asAddr, Sem.run_bind, h, h']
end
end Go.Proofs.Ytpedkcpkdacnlaa
