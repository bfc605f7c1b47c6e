/- What a function hands back, when result variables lie in memory. No program is named here. -/
import Derived.Test.YtpedkcpkdacnlaaMemReg
namespace Go.Proofs.Ytpedkcpkdacnlaa
open Go.RowKit
set_option linter.unusedVariables false
section
variable {P : Program} {fn : Func} {tmps : Array Value} {w w0 : World} {S : Nat → Prop} {M : List En}
theorem run_loadVar_M (HM : Mem w0 S M w) {b : Nat} {C : List Value} {t ty : TypeId} {f : En → List En} (hs : Sel (.blk b C t) M f) (hu : aggB P ty C.length = true) : (loadVar ty ⟨b, 0, none⟩).run P w = .ok (.agg C.toArray) w := by
  unfold aggB at hu
  rw [Bool.and_eq_true, beq_iff_eq] at hu
  cases hd : P.underlying ty with
  | none => rw [hd] at hu; simp at hu
  | some d => exact run_loadVar_whole b C t ty d (HM.blk hs) hd (by rw [hd] at hu; cases d <;> simp_all) hu.2
theorem run_loadVar_1 (HM : Mem w0 S M w) {b : Nat} {v : Value} {t ty : TypeId} {f : En → List En} (hs : Sel (.blk b [v] t) M f) (hu : scalarB P ty = true) : (loadVar ty ⟨b, 0, none⟩).run P w = .ok v w :=
  run_loadVar_cell ty hu _ v (by rw [(HM.blk hs).cell]; rfl)
theorem resM_c (HM : Mem w0 S M w) {a : Tmp} {ty : TypeId} (hr : fn.results = #[.cell a ty]) {b : Nat} {C : List Value} {t : TypeId} {f : En → List En} (ha : tmps.getD a undef = .pointer (some ⟨b, 0, none⟩)) (hs : Sel (.blk b C t) M f) (hu : aggB P ty C.length = true) :
    (results fn tmps).run P w = .ok (.agg C.toArray) w := by
  have h := run_loadVar_M (P := P) HM hs hu
  rw [Array.getD_eq_getD_getElem?] at ha
  simp [results, hr, Array.mapM_eq_mapM_toList, ha, asAddr, h]
theorem resM_tc (HM : Mem w0 S M w) {x a : Tmp} {ty : TypeId} (hr : fn.results = #[.tmp x, .cell a ty]) {v : Value} (hx : tmps.getD x undef = v) {b : Nat} {C : List Value} {t : TypeId} {f : En → List En} (ha : tmps.getD a undef = .pointer (some ⟨b, 0, none⟩)) (hs : Sel (.blk b C t) M f) (hu : aggB P ty C.length = true) :
    (results fn tmps).run P w = .ok (.tuple #[v, .agg C.toArray]) w := by
  have h := run_loadVar_M (P := P) HM hs hu
  rw [Array.getD_eq_getD_getElem?] at ha hx
  simp [results, hr, Array.mapM_eq_mapM_toList, ha, hx, asAddr, h]
theorem resM_ct (HM : Mem w0 S M w) {x a : Tmp} {ty : TypeId} (hr : fn.results = #[.cell a ty, .tmp x]) {v : Value} (hx : tmps.getD x undef = v) {b : Nat} {C : List Value} {t : TypeId} {f : En → List En} (ha : tmps.getD a undef = .pointer (some ⟨b, 0, none⟩)) (hs : Sel (.blk b C t) M f) (hu : aggB P ty C.length = true) :
    (results fn tmps).run P w = .ok (.tuple #[.agg C.toArray, v]) w := by
  have h := run_loadVar_M (P := P) HM hs hu
  rw [Array.getD_eq_getD_getElem?] at ha hx
  simp [results, hr, Array.mapM_eq_mapM_toList, ha, hx, asAddr, h]
theorem resM_cc (HM : Mem w0 S M w) {a a' : Tmp} {ty ty' : TypeId} (hr : fn.results = #[.cell a ty, .cell a' ty']) {b b' : Nat} {C C' : List Value} {t t' : TypeId} {f f' : En → List En} (ha : tmps.getD a undef = .pointer (some ⟨b, 0, none⟩)) (hs : Sel (.blk b C t) M f) (hu : aggB P ty C.length = true)
    (ha' : tmps.getD a' undef = .pointer (some ⟨b', 0, none⟩)) (hs' : Sel (.blk b' C' t') M f') (hu' : aggB P ty' C'.length = true) :
    (results fn tmps).run P w = .ok (.tuple #[.agg C.toArray, .agg C'.toArray]) w := by
  have h := run_loadVar_M (P := P) HM hs hu
  have h' := run_loadVar_M (P := P) HM hs' hu'
  rw [Array.getD_eq_getD_getElem?] at ha ha'
  simp [results, hr, Array.mapM_eq_mapM_toList, ha, ha', asAddr, Sem.run_bind, h, h']
theorem resM_ctt (HM : Mem w0 S M w) {x y a : Tmp} {ty : TypeId} (hr : fn.results = #[.cell a ty, .tmp x, .tmp y]) {v u : Value} (hx : tmps.getD x undef = v) (hy : tmps.getD y undef = u) {b : Nat} {C : List Value} {t : TypeId} {f : En → List En} (ha : tmps.getD a undef = .pointer (some ⟨b, 0, none⟩)) (hs : Sel (.blk b C t) M f) (hu : aggB P ty C.length = true) :
    (results fn tmps).run P w = .ok (.tuple #[.agg C.toArray, v, u]) w := by
  have h := run_loadVar_M (P := P) HM hs hu
  rw [Array.getD_eq_getD_getElem?] at ha hx hy
  simp [results, hr, Array.mapM_eq_mapM_toList, ha, hx, hy, asAddr, h]
theorem resM_cct (HM : Mem w0 S M w) {x a a' : Tmp} {ty ty' : TypeId} (hr : fn.results = #[.cell a ty, .cell a' ty', .tmp x]) {v : Value} (hx : tmps.getD x undef = v) {b b' : Nat} {C C' : List Value} {t t' : TypeId} {f f' : En → List En} (ha : tmps.getD a undef = .pointer (some ⟨b, 0, none⟩)) (hs : Sel (.blk b C t) M f) (hu : aggB P ty C.length = true)
    (ha' : tmps.getD a' undef = .pointer (some ⟨b', 0, none⟩)) (hs' : Sel (.blk b' C' t') M f') (hu' : aggB P ty' C'.length = true) :
    (results fn tmps).run P w = .ok (.tuple #[.agg C.toArray, .agg C'.toArray, v]) w := by
  have h := run_loadVar_M (P := P) HM hs hu
  have h' := run_loadVar_M (P := P) HM hs' hu'
  rw [Array.getD_eq_getD_getElem?] at ha ha' hx
  simp [results, hr, Array.mapM_eq_mapM_toList, ha, ha', hx, asAddr, Sem.run_bind, h, h']
/-- A whole variable is written. -/
theorem wpM_storeAll {ops : Array Oper} {rest : List Oper} {o : Oper} {a : Act} {Q : Exit → Act → World → Prop} (HM : Mem w0 S M w) {ty : TypeId} {x y : Operand} {b : Nat} {C vs : List Value} {t : TypeId} {f : En → List En} (hg : o.guard = none) (ho : o.op = .store ty x y)
    (hx : a.eval x = .pointer (some ⟨b, 0, none⟩)) (hy : a.eval y = .agg vs.toArray) (hs : Sel (.blk b C t) M f) (hn : vs.length = C.length) (hu : aggB P ty vs.length = true) (h1 : vs.all Value.oneCell' = true)
    (h : ∀ w', Mem w0 S (f (.blk b vs t)) w' → wpList P ops Q rest (a.put o.dst undef) w') : wpList P ops Q (o :: rest) a w := by
  unfold aggB at hu
  rw [Bool.and_eq_true, beq_iff_eq] at hu
  refine wpM_storeA HM hg ho hx hy hs rfl (by omega) hu.2 (fun v hv => List.all_eq_true.1 h1 v hv) (fun w' H => h w' ?_)
  have e : spl C 0 vs = vs := by unfold spl; rw [List.take_zero, List.nil_append, List.drop_of_length_le (by omega), List.append_nil]
  rwa [e] at H
theorem Mem.takeRow (h : Mem w0 S M w) {e sz n g c : Nat} {xs : List Value} {f : En → List En} (hs : Sel (.row (.slice (some ⟨g, 0, none⟩) n c) e sz n xs) M f) (m : Nat) (hm : m ≤ n) : Mem w0 S (f (.row (.slice (some ⟨g, 0, none⟩) m c) e sz m (xs.take (m * sz)))) w := by
  refine h.turn hs (Kept.refl _ _) _ ?_ (fun g hg => .inl hg)
  obtain ⟨C, hB, ht, h1, h2, h3, h4, h5⟩ := ownsRow.cells (h.row hs)
  have hmul : m * sz ≤ n * sz := Nat.mul_le_mul_right _ hm
  refine ⟨by rw [List.length_take]; omega, .inr ⟨g, c, C.toArray, rfl, h4, hB, by omega, h3, by simpa using h2, ?_⟩⟩
  rw [← ht, List.take_take, h5, Nat.min_eq_left hmul]
/-- A whole variable is read. -/
theorem wpM_loadAll {ops : Array Oper} {rest : List Oper} {o : Oper} {a : Act} {Q : Exit → Act → World → Prop} (HM : Mem w0 S M w) {ty : TypeId} {x : Operand} {b : Nat} {C : List Value} {t : TypeId} {f : En → List En} (hw : Region.wanted o (yielded ops a.tmps) = true) (ho : o.op = .load ty x)
    (hx : a.eval x = .pointer (some ⟨b, 0, none⟩)) (hs : Sel (.blk b C t) M f) (hu : aggB P ty C.length = true)
    (h : wpList P ops Q rest (a.put o.dst (.agg C.toArray)) w) : wpList P ops Q (o :: rest) a w :=
  wpList_step fun _ hK => by
    rw [if_pos hw]
    unfold Oper.wp execOp
    simp only [ho, hx, Instr.loadAt, Instr.sureAddr, Sem.run_bind, Sem.run_pure, Result.andThen_ok, run_loadVar_M HM hs hu]
    exact hK _ _ h
/-- A slice literal. -/
theorem wpM_buildSliceK {ops : Array Oper} {rest : List Oper} {o : Oper} {a : Act} {Q : Exit → Act → World → Prop} (HM : Mem w0 S M w) {t e len : Nat} {parts : Array (Nat × Operand)} (C : List Value) (hw : Region.wanted o (yielded ops a.tmps) = true) (ho : o.op = .buildSlice t len parts)
    (hr : ∀ w : World, (Instr.buildSlice t len (parts.map fun p => (p.1, a.eval p.2))).run P w = .ok (.slice (some ⟨w.heap.size, 0, none⟩) len len) (w.alloc (.cells C.toArray e)))
    (h : ∀ b w', b = w.heap.size → Mem w0 S (.blk b C e :: M) w' → wpList P ops Q rest (a.put o.dst (.slice (some ⟨b, 0, none⟩) len len)) w') : wpList P ops Q (o :: rest) a w :=
  wpList_step fun _ hK => by
    rw [if_pos hw]
    unfold Oper.wp execOp
    simp only [ho, Sem.run_bind, hr]
    exact hK _ _ (h _ _ rfl (HM.alloc C e))
end
end Go.Proofs.Ytpedkcpkdacnlaa
