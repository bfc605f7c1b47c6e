/- What a walk knows of memory, in one place: a list of blocks and owned slices, and how each operation turns it. No program is named here. -/
import Derived.Test.YtpedkcpkdacnlaaResOps
namespace Go.Proofs.Ytpedkcpkdacnlaa
open Go.RowKit
set_option linter.unusedVariables false
/-- A thing in memory: a row of cells, or an owned slice. -/
inductive En where
  | blk (b : Nat) (C : List Value) (t : TypeId)
  | row (v : Value) (e : TypeId) (size n : Nat) (xs : List Value)
def En.at : En → World → Prop
  | .blk b C t, w => Blk w b C t
  | .row v e size n xs, w => w.ownsRow 0 e size v n xs
def En.foot : En → Option Nat
  | .blk b _ _ => some b
  | .row v _ _ _ _ => v.ownBlock
def Apart (e f : En) : Prop := ∀ g, e.foot = some g → f.foot ≠ some g
theorem Apart.symm {e f : En} (h : Apart e f) : Apart f e := fun g hf he => h g he hf
structure Mem (w0 : World) (S : Nat → Prop) (M : List En) (w : World) : Prop where
  kept : Kept S w0 w
  holds : ∀ e ∈ M, e.at w
  own : ∀ e ∈ M, ∀ g, e.foot = some g → S g ∨ w0.heap.size ≤ g
  dist : M.Pairwise Apart
theorem ownsRow_kept {w w' : World} {S : Nat → Prop} {e size n : Nat} {v : Value} {xs : List Value} (h : w.ownsRow 0 e size v n xs) (k : Kept S w w') (hn : ∀ g, v.ownBlock = some g → ¬ S g) : w'.ownsRow 0 e size v n xs := by
  obtain ⟨h1, h2 | ⟨g, cap, cur, rfl, hb, hg, r⟩⟩ := h
  · exact ⟨h1, .inl h2⟩
  · exact ⟨h1, .inr ⟨g, cap, cur, rfl, hb, by rw [k.block g (Array.getElem?_eq_some_iff.1 hg).1 (hn g rfl)]; exact hg, r⟩⟩
theorem En.at.kept {w w' : World} {S : Nat → Prop} {e : En} (h : e.at w) (k : Kept S w w') (hn : ∀ g, e.foot = some g → ¬ S g) : e.at w' := by
  cases e with
  | blk b C t => exact Blk.kept h k (hn b rfl)
  | row v e size n xs => exact ownsRow_kept h k hn
theorem En.at.lt {w : World} {e : En} (h : e.at w) {g : Nat} (hg : e.foot = some g) : g < w.heap.size := by
  cases e with
  | blk b C t => obtain rfl : b = g := by simpa [En.foot] using hg
                 exact Blk.lt h
  | row v e size n xs =>
    obtain ⟨h1, h2 | ⟨g', cap, cur, rfl, hb, hg', r⟩⟩ := h
    · rw [En.foot, h2.1] at hg; simp [Value.ownBlock] at hg
    · obtain rfl : g' = g := by simpa [En.foot, Value.ownBlock] using hg
      exact (Array.getElem?_eq_some_iff.1 hg').1
inductive Sel (e : En) : List En → (En → List En) → Prop
  | head {R : List En} : Sel e (e :: R) (fun x => x :: R)
  | tail {d : En} {R : List En} {f : En → List En} (h : Sel e R f) : Sel e (d :: R) (fun x => d :: f x)
theorem Sel.mem {e : En} {M : List En} {f : En → List En} (h : Sel e M f) : e ∈ M := by
  induction h with
  | head => exact List.mem_cons_self
  | tail _ ih => exact List.mem_cons_of_mem _ ih
theorem Sel.memf {e : En} {M : List En} {f : En → List En} (h : Sel e M f) (x y : En) (hy : y ∈ f x) : y = x ∨ y ∈ M := by
  induction h with
  | head => rcases List.mem_cons.1 hy with h | h
            · exact .inl h
            · exact .inr (List.mem_cons_of_mem _ h)
  | tail _ ih => rcases List.mem_cons.1 hy with h | h
                 · exact .inr (h ▸ List.mem_cons_self)
                 · rcases ih h with h | h
                   · exact .inl h
                   · exact .inr (List.mem_cons_of_mem _ h)
/-- Everything but the chosen one is apart from it, and stays. -/
theorem Sel.turn {e : En} {M : List En} {f : En → List En} (h : Sel e M f) (x : En) (Pr Pr' : En → Prop) (hd : M.Pairwise Apart) (hP : ∀ y ∈ M, Pr y) (hx : Pr' x) (hk : ∀ y ∈ M, Apart e y → Pr y → Pr' y) : ∀ y ∈ f x, Pr' y := by
  induction h with
  | head =>
    rw [List.pairwise_cons] at hd
    intro y hy
    rcases List.mem_cons.1 hy with rfl | hy
    · exact hx
    · exact hk y (List.mem_cons_of_mem _ hy) (hd.1 y hy) (hP y (List.mem_cons_of_mem _ hy))
  | @tail d R f' h ih =>
    rw [List.pairwise_cons] at hd
    intro y hy
    rcases List.mem_cons.1 hy with rfl | hy
    · exact hk y List.mem_cons_self ((hd.1 e h.mem).symm) (hP y List.mem_cons_self)
    · exact ih hd.2 (fun z hz => hP z (List.mem_cons_of_mem _ hz)) (fun z hz => hk z (List.mem_cons_of_mem _ hz)) y hy
theorem Sel.dist {e : En} {M : List En} {f : En → List En} (h : Sel e M f) (x : En) (hd : M.Pairwise Apart) (hx : ∀ y ∈ M, Apart e y → Apart x y) : (f x).Pairwise Apart := by
  induction h with
  | head =>
    rw [List.pairwise_cons] at hd ⊢
    exact ⟨fun y hy => hx y (List.mem_cons_of_mem _ hy) (hd.1 y hy), hd.2⟩
  | @tail d R f' h ih =>
    rw [List.pairwise_cons] at hd ⊢
    refine ⟨fun y hy => ?_, ih hd.2 (fun z hz => hx z (List.mem_cons_of_mem _ hz))⟩
    rcases h.memf x y hy with rfl | hy
    · exact (hx d List.mem_cons_self (hd.1 e h.mem).symm).symm
    · exact hd.1 y hy
namespace Mem
variable {w0 w w' : World} {S : Nat → Prop} {M : List En}
theorem start (w : World) : Mem w (fun _ => False) [] w := ⟨Kept.refl _ _, by simp, by simp, List.Pairwise.nil⟩
theorem below (h : Mem w0 (fun _ => False) M w) : Below w0.heap.size w0 w := h.kept.below (Nat.le_refl _) (fun _ h => h.elim)
theorem size (h : Mem w0 S M w) : w0.heap.size ≤ w.heap.size := h.kept.size
/-- A call, or an operation, that turned nothing that there was. -/
theorem call (h : Mem w0 S M w) (k : Below w.heap.size w w') : Mem w0 S M w' :=
  ⟨h.kept.trans (Kept.of_below k), fun e he => (h.holds e he).kept (Kept.of_below (a := w) k |>.mono (S' := fun _ => False) (fun _ h => h)) (fun _ _ h => h), h.own, h.dist⟩
theorem drew (h : Mem w0 S M w) : Mem w0 S M w.drew := ⟨h.kept.drew, fun e he => (h.holds e he).kept ((Kept.refl (fun _ => False) w).drew) (fun _ _ h => h), h.own, h.dist⟩
theorem nextDrawn (h : Mem w0 S M w) : Mem w0 S M { w with drawn := w.drawn + 1 } := h.drew
/-- Something new. -/
theorem add (h : Mem w0 S M w) (k : Below w.heap.size w w') (e : En) (he : e.at w') (hf : ∀ g, e.foot = some g → w.heap.size ≤ g) : Mem w0 S (e :: M) w' := by
  have h' := h.call k
  refine ⟨h'.kept, fun x hx => ?_, fun x hx g hg => ?_, List.pairwise_cons.2 ⟨fun x hx g hg hxg => ?_, h.dist⟩⟩
  · rcases List.mem_cons.1 hx with rfl | hx
    · exact he
    · exact h'.holds x hx
  · rcases List.mem_cons.1 hx with rfl | hx
    · exact .inr (Nat.le_trans h.size (hf g hg))
    · exact h.own x hx g hg
  · have h1 := hf g hg
    have h2 := (h.holds x hx).lt hxg
    omega
/-- One thing turned; nothing else did. -/
theorem turn (h : Mem w0 S M w) {e : En} {f : En → List En} (hs : Sel e M f) (k : Kept (fun g => e.foot = some g) w w') (x : En) (hx : x.at w') (hf : ∀ g, x.foot = some g → e.foot = some g ∨ w.heap.size ≤ g) : Mem w0 S (f x) w' := by
  have hown : ∀ g, e.foot = some g → S g ∨ w0.heap.size ≤ g := h.own e hs.mem
  refine ⟨?_, ?_, ?_, ?_⟩
  · refine ⟨k.os.trans h.kept.os, k.tape.trans h.kept.tape, k.output.trans h.kept.output, Nat.le_trans h.size k.size, fun i hi hn => ?_⟩
    rw [k.block i (Nat.lt_of_lt_of_le hi h.size) (fun he => by rcases hown i he with h | h; exact hn h; omega)]
    exact h.kept.block i hi hn
  · exact hs.turn x (fun y => y.at w) (fun y => y.at w') h.dist h.holds hx (fun y _ ha hy => hy.kept k (fun g hg he => ha g he hg))
  · exact hs.turn x (fun y => ∀ g, y.foot = some g → S g ∨ w0.heap.size ≤ g) (fun y => ∀ g, y.foot = some g → S g ∨ w0.heap.size ≤ g) h.dist h.own (fun g hg => by
      rcases hf g hg with h1 | h1
      · exact hown g h1
      · exact .inr (Nat.le_trans h.size h1)) (fun _ _ _ h => h)
  · exact hs.dist x h.dist (fun y hy ha g hg hyg => by
      rcases hf g hg with h1 | h1
      · exact ha g h1 hyg
      · have := (h.holds y hy).lt hyg; omega)
theorem alloc (h : Mem w0 S M w) (C : List Value) (t : TypeId) : Mem w0 S (.blk w.heap.size C t :: M) (w.alloc (.cells C.toArray t)) :=
  h.add ((Below.refl _ _).alloc (Nat.le_refl _) _) _ (Blk.new w C t) (fun g hg => by simp [En.foot] at hg; omega)
theorem get (h : Mem w0 S M w) {e : En} {f : En → List En} (hs : Sel e M f) : e.at w := h.holds e hs.mem
theorem blk (h : Mem w0 S M w) {b : Nat} {C : List Value} {t : TypeId} {f : En → List En} (hs : Sel (.blk b C t) M f) : Blk w b C t := h.holds _ hs.mem
theorem set (h : Mem w0 S M w) {b : Nat} {C : List Value} {t : TypeId} {f : En → List En} (hs : Sel (.blk b C t) M f) (i : Nat) (v : Value) : Mem w0 S (f (.blk b (C.set i v) t)) (w.setCell ⟨b, i, none⟩ v) :=
  h.turn hs ((Kept.refl (fun g => (En.blk b C t).foot = some g) w).setCell (p := ⟨b, i, none⟩) (.inl rfl) v) _ ((h.blk hs).set i v) (fun g hg => .inl hg)
theorem setAll (h : Mem w0 S M w) {b : Nat} {C : List Value} {t : TypeId} {f : En → List En} (hs : Sel (.blk b C t) M f) (C' : List Value) : Mem w0 S (f (.blk b C' t)) (setBlk w b C') :=
  h.turn hs ((Kept.setBlk w b C').mono (fun k hk => by subst hk; rfl)) _ ((h.blk hs).setBlk C') (fun g hg => .inl hg)
theorem tail {e : En} (h : Mem w0 S (e :: M) w) : Mem w0 S M w := ⟨h.kept, fun x hx => h.holds x (List.mem_cons_of_mem _ hx), fun x hx => h.own x (List.mem_cons_of_mem _ hx), (List.pairwise_cons.1 h.dist).2⟩
theorem perm {M' : List En} (h : Mem w0 S M w) (p : M.Perm M') : Mem w0 S M' w :=
  ⟨h.kept, fun e he => h.holds e (p.symm.subset he), fun e he => h.own e (p.symm.subset he), p.pairwise h.dist (fun hh => hh.symm)⟩
theorem lt (h : Mem w0 S M w) {b : Nat} {C : List Value} {t : TypeId} {f : En → List En} (hs : Sel (.blk b C t) M f) : b < w.heap.size := (h.blk hs).lt
end Mem
def scalarB (P : Program) (ty : TypeId) : Bool := match P.underlying ty with
  | some (.struct _) | some (.array _ _) | none => false
  | _ => true
def aggB (P : Program) (ty : TypeId) (n : Nat) : Bool := (match P.underlying ty with
  | some (.struct _) | some (.array _ _) => true
  | _ => false) && (P.info? ty).map (·.size) == some n
def oneB (P : Program) (ty : TypeId) : Bool := (P.info? ty).map (·.size) == some 1
def zeroB (P : Program) (ty : TypeId) (C : List Value) : Prop := (P.info? ty).bind (·.zero) = some (.agg C.toArray)
section
variable {P : Program} {ops : Array Oper} {rest : List Oper} {o : Oper} {a : Act} {w : World} {Q : Exit → Act → World → Prop} {w0 : World} {S : Nat → Prop} {M : List En}
theorem run_isAgg_false (ty : TypeId) (h : scalarB P ty = true) : (isAgg ty).run P w = .ok false w := by
  unfold scalarB at h
  cases hu : P.underlying ty with
  | none => rw [hu] at h; cases h
  | some d =>
    rw [hu] at h
    unfold isAgg
    rw [Sem.run_bind, run_underlying hu w]
    cases d <;> simp_all
theorem run_loadVar_cell (ty : TypeId) (h : scalarB P ty = true) (p : Addr) (v : Value) (hc : w.cell? p = some v) : (loadVar ty p).run P w = .ok v w := by
  simp [loadVar, Sem.run_bind, run_isAgg_false ty h, load, Sem.run, hc]
theorem run_storeVar_cell (ty : TypeId) (h : oneB P ty = true) (p : Addr) (v u : Value) (h1 : v.oneCell' = true) (hc : w.cell? p = some u) (hf : w.frozen? p = false) : (storeVar ty p v).run P w = .ok () (w.setCell p v) := by
  unfold oneB at h
  cases hq : P.info? ty with
  | none => rw [hq] at h; cases h
  | some i =>
    have hs : i.size = 1 := by rw [hq] at h; simpa using h
    have hcs : v.cells = #[v] := by cases v <;> simp_all [Value.cells, Value.oneCell']
    have hadd : p.add 0 = p := rfl
    cases v <;> simp_all [storeVar, sizeOf, typeInfo, Value.cells, storeCells, store, Sem.run, Value.oneCell', Sem.run_bind]
/-- One cell is read. -/
theorem wpM_load (HM : Mem w0 S M w) {ty : TypeId} {x : Operand} {b off : Nat} {C : List Value} {t : TypeId} {f : En → List En} {v : Value} (hw : Region.wanted o (yielded ops a.tmps) = true) (ho : o.op = .load ty x)
    (hx : a.eval x = .pointer (some ⟨b, off, none⟩)) (hs : Sel (.blk b C t) M f) (hv : C[off]? = some v) (hu : scalarB P ty = true)
    (h : wpList P ops Q rest (a.put o.dst v) w) : wpList P ops Q (o :: rest) a w :=
  wpList_step fun _ hK => by
    rw [if_pos hw]
    unfold Oper.wp execOp
    have hc : w.cell? ⟨b, off, none⟩ = some v := by rw [(HM.blk hs).cell]; exact hv
    simp only [ho, hx, Instr.loadAt, Instr.sureAddr, Sem.run_bind, Sem.run_pure, Result.andThen_ok, run_loadVar_cell ty hu _ v hc]
    exact hK _ _ h
/-- Several cells are read: a struct, or an array. -/
theorem wpM_loadA (HM : Mem w0 S M w) {ty : TypeId} {x : Operand} {b off n : Nat} {C : List Value} {t : TypeId} {f : En → List En} (hw : Region.wanted o (yielded ops a.tmps) = true) (ho : o.op = .load ty x)
    (hx : a.eval x = .pointer (some ⟨b, off, none⟩)) (hs : Sel (.blk b C t) M f) (hu : aggB P ty n = true) (hn : off + n ≤ C.length)
    (h : wpList P ops Q rest (a.put o.dst (.agg ((C.drop off).take n).toArray)) w) : wpList P ops Q (o :: rest) a w := by
  unfold aggB at hu
  rw [Bool.and_eq_true, beq_iff_eq] at hu
  cases hd : P.underlying ty with
  | none => rw [hd] at hu; simp at hu
  | some d => exact wpList_load_part_g hw ty x ho b off n hx t C d (HM.blk hs) hn hd (by rw [hd] at hu; cases d <;> simp_all) hu.2 h
/-- One cell is written. -/
theorem wpM_store (HM : Mem w0 S M w) {ty : TypeId} {x y : Operand} {b off : Nat} {C : List Value} {t : TypeId} {f : En → List En} {v : Value} (hw : Region.wanted o (yielded ops a.tmps) = true) (ho : o.op = .store ty x y)
    (hx : a.eval x = .pointer (some ⟨b, off, none⟩)) (hy : a.eval y = v) (hs : Sel (.blk b C t) M f) (hi : off < C.length) (hu : oneB P ty = true) (h1 : v.oneCell' = true)
    (h : ∀ w', Mem w0 S (f (.blk b (C.set off v) t)) w' → wpList P ops Q rest (a.put o.dst undef) w') : wpList P ops Q (o :: rest) a w :=
  wpList_step fun _ hK => by
    rw [if_pos hw]
    unfold Oper.wp execOp
    have hc : w.cell? ⟨b, off, none⟩ = some C[off] := by rw [(HM.blk hs).cell]; exact List.getElem?_eq_getElem hi
    simp only [ho, hx, hy, Instr.storeAt, Instr.sureAddr, Sem.run_bind, Sem.run_pure, Result.andThen_ok, run_storeVar_cell ty hu _ v _ h1 hc ((HM.blk hs).frozen _)]
    exact hK _ _ (h _ (HM.set hs off v))
/-- Several cells are written. -/
theorem wpM_storeA (HM : Mem w0 S M w) {ty : TypeId} {x y : Operand} {b off n : Nat} {C vs : List Value} {t : TypeId} {f : En → List En} (hg : o.guard = none) (ho : o.op = .store ty x y)
    (hx : a.eval x = .pointer (some ⟨b, off, none⟩)) (hy : a.eval y = .agg vs.toArray) (hs : Sel (.blk b C t) M f) (hn : vs.length = n) (hi : off + n ≤ C.length) (hu : (P.info? ty).map (·.size) = some n) (h1 : ∀ v ∈ vs, v.oneCell' = true)
    (h : ∀ w', Mem w0 S (f (.blk b (spl C off vs) t)) w' → wpList P ops Q rest (a.put o.dst undef) w') : wpList P ops Q (o :: rest) a w :=
  wpList_store_part hg ty x y ho b off n vs hx hy t C (HM.blk hs) hn hi hu h1 (h _ (HM.setAll hs _))
/-- A value is put into a new variable. -/
theorem wpM_box (HM : Mem w0 S M w) {ty : TypeId} {x : Operand} {C : List Value} {v : Value} (hg : o.guard = none) (ho : o.op = .box ty x) (hx : a.eval x = v) (hv : v.cells = C.toArray)
    (h : ∀ b w', b = w.heap.size → Mem w0 S (.blk b C ty :: M) w' → wpList P ops Q rest (a.put o.dst (.pointer (some ⟨b, 0, none⟩))) w') : wpList P ops Q (o :: rest) a w :=
  wpList_plain hg fun _ hK => by
    unfold Oper.wp execOp
    simp only [ho, hx, Instr.box, newVar, newRow, hv, Sem.run_bind]
    exact hK _ _ (h _ _ rfl (HM.alloc C ty))
/-- A new variable. -/
theorem wpM_alloc (HM : Mem w0 S M w) {ty : TypeId} {z : Value} {C : List Value} (hg : o.guard = none) (ho : o.op = .alloc ty) (hz : (P.info? ty).bind (·.zero) = some z) (hv : z.cells = C.toArray)
    (h : ∀ b w', b = w.heap.size → Mem w0 S (.blk b C ty :: M) w' → wpList P ops Q rest (a.put o.dst (.pointer (some ⟨b, 0, none⟩))) w') : wpList P ops Q (o :: rest) a w :=
  wpList_plain hg fun _ hK => by
    unfold Oper.wp execOp
    cases hq : P.info? ty with
    | none => rw [hq] at hz; cases hz
    | some i =>
      have hz' : i.zero = some z := by simpa [hq] using hz
      have e : (Instr.alloc ty true (.tuple #[])).run P w = .ok (.pointer (some ⟨w.heap.size, 0, none⟩)) (w.alloc (.cells C.toArray ty)) := by
        simp [Instr.alloc, zeroValue, typeInfo, hq, hz', newVar, newRow, hv, Sem.run_bind]
      simp only [ho, Sem.run_bind, e]
      exact hK _ _ (h _ _ rfl (HM.alloc C ty))
end
end Go.Proofs.Ytpedkcpkdacnlaa
