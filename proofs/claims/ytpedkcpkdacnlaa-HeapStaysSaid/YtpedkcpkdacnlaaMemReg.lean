/- Regions that draw their order, walked in the order of the text, with what is known of memory in one list. No program is named here. -/
import Derived.Test.YtpedkcpkdacnlaaMemRow
import Derived.Test.YtpedkcpkdacnlaaStableAllOps
namespace Go.Proofs.Ytpedkcpkdacnlaa
open Go.RowKit
set_option linter.unusedVariables false
section
variable {P : Program} {ops : Array Oper} {rest : List Oper} {o : Oper} {a : Act} {w0 : World} {S : Nat → Prop} {M : List En} {i k : Nat}
/-- Such a region without new variables. -/
theorem wp_region_M {id : Nat} {l : List Oper} {w : World} {Q : Exit → Act → World → Prop} (HM : Mem w0 S M w) (St : Nat → List En) (h0 : St 0 = M) (hm : P.follows .mixedOrders = true) (hB : stableB l.toArray = true)
    (h : wpB P l.toArray (fun k w => Mem w0 S (St k) w) (Q .normal) 0 0 l a) : (Code.region id l.toArray true).wp P Q a w :=
  wp_region_stable _ hm hB (by show Mem w0 S (St 0) w.drew; rw [h0]; exact HM.drew) h
section
variable {St : Nat → List En} {Q : Act → World → Prop}
theorem wpB_pure {T : Nat → World → Prop} {v : Value} (hw : Region.wanted o (yielded ops a.tmps) = true) (he : eff o = false) (hr : ∀ w, (execOp a.eval o).run P w = .ok (.value v) w)
    (h : ∀ K : Act → Prop, (∀ b, wpB P ops T Q (i + 1) k rest b → K b) → K (a.put o.dst v)) : wpB P ops T Q i k (o :: rest) a :=
  wpB_val hw he _ rfl (fun _ w _ _ => hr w) h
theorem wpB_loadM {ty : TypeId} {x : Operand} {b off : Nat} {C : List Value} {t : TypeId} {f : En → List En} {v : Value} (hw : Region.wanted o (yielded ops a.tmps) = true) (he : eff o = false) (hn : hiN ops i = 0) (ho : o.op = .load ty x)
    (hx : a.eval x = .pointer (some ⟨b, off, none⟩)) (hs : Sel (.blk b C t) (St 0) f) (hv : C[off]? = some v) (hu : scalarB P ty = true)
    (h : ∀ K : Act → Prop, (∀ b, wpB P ops (fun k w => Mem w0 S (St k) w) Q (i + 1) k rest b → K b) → K (a.put o.dst v)) : wpB P ops (fun k w => Mem w0 S (St k) w) Q i k (o :: rest) a :=
  wpB_val hw he 0 hn (fun j w hj HM => by
    obtain rfl : j = 0 := by omega
    unfold execOp
    have hc : w.cell? ⟨b, off, none⟩ = some v := by rw [(Mem.blk HM hs).cell]; exact hv
    simp only [ho, hx, Instr.loadAt, Instr.sureAddr, Sem.run_bind, Sem.run_pure, Result.andThen_ok, run_loadVar_cell ty hu _ v hc]) h
theorem wpB_loadMR {ty : TypeId} {x : Operand} {g off e sz n c : Nat} {xs : List Value} {f : En → List En} {v : Value} (hw : Region.wanted o (yielded ops a.tmps) = true) (he : eff o = false) (hn : hiN ops i = 0) (ho : o.op = .load ty x)
    (hx : a.eval x = .pointer (some ⟨g, off, none⟩)) (hs : Sel (.row (.slice (some ⟨g, 0, none⟩) n c) e sz n xs) (St 0) f) (hv : xs[off]? = some v) (hu : scalarB P ty = true)
    (h : ∀ K : Act → Prop, (∀ b, wpB P ops (fun k w => Mem w0 S (St k) w) Q (i + 1) k rest b → K b) → K (a.put o.dst v)) : wpB P ops (fun k w => Mem w0 S (St k) w) Q i k (o :: rest) a :=
  wpB_val hw he 0 hn (fun j w hj HM => by
    obtain rfl : j = 0 := by omega
    unfold execOp
    have hc : w.cell? ⟨g, off, none⟩ = some v := by
      rw [(ownsRow.cell (Mem.row HM hs) off (by
        rcases Nat.lt_or_ge off xs.length with h | h
        · exact h
        · rw [List.getElem?_eq_none h] at hv; cases hv)).1]; exact hv
    simp only [ho, hx, Instr.loadAt, Instr.sureAddr, Sem.run_bind, Sem.run_pure, Result.andThen_ok, run_loadVar_cell ty hu _ v hc]) h
theorem wpB_storeM {ty : TypeId} {x y : Operand} {b off : Nat} {C : List Value} {t : TypeId} {f : En → List En} {v : Value} (hw : Region.wanted o (yielded ops a.tmps) = true) (he : eff o = true) (ho : o.op = .store ty x y)
    (hx : a.eval x = .pointer (some ⟨b, off, none⟩)) (hy : a.eval y = v) (hs : Sel (.blk b C t) (St k) f) (hi : off < C.length) (hu : oneB P ty = true) (h1 : v.oneCell' = true) (hn : St (k + 1) = f (.blk b (C.set off v) t))
    (h : ∀ K : Act → Prop, (∀ b, wpB P ops (fun k w => Mem w0 S (St k) w) Q (i + 1) (k + 1) rest b → K b) → K (a.put o.dst undef)) : wpB P ops (fun k w => Mem w0 S (St k) w) Q i k (o :: rest) a :=
  wpB_store hw he (fun w HM => by
    have hc : w.cell? ⟨b, off, none⟩ = some C[off] := by rw [(Mem.blk HM hs).cell]; exact List.getElem?_eq_getElem hi
    refine ⟨_, ?_, by rw [hn]; exact Mem.set HM hs off v⟩
    unfold execOp
    simp only [ho, hx, hy, Instr.storeAt, Instr.sureAddr, Sem.run_bind, Sem.run_pure, Result.andThen_ok, run_storeVar_cell ty hu _ v _ h1 hc ((Mem.blk HM hs).frozen _)]) h
theorem wpB_storeMR {ty : TypeId} {x y : Operand} {g off e sz n c : Nat} {xs : List Value} {f : En → List En} {v : Value} (hw : Region.wanted o (yielded ops a.tmps) = true) (he : eff o = true) (ho : o.op = .store ty x y)
    (hx : a.eval x = .pointer (some ⟨g, off, none⟩)) (hy : a.eval y = v) (hs : Sel (.row (.slice (some ⟨g, 0, none⟩) n c) e sz n xs) (St k) f) (hi : off < xs.length) (hu : oneB P ty = true) (h1 : v.oneCell' = true)
    (hn : St (k + 1) = f (.row (.slice (some ⟨g, 0, none⟩) n c) e sz n (xs.set off v)))
    (h : ∀ K : Act → Prop, (∀ b, wpB P ops (fun k w => Mem w0 S (St k) w) Q (i + 1) (k + 1) rest b → K b) → K (a.put o.dst undef)) : wpB P ops (fun k w => Mem w0 S (St k) w) Q i k (o :: rest) a :=
  wpB_store hw he (fun w HM => by
    have hc := ownsRow.cell (Mem.row HM hs) off hi
    rw [List.getElem?_eq_getElem hi] at hc
    refine ⟨_, ?_, by rw [hn]; exact Mem.setRow HM hs off v hi⟩
    unfold execOp
    simp only [ho, hx, hy, Instr.storeAt, Instr.sureAddr, Sem.run_bind, Sem.run_pure, Result.andThen_ok, run_storeVar_cell ty hu _ v _ h1 hc.1 hc.2]) h
theorem wpB_storeMA {ty : TypeId} {x y : Operand} {b off n : Nat} {C vs : List Value} {t : TypeId} {f : En → List En} (hw : Region.wanted o (yielded ops a.tmps) = true) (he : eff o = true) (ho : o.op = .store ty x y)
    (hx : a.eval x = .pointer (some ⟨b, off, none⟩)) (hy : a.eval y = .agg vs.toArray) (hs : Sel (.blk b C t) (St k) f) (hl : vs.length = n) (hi : off + n ≤ C.length) (hu : (P.info? ty).map (·.size) = some n) (h1 : ∀ v ∈ vs, v.oneCell' = true)
    (hn : St (k + 1) = f (.blk b (spl C off vs) t))
    (h : ∀ K : Act → Prop, (∀ b, wpB P ops (fun k w => Mem w0 S (St k) w) Q (i + 1) (k + 1) rest b → K b) → K (a.put o.dst undef)) : wpB P ops (fun k w => Mem w0 S (St k) w) Q i k (o :: rest) a :=
  wpB_store hw he (fun w HM => by
    refine ⟨_, ?_, by rw [hn]; exact Mem.setAll HM hs _⟩
    unfold execOp
    simp only [ho, hx, hy, Instr.storeAt, Instr.sureAddr, Sem.run_bind, Sem.run_pure, Result.andThen_ok, run_storeVar_part w b C t ty off n vs (Mem.blk HM hs) hl hi hu h1]) h
theorem wpB_loadMA {ty : TypeId} {x : Operand} {b off n : Nat} {C : List Value} {t : TypeId} {f : En → List En} (hw : Region.wanted o (yielded ops a.tmps) = true) (he : eff o = false) (hn : hiN ops i = 0) (ho : o.op = .load ty x)
    (hx : a.eval x = .pointer (some ⟨b, off, none⟩)) (hs : Sel (.blk b C t) (St 0) f) (hu : aggB P ty n = true) (hl : off + n ≤ C.length)
    (h : ∀ K : Act → Prop, (∀ b, wpB P ops (fun k w => Mem w0 S (St k) w) Q (i + 1) k rest b → K b) → K (a.put o.dst (.agg ((C.drop off).take n).toArray))) : wpB P ops (fun k w => Mem w0 S (St k) w) Q i k (o :: rest) a :=
  wpB_val hw he 0 hn (fun j w hj HM => by
    obtain rfl : j = 0 := by omega
    unfold aggB at hu
    rw [Bool.and_eq_true, beq_iff_eq] at hu
    unfold execOp
    cases hd : P.underlying ty with
    | none => rw [hd] at hu; simp at hu
    | some d => simp only [ho, hx, Instr.loadAt, Instr.sureAddr, Sem.run_bind, Sem.run_pure, Result.andThen_ok, run_loadVar_part w b C t ty off n d (Mem.blk HM hs) hl hd (by rw [hd] at hu; cases d <;> simp_all) hu.2]) h
/-- A call that turns nothing. -/
theorem wpB_callM {v : Value} (f : FuncId) (args : Array Value) (hw : Region.wanted o (yielded ops a.tmps) = true) (he : eff o = false) (hr : ∀ w, (execOp a.eval o).run P w = .ok (.enter f args) w)
    (hc : ∀ j w, j ≤ hiN ops i → Mem w0 S (St j) w → Calls P f args w (fun e w' => e = .returned v ∧ Below w.heap.size w w'))
    (h : ∀ K : Act → Prop, (∀ b, wpB P ops (fun k w => Mem w0 S (St k) w) Q (i + 1) k rest b → K b) → K (a.put o.dst v)) : wpB P ops (fun k w => Mem w0 S (St k) w) Q i k (o :: rest) a :=
  wpB_call f args hw he hr _ rfl (fun j w hj HM => (hc j w hj HM).mono fun e w' h => ⟨h.1, Mem.call HM h.2⟩) h
end
-- regions that make variables
def okO : Obj → Bool
  | .cells _ _ (0, 0) => true
  | _ => false
def entO (b : Nat) : Obj → En
  | .cells C t _ => .blk b C.toList t
  | _ => .blk b [] 0
def entsC (b : Nat → Nat) : AsC → List En → List En
  | [], M => M
  | (i, _, O) :: as, M => entsC b as (entO (b i) O :: M)
theorem mem_facts {W w : World} {b : Nat → Nat} : ∀ (as : AsC) (used : List Nat) (M : List En), as.all (fun x => okO x.2.2) = true → Mem w0 S M w → w0.heap.size ≤ W.heap.size → (∀ e ∈ M, ∀ g, e.foot = some g → g < W.heap.size ∨ g ∈ used) → factsC W w b as used → Mem w0 S (entsC b as M) w
  | [], _, _, _, h, _, _, _ => h
  | (i, d, O) :: as, used, M, hok, h, hW, hf, ⟨g1, g2, g3, g4⟩ => by
    rw [List.all_cons, Bool.and_eq_true] at hok
    obtain ⟨C, t, rfl⟩ : ∃ C t, O = .cells C t (0, 0) := by
      obtain ⟨hok, -⟩ := hok
      cases O with
      | cells C t fr =>
        obtain ⟨lo, hi⟩ := fr
        cases lo with
        | zero => cases hi with
          | zero => exact ⟨_, _, rfl⟩
          | succ n => simp [okO] at hok
        | succ n => simp [okO] at hok
      | _ => simp [okO] at hok
    refine mem_facts as (b i :: used) _ hok.2 ⟨h.kept, fun e he => ?_, fun e he g hg => ?_, List.pairwise_cons.2 ⟨fun e he g hg heg => ?_, h.dist⟩⟩ hW (fun e he g hg => ?_) g4
    · rcases List.mem_cons.1 he with rfl | he
      · show w.heap[b i]? = some (.cells C.toList.toArray t (0, 0))
        simpa using g3
      · exact h.holds e he
    · rcases List.mem_cons.1 he with rfl | he
      · simp [entO, En.foot] at hg; exact .inr (by omega)
      · exact h.own e he g hg
    · simp [entO, En.foot] at hg; subst hg
      rcases hf e he _ heg with h1 | h1
      · omega
      · exact g2 _ h1 rfl
    · rcases List.mem_cons.1 he with rfl | he
      · simp [entO, En.foot] at hg; exact .inr (by simp [hg])
      · rcases hf e he g hg with h1 | h1
        · exact .inl h1
        · exact .inr (List.mem_cons_of_mem _ h1)
section
variable {W : World} {T : Nat → (Nat → Nat) → World → Prop} {Q : Act → World → Prop} {as : AsC}
theorem ssm0 (HM : Mem w0 S M W) (hok : as.all (fun x => okO x.2.2) = true) (b : Nat → Nat) (w : World) (h : SS W T as b w 0) : Mem w0 S (entsC b as M) w :=
  mem_facts as [] M hok (HM.call h.1) HM.size (fun e he g hg => .inl ((HM.holds e he).lt hg)) h.2
theorem wpD_loadM (HM : Mem w0 S M W) {ty : TypeId} {x : Operand} {b off : Nat} {C : List Value} {t : TypeId} {f : En → List En} {v : Value} (ha : isAlloc o = false) (he : eff o = false) (hn : hiN ops i = 0) (hw : Region.wanted o (yielded ops a.tmps) = true) (ho : o.op = .load ty x)
    (hx : a.eval x = .pointer (some ⟨b, off, none⟩)) (hs : Sel (.blk b C t) M f) (hv : C[off]? = some v) (hu : scalarB P ty = true)
    (h : ∀ K : Act → Prop, (∀ b, wpD P ops W T Q (i + 1) k as rest b → K b) → K (a.put o.dst v)) : wpD P ops W T Q i k as (o :: rest) a :=
  wpD_val ha he hn hw (fun w hb => by
    unfold execOp
    have hc : w.cell? ⟨b, off, none⟩ = some v := by rw [((HM.call hb).blk hs).cell]; exact hv
    simp only [ho, hx, Instr.loadAt, Instr.sureAddr, Sem.run_bind, Sem.run_pure, Result.andThen_ok, run_loadVar_cell ty hu _ v hc]) h
theorem wpD_loadMA (HM : Mem w0 S M W) {ty : TypeId} {x : Operand} {b off n : Nat} {C : List Value} {t : TypeId} {f : En → List En} (ha : isAlloc o = false) (he : eff o = false) (hn : hiN ops i = 0) (hw : Region.wanted o (yielded ops a.tmps) = true) (ho : o.op = .load ty x)
    (hx : a.eval x = .pointer (some ⟨b, off, none⟩)) (hs : Sel (.blk b C t) M f) (hu : aggB P ty n = true) (hl : off + n ≤ C.length)
    (h : ∀ K : Act → Prop, (∀ b, wpD P ops W T Q (i + 1) k as rest b → K b) → K (a.put o.dst (.agg ((C.drop off).take n).toArray))) : wpD P ops W T Q i k as (o :: rest) a :=
  wpD_val ha he hn hw (fun w hb => by
    unfold aggB at hu
    rw [Bool.and_eq_true, beq_iff_eq] at hu
    unfold execOp
    cases hd : P.underlying ty with
    | none => rw [hd] at hu; simp at hu
    | some d => simp only [ho, hx, Instr.loadAt, Instr.sureAddr, Sem.run_bind, Sem.run_pure, Result.andThen_ok, run_loadVar_part w b C t ty off n d ((HM.call hb).blk hs) hl hd (by rw [hd] at hu; cases d <;> simp_all) hu.2]) h
theorem wpD_storeM {St : Nat → (Nat → Nat) → List En} {ty : TypeId} {x y : Operand} (blk : (Nat → Nat) → Nat) {off : Nat} {C : List Value} {t : TypeId} {Mk : (Nat → Nat) → List En} {f : (Nat → Nat) → En → List En} {v : (Nat → Nat) → Value} (ha : isAlloc o = false) (he : eff o = true) (hg : o.guard = none) (ho : o.op = .store ty x y)
    (hx : ∀ b, (putsC b as a).eval x = .pointer (some ⟨blk b, off, none⟩)) (hy : ∀ b, (putsC b as a).eval y = v b) (hM : ∀ b w, SS W (fun k b w => Mem w0 S (St k b) w) as b w k → Mem w0 S (Mk b) w) (hs : ∀ b, Sel (.blk (blk b) C t) (Mk b) (f b)) (hi : off < C.length)
    (hu : oneB P ty = true) (h1 : ∀ b, (v b).oneCell' = true) (hn : ∀ b, St (k + 1) b = f b (.blk (blk b) (C.set off (v b)) t))
    (h : ∀ K : Act → Prop, (∀ b, wpD P ops W (fun k b w => Mem w0 S (St k b) w) Q (i + 1) (k + 1) as rest b → K b) → K (a.put o.dst undef)) : wpD P ops W (fun k b w => Mem w0 S (St k b) w) Q i k as (o :: rest) a :=
  wpD_write ha he ⟨hg, fun b w hss => by
    have HM := hM b w hss
    have hc : w.cell? ⟨blk b, off, none⟩ = some C[off] := by rw [(HM.blk (hs b)).cell]; exact List.getElem?_eq_getElem hi
    refine ⟨_, ?_, show Mem w0 S (St (k + 1) b) _ by rw [hn]; exact HM.set (hs b) off (v b)⟩
    unfold execOp
    simp only [ho, hx b, hy b, Instr.storeAt, Instr.sureAddr, Sem.run_bind, Sem.run_pure, Result.andThen_ok, run_storeVar_cell ty hu _ (v b) _ (h1 b) hc ((HM.blk (hs b)).frozen _)]⟩ h
theorem wpD_storeMA {St : Nat → (Nat → Nat) → List En} {ty : TypeId} {x y : Operand} (blk : (Nat → Nat) → Nat) {off n : Nat} {C vs : List Value} {t : TypeId} {Mk : (Nat → Nat) → List En} {f : (Nat → Nat) → En → List En} (ha : isAlloc o = false) (he : eff o = true) (hg : o.guard = none) (ho : o.op = .store ty x y)
    (hx : ∀ b, (putsC b as a).eval x = .pointer (some ⟨blk b, off, none⟩)) (hy : ∀ b, (putsC b as a).eval y = .agg vs.toArray) (hM : ∀ b w, SS W (fun k b w => Mem w0 S (St k b) w) as b w k → Mem w0 S (Mk b) w) (hs : ∀ b, Sel (.blk (blk b) C t) (Mk b) (f b)) (hl : vs.length = n) (hi : off + n ≤ C.length)
    (hu : (P.info? ty).map (·.size) = some n) (h1 : ∀ v ∈ vs, v.oneCell' = true) (hn : ∀ b, St (k + 1) b = f b (.blk (blk b) (spl C off vs) t))
    (h : ∀ K : Act → Prop, (∀ b, wpD P ops W (fun k b w => Mem w0 S (St k b) w) Q (i + 1) (k + 1) as rest b → K b) → K (a.put o.dst undef)) : wpD P ops W (fun k b w => Mem w0 S (St k b) w) Q i k as (o :: rest) a :=
  wpD_write ha he ⟨hg, fun b w hss => by
    have HM := hM b w hss
    refine ⟨_, ?_, show Mem w0 S (St (k + 1) b) _ by rw [hn]; exact HM.setAll (hs b) _⟩
    unfold execOp
    simp only [ho, hx b, hy b, Instr.storeAt, Instr.sureAddr, Sem.run_bind, Sem.run_pure, Result.andThen_ok, run_storeVar_part w (blk b) C t ty off n vs (HM.blk (hs b)) hl hi hu h1]⟩ h
end
end
end Go.Proofs.Ytpedkcpkdacnlaa
