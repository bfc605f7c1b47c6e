/- Laws and walks that the proof leans on, gathered: StableAlloc, StableAll, StableAllOps, MemReg, MemRes, HeapUp, HeapDown, HeapDo, Row, Pick, Put, Few, Dealt. -/
import Derived.StillTail
import Derived.Below
import Derived.Deep.Cut
import Derived.Test.YtpedkcpkdacnlaaRows
import Derived.Test.YtpedkcpkdacnlaaObj2
section
namespace Go.Proofs.Ytpedkcpkdacnlaa
open Go.RowKit
set_option linter.unusedVariables false
variable {P : Program} {ops : Array Oper}
def isAlloc (o : Oper) : Bool := match o.op with
  | .alloc _ => true
  | _ => false
def allocAt (ops : Array Oper) (i : Nat) : Bool := match ops[i]? with
  | some o => isAlloc o
  | none => false
/-- In every world above W the operation yields v, and at the most makes memory. -/
def YB (P : Program) (W : World) (r : Sem Next) (v : Value) : Prop :=
  ∀ w, Below W.heap.size W w → (r.run P w = .ok (.value v) w) ∨ (∃ f args, r.run P w = .ok (.enter f args) w ∧ Calls P f args w (fun e w' => e = .returned v ∧ Below w.heap.size w w'))
def KnownB (P : Program) (ops : Array Oper) (W : World) (o : Oper) (a : Act) (v : Value) : Prop :=
  (Region.wanted o (yielded ops a.tmps) = true ∧ YB P W (execOp a.eval o) v) ∨ (Region.wanted o (yielded ops a.tmps) = false ∧ v = undef)
def AllocR (P : Program) (o : Oper) (O : Obj) : Prop := o.guard = none ∧ ∀ (ρ : Operand → Value) w, (execOp ρ o).run P w = .ok (.value (.pointer (some ⟨w.heap.size, 0, none⟩))) (w.alloc O)
abbrev AsC := List (Nat × Option Tmp × Obj)
def ptrB (b : Nat) : Value := .pointer (some ⟨b, 0, none⟩)
def factsC (W w : World) (b : Nat → Nat) : AsC → List Nat → Prop
  | [], _ => True
  | (i, _, O) :: aL, used => W.heap.size ≤ b i ∧ (∀ x ∈ used, x ≠ b i) ∧ w.heap[b i]? = some O ∧ factsC W w b aL (b i :: used)
def putsC (b : Nat → Nat) : AsC → Act → Act
  | [], a => a
  | (i, d, _) :: aL, a => putsC b aL (a.put d (ptrB (b i)))
theorem putsC_snoc (b : Nat → Nat) (x : Nat × Option Tmp × Obj) : ∀ (aL : AsC) (a : Act), putsC b (aL ++ [x]) a = (putsC b aL a).put x.2.1 (ptrB (b x.1))
  | [], a => rfl
  | y :: aL, a => putsC_snoc b x aL _
theorem factsC_snoc (W w : World) (b : Nat → Nat) (x : Nat × Option Tmp × Obj) : ∀ (aL : AsC) (used : List Nat), factsC W w b aL used → W.heap.size ≤ b x.1 → (∀ y ∈ used, y ≠ b x.1) → (∀ y ∈ aL, b y.1 ≠ b x.1) → w.heap[b x.1]? = some x.2.2 → factsC W w b (aL ++ [x]) used
  | [], used, _, h1, h2, _, h4 => ⟨h1, h2, h4, trivial⟩
  | (i, d, O) :: aL, used, ⟨g1, g2, g3, g4⟩, h1, h2, h3, h4 => ⟨g1, g2, g3, factsC_snoc W w b x aL _ g4 h1 (fun y hy => by
      rcases List.mem_cons.1 hy with rfl | hy
      · exact h3 _ List.mem_cons_self
      · exact h2 y hy) (fun y hy => h3 y (List.mem_cons_of_mem _ hy)) h4⟩
theorem putsC_put (b : Nat → Nat) (d : Option Tmp) (v : Value) : ∀ (aL : AsC) (a : Act), (∀ x ∈ aL, ∀ e, d = some e → x.2.1 ≠ some e) → putsC b aL (a.put d v) = (putsC b aL a).put d v
  | [], a, _ => rfl
  | (i, d', O) :: aL, a, h => by
    simp only [putsC]
    rw [Act.put_comm a v (ptrB (b i)) (fun e he => h (i, d', O) List.mem_cons_self e he)]
    exact putsC_put b d v aL _ (fun x hx => h x (List.mem_cons_of_mem _ hx))
/-- The walk in the order of the text. -/
def wpC (P : Program) (ops : Array Oper) (W : World) (Q : Act → World → Prop) : Nat → AsC → List Oper → Act → Prop
  | _, aL, [], a => ∀ b w, Below W.heap.size W w → factsC W w b aL [] → Q (putsC b aL a) w
  | i, aL, o :: rest, a => if isAlloc o then ∃ O, AllocR P o O ∧ wpC P ops W Q (i + 1) (aL ++ [(i, o.dst, O)]) rest a
    else ∃ v, KnownB P ops W o a v ∧ wpC P ops W Q (i + 1) aL rest (a.put o.dst v)
/-- What the list of made variables is behind n operations. -/
def asL (ops : Array Oper) (O : Nat → Obj) : Nat → AsC
  | 0 => []
  | k + 1 => if allocAt ops k then asL ops O k ++ [(k, dstOf ops k, O k)] else asL ops O k
theorem asL_mem (O : Nat → Obj) : ∀ n x, x ∈ asL ops O n → x.1 < n ∧ allocAt ops x.1 = true ∧ x.2.1 = dstOf ops x.1 ∧ x.2.2 = O x.1
  | 0, x, h => by cases h
  | n + 1, x, h => by
    simp only [asL] at h
    split at h
    · next ha =>
      rcases List.mem_append.1 h with h | h
      · obtain ⟨a, b⟩ := asL_mem O n x h; exact ⟨by omega, b⟩
      · simp at h; subst h; exact ⟨by simp, ha, rfl, rfl⟩
    · obtain ⟨a, b⟩ := asL_mem O n x h; exact ⟨by omega, b⟩
/-- The frame behind those that make no variable. -/
def frNA (ops : Array Oper) (V : Nat → Value) (a : Act) (n : Nat) : Act := canon ops V a (fun j => !allocAt ops j) n
theorem wpC_vals {W : World} {Q : Act → World → Prop} (a0 : Act) : ∀ (l : List Oper) (n : Nat) (V : Nat → Value) (O : Nat → Obj) (a : Act), (∀ j, l[j]? = (ops[n + j]?).filter (fun _ => decide (j < l.length))) →
    a = frNA ops V a0 n → wpC P ops W Q n (asL ops O n) l a →
    ∃ V' O', (∀ j, j < n → V' j = V j ∧ O' j = O j) ∧ (∀ i o, n ≤ i → i < n + l.length → ops[i]? = some o → (isAlloc o = true → AllocR P o (O' i)) ∧ (isAlloc o = false → KnownB P ops W o (frNA ops V' a0 i) (V' i))) ∧
      (∀ b w, Below W.heap.size W w → factsC W w b (asL ops O' (n + l.length)) [] → Q (putsC b (asL ops O' (n + l.length)) (frNA ops V' a0 (n + l.length))) w)
  | [], n, V, O, a, _, ha, h => ⟨V, O, fun _ _ => ⟨rfl, rfl⟩, fun i o h1 h2 => by simp at h2; omega, by subst ha; exact h⟩
  | o :: l, n, V, O, a, hl, ha, h => by
    have ho : ops[n]? = some o := by
      have := hl 0
      simp only [List.getElem?_cons_zero, Nat.add_zero, List.length_cons, Nat.zero_lt_succ, decide_true] at this
      cases hx : ops[n]? with
      | none => rw [hx] at this; cases this
      | some p => rw [hx] at this; simpa using this.symm
    have hl' : ∀ j, l[j]? = (ops[n + 1 + j]?).filter (fun _ => decide (j < l.length)) := fun j => by
      have := hl (j + 1)
      rw [List.getElem?_cons_succ, show n + (j + 1) = n + 1 + j by omega] at this
      rw [this]; congr 1; funext x; simp
    have asC : ∀ (O O' : Nat → Obj) k, (∀ j, j < k → O' j = O j) → asL ops O' k = asL ops O k := by
      intro O O' k
      induction k with
      | zero => intro _; rfl
      | succ k ih => intro hh; simp only [asL]; rw [ih (fun j hj => hh j (by omega)), hh k (by omega)]
    have frC : ∀ (V V' : Nat → Value) k, (∀ j, j < k → V' j = V j) → frNA ops V' a0 k = frNA ops V a0 k := by
      intro V V' k
      induction k with
      | zero => intro _; rfl
      | succ k ih =>
        intro hh
        have := ih (fun j hj => hh j (by omega))
        unfold frNA at this ⊢
        simp only [canon]; rw [this, hh k (by omega)]
    simp only [wpC] at h
    cases hA : isAlloc o
    · rw [hA] at h
      simp only [Bool.false_eq_true, if_false] at h
      obtain ⟨v, hk, hr⟩ := h
      have hnA : allocAt ops n = false := by simp [allocAt, ho, hA]
      have e1 : asL ops O (n + 1) = asL ops O n := by simp [asL, hnA]
      obtain ⟨V', O', g1, g2, g3⟩ := wpC_vals a0 l (n + 1) (fun j => if j = n then v else V j) O (a.put o.dst v) hl' (by
          rw [ha]; unfold frNA; simp only [canon, hnA, Bool.not_false, if_true]
          rw [show dstOf ops n = o.dst by simp [dstOf, ho]]
          have := frC V (fun j => if j = n then v else V j) n (fun j hj => by simp [show j ≠ n by omega])
          unfold frNA at this
          rw [this]) (by rw [e1]; exact hr)
      have gn := (g1 n (by omega)).1
      simp at gn
      refine ⟨V', O', fun j hj => ⟨by rw [(g1 j (by omega)).1]; simp [show j ≠ n by omega], (g1 j (by omega)).2⟩, fun i p h1 h2 hp => ?_, by rw [show n + (o :: l).length = n + 1 + l.length by simp; omega]; exact g3⟩
      by_cases e : i = n
      · subst e
        rw [ho] at hp
        obtain rfl : o = p := Option.some.inj hp
        refine ⟨(fun hh => by rw [hA] at hh; cases hh), fun _ => ?_⟩
        rw [gn, frC V V' i (fun j hj => by rw [(g1 j (by omega)).1]; simp [show j ≠ i by omega]), ← ha]
        exact hk
      · exact g2 i p (by omega) (by simp at h2; omega) hp
    · rw [hA] at h
      simp only [if_true] at h
      obtain ⟨Ob, hk, hr⟩ := h
      have hnA : allocAt ops n = true := by simp [allocAt, ho, hA]
      have e1 : asL ops (fun j => if j = n then Ob else O j) (n + 1) = asL ops O n ++ [(n, o.dst, Ob)] := by
        simp only [asL, hnA, if_true]
        rw [asC O (fun j => if j = n then Ob else O j) n (fun j hj => by simp [show j ≠ n by omega])]
        simp [dstOf, ho]
      obtain ⟨V', O', g1, g2, g3⟩ := wpC_vals a0 l (n + 1) V (fun j => if j = n then Ob else O j) a hl' (by
          rw [ha]; unfold frNA; simp only [canon, hnA, Bool.not_true, Bool.false_eq_true, if_false]) (by rw [e1]; exact hr)
      have gn := (g1 n (by omega)).2
      simp at gn
      refine ⟨V', O', fun j hj => ⟨(g1 j (by omega)).1, by rw [(g1 j (by omega)).2]; simp [show j ≠ n by omega]⟩, fun i p h1 h2 hp => ?_, by rw [show n + (o :: l).length = n + 1 + l.length by simp; omega]; exact g3⟩
      by_cases e : i = n
      · subst e
        rw [ho] at hp
        obtain rfl : o = p := Option.some.inj hp
        exact ⟨(fun _ => by rw [gn]; exact hk), (fun hh => by rw [hA] at hh; cases hh)⟩
      · exact g2 i p (by omega) (by simp at h2; omega) hp
/-- The side condition on the first n: none writes, none looks at a variable that is made among them. -/
def preB (ops : Array Oper) (n : Nat) : Bool :=
  (List.range n).all fun i => match ops[i]? with
    | none => false
    | some o => !eff o && ((o.looksAt ops).all fun t => (List.range n).all fun j => !allocAt ops j || dstOf ops j != some t)
theorem preB_spec {n : Nat} (h : preB ops n = true) (i : Nat) (o : Oper) (hi : i < n) (ho : ops[i]? = some o) : eff o = false ∧ ∀ t ∈ o.looksAt ops, ∀ j, j < n → allocAt ops j = true → dstOf ops j ≠ some t := by
  have := List.all_eq_true.1 h i (List.mem_range.2 hi)
  simp only [ho, Bool.and_eq_true, Bool.not_eq_true'] at this
  refine ⟨this.1, fun t ht j hj ha hd => ?_⟩
  have h2 := List.all_eq_true.1 (List.all_eq_true.1 this.2 t ht) j (List.mem_range.2 hj)
  simp [ha, hd] at h2
theorem canon_slot2 (V V' : Nat → Value) (a : Act) (L L' : Nat → Bool) (t : Tmp) : ∀ n, (∀ j, j < n → dstOf ops j = some t → L j = L' j ∧ (L' j = true → V j = V' j)) →
    (canon ops V a L n).tmps[t]? = (canon ops V' a L' n).tmps[t]?
  | 0, _ => rfl
  | n + 1, h => by
    have ih := canon_slot2 V V' a L L' t n (fun j hj => h j (by omega))
    simp only [canon]
    by_cases hd : dstOf ops n = some t
    · obtain ⟨h1, h2⟩ := h n (by omega) hd
      rw [h1]
      cases hl : L' n
      · exact ih
      · rw [h2 hl]
        simp only [if_true, hd, Act.put, Array.getElem?_setIfInBounds, canon_size]
    · have put_ne : ∀ (b : Act) (u : Value), (b.put (dstOf ops n) u).tmps[t]? = b.tmps[t]? := fun b u => by
        cases hq : dstOf ops n with
        | none => rfl
        | some d =>
          have : d ≠ t := fun e => hd (by rw [hq, e])
          simp [Act.put, Array.getElem?_setIfInBounds_ne this]
      split <;> split <;> (first | exact ih | (simp only [put_ne]; exact ih))
/-- The values, the made variables at blocks b. -/
def VbC (ops : Array Oper) (V : Nat → Value) (b : Nat → Nat) (i : Nat) : Value := if allocAt ops i then ptrB (b i) else V i
theorem canon_V (V V' : Nat → Value) (a : Act) (L : Nat → Bool) : ∀ n, (∀ k, k < n → L k = true → V k = V' k) → canon ops V a L n = canon ops V' a L n
  | 0, _ => rfl
  | n + 1, h => by
    simp only [canon]
    rw [canon_V V V' a L n (fun k hk => h k (by omega))]
    cases hl : L n
    · rfl
    · rw [h n (by omega) hl]
theorem canon_puts (hst : Stable ops) (V : Nat → Value) (O : Nat → Obj) (b : Nat → Nat) (a : Act) : ∀ n, n ≤ ops.size → canon ops (VbC ops V b) a (fun _ => true) n = putsC b (asL ops O n) (frNA ops V a n)
  | 0, _ => rfl
  | n + 1, h => by
    have ih := canon_puts hst V O b a n (by omega)
    have ho : ops[n]? = some ops[n] := by simp [show n < ops.size by omega]
    simp only [canon, if_true, asL]
    rw [ih]
    unfold frNA
    simp only [canon]
    rcases Bool.eq_false_or_eq_true (allocAt ops n) with hA | hA
    rotate_left
    · simp only [VbC, hA, Bool.not_false, if_true, Bool.false_eq_true, if_false]
      rw [putsC_put b (dstOf ops n) (V n) _ _ (fun x hx e he he' => by
        obtain ⟨h1, h2, h3, h4⟩ := asL_mem O n x hx
        rw [h3] at he'
        exact hst.dist n ops[n] ho x.1 (by omega) (by omega) e (by rw [← he]; simp [dstOf, ho]) he')]
    · simp only [VbC, hA, Bool.not_true, Bool.false_eq_true, if_false, if_true]
      rw [putsC_snoc]
theorem any_of_alloc (hst : Stable ops) {n : Nat} (hn : n < ops.size) (hpre : preB ops n = true) (hs : Region.sinkB .any ops n = true) (hc : Region.chainB .any ops n = true) (V : Nat → Value) (O : Nat → Obj) (a : Act) (W : World) (Q : Exit → Act → World → Prop)
    (HA : ∀ i o, i < n → ops[i]? = some o → isAlloc o = true → AllocR P o (O i))
    (HK : ∀ i o, i < n → ops[i]? = some o → isAlloc o = false → KnownB P ops W o (frNA ops V a i) (V i)) (g : Nat)
    (hQ : ∀ (b : Nat → Nat) (listed : Array Bool) w, listed.size = ops.size → (∀ j, j < n → listed.getD j false = true) → (∀ j, n ≤ j → j < ops.size → listed.getD j true = false) → Below W.heap.size W w →
      (∀ i, i < n → allocAt ops i = true → W.heap.size ≤ b i ∧ w.heap[b i]? = some (O i) ∧ ∀ j, j < n → j ≠ i → allocAt ops j = true → b j ≠ b i) → wpAny P .any ops Q g listed (canon ops (VbC ops V b) a (fun j => decide (j < n)) ops.size) w) :
    ∀ (fuel : Nat) (listed : Array Bool) (b : Nat → Nat) (w : World), leftN listed n = fuel → HeadInv .any ops n listed → Below W.heap.size W w →
      (∀ i, i < n → allocAt ops i = true → listed.getD i false = true → W.heap.size ≤ b i ∧ w.heap[b i]? = some (O i) ∧ ∀ j, j < n → j ≠ i → allocAt ops j = true → listed.getD j false = true → b j ≠ b i) →
      wpAny P .any ops Q (fuel + g) listed (canon ops (VbC ops V b) a (fun j => listed.getD j false) ops.size) w := by
  intro fuel
  induction fuel with
  | zero =>
    intro listed b w hf inv hB hal
    have hall : ∀ j, j < n → listed.getD j false = true := by
      intro j hj
      have := List.countP_eq_zero.1 hf j (List.mem_range.2 hj)
      simpa using this
    rw [Nat.zero_add]
    have e : canon ops (VbC ops V b) a (fun j => listed.getD j false) ops.size = canon ops (VbC ops V b) a (fun j => decide (j < n)) ops.size :=
      canon_congr _ _ _ _ _ (fun k hk => by
        by_cases h : k < n
        · rw [hall k h]; simp [h]
        · have := inv.tail k (by omega) hk
          rw [getD_both this]; simp [h])
    rw [e]
    exact hQ b listed w inv.size hall inv.tail hB (fun i hi ha => ⟨(hal i hi ha (hall i hi)).1, (hal i hi ha (hall i hi)).2.1, fun j hj hne haj => (hal i hi ha (hall i hi)).2.2 j hj hne haj (hall j hj)⟩)
  | succ fuel ih =>
    intro listed b w hf inv hB hal
    rw [show fuel + 1 + g = (fuel + g) + 1 by omega]
    -- something among the first n is not listed
    have hex : ∃ i, i < n ∧ listed.getD i false = false := by
      by_cases h : ∃ i, i < n ∧ listed.getD i false = false
      · exact h
      · exfalso
        have : leftN listed n = 0 := List.countP_eq_zero.2 (fun j hj => by
          have hj' := List.mem_range.1 hj
          cases hh : listed.getD j false
          · exact absurd ⟨j, hj', hh⟩ h
          · simp)
        omega
    obtain ⟨i0, hi0, hu0⟩ := hex
    have hu0' : listed.getD i0 true = false := getD_in (by rw [inv.size]; omega) hu0
    have hnot : ∀ t, n ≤ t → t ∉ Region.ready .any ops listed := fun t ht => tail_waits hs hc hn inv _ i0 rfl hi0 hu0' t ht
    refine ⟨fun hr => ?_, fun i hi => ?_⟩
    · exfalso
      have key : ∀ j, j < n → listed.getD j false = true := by
        intro j
        induction j using Nat.strongRecOn with
        | _ j ihj =>
          intro hj
          cases hl : listed.getD j false with
          | true => rfl
          | false =>
            exfalso
            have : j ∈ Region.ready .any ops listed := mem_ready.2 ⟨getD_in (by rw [inv.size]; omega) hl, ops[j], by simp [show j < ops.size by omega], fun e he hb => by
              have hlt := hst.edge j ops[j] (by simp [show j < ops.size by omega]) e he hb
              exact ihj e.on hlt (by omega)⟩
            rw [hr] at this; cases this
      rw [key i0 hi0] at hu0; cases hu0
    · obtain ⟨hun, o, ho, hall⟩ := mem_ready.1 hi
      have hisz : i < ops.size := (Array.getElem?_eq_some_iff.1 ho).1
      have hin : i < n := by
        rcases Nat.lt_or_ge i n with h | h
        · exact h
        · exact absurd hi (hnot i h)
      have his : i < listed.size := by rw [inv.size]; exact hisz
      have hun' : listed.getD i false = false := getD_both hun
      have hdo : dstOf ops i = o.dst := by simp [dstOf, ho]
      obtain ⟨hne, hnl⟩ := preB_spec hpre i o hin ho
      have hinv := inv.set hi hin
      have hlt : leftN (listed.setIfInBounds i true) n = fuel := by
        have hmono : ∀ (l : List Nat), l.Nodup → i ∈ l → List.countP (fun j => !(listed.setIfInBounds i true).getD j false) l + 1 = List.countP (fun j => !listed.getD j false) l := by
          intro l
          induction l with
          | nil => intro _ h; cases h
          | cons x l ihl =>
            intro hnd hm
            rw [List.nodup_cons] at hnd
            rw [List.countP_cons, List.countP_cons]
            by_cases e : i = x
            · subst e
              rw [if_neg (by simp [his]), if_pos (by simp [hun'])]
              have : List.countP (fun j => !(listed.setIfInBounds i true).getD j false) l = List.countP (fun j => !listed.getD j false) l :=
                List.countP_congr (fun j hj => by
                  have : i ≠ j := fun e => hnd.1 (e ▸ hj)
                  rw [getD_set_ne false this])
              omega
            · have : i ∈ l := by
                rcases List.mem_cons.1 hm with h | h
                · exact absurd h e
                · exact h
              have h3 := ihl hnd.2 this
              rw [getD_set_ne false e]; omega
        have := hmono _ List.nodup_range (List.mem_range.2 hin)
        unfold leftN at hf ⊢
        omega
      have hcs : ∀ b' : Nat → Nat, (∀ j, j ≠ i → b' j = b j) → canon ops (VbC ops V b') a (fun j => (listed.setIfInBounds i true).getD j false) ops.size = (canon ops (VbC ops V b) a (fun j => listed.getD j false) ops.size).put o.dst (VbC ops V b' i) := by
        intro b' hb'
        have := canon_set (ops := ops) (VbC ops V b') a (fun j => listed.getD j false) (fun j => (listed.setIfInBounds i true).getD j false) i hun' (by simp [his]) (fun j hj => getD_set_ne false (Ne.symm hj)) ops.size hisz
          (fun j hj hne d hd => hst.dist i o ho j hj hne d (by rw [← hdo]; exact hd))
        rw [hdo] at this
        rw [this, canon_V (VbC ops V b') (VbC ops V b) a (fun j => listed.getD j false) ops.size (fun k hk hl => by
          have : k ≠ i := by rintro rfl; rw [hun'] at hl; cases hl
          unfold VbC; rw [hb' k this])]
      unfold wpOp
      simp only [ho]
      cases hA : isAlloc o
      · -- it makes nothing
        have hnA : allocAt ops i = false := by simp [allocAt, ho, hA]
        have hslot : ∀ t, t ∈ o.looksAt ops → (canon ops (VbC ops V b) a (fun j => listed.getD j false) ops.size).tmps[t]? = (frNA ops V a i).tmps[t]? := by
          intro t ht
          have e1 : frNA ops V a i = canon ops V a (fun j => decide (j < i) && !allocAt ops j) ops.size := by
            unfold frNA
            rw [canon_congr V a (fun j => !allocAt ops j) (fun j => decide (j < i) && !allocAt ops j) i (fun k hk => by simp [hk])]
            have : ∀ m, i ≤ m → canon ops V a (fun j => decide (j < i) && !allocAt ops j) m = canon ops V a (fun j => decide (j < i) && !allocAt ops j) i := by
              intro m hm
              induction m with
              | zero => rw [show i = 0 by omega]
              | succ m ihn =>
                by_cases e : i = m + 1
                · rw [e]
                · simp only [canon]
                  rw [if_neg (by simp; omega)]; exact ihn (by omega)
            exact (this _ (by omega)).symm
          rw [e1]
          refine canon_slot2 _ _ a _ _ t ops.size (fun j hj hd => ?_)
          obtain ⟨h1, e, he, hb, hon⟩ := hst.look i o ho t ht j hj hd
          have hl := hall e he hb
          rw [hon] at hl
          have hja : allocAt ops j = false := by
            cases h : allocAt ops j
            · rfl
            · exact absurd hd (hnl t ht j (by omega) h)
          refine ⟨?_, fun _ => ?_⟩
          · show listed.getD j false = (decide (j < i) && !allocAt ops j)
            rw [hl, hja]; simp [h1]
          · unfold VbC; rw [hja]; rfl
        have hev : execOp (canon ops (VbC ops V b) a (fun j => listed.getD j false) ops.size).eval o = execOp (frNA ops V a i).eval o :=
          execOp_congr o (hst.sel i o ho) (fun x hx => eval_slot (fun t hxt => hslot t (by
            subst hxt; exact List.mem_append_left _ (List.mem_filterMap.2 ⟨.tmp t, by simpa using hx, rfl⟩))))
        have hwt := wanted_slot (ops := ops) (o := o) hslot
        have hVi : VbC ops V b i = V i := by unfold VbC; rw [hnA]; rfl
        have hnext : ∀ w', Below w.heap.size w w' → wpAny P .any ops Q (fuel + g) (listed.setIfInBounds i true) ((canon ops (VbC ops V b) a (fun j => listed.getD j false) ops.size).put o.dst (V i)) w' := by
          intro w' hb'
          have e := hcs b (fun _ _ => rfl)
          rw [hVi] at e
          rw [← e]
          refine ih _ b w' hlt hinv (hB.trans (hb'.mono hB.size)) (fun k hk ha hl => ?_)
          have hki : i ≠ k := by rintro rfl; rw [hnA] at ha; cases ha
          rw [getD_set_ne false hki] at hl
          obtain ⟨g1, g2, g3⟩ := hal k hk ha hl
          refine ⟨g1, ?_, fun j hj hne haj hlj => ?_⟩
          · rw [hb'.block (b k) (Array.getElem?_eq_some_iff.1 g2).1]; exact g2
          · have hji : i ≠ j := by rintro rfl; rw [hnA] at haj; cases haj
            rw [getD_set_ne false hji] at hlj
            exact g3 j hj hne haj hlj
        rcases HK i o hin ho hA with ⟨hw, hy⟩ | ⟨hw, hv⟩
        · rw [if_pos (by rw [hwt]; exact hw)]
          left
          unfold Oper.wp
          rw [hev]
          rcases hy w hB with hr | ⟨f, args, hr, hcall⟩
          · rw [hr]; exact hnext w (Below.refl _ _)
          · rw [hr]
            exact hcall.mono fun e w'' ⟨he, hbb⟩ => by subst he; exact hnext w'' hbb
        · rw [if_neg (by rw [hwt, hw]; simp), ← hv]
          exact hnext w (Below.refl _ _)
      · -- a variable is made
        have hiA : allocAt ops i = true := by simp [allocAt, ho, hA]
        obtain ⟨hg, hr⟩ := HA i o hin ho hA
        rw [if_pos (by simp [Region.wanted, hg])]
        left
        unfold Oper.wp
        rw [hr]
        show wpAny P .any ops Q (fuel + g) (listed.setIfInBounds i true) ((canon ops (VbC ops V b) a (fun j => listed.getD j false) ops.size).put o.dst (.pointer (some ⟨w.heap.size, 0, none⟩))) (w.alloc (O i))
        have e := hcs (fun j => if j = i then w.heap.size else b j) (fun j hj => by simp [hj])
        have hVi : VbC ops V (fun j => if j = i then w.heap.size else b j) i = .pointer (some ⟨w.heap.size, 0, none⟩) := by
          unfold VbC; rw [hiA]; simp [ptrB]
        rw [hVi] at e
        rw [← e]
        have hold : ∀ k, k < n → allocAt ops k = true → listed.getD k false = true → b k < w.heap.size := fun k hk ha hl => (Array.getElem?_eq_some_iff.1 (hal k hk ha hl).2.1).1
        refine ih _ _ (w.alloc (O i)) hlt hinv (hB.alloc hB.size _) (fun k hk ha hl => ?_)
        by_cases hki : k = i
        · subst hki
          refine ⟨by simp; exact hB.size, by simp only [if_true]; show (w.heap.push _)[w.heap.size]? = _; simp, fun j hj hne haj hlj => ?_⟩
          rw [getD_set_ne false (Ne.symm hne)] at hlj
          have := hold j hj haj hlj
          simp [hne]; omega
        · rw [getD_set_ne false (Ne.symm hki)] at hl
          obtain ⟨g1, g2, g3⟩ := hal k hk ha hl
          refine ⟨by simp [hki]; exact g1, ?_, fun j hj hne haj hlj => ?_⟩
          · simp only [hki, if_false]
            rw [Below.heap_alloc _ _ _ (hold k hk ha hl)]; exact g2
          · simp only [hki, if_false]
            by_cases hji : j = i
            · subst hji
              have := hold k hk ha hl
              simp; omega
            · rw [getD_set_ne false (Ne.symm hji)] at hlj
              simp only [hji, if_false]
              exact g3 j hj hne haj hlj
/-- The facts of the made variables. -/
theorem factsC_of (W w : World) (b : Nat → Nat) (O : Nat → Obj) (n : Nat) (H : ∀ i, i < n → allocAt ops i = true → W.heap.size ≤ b i ∧ w.heap[b i]? = some (O i) ∧ ∀ j, j < n → j ≠ i → allocAt ops j = true → b j ≠ b i) :
    ∀ m, m ≤ n → factsC W w b (asL ops O m) []
  | 0, _ => trivial
  | m + 1, h => by
    have ih := factsC_of W w b O n H m (by omega)
    simp only [asL]
    split
    · next ha =>
      obtain ⟨h1, h2, h3⟩ := H m (by omega) ha
      exact factsC_snoc W w b _ _ _ ih h1 (fun y hy => by cases hy) (fun y hy => by
        obtain ⟨g1, g2, -⟩ := asL_mem O m y hy
        exact h3 y.1 (by omega) (by omega) g2) h2
    · exact ih
def listed0 (n m : Nat) : Array Bool := (List.replicate n true ++ List.replicate (m - n) false).toArray
theorem wp_region_alloc {id : Nat} {l : List Oper} {a : Act} {w : World} {Q : Exit → Act → World → Prop} (n : Nat) (hm : P.follows .mixedOrders = true) (hB : stableB l.toArray = true) (hpre : preB l.toArray n = true)
    (hs : Region.sinkB .any l.toArray n = true) (hc : Region.chainB .any l.toArray n = true) (hn : n < l.length) (hsq : Region.seqB .any l.toArray (l.length - n) n (listed0 n l.length) = true)
    (h : wpC P l.toArray w.drew (fun a' w' => wpList P l.toArray Q (l.drop n) a' w') 0 [] (l.take n) a) : (Code.region id l.toArray true).wp P Q a w := by
  have hst := stable_of hB
  have htl : (l.take n).length = n := by simp; omega
  obtain ⟨V, O, -, h2, h3⟩ := wpC_vals (ops := l.toArray) a (l.take n) 0 (fun _ => undef) (fun _ => .map #[] 0) a (fun j => by
      rw [htl, Nat.zero_add, List.getElem?_take, List.getElem?_toArray]
      by_cases hj : j < n
      · rw [if_pos hj]; cases l[j]? <;> simp [hj, Option.filter]
      · rw [if_neg hj]; cases l[j]? <;> simp [hj, Option.filter]) rfl h
  rw [Nat.zero_add, htl] at h2 h3
  refine wp_region_any hm ?_
  have hsz : l.toArray.size = l.length := by simp
  have H := any_of_alloc (P := P) hst (n := n) (by rw [hsz]; exact hn) hpre hs hc V O a w.drew Q (fun i o hi ho hA => (h2 i o (Nat.zero_le _) hi ho).1 hA) (fun i o hi ho hA => (h2 i o (Nat.zero_le _) hi ho).2 hA) (l.length - n)
    (fun b listed w' h4 h5 h6 h7 h8 => by
      have hl0 : listed = listed0 n l.length := by
        apply Array.ext_getElem?
        intro j
        have hjs : listed.size = l.length := by rw [h4, hsz]
        by_cases hj : j < n
        · have := h5 j hj
          have hj2 : j < listed.size := by omega
          simp [hj2] at this
          simp [listed0, hj, hj2, this, List.getElem?_append_left]
        · by_cases hj3 : j < l.length
          · have := h6 j (by omega) (by omega)
            have hj2 : j < listed.size := by omega
            simp [hj2] at this
            have hj4 : j - n < l.length - n := by omega
            simp [listed0, hj2, this, List.getElem?_append, hj, hj4]
          · rw [Array.getElem?_eq_none (by omega)]
            symm; apply Array.getElem?_eq_none
            simp [listed0]; omega
      have hfr : canon l.toArray (VbC l.toArray V b) a (fun j => decide (j < n)) l.toArray.size = putsC b (asL l.toArray O n) (frNA l.toArray V a n) := by
        rw [← canon_puts hst V O b a n (by rw [hsz]; omega)]
        rw [canon_congr (VbC l.toArray V b) a (fun _ => true) (fun j => decide (j < n)) n (fun k hk => by simp [hk])]
        have : ∀ m, n ≤ m → canon l.toArray (VbC l.toArray V b) a (fun j => decide (j < n)) m = canon l.toArray (VbC l.toArray V b) a (fun j => decide (j < n)) n := by
          intro m hm
          induction m with
          | zero => rw [show n = 0 by omega]
          | succ m ihn =>
            by_cases e : n = m + 1
            · rw [e]
            · simp only [canon]
              rw [if_neg (by simp; omega)]; exact ihn (by omega)
        exact this _ (by rw [hsz]; omega)
      have h9 := h3 b w' h7 (factsC_of w.drew w' b O n h8 n (Nat.le_refl _))
      rw [hfr]
      have hdl : (l.drop n).length = l.length - n := by simp
      have := wpAny_of_seq (P := P) (ops := l.toArray) (md := .any) (Q' := Q) (l.drop n) n listed _ w' (fun j => by simp [List.getElem?_drop]) (by rw [hdl, hl0]; exact hsq) h9
      rwa [hdl] at this)
    n (Array.replicate l.toArray.size false) (fun _ => 0) w.drew (by
      unfold leftN
      have : ∀ m, List.countP (fun i => !(Array.replicate l.toArray.size false).getD i false) (List.range m) = m := by
        intro m
        rw [List.countP_eq_length.2 (fun j _ => by rw [getD_replicate_false]; rfl), List.length_range]
      exact this n)
    ⟨by simp, fun j oj _ hl => by rw [getD_replicate_false] at hl; exact absurd hl (by decide), fun t ht ht' => getD_in (by simpa using ht') (getD_replicate_false _ _)⟩
    (Below.refl _ _) (fun i hi ha hl => by rw [getD_replicate_false] at hl; exact absurd hl (by decide))
  have e : canon l.toArray (VbC l.toArray V fun _ => 0) a (fun j => (Array.replicate l.toArray.size false).getD j false) l.toArray.size = a := by
    have : ∀ m, canon l.toArray (VbC l.toArray V fun _ => 0) a (fun j => (Array.replicate l.toArray.size false).getD j false) m = a := by
      intro m
      induction m with
      | zero => rfl
      | succ m ih =>
        simp only [canon]
        rw [if_neg, ih]
        rw [getD_replicate_false]; decide
    exact this _
  rw [e, show n + (l.length - n) = l.toArray.size by rw [hsz]; omega] at H
  exact H
section
variable {W : World} {Q : Act → World → Prop} {i : Nat} {aL : AsC} {o : Oper} {rest : List Oper} {a : Act}
theorem wpC_nil (h : ∀ b w, Below W.heap.size W w → factsC W w b aL [] → Q (putsC b aL a) w) : wpC P ops W Q i aL [] a := h
theorem wpC_alloc (O : Obj) (ha : isAlloc o = true) (hr : AllocR P o O) (h : wpC P ops W Q (i + 1) (aL ++ [(i, o.dst, O)]) rest a) : wpC P ops W Q i aL (o :: rest) a := by
  unfold wpC; rw [ha]; exact ⟨O, hr, h⟩
theorem wpC_val {v : Value} (ha : isAlloc o = false) (hw : Region.wanted o (yielded ops a.tmps) = true) (hr : ∀ w, Below W.heap.size W w → (execOp a.eval o).run P w = .ok (.value v) w)
    (h : ∀ K : Act → Prop, (∀ b, wpC P ops W Q (i + 1) aL rest b → K b) → K (a.put o.dst v)) : wpC P ops W Q i aL (o :: rest) a := by
  unfold wpC; rw [ha]; exact ⟨v, .inl ⟨hw, fun w hw => .inl (hr w hw)⟩, h _ (fun _ h => h)⟩
theorem wpC_skip (ha : isAlloc o = false) (hw : Region.wanted o (yielded ops a.tmps) = false)
    (h : ∀ K : Act → Prop, (∀ b, wpC P ops W Q (i + 1) aL rest b → K b) → K (a.put o.dst undef)) : wpC P ops W Q i aL (o :: rest) a := by
  unfold wpC; rw [ha]; exact ⟨undef, .inr ⟨hw, rfl⟩, h _ (fun _ h => h)⟩
theorem wpC_call {v : Value} (f : FuncId) (args : Array Value) (ha : isAlloc o = false) (hw : Region.wanted o (yielded ops a.tmps) = true) (hr : ∀ w, (execOp a.eval o).run P w = .ok (.enter f args) w)
    (hc : ∀ w, Below W.heap.size W w → Calls P f args w (fun e w' => e = .returned v ∧ Below w.heap.size w w'))
    (h : ∀ K : Act → Prop, (∀ b, wpC P ops W Q (i + 1) aL rest b → K b) → K (a.put o.dst v)) : wpC P ops W Q i aL (o :: rest) a := by
  unfold wpC; rw [ha]; exact ⟨v, .inl ⟨hw, fun w hw => .inr ⟨f, args, hr w, hc w hw⟩⟩, h _ (fun _ h => h)⟩
theorem wpC_load (ty : TypeId) (x : Operand) (ho : o.op = .load ty x) (b off : Nat) (C : List Value) (d : TypeDesc) (hw : Region.wanted o (yielded ops a.tmps) = true) (hx : a.eval x = .pointer (some ⟨b, off, none⟩))
    (hS : ∀ w, Below W.heap.size W w → w.rangeAt b off C) (hu : P.underlying ty = some d) (hd : d.isRow = true) (hi : (P.info? ty).map (·.size) = some C.length)
    (h : ∀ K : Act → Prop, (∀ b, wpC P ops W Q (i + 1) aL rest b → K b) → K (a.put o.dst (.agg C.toArray))) : wpC P ops W Q i aL (o :: rest) a :=
  wpC_val (by unfold isAlloc; rw [ho]) hw (fun w hs => by
    unfold execOp
    simp only [ho, hx, Instr.loadAt, Instr.sureAddr, Sem.run_bind, Sem.run_pure, Result.andThen_ok, run_loadVar_mid w b off ty C d (hS w hs) hu hd hi]) h
end
end Go.Proofs.Ytpedkcpkdacnlaa
end
section
namespace Go.Proofs.Ytpedkcpkdacnlaa
open Go.RowKit
set_option linter.unusedVariables false
variable {P : Program} {ops : Array Oper}
/-- What is known of the world while k writers are done. -/
def SS (W : World) (S : Nat → (Nat → Nat) → World → Prop) (aL : AsC) (b : Nat → Nat) (w : World) : Nat → Prop
  | 0 => Below W.heap.size W w ∧ factsC W w b aL []
  | k + 1 => S (k + 1) b w
def PureV (P : Program) (r : Sem Next) (v : Value) : Prop := ∀ w, r.run P w = .ok (.value v) w
/-- Of a writer: it is not guarded, and brings the next state about. -/
def WriteR (P : Program) (W : World) (S : Nat → (Nat → Nat) → World → Prop) (k : Nat) (aL : AsC) (o : Oper) (a : Act) : Prop :=
  o.guard = none ∧ ∀ b w, SS W S aL b w k → ∃ w', (execOp (putsC b aL a).eval o).run P w = .ok .skip w' ∧ S (k + 1) b w'
def KnownD (P : Program) (ops : Array Oper) (W : World) (i : Nat) (o : Oper) (a : Act) (v : Value) : Prop :=
  KnownB P ops W o a v ∧ (hiN ops i = 0 ∨ (Region.wanted o (yielded ops a.tmps) = true → PureV P (execOp a.eval o) v))
def wpD (P : Program) (ops : Array Oper) (W : World) (S : Nat → (Nat → Nat) → World → Prop) (Q : Act → World → Prop) : Nat → Nat → AsC → List Oper → Act → Prop
  | _, k, aL, [], a => ∀ b w, SS W S aL b w k → Q (putsC b aL a) w
  | i, k, aL, o :: rest, a => if isAlloc o then ∃ O, AllocR P o O ∧ wpD P ops W S Q (i + 1) k (aL ++ [(i, o.dst, O)]) rest a
    else if eff o then WriteR P W S k aL o a ∧ wpD P ops W S Q (i + 1) (k + 1) aL rest (a.put o.dst undef)
    else ∃ v, KnownD P ops W i o a v ∧ wpD P ops W S Q (i + 1) k aL rest (a.put o.dst v)
theorem asL_congr (O O' : Nat → Obj) : ∀ k, (∀ j, j < k → O' j = O j) → asL ops O' k = asL ops O k
  | 0, _ => rfl
  | k + 1, hh => by simp only [asL]; rw [asL_congr O O' k (fun j hj => hh j (by omega)), hh k (by omega)]
theorem frNA_congr (a0 : Act) (V V' : Nat → Value) : ∀ k, (∀ j, j < k → V' j = V j) → frNA ops V' a0 k = frNA ops V a0 k
  | 0, _ => rfl
  | k + 1, hh => by
    have := frNA_congr a0 V V' k (fun j hj => hh j (by omega))
    unfold frNA at this ⊢
    simp only [canon]; rw [this, hh k (by omega)]
theorem wpD_vals {W : World} {S : Nat → (Nat → Nat) → World → Prop} {Q : Act → World → Prop} (a0 : Act) : ∀ (l : List Oper) (n : Nat) (V : Nat → Value) (O : Nat → Obj) (a : Act), (∀ j, l[j]? = ops[n + j]?) →
    a = frNA ops V a0 n → wpD P ops W S Q n (effN ops n) (asL ops O n) l a →
    ∃ V' O', (∀ j, j < n → V' j = V j ∧ O' j = O j) ∧ (∀ i o, n ≤ i → ops[i]? = some o → (isAlloc o = true → AllocR P o (O' i)) ∧
      (isAlloc o = false → eff o = true → V' i = undef ∧ WriteR P W S (effN ops i) (asL ops O' i) o (frNA ops V' a0 i)) ∧ (isAlloc o = false → eff o = false → KnownD P ops W i o (frNA ops V' a0 i) (V' i))) ∧
      (∀ b w, SS W S (asL ops O' (n + l.length)) b w (effN ops (n + l.length)) → Q (putsC b (asL ops O' (n + l.length)) (frNA ops V' a0 (n + l.length))) w)
  | [], n, V, O, a, hl, ha, h => ⟨V, O, fun _ _ => ⟨rfl, rfl⟩, fun i o h1 ho => by
      exfalso
      have := hl (i - n)
      rw [show n + (i - n) = i by omega, ho] at this
      simp at this, by subst ha; exact h⟩
  | o :: l, n, V, O, a, hl, ha, h => by
    have ho : ops[n]? = some o := by simpa using (hl 0).symm
    have hl' : ∀ j, l[j]? = ops[n + 1 + j]? := fun j => by
      have := hl (j + 1)
      rwa [List.getElem?_cons_succ, show n + (j + 1) = n + 1 + j by omega] at this
    have hlen : n + (o :: l).length = n + 1 + l.length := by simp; omega
    have heN : effN ops (n + 1) = effN ops n + if eff o then 1 else 0 := by simp [effN, ho]
    simp only [wpD] at h
    cases hA : isAlloc o
    · have hnA : allocAt ops n = false := by simp [allocAt, ho, hA]
      have e1 : asL ops O (n + 1) = asL ops O n := by simp [asL, hnA]
      have step : ∀ v, (a.put o.dst v) = frNA ops (fun j => if j = n then v else V j) a0 (n + 1) := fun v => by
        rw [ha]; unfold frNA; simp only [canon, hnA, Bool.not_false, if_true]
        rw [show dstOf ops n = o.dst by simp [dstOf, ho]]
        have := frNA_congr (ops := ops) a0 V (fun j => if j = n then v else V j) n (fun j hj => by simp [show j ≠ n by omega])
        unfold frNA at this
        rw [this]
      rw [hA] at h
      simp only [Bool.false_eq_true, if_false] at h
      cases hE : eff o
      · rw [hE] at h heN
        simp only [Bool.false_eq_true, if_false, Nat.add_zero] at h heN
        obtain ⟨v, hk, hr⟩ := h
        obtain ⟨V', O', g1, g2, g3⟩ := wpD_vals a0 l (n + 1) (fun j => if j = n then v else V j) O (a.put o.dst v) hl' (step v) (by rw [e1, heN]; exact hr)
        have gn := (g1 n (by omega)).1
        simp at gn
        refine ⟨V', O', fun j hj => ⟨by rw [(g1 j (by omega)).1]; simp [show j ≠ n by omega], (g1 j (by omega)).2⟩, fun i p h1 hp => ?_, by rw [hlen]; exact g3⟩
        by_cases e : i = n
        · subst e
          rw [ho] at hp
          obtain rfl : o = p := Option.some.inj hp
          refine ⟨(fun hh => by rw [hA] at hh; cases hh), (fun _ hh => by rw [hE] at hh; cases hh), fun _ _ => ?_⟩
          rw [gn, frNA_congr a0 V V' i (fun j hj => by rw [(g1 j (by omega)).1]; simp [show j ≠ i by omega]), ← ha]
          exact hk
        · exact g2 i p (by omega) hp
      · rw [hE] at h heN
        simp only [if_true] at h heN
        obtain ⟨hk, hr⟩ := h
        obtain ⟨V', O', g1, g2, g3⟩ := wpD_vals a0 l (n + 1) (fun j => if j = n then undef else V j) O (a.put o.dst undef) hl' (step undef) (by rw [e1, heN]; exact hr)
        have gn := (g1 n (by omega)).1
        simp at gn
        refine ⟨V', O', fun j hj => ⟨by rw [(g1 j (by omega)).1]; simp [show j ≠ n by omega], (g1 j (by omega)).2⟩, fun i p h1 hp => ?_, by rw [hlen]; exact g3⟩
        by_cases e : i = n
        · subst e
          rw [ho] at hp
          obtain rfl : o = p := Option.some.inj hp
          refine ⟨(fun hh => by rw [hA] at hh; cases hh), (fun _ _ => ⟨gn, ?_⟩), (fun _ hh => by rw [hE] at hh; cases hh)⟩
          rw [frNA_congr a0 V V' i (fun j hj => by rw [(g1 j (by omega)).1]; simp [show j ≠ i by omega]), ← ha, asL_congr O O' i (fun j hj => (g1 j (by omega)).2)]
          exact hk
        · exact g2 i p (by omega) hp
    · have hnA : allocAt ops n = true := by simp [allocAt, ho, hA]
      have hE : eff o = false := by
        cases hE : eff o
        · rfl
        · unfold eff at hE; unfold isAlloc at hA
          cases hop : o.op <;> simp [hop] at hE hA
      rw [hA] at h
      rw [hE] at heN
      simp only [if_true] at h
      simp only [Bool.false_eq_true, if_false, Nat.add_zero] at heN
      obtain ⟨Ob, hk, hr⟩ := h
      have e1 : asL ops (fun j => if j = n then Ob else O j) (n + 1) = asL ops O n ++ [(n, o.dst, Ob)] := by
        simp only [asL, hnA, if_true]
        rw [asL_congr O (fun j => if j = n then Ob else O j) n (fun j hj => by simp [show j ≠ n by omega])]
        simp [dstOf, ho]
      obtain ⟨V', O', g1, g2, g3⟩ := wpD_vals a0 l (n + 1) V (fun j => if j = n then Ob else O j) a hl' (by
          rw [ha]; unfold frNA; simp only [canon, hnA, Bool.not_true, Bool.false_eq_true, if_false]) (by rw [e1, heN]; exact hr)
      have gn := (g1 n (by omega)).2
      simp at gn
      refine ⟨V', O', fun j hj => ⟨(g1 j (by omega)).1, by rw [(g1 j (by omega)).2]; simp [show j ≠ n by omega]⟩, fun i p h1 hp => ?_, by rw [hlen]; exact g3⟩
      by_cases e : i = n
      · subst e
        rw [ho] at hp
        obtain rfl : o = p := Option.some.inj hp
        exact ⟨(fun _ => by rw [gn]; exact hk), (fun hh => by rw [hA] at hh; cases hh), (fun hh => by rw [hA] at hh; cases hh)⟩
      · exact g2 i p (by omega) hp
/-- The side condition: what writes nothing looks at no variable that is made here; what writes waits for all that are. -/
def allB (ops : Array Oper) : Bool :=
  (List.range ops.size).all fun i => match ops[i]? with
    | none => false
    | some o => if eff o then (List.range ops.size).all fun j => !allocAt ops j || o.after.any fun e => Region.binds .any e && e.on == j
      else (o.looksAt ops).all fun t => (List.range ops.size).all fun j => !allocAt ops j || dstOf ops j != some t
theorem allB_spec (h : allB ops = true) (i : Nat) (o : Oper) (ho : ops[i]? = some o) :
    (eff o = true → ∀ j, j < ops.size → allocAt ops j = true → ∃ e ∈ o.after, Region.binds .any e = true ∧ e.on = j) ∧ (eff o = false → ∀ t ∈ o.looksAt ops, ∀ j, j < ops.size → allocAt ops j = true → dstOf ops j ≠ some t) := by
  have hi : i < ops.size := (Array.getElem?_eq_some_iff.1 ho).1
  have := List.all_eq_true.1 h i (List.mem_range.2 hi)
  simp only [ho] at this
  refine ⟨fun he j hj ha => ?_, fun he t ht j hj ha hd => ?_⟩
  · rw [he] at this
    simp only [if_true] at this
    have h2 := List.all_eq_true.1 this j (List.mem_range.2 hj)
    simp only [ha, Bool.not_true, Bool.false_or] at h2
    obtain ⟨e, he, hb⟩ := Array.any_eq_true'.1 h2
    simp only [Bool.and_eq_true, beq_iff_eq] at hb
    exact ⟨e, he, hb.1, hb.2⟩
  · rw [he] at this
    simp only [Bool.false_eq_true, if_false] at this
    have h2 := List.all_eq_true.1 (List.all_eq_true.1 this t ht) j (List.mem_range.2 hj)
    simp [ha, hd] at h2
theorem effN_pos (p : Nat) (h : effN ops p ≠ 0) : ∃ e o, e < p ∧ ops[e]? = some o ∧ eff o = true := by
  induction p with
  | zero => exact absurd rfl h
  | succ p ih =>
    by_cases h0 : effN ops p = 0
    · simp only [effN] at h
      cases ho : ops[p]? with
      | none => rw [ho] at h; simp at h; exact absurd h0 h
      | some o =>
        cases he : eff o
        · rw [ho] at h; simp [he, h0] at h
        · exact ⟨p, o, by omega, ho, he⟩
    · obtain ⟨e, o, h1, h2⟩ := ih h0
      exact ⟨e, o, by omega, h2⟩
/-- The state while the operations are listed aL they are. -/
def StD (ops : Array Oper) (O : Nat → Obj) (W : World) (S : Nat → (Nat → Nat) → World → Prop) (listed : Array Bool) (b : Nat → Nat) (w : World) : Nat → Prop
  | 0 => Below W.heap.size W w ∧ ∀ i, i < ops.size → allocAt ops i = true → listed.getD i false = true → W.heap.size ≤ b i ∧ w.heap[b i]? = some (O i) ∧ ∀ j, j < ops.size → j ≠ i → allocAt ops j = true → listed.getD j false = true → b j ≠ b i
  | k + 1 => S (k + 1) b w
theorem any_of_all (hst : Stable ops) (hall : allB ops = true) (V : Nat → Value) (O : Nat → Obj) (a : Act) (W : World) (S : Nat → (Nat → Nat) → World → Prop) (Q : Exit → Act → World → Prop)
    (H : ∀ i o, ops[i]? = some o → (isAlloc o = true → AllocR P o (O i)) ∧ (isAlloc o = false → eff o = true → V i = undef ∧ WriteR P W S (effN ops i) (asL ops O i) o (frNA ops V a i)) ∧
      (isAlloc o = false → eff o = false → KnownD P ops W i o (frNA ops V a i) (V i)))
    (hQ : ∀ b w, SS W S (asL ops O ops.size) b w (effN ops ops.size) → Q .normal (putsC b (asL ops O ops.size) (frNA ops V a ops.size)) w) :
    ∀ (fuel : Nat) (listed : Array Bool) (b : Nat → Nat) (w : World), listed.size = ops.size → leftN listed ops.size = fuel →
      (∀ (j : Nat) (oj : Oper), ops[j]? = some oj → listed.getD j false = true → ∀ e ∈ oj.after, Region.binds .any e = true → listed.getD e.on false = true) →
      (∃ p, p ≤ ops.size ∧ (∀ (j : Nat) (o : Oper), ops[j]? = some o → eff o = true → (listed.getD j false = true ↔ j < p)) ∧ StD ops O W S listed b w (effN ops p)) →
      wpAny P .any ops Q fuel listed (canon ops (VbC ops V b) a (fun j => listed.getD j false) ops.size) w := by
  have hsome : ∀ j, j < ops.size → ops[j]? = some (ops.getD j default) := fun j hj => by simp [hj]
  have allq : ∀ (listed : Array Bool) (b : Nat → Nat) (w : World), (∀ j, j < ops.size → listed.getD j false = true) →
      (∃ p, p ≤ ops.size ∧ (∀ (j : Nat) (o : Oper), ops[j]? = some o → eff o = true → (listed.getD j false = true ↔ j < p)) ∧ StD ops O W S listed b w (effN ops p)) →
      Q .normal (canon ops (VbC ops V b) a (fun j => listed.getD j false) ops.size) w := by
    rintro listed b w hl ⟨p, hp, hpe, hs⟩
    rw [canon_congr (VbC ops V b) a (fun j => listed.getD j false) (fun _ => true) ops.size (fun k hk => hl k hk), canon_puts hst V O b a ops.size (Nat.le_refl _)]
    refine hQ b w ?_
    have he : effN ops ops.size = effN ops p := effN_same p ops.size hp (fun j o h1 h2 ho => by
      cases he : eff o
      · rfl
      · have := (hpe j o ho he).1 (hl j h2); omega)
    rw [he]
    cases hk : effN ops p with
    | zero =>
      rw [hk] at hs
      exact ⟨hs.1, factsC_of W w b O ops.size (fun i hi ha => ⟨(hs.2 i hi ha (hl i hi)).1, (hs.2 i hi ha (hl i hi)).2.1, fun j hj hne haj => (hs.2 i hi ha (hl i hi)).2.2 j hj hne haj (hl j hj)⟩) ops.size (Nat.le_refl _)⟩
    | succ k => rw [hk] at hs; exact hs
  have rdy : ∀ (listed : Array Bool), listed.size = ops.size → Region.ready .any ops listed = [] → ∀ j, j < ops.size → listed.getD j false = true := by
    intro listed hsz hr j
    induction j using Nat.strongRecOn with
    | _ j ih =>
      intro hj
      cases hl : listed.getD j false with
      | true => rfl
      | false =>
        exfalso
        have : j ∈ Region.ready .any ops listed := mem_ready.2 ⟨getD_in (by omega) hl, ops[j], by simp [hj], fun e he hb => by
            have hlt := hst.edge j ops[j] (by simp [hj]) e he hb
            exact ih e.on hlt (by omega)⟩
        rw [hr] at this; cases this
  intro fuel
  induction fuel with
  | zero =>
    intro listed b w hsz hc hcl hp
    have hal : ∀ j, j < ops.size → listed.getD j false = true := by
      intro j hj
      have := List.countP_eq_zero.1 hc j (List.mem_range.2 hj)
      simpa using this
    refine ⟨?_, allq listed b w hal hp⟩
    cases hr : Region.ready .any ops listed with
    | nil => rfl
    | cons j r =>
      exfalso
      have hm : j ∈ Region.ready .any ops listed := by rw [hr]; exact List.mem_cons_self
      obtain ⟨h1, oj, hoj, _⟩ := mem_ready.1 hm
      have hj : j < ops.size := (Array.getElem?_eq_some_iff.1 hoj).1
      have h2 := hal j hj
      rw [getD_both h1] at h2; cases h2
  | succ fuel ih =>
    intro listed b w hsz hc hcl hp
    refine ⟨fun hr => allq listed b w (rdy listed hsz hr) hp, fun i hi => ?_⟩
    obtain ⟨hun, o, ho, hrd⟩ := mem_ready.1 hi
    have hin : i < ops.size := (Array.getElem?_eq_some_iff.1 ho).1
    have his : i < listed.size := by omega
    have hun' : listed.getD i false = false := getD_both hun
    have hdo : dstOf ops i = o.dst := by simp [dstOf, ho]
    obtain ⟨hallE, hallN⟩ := allB_spec hall i o ho
    have hlt : leftN (listed.setIfInBounds i true) ops.size = fuel := by
      have hmono : ∀ (l : List Nat), l.Nodup → i ∈ l → List.countP (fun j => !(listed.setIfInBounds i true).getD j false) l + 1 = List.countP (fun j => !listed.getD j false) l := by
        intro l
        induction l with
        | nil => intro _ h; cases h
        | cons x l ihl =>
          intro hnd hm
          rw [List.nodup_cons] at hnd
          rw [List.countP_cons, List.countP_cons]
          by_cases e : i = x
          · subst e
            rw [if_neg (by simp [his]), if_pos (by simp [hun'])]
            have : List.countP (fun j => !(listed.setIfInBounds i true).getD j false) l = List.countP (fun j => !listed.getD j false) l :=
              List.countP_congr (fun j hj => by
                have : i ≠ j := fun e => hnd.1 (e ▸ hj)
                rw [getD_set_ne false this])
            omega
          · have : i ∈ l := by
              rcases List.mem_cons.1 hm with h | h
              · exact absurd h e
              · exact h
            have h3 := ihl hnd.2 this
            rw [getD_set_ne false e]; omega
      have := hmono _ List.nodup_range (List.mem_range.2 hin)
      unfold leftN at hc ⊢
      omega
    have hcl' : ∀ (j : Nat) (oj : Oper), ops[j]? = some oj → (listed.setIfInBounds i true).getD j false = true → ∀ e ∈ oj.after, Region.binds .any e = true → (listed.setIfInBounds i true).getD e.on false = true := by
      intro j oj hoj hl e he hb
      by_cases hij : i = j
      · subst hij
        have : o = oj := Option.some.inj (ho.symm.trans hoj)
        subst this
        exact getD_set_true (hrd e he hb)
      · rw [getD_set_ne false hij] at hl
        exact getD_set_true (hcl j oj hoj hl e he hb)
    have hcs : ∀ b' : Nat → Nat, (∀ j, j ≠ i → b' j = b j) → canon ops (VbC ops V b') a (fun j => (listed.setIfInBounds i true).getD j false) ops.size = (canon ops (VbC ops V b) a (fun j => listed.getD j false) ops.size).put o.dst (VbC ops V b' i) := by
      intro b' hb'
      have := canon_set (ops := ops) (VbC ops V b') a (fun j => listed.getD j false) (fun j => (listed.setIfInBounds i true).getD j false) i hun' (by simp [his]) (fun j hj => getD_set_ne false (Ne.symm hj)) ops.size hin
        (fun j hj hne d hd => hst.dist i o ho j hj hne d (by rw [← hdo]; exact hd))
      rw [hdo] at this
      rw [this, canon_V (VbC ops V b') (VbC ops V b) a (fun j => listed.getD j false) ops.size (fun k hk hl => by
        have : k ≠ i := by rintro rfl; rw [hun'] at hl; cases hl
        unfold VbC; rw [hb' k this])]
    obtain ⟨p, hpn, hpe, hs⟩ := hp
    obtain ⟨H1, H2, H3⟩ := H i o ho
    unfold wpOp
    simp only [ho]
    cases hA : isAlloc o
    · have hnA : allocAt ops i = false := by simp [allocAt, ho, hA]
      have hVi : VbC ops V b i = V i := by unfold VbC; rw [hnA]; rfl
      cases hE : eff o
      · -- reads, calls, reckons
        have hslot : ∀ t, t ∈ o.looksAt ops → (canon ops (VbC ops V b) a (fun j => listed.getD j false) ops.size).tmps[t]? = (frNA ops V a i).tmps[t]? := by
          intro t ht
          have e1 : frNA ops V a i = canon ops V a (fun j => decide (j < i) && !allocAt ops j) ops.size := by
            unfold frNA
            rw [canon_congr V a (fun j => !allocAt ops j) (fun j => decide (j < i) && !allocAt ops j) i (fun k hk => by simp [hk])]
            have : ∀ m, i ≤ m → canon ops V a (fun j => decide (j < i) && !allocAt ops j) m = canon ops V a (fun j => decide (j < i) && !allocAt ops j) i := by
              intro m hm
              induction m with
              | zero => rw [show i = 0 by omega]
              | succ m ihn =>
                by_cases e : i = m + 1
                · rw [e]
                · simp only [canon]
                  rw [if_neg (by simp; omega)]; exact ihn (by omega)
            exact (this _ (by omega)).symm
          rw [e1]
          refine canon_slot2 _ _ a _ _ t ops.size (fun j hj hd => ?_)
          obtain ⟨h1, e, he, hb, hon⟩ := hst.look i o ho t ht j hj hd
          have hl := hrd e he hb
          rw [hon] at hl
          have hja : allocAt ops j = false := by
            cases h : allocAt ops j
            · rfl
            · exact absurd hd (hallN hE t ht j hj h)
          refine ⟨?_, fun _ => ?_⟩
          · show listed.getD j false = (decide (j < i) && !allocAt ops j)
            rw [hl, hja]; simp [h1]
          · unfold VbC; rw [hja]; rfl
        have hev : execOp (canon ops (VbC ops V b) a (fun j => listed.getD j false) ops.size).eval o = execOp (frNA ops V a i).eval o :=
          execOp_congr o (hst.sel i o ho) (fun x hx => eval_slot (fun t hxt => hslot t (by
            subst hxt; exact List.mem_append_left _ (List.mem_filterMap.2 ⟨.tmp t, by simpa using hx, rfl⟩))))
        have hwt := wanted_slot (ops := ops) (o := o) hslot
        have hpe' : ∀ (j : Nat) (o' : Oper), ops[j]? = some o' → eff o' = true → ((listed.setIfInBounds i true).getD j false = true ↔ j < p) := fun j o' ho' he' => by
          have : i ≠ j := by
            rintro rfl
            have : o = o' := Option.some.inj (ho.symm.trans ho')
            subst this; rw [hE] at he'; cases he'
          rw [getD_set_ne false this]; exact hpe j o' ho' he'
        have hnext : ∀ w', StD ops O W S (listed.setIfInBounds i true) b w' (effN ops p) → wpAny P .any ops Q fuel (listed.setIfInBounds i true) ((canon ops (VbC ops V b) a (fun j => listed.getD j false) ops.size).put o.dst (V i)) w' := by
          intro w' hs'
          have e := hcs b (fun _ _ => rfl)
          rw [hVi] at e
          rw [← e]
          exact ih _ b w' (by simp [hsz]) hlt hcl' ⟨p, hpn, hpe', hs'⟩
        have hfacts : ∀ w', Below w.heap.size w w' → (∀ i', i' < ops.size → allocAt ops i' = true → listed.getD i' false = true → W.heap.size ≤ b i' ∧ w.heap[b i']? = some (O i') ∧ ∀ j, j < ops.size → j ≠ i' → allocAt ops j = true → listed.getD j false = true → b j ≠ b i') →
            ∀ i', i' < ops.size → allocAt ops i' = true → (listed.setIfInBounds i true).getD i' false = true → W.heap.size ≤ b i' ∧ w'.heap[b i']? = some (O i') ∧ ∀ j, j < ops.size → j ≠ i' → allocAt ops j = true → (listed.setIfInBounds i true).getD j false = true → b j ≠ b i' := by
          intro w' hb' hf k hk ha hl
          have hki : i ≠ k := by rintro rfl; rw [hnA] at ha; cases ha
          rw [getD_set_ne false hki] at hl
          obtain ⟨g1, g2, g3⟩ := hf k hk ha hl
          refine ⟨g1, ?_, fun j hj hne haj hlj => ?_⟩
          · rw [hb'.block (b k) (Array.getElem?_eq_some_iff.1 g2).1]; exact g2
          · have hji : i ≠ j := by rintro rfl; rw [hnA] at haj; cases haj
            rw [getD_set_ne false hji] at hlj
            exact g3 j hj hne haj hlj
        have hhi : effN ops p ≤ hiN ops i := by
          unfold hiN
          cases hf : (List.range ops.size).find? (waitsW ops i) with
          | none => exact effN_mono p _ hpn
          | some e =>
            have hw1 := List.find?_some hf
            unfold waitsW at hw1
            cases hoe : ops[e]? with
            | none => rw [hoe] at hw1; cases hw1
            | some oe =>
              rw [hoe] at hw1
              simp only [Bool.and_eq_true] at hw1
              obtain ⟨x, hx, hb⟩ := Array.any_eq_true'.1 hw1.2
              simp only [Bool.and_eq_true, beq_iff_eq] at hb
              refine effN_mono p e (Nat.le_of_not_lt fun hlt => ?_)
              have hle := (hpe e oe hoe hw1.1).2 hlt
              have := hcl e oe hoe hle x hx hb.1
              rw [hb.2, hun'] at this; cases this
        obtain ⟨hkn, hpu⟩ := H3 hA hE
        cases hk : effN ops p with
        | zero =>
          rw [hk] at hs hnext
          rcases hkn with ⟨hw, hy⟩ | ⟨hw, hv⟩
          · rw [if_pos (by rw [hwt]; exact hw)]
            left
            unfold Oper.wp
            rw [hev]
            rcases hy w hs.1 with hr | ⟨f, args, hr, hcall⟩
            · rw [hr]; exact hnext w ⟨hs.1, hfacts w (Below.refl _ _) hs.2⟩
            · rw [hr]
              exact hcall.mono fun e w'' ⟨he, hbb⟩ => by subst he; exact hnext w'' ⟨hs.1.trans (hbb.mono hs.1.size), hfacts w'' hbb hs.2⟩
          · rw [if_neg (by rw [hwt, hw]; simp), ← hv]
            exact hnext w ⟨hs.1, hfacts w (Below.refl _ _) hs.2⟩
        | succ k =>
          rw [hk] at hs hnext
          rcases hkn with ⟨hw, hy⟩ | ⟨hw, hv⟩
          · rw [if_pos (by rw [hwt]; exact hw)]
            left
            unfold Oper.wp
            rw [hev]
            rcases hpu with h0 | h0
            · omega
            · rw [h0 hw w]; exact hnext w hs
          · rw [if_neg (by rw [hwt, hw]; simp), ← hv]
            exact hnext w hs
      · -- writes
        obtain ⟨hv, hg, hwr⟩ := H2 hA hE
        have hnp : ¬ i < p := fun h => by have := (hpe i o ho hE).2 h; rw [hun'] at this; cases this
        have hepi : effN ops i = effN ops p := effN_same p i (by omega) (fun j oj h1 h2 hoj => by
          cases hej : eff oj
          · rfl
          · obtain ⟨e, hm, hb, hon⟩ := hst.order i o ho hE j oj h2 hoj hej
            have := hrd e hm hb
            rw [hon] at this
            have := (hpe j oj hoj hej).1 this; omega)
        have hals : ∀ j, j < ops.size → allocAt ops j = true → listed.getD j false = true ∧ j < i := fun j hj ha => by
          obtain ⟨e, hm, hb, hon⟩ := hallE hE j hj ha
          have h1 := hrd e hm hb
          have h2 := hst.edge i o ho e hm hb
          rw [hon] at h1 h2; exact ⟨h1, h2⟩
        have hSS : SS W S (asL ops O i) b w (effN ops i) := by
          rw [hepi]
          cases hk : effN ops p with
          | zero =>
            rw [hk] at hs
            exact ⟨hs.1, factsC_of W w b O ops.size (fun i' hi' ha => ⟨(hs.2 i' hi' ha (hals i' hi' ha).1).1, (hs.2 i' hi' ha (hals i' hi' ha).1).2.1, fun j hj hne haj => (hs.2 i' hi' ha (hals i' hi' ha).1).2.2 j hj hne haj (hals j hj haj).1⟩) i (by omega)⟩
          | succ k => rw [hk] at hs; exact hs
        obtain ⟨w', hr, hS'⟩ := hwr b w hSS
        have hslot : ∀ t, t ∈ o.looksAt ops → (canon ops (VbC ops V b) a (fun j => listed.getD j false) ops.size).tmps[t]? = (putsC b (asL ops O i) (frNA ops V a i)).tmps[t]? := by
          intro t ht
          rw [← canon_puts hst V O b a i (by omega)]
          have e1 : canon ops (VbC ops V b) a (fun _ => true) i = canon ops (VbC ops V b) a (fun j => decide (j < i)) ops.size := by
            rw [canon_congr (VbC ops V b) a (fun _ => true) (fun j => decide (j < i)) i (fun k hk => by simp [hk])]
            have : ∀ m, i ≤ m → canon ops (VbC ops V b) a (fun j => decide (j < i)) m = canon ops (VbC ops V b) a (fun j => decide (j < i)) i := by
              intro m hm
              induction m with
              | zero => rw [show i = 0 by omega]
              | succ m ihn =>
                by_cases e : i = m + 1
                · rw [e]
                · simp only [canon]
                  rw [if_neg (by simp; omega)]; exact ihn (by omega)
            exact (this _ (by omega)).symm
          rw [e1]
          refine canon_slot (VbC ops V b) a _ _ t ops.size (fun j hj hd => ?_)
          obtain ⟨h1, e, he, hb, hon⟩ := hst.look i o ho t ht j hj hd
          have := hrd e he hb
          rw [hon] at this
          simp [h1, this]
        have hev : execOp (canon ops (VbC ops V b) a (fun j => listed.getD j false) ops.size).eval o = execOp (putsC b (asL ops O i) (frNA ops V a i)).eval o :=
          execOp_congr o (hst.sel i o ho) (fun x hx => eval_slot (fun t hxt => hslot t (by
            subst hxt; exact List.mem_append_left _ (List.mem_filterMap.2 ⟨.tmp t, by simpa using hx, rfl⟩))))
        rw [if_pos (by simp [Region.wanted, hg])]
        left
        unfold Oper.wp
        rw [hev, hr]
        show wpAny P .any ops Q fuel (listed.setIfInBounds i true) ((canon ops (VbC ops V b) a (fun j => listed.getD j false) ops.size).put o.dst undef) w'
        have e := hcs b (fun _ _ => rfl)
        rw [hVi, hv] at e
        rw [← e]
        refine ih _ b w' (by simp [hsz]) hlt hcl' ⟨i + 1, hin, fun j o' ho' he' => ?_, ?_⟩
        · by_cases e : i = j
          · subst e; simp [his]
          · rw [getD_set_ne false e, hpe j o' ho' he']
            constructor
            · intro h; omega
            · intro h
              have hji : j < i := by omega
              obtain ⟨e', hm, hb, hon⟩ := hst.order i o ho hE j o' hji ho' he'
              have := hrd e' hm hb
              rw [hon] at this
              exact (hpe j o' ho' he').1 this
        · rw [show effN ops (i + 1) = effN ops i + 1 by simp [effN, ho, hE]]
          exact hS'
    · -- a variable is made
      have hiA : allocAt ops i = true := by simp [allocAt, ho, hA]
      have hE : eff o = false := by
        cases hE : eff o
        · rfl
        · unfold eff at hE; unfold isAlloc at hA
          cases hop : o.op <;> simp [hop] at hE hA
      have hk : effN ops p = 0 := by
        by_cases h0 : effN ops p = 0
        · exact h0
        · exfalso
          obtain ⟨e, oe, h1, h2, h3⟩ := effN_pos p h0
          obtain ⟨x, hm, hb, hon⟩ := (allB_spec hall e oe h2).1 h3 i hin hiA
          have := hcl e oe h2 ((hpe e oe h2 h3).2 h1) x hm hb
          rw [hon, hun'] at this; cases this
      rw [hk] at hs
      obtain ⟨hg, hr⟩ := H1 hA
      rw [if_pos (by simp [Region.wanted, hg])]
      left
      unfold Oper.wp
      rw [hr]
      show wpAny P .any ops Q fuel (listed.setIfInBounds i true) ((canon ops (VbC ops V b) a (fun j => listed.getD j false) ops.size).put o.dst (.pointer (some ⟨w.heap.size, 0, none⟩))) (w.alloc (O i))
      have e := hcs (fun j => if j = i then w.heap.size else b j) (fun j hj => by simp [hj])
      have hVi : VbC ops V (fun j => if j = i then w.heap.size else b j) i = .pointer (some ⟨w.heap.size, 0, none⟩) := by
        unfold VbC; rw [hiA]; simp [ptrB]
      rw [hVi] at e
      rw [← e]
      have hold : ∀ k, k < ops.size → allocAt ops k = true → listed.getD k false = true → b k < w.heap.size := fun k hk ha hl => (Array.getElem?_eq_some_iff.1 (hs.2 k hk ha hl).2.1).1
      refine ih _ _ (w.alloc (O i)) (by simp [hsz]) hlt hcl' ⟨p, hpn, fun j o' ho' he' => ?_, ?_⟩
      · have : i ≠ j := by
          rintro rfl
          have : o = o' := Option.some.inj (ho.symm.trans ho')
          subst this; rw [hE] at he'; cases he'
        rw [getD_set_ne false this]; exact hpe j o' ho' he'
      · rw [hk]
        refine ⟨hs.1.alloc hs.1.size _, fun k hk ha hl => ?_⟩
        by_cases hki : k = i
        · subst hki
          refine ⟨by simp; exact hs.1.size, by simp only [if_true]; show (w.heap.push _)[w.heap.size]? = _; simp, fun j hj hne haj hlj => ?_⟩
          rw [getD_set_ne false (Ne.symm hne)] at hlj
          have := hold j hj haj hlj
          simp [hne]; omega
        · rw [getD_set_ne false (Ne.symm hki)] at hl
          obtain ⟨g1, g2, g3⟩ := hs.2 k hk ha hl
          refine ⟨by simp [hki]; exact g1, ?_, fun j hj hne haj hlj => ?_⟩
          · simp only [hki, if_false]
            rw [Below.heap_alloc _ _ _ (hold k hk ha hl)]; exact g2
          · simp only [hki, if_false]
            by_cases hji : j = i
            · subst hji
              have := hold k hk ha hl
              simp; omega
            · rw [getD_set_ne false (Ne.symm hji)] at hlj
              simp only [hji, if_false]
              exact g3 j hj hne haj hlj
/-- A region that draws its order, walked in the order of the text. -/
theorem wp_region_all {id : Nat} {l : List Oper} {a : Act} {w : World} {Q : Exit → Act → World → Prop} (S : Nat → (Nat → Nat) → World → Prop) (hm : P.follows .mixedOrders = true) (hB : stableB l.toArray = true) (hall : allB l.toArray = true)
    (h : wpD P l.toArray w.drew S (Q .normal) 0 0 [] l a) : (Code.region id l.toArray true).wp P Q a w := by
  have hst := stable_of hB
  obtain ⟨V, O, -, h2, h3⟩ := wpD_vals (ops := l.toArray) a l 0 (fun _ => undef) (fun _ => .map #[] 0) a (fun j => by simp) rfl h
  rw [Nat.zero_add] at h3
  have hsz : l.toArray.size = l.length := by simp
  rw [← hsz] at h3
  refine wp_region_any hm ?_
  have H := any_of_all (P := P) hst hall V O a w.drew S Q (fun i o ho => h2 i o (Nat.zero_le _) ho) h3 l.toArray.size (Array.replicate l.toArray.size false) (fun _ => 0) w.drew (by simp) (by
      unfold leftN
      have : ∀ m, List.countP (fun i => !(Array.replicate l.toArray.size false).getD i false) (List.range m) = m := by
        intro m
        rw [List.countP_eq_length.2 (fun j _ => by rw [getD_replicate_false]; rfl), List.length_range]
      exact this _) (fun j oj _ hl => by rw [getD_replicate_false] at hl; exact absurd hl (by decide))
    ⟨0, Nat.zero_le _, fun j o ho he => by rw [getD_replicate_false]; constructor <;> intro hh <;> first | (exact absurd hh (by decide)) | omega,
      Below.refl _ _, fun i hi ha hl => by rw [getD_replicate_false] at hl; exact absurd hl (by decide)⟩
  have e : canon l.toArray (VbC l.toArray V fun _ => 0) a (fun j => (Array.replicate l.toArray.size false).getD j false) l.toArray.size = a := by
    have : ∀ m, canon l.toArray (VbC l.toArray V fun _ => 0) a (fun j => (Array.replicate l.toArray.size false).getD j false) m = a := by
      intro m
      induction m with
      | zero => rfl
      | succ m ih =>
        simp only [canon]
        rw [if_neg, ih]
        rw [getD_replicate_false]; decide
    exact this _
  rw [e] at H
  exact H
section
variable {W : World} {S : Nat → (Nat → Nat) → World → Prop} {Q : Act → World → Prop} {i k : Nat} {aL : AsC} {o : Oper} {rest : List Oper} {a : Act}
theorem wpD_nil (h : ∀ b w, SS W S aL b w k → Q (putsC b aL a) w) : wpD P ops W S Q i k aL [] a := h
theorem wpD_alloc (O : Obj) (ha : isAlloc o = true) (hr : AllocR P o O) (h : wpD P ops W S Q (i + 1) k (aL ++ [(i, o.dst, O)]) rest a) : wpD P ops W S Q i k aL (o :: rest) a := by
  unfold wpD; rw [ha]; exact ⟨O, hr, h⟩
/-- A reckoning that looks at no memory. -/
theorem wpD_pure {v : Value} (ha : isAlloc o = false) (he : eff o = false) (hw : Region.wanted o (yielded ops a.tmps) = true) (hr : ∀ w, (execOp a.eval o).run P w = .ok (.value v) w)
    (h : ∀ K : Act → Prop, (∀ b, wpD P ops W S Q (i + 1) k aL rest b → K b) → K (a.put o.dst v)) : wpD P ops W S Q i k aL (o :: rest) a := by
  unfold wpD; rw [ha, he]; exact ⟨v, ⟨.inl ⟨hw, fun w _ => .inl (hr w)⟩, .inr (fun _ => hr)⟩, h _ (fun _ h => h)⟩
theorem wpD_val {v : Value} (ha : isAlloc o = false) (he : eff o = false) (hn : hiN ops i = 0) (hw : Region.wanted o (yielded ops a.tmps) = true) (hr : ∀ w, Below W.heap.size W w → (execOp a.eval o).run P w = .ok (.value v) w)
    (h : ∀ K : Act → Prop, (∀ b, wpD P ops W S Q (i + 1) k aL rest b → K b) → K (a.put o.dst v)) : wpD P ops W S Q i k aL (o :: rest) a := by
  unfold wpD; rw [ha, he]; exact ⟨v, ⟨.inl ⟨hw, fun w hw => .inl (hr w hw)⟩, .inl hn⟩, h _ (fun _ h => h)⟩
theorem wpD_skip (ha : isAlloc o = false) (he : eff o = false) (hw : Region.wanted o (yielded ops a.tmps) = false)
    (h : ∀ K : Act → Prop, (∀ b, wpD P ops W S Q (i + 1) k aL rest b → K b) → K (a.put o.dst undef)) : wpD P ops W S Q i k aL (o :: rest) a := by
  unfold wpD; rw [ha, he]; exact ⟨undef, ⟨.inr ⟨hw, rfl⟩, .inr (fun h => by rw [hw] at h; cases h)⟩, h _ (fun _ h => h)⟩
theorem wpD_call {v : Value} (f : FuncId) (args : Array Value) (ha : isAlloc o = false) (he : eff o = false) (hn : hiN ops i = 0) (hw : Region.wanted o (yielded ops a.tmps) = true) (hr : ∀ w, (execOp a.eval o).run P w = .ok (.enter f args) w)
    (hc : ∀ w, Below W.heap.size W w → Calls P f args w (fun e w' => e = .returned v ∧ Below w.heap.size w w'))
    (h : ∀ K : Act → Prop, (∀ b, wpD P ops W S Q (i + 1) k aL rest b → K b) → K (a.put o.dst v)) : wpD P ops W S Q i k aL (o :: rest) a := by
  unfold wpD; rw [ha, he]; exact ⟨v, ⟨.inl ⟨hw, fun w hw => .inr ⟨f, args, hr w, hc w hw⟩⟩, .inl hn⟩, h _ (fun _ h => h)⟩
theorem wpD_load (ty : TypeId) (x : Operand) (ho : o.op = .load ty x) (b off : Nat) (C : List Value) (d : TypeDesc) (hn : hiN ops i = 0) (hw : Region.wanted o (yielded ops a.tmps) = true) (hx : a.eval x = .pointer (some ⟨b, off, none⟩))
    (hS : ∀ w, Below W.heap.size W w → w.rangeAt b off C) (hu : P.underlying ty = some d) (hd : d.isRow = true) (hi : (P.info? ty).map (·.size) = some C.length)
    (h : ∀ K : Act → Prop, (∀ b, wpD P ops W S Q (i + 1) k aL rest b → K b) → K (a.put o.dst (.agg C.toArray))) : wpD P ops W S Q i k aL (o :: rest) a :=
  wpD_val (by unfold isAlloc; rw [ho]) (by unfold eff; rw [ho]) hn hw (fun w hs => by
    unfold execOp
    simp only [ho, hx, Instr.loadAt, Instr.sureAddr, Sem.run_bind, Sem.run_pure, Result.andThen_ok, run_loadVar_mid w b off ty C d (hS w hs) hu hd hi]) h
theorem wpD_write (ha : isAlloc o = false) (he : eff o = true) (hr : WriteR P W S k aL o a)
    (h : ∀ K : Act → Prop, (∀ b, wpD P ops W S Q (i + 1) (k + 1) aL rest b → K b) → K (a.put o.dst undef)) : wpD P ops W S Q i k aL (o :: rest) a := by
  unfold wpD; rw [ha, he]; exact ⟨hr, h _ (fun _ h => h)⟩
end
end Go.Proofs.Ytpedkcpkdacnlaa
end
section
namespace Go.Proofs.Ytpedkcpkdacnlaa
open Go.RowKit
variable {P : Program} {ops : Array Oper} {W : World} {S : Nat → (Nat → Nat) → World → Prop} {Q : Act → World → Prop} {i k : Nat} {aL : AsC} {o : Oper} {rest : List Oper} {a : Act}
theorem wpD_store (ty : TypeId) (x y : Operand) (ho : o.op = .store ty x y) (hg : o.guard = none) (blk : (Nat → Nat) → Nat) (off n : Nat) (vs : List Value)
    (hx : ∀ b, (putsC b aL a).eval x = .pointer (some ⟨blk b, off, none⟩)) (hy : ∀ b, (putsC b aL a).eval y = .agg vs.toArray) (t : TypeId) (C : List Value) (hB : ∀ b w, SS W S aL b w k → Blk w (blk b) C t) (hn : vs.length = n) (hfit : off + n ≤ C.length)
    (hi : (P.info? ty).map (·.size) = some n) (h1 : ∀ v ∈ vs, v.oneCell' = true) (hS : ∀ b w, SS W S aL b w k → S (k + 1) b (setBlk w (blk b) (spl C off vs)))
    (h : ∀ K : Act → Prop, (∀ b, wpD P ops W S Q (i + 1) (k + 1) aL rest b → K b) → K (a.put o.dst undef)) : wpD P ops W S Q i k aL (o :: rest) a :=
  wpD_write (by unfold isAlloc; rw [ho]) (by unfold eff; rw [ho]) ⟨hg, fun b w hs => ⟨_, by
    unfold execOp
    simp only [ho, hx b, hy b, Instr.storeAt, Instr.sureAddr, Sem.run_bind, Sem.run_pure, Result.andThen_ok, run_storeVar_part w (blk b) C t ty off n vs (hB b w hs) hn hfit hi h1], hS b w hs⟩⟩ h
theorem keptNew {S' : Nat → Prop} {x y : World} (h : Kept S' x y) {c : Nat} (hc : x.heap.size ≤ c) (C : List Value) : Kept S' x (setBlk y c C) :=
  ⟨h.os, h.tape, h.output, by rw [setBlk_size]; exact h.size, fun k hk hn => by rw [setBlk_heap y c C k (by omega)]; exact h.block k hk hn⟩
theorem two_ints (x y : Int) : ∀ v ∈ [Value.int .i64 x, .int .i64 y], v.oneCell' = true := by
  intro v hv
  simp only [List.mem_cons, List.not_mem_nil, or_false] at hv
  rcases hv with rfl | rfl <;> rfl
end Go.Proofs.Ytpedkcpkdacnlaa
end
section
namespace Go.Proofs.Ytpedkcpkdacnlaa
open Go.RowKit
set_option linter.unusedVariables false
section
variable {P : Program} {ops : Array Oper} {rest : List Oper} {o : Oper} {a : Act} {w0 : World} {S : Nat → Prop} {M : List En} {i k : Nat}
/-- Such a region without new variables. -/
theorem wp_region_M {id : Nat} {l : List Oper} {w : World} {Q : Exit → Act → World → Prop} (HM : Mem w0 S M w) (St : Nat → List En) (h0 : St 0 = M) (hm : P.follows .mixedOrders = true) (hB : stableB l.toArray = true)
    (h : wpB P l.toArray (fun k w => Mem w0 S (St k) w) (Q .normal) 0 0 l a) : (Code.region id l.toArray true).wp P Q a w :=
  wp_region_stable _ hm hB (by show Mem w0 S (St 0) w.drew; rw [h0]; exact HM.drew) h
section
variable {St : Nat → List En} {Q : Act → World → Prop}
theorem wpB_pure {T : Nat → World → Prop} {v : Value} (hw : Region.wanted o (yielded ops a.tmps) = true) (he : eff o = false) (hr : ∀ w, (execOp a.eval o).run P w = .ok (.value v) w)
    (h : ∀ K : Act → Prop, (∀ b, wpB P ops T Q (i + 1) k rest b → K b) → K (a.put o.dst v)) : wpB P ops T Q i k (o :: rest) a :=
  wpB_val hw he _ rfl (fun _ w _ _ => hr w) h
theorem wpB_loadM {ty : TypeId} {x : Operand} {b off : Nat} {C : List Value} {t : TypeId} {f : En → List En} {v : Value} (hw : Region.wanted o (yielded ops a.tmps) = true) (he : eff o = false) (hn : hiN ops i = 0) (ho : o.op = .load ty x)
    (hx : a.eval x = .pointer (some ⟨b, off, none⟩)) (hs : Sel (.blk b C t) (St 0) f) (hv : C[off]? = some v) (hu : scalarB P ty = true)
    (h : ∀ K : Act → Prop, (∀ b, wpB P ops (fun k w => Mem w0 S (St k) w) Q (i + 1) k rest b → K b) → K (a.put o.dst v)) : wpB P ops (fun k w => Mem w0 S (St k) w) Q i k (o :: rest) a :=
  wpB_val hw he 0 hn (fun j w hj HM => by
    obtain rfl : j = 0 := by omega
    unfold execOp
    have hc : w.cell? ⟨b, off, none⟩ = some v := by rw [(Mem.blk HM hs).cell]; exact hv
    simp only [ho, hx, Instr.loadAt, Instr.sureAddr, Sem.run_bind, Sem.run_pure, Result.andThen_ok, run_loadVar_cell ty hu _ v hc]) h
theorem wpB_loadM1 {ty : TypeId} {x : Operand} {b off : Nat} {C : List Value} {t : TypeId} {f f1 : En → List En} {v : Value} (hw : Region.wanted o (yielded ops a.tmps) = true) (he : eff o = false) (hn : hiN ops i = 1) (ho : o.op = .load ty x)
    (hx : a.eval x = .pointer (some ⟨b, off, none⟩)) (hs : Sel (.blk b C t) (St 0) f) (hs1 : Sel (.blk b C t) (St 1) f1) (hv : C[off]? = some v) (hu : scalarB P ty = true)
    (h : ∀ K : Act → Prop, (∀ b, wpB P ops (fun k w => Mem w0 S (St k) w) Q (i + 1) k rest b → K b) → K (a.put o.dst v)) : wpB P ops (fun k w => Mem w0 S (St k) w) Q i k (o :: rest) a :=
  wpB_val hw he 1 hn (fun j w hj HM => by
    have hB : Blk w b C t := by
      rcases (show j = 0 ∨ j = 1 by omega) with rfl | rfl
      · exact Mem.blk HM hs
      · exact Mem.blk HM hs1
    unfold execOp
    have hc : w.cell? ⟨b, off, none⟩ = some v := by rw [hB.cell]; exact hv
    simp only [ho, hx, Instr.loadAt, Instr.sureAddr, Sem.run_bind, Sem.run_pure, Result.andThen_ok, run_loadVar_cell ty hu _ v hc]) h
theorem wpB_loadMA1 {ty : TypeId} {x : Operand} {b off n : Nat} {C : List Value} {t : TypeId} {f f1 : En → List En} (hw : Region.wanted o (yielded ops a.tmps) = true) (he : eff o = false) (hn : hiN ops i = 1) (ho : o.op = .load ty x)
    (hx : a.eval x = .pointer (some ⟨b, off, none⟩)) (hs : Sel (.blk b C t) (St 0) f) (hs1 : Sel (.blk b C t) (St 1) f1) (hu : aggB P ty n = true) (hl : off + n ≤ C.length)
    (h : ∀ K : Act → Prop, (∀ b, wpB P ops (fun k w => Mem w0 S (St k) w) Q (i + 1) k rest b → K b) → K (a.put o.dst (.agg ((C.drop off).take n).toArray))) : wpB P ops (fun k w => Mem w0 S (St k) w) Q i k (o :: rest) a :=
  wpB_val hw he 1 hn (fun j w hj HM => by
    have hB : Blk w b C t := by
      rcases (show j = 0 ∨ j = 1 by omega) with rfl | rfl
      · exact Mem.blk HM hs
      · exact Mem.blk HM hs1
    unfold aggB at hu
    rw [Bool.and_eq_true, beq_iff_eq] at hu
    unfold execOp
    cases hd : P.underlying ty with
    | none => rw [hd] at hu; simp at hu
    | some d => simp only [ho, hx, Instr.loadAt, Instr.sureAddr, Sem.run_bind, Sem.run_pure, Result.andThen_ok, run_loadVar_part w b C t ty off n d hB hl hd (by rw [hd] at hu; cases d <;> simp_all) hu.2]) h
theorem wpB_loadMR {ty : TypeId} {x : Operand} {g off e sz n c : Nat} {xs : List Value} {f : En → List En} {v : Value} (hw : Region.wanted o (yielded ops a.tmps) = true) (he : eff o = false) (hn : hiN ops i = 0) (ho : o.op = .load ty x)
    (hx : a.eval x = .pointer (some ⟨g, off, none⟩)) (hs : Sel (.row (.slice (some ⟨g, 0, none⟩) n c) e sz n xs) (St 0) f) (hv : xs[off]? = some v) (hu : scalarB P ty = true)
    (h : ∀ K : Act → Prop, (∀ b, wpB P ops (fun k w => Mem w0 S (St k) w) Q (i + 1) k rest b → K b) → K (a.put o.dst v)) : wpB P ops (fun k w => Mem w0 S (St k) w) Q i k (o :: rest) a :=
  wpB_val hw he 0 hn (fun j w hj HM => by
    obtain rfl : j = 0 := by omega
    unfold execOp
    have hc : w.cell? ⟨g, off, none⟩ = some v := by
      rw [(ownsRow.cell (Mem.row HM hs) off (by
        rcases Nat.lt_or_ge off xs.length with h | h
        · exact h
        · rw [List.getElem?_eq_none h] at hv; cases hv)).1]; exact hv
    simp only [ho, hx, Instr.loadAt, Instr.sureAddr, Sem.run_bind, Sem.run_pure, Result.andThen_ok, run_loadVar_cell ty hu _ v hc]) h
theorem wpB_storeM {ty : TypeId} {x y : Operand} {b off : Nat} {C : List Value} {t : TypeId} {f : En → List En} {v : Value} (hw : Region.wanted o (yielded ops a.tmps) = true) (he : eff o = true) (ho : o.op = .store ty x y)
    (hx : a.eval x = .pointer (some ⟨b, off, none⟩)) (hy : a.eval y = v) (hs : Sel (.blk b C t) (St k) f) (hi : off < C.length) (hu : oneB P ty = true) (h1 : v.oneCell' = true) (hn : St (k + 1) = f (.blk b (C.set off v) t))
    (h : ∀ K : Act → Prop, (∀ b, wpB P ops (fun k w => Mem w0 S (St k) w) Q (i + 1) (k + 1) rest b → K b) → K (a.put o.dst undef)) : wpB P ops (fun k w => Mem w0 S (St k) w) Q i k (o :: rest) a :=
  wpB_store hw he (fun w HM => by
    have hc : w.cell? ⟨b, off, none⟩ = some C[off] := by rw [(Mem.blk HM hs).cell]; exact List.getElem?_eq_getElem hi
    refine ⟨_, ?_, by rw [hn]; exact Mem.set HM hs off v⟩
    unfold execOp
    simp only [ho, hx, hy, Instr.storeAt, Instr.sureAddr, Sem.run_bind, Sem.run_pure, Result.andThen_ok, run_storeVar_cell ty hu _ v _ h1 hc ((Mem.blk HM hs).frozen _)]) h
theorem wpB_storeMR {ty : TypeId} {x y : Operand} {g off e sz n c : Nat} {xs : List Value} {f : En → List En} {v : Value} (hw : Region.wanted o (yielded ops a.tmps) = true) (he : eff o = true) (ho : o.op = .store ty x y)
    (hx : a.eval x = .pointer (some ⟨g, off, none⟩)) (hy : a.eval y = v) (hs : Sel (.row (.slice (some ⟨g, 0, none⟩) n c) e sz n xs) (St k) f) (hi : off < xs.length) (hu : oneB P ty = true) (h1 : v.oneCell' = true)
    (hn : St (k + 1) = f (.row (.slice (some ⟨g, 0, none⟩) n c) e sz n (xs.set off v)))
    (h : ∀ K : Act → Prop, (∀ b, wpB P ops (fun k w => Mem w0 S (St k) w) Q (i + 1) (k + 1) rest b → K b) → K (a.put o.dst undef)) : wpB P ops (fun k w => Mem w0 S (St k) w) Q i k (o :: rest) a :=
  wpB_store hw he (fun w HM => by
    have hc := ownsRow.cell (Mem.row HM hs) off hi
    rw [List.getElem?_eq_getElem hi] at hc
    refine ⟨_, ?_, by rw [hn]; exact Mem.setRow HM hs off v hi⟩
    unfold execOp
    simp only [ho, hx, hy, Instr.storeAt, Instr.sureAddr, Sem.run_bind, Sem.run_pure, Result.andThen_ok, run_storeVar_cell ty hu _ v _ h1 hc.1 hc.2]) h
theorem wpB_storeMA {ty : TypeId} {x y : Operand} {b off n : Nat} {C vs : List Value} {t : TypeId} {f : En → List En} (hw : Region.wanted o (yielded ops a.tmps) = true) (he : eff o = true) (ho : o.op = .store ty x y)
    (hx : a.eval x = .pointer (some ⟨b, off, none⟩)) (hy : a.eval y = .agg vs.toArray) (hs : Sel (.blk b C t) (St k) f) (hl : vs.length = n) (hi : off + n ≤ C.length) (hu : (P.info? ty).map (·.size) = some n) (h1 : ∀ v ∈ vs, v.oneCell' = true)
    (hn : St (k + 1) = f (.blk b (spl C off vs) t))
    (h : ∀ K : Act → Prop, (∀ b, wpB P ops (fun k w => Mem w0 S (St k) w) Q (i + 1) (k + 1) rest b → K b) → K (a.put o.dst undef)) : wpB P ops (fun k w => Mem w0 S (St k) w) Q i k (o :: rest) a :=
  wpB_store hw he (fun w HM => by
    refine ⟨_, ?_, by rw [hn]; exact Mem.setAll HM hs _⟩
    unfold execOp
    simp only [ho, hx, hy, Instr.storeAt, Instr.sureAddr, Sem.run_bind, Sem.run_pure, Result.andThen_ok, run_storeVar_part w b C t ty off n vs (Mem.blk HM hs) hl hi hu h1]) h
theorem wpB_loadMA {ty : TypeId} {x : Operand} {b off n : Nat} {C : List Value} {t : TypeId} {f : En → List En} (hw : Region.wanted o (yielded ops a.tmps) = true) (he : eff o = false) (hn : hiN ops i = 0) (ho : o.op = .load ty x)
    (hx : a.eval x = .pointer (some ⟨b, off, none⟩)) (hs : Sel (.blk b C t) (St 0) f) (hu : aggB P ty n = true) (hl : off + n ≤ C.length)
    (h : ∀ K : Act → Prop, (∀ b, wpB P ops (fun k w => Mem w0 S (St k) w) Q (i + 1) k rest b → K b) → K (a.put o.dst (.agg ((C.drop off).take n).toArray))) : wpB P ops (fun k w => Mem w0 S (St k) w) Q i k (o :: rest) a :=
  wpB_val hw he 0 hn (fun j w hj HM => by
    obtain rfl : j = 0 := by omega
    unfold aggB at hu
    rw [Bool.and_eq_true, beq_iff_eq] at hu
    unfold execOp
    cases hd : P.underlying ty with
    | none => rw [hd] at hu; simp at hu
    | some d => simp only [ho, hx, Instr.loadAt, Instr.sureAddr, Sem.run_bind, Sem.run_pure, Result.andThen_ok, run_loadVar_part w b C t ty off n d (Mem.blk HM hs) hl hd (by rw [hd] at hu; cases d <;> simp_all) hu.2]) h
/-- A call that turns nothing. -/
theorem wpB_callM {v : Value} (f : FuncId) (args : Array Value) (hw : Region.wanted o (yielded ops a.tmps) = true) (he : eff o = false) (hr : ∀ w, (execOp a.eval o).run P w = .ok (.enter f args) w)
    (hc : ∀ j w, j ≤ hiN ops i → Mem w0 S (St j) w → Calls P f args w (fun e w' => e = .returned v ∧ Below w.heap.size w w'))
    (h : ∀ K : Act → Prop, (∀ b, wpB P ops (fun k w => Mem w0 S (St k) w) Q (i + 1) k rest b → K b) → K (a.put o.dst v)) : wpB P ops (fun k w => Mem w0 S (St k) w) Q i k (o :: rest) a :=
  wpB_call f args hw he hr _ rfl (fun j w hj HM => (hc j w hj HM).mono fun e w' h => ⟨h.1, Mem.call HM h.2⟩) h
end
-- regions that make variables
def okO : Obj → Bool
  | .cells _ _ (0, 0) => true
  | _ => false
def entO (b : Nat) : Obj → En
  | .cells C t _ => .blk b C.toList t
  | _ => .blk b [] 0
def entsC (b : Nat → Nat) : AsC → List En → List En
  | [], M => M
  | (i, _, O) :: aL, M => entsC b aL (entO (b i) O :: M)
theorem mem_facts {W w : World} {b : Nat → Nat} : ∀ (aL : AsC) (used : List Nat) (M : List En), aL.all (fun x => okO x.2.2) = true → Mem w0 S M w → w0.heap.size ≤ W.heap.size → (∀ e ∈ M, ∀ g, e.foot = some g → g < W.heap.size ∨ g ∈ used) → factsC W w b aL used → Mem w0 S (entsC b aL M) w
  | [], _, _, _, h, _, _, _ => h
  | (i, d, O) :: aL, used, M, hok, h, hW, hf, ⟨g1, g2, g3, g4⟩ => by
    rw [List.all_cons, Bool.and_eq_true] at hok
    obtain ⟨C, t, rfl⟩ : ∃ C t, O = .cells C t (0, 0) := by
      obtain ⟨hok, -⟩ := hok
      cases O with
      | cells C t fr =>
        obtain ⟨lo, hi⟩ := fr
        cases lo with
        | zero => cases hi with
          | zero => exact ⟨_, _, rfl⟩
          | succ n => simp [okO] at hok
        | succ n => simp [okO] at hok
      | _ => simp [okO] at hok
    refine mem_facts aL (b i :: used) _ hok.2 ⟨h.kept, fun e he => ?_, fun e he g hg => ?_, List.pairwise_cons.2 ⟨fun e he g hg heg => ?_, h.dist⟩⟩ hW (fun e he g hg => ?_) g4
    · rcases List.mem_cons.1 he with rfl | he
      · show w.heap[b i]? = some (.cells C.toList.toArray t (0, 0))
        simpa using g3
      · exact h.holds e he
    · rcases List.mem_cons.1 he with rfl | he
      · simp [entO, En.foot] at hg; exact .inr (by omega)
      · exact h.own e he g hg
    · simp [entO, En.foot] at hg; subst hg
      rcases hf e he _ heg with h1 | h1
      · omega
      · exact g2 _ h1 rfl
    · rcases List.mem_cons.1 he with rfl | he
      · simp [entO, En.foot] at hg; exact .inr (by simp [hg])
      · rcases hf e he g hg with h1 | h1
        · exact .inl h1
        · exact .inr (List.mem_cons_of_mem _ h1)
section
variable {W : World} {T : Nat → (Nat → Nat) → World → Prop} {Q : Act → World → Prop} {aL : AsC}
theorem ssm0 (HM : Mem w0 S M W) (hok : aL.all (fun x => okO x.2.2) = true) (b : Nat → Nat) (w : World) (h : SS W T aL b w 0) : Mem w0 S (entsC b aL M) w :=
  mem_facts aL [] M hok (HM.call h.1) HM.size (fun e he g hg => .inl ((HM.holds e he).lt hg)) h.2
theorem wpD_loadM (HM : Mem w0 S M W) {ty : TypeId} {x : Operand} {b off : Nat} {C : List Value} {t : TypeId} {f : En → List En} {v : Value} (ha : isAlloc o = false) (he : eff o = false) (hn : hiN ops i = 0) (hw : Region.wanted o (yielded ops a.tmps) = true) (ho : o.op = .load ty x)
    (hx : a.eval x = .pointer (some ⟨b, off, none⟩)) (hs : Sel (.blk b C t) M f) (hv : C[off]? = some v) (hu : scalarB P ty = true)
    (h : ∀ K : Act → Prop, (∀ b, wpD P ops W T Q (i + 1) k aL rest b → K b) → K (a.put o.dst v)) : wpD P ops W T Q i k aL (o :: rest) a :=
  wpD_val ha he hn hw (fun w hb => by
    unfold execOp
    have hc : w.cell? ⟨b, off, none⟩ = some v := by rw [((HM.call hb).blk hs).cell]; exact hv
    simp only [ho, hx, Instr.loadAt, Instr.sureAddr, Sem.run_bind, Sem.run_pure, Result.andThen_ok, run_loadVar_cell ty hu _ v hc]) h
theorem wpD_loadMA (HM : Mem w0 S M W) {ty : TypeId} {x : Operand} {b off n : Nat} {C : List Value} {t : TypeId} {f : En → List En} (ha : isAlloc o = false) (he : eff o = false) (hn : hiN ops i = 0) (hw : Region.wanted o (yielded ops a.tmps) = true) (ho : o.op = .load ty x)
    (hx : a.eval x = .pointer (some ⟨b, off, none⟩)) (hs : Sel (.blk b C t) M f) (hu : aggB P ty n = true) (hl : off + n ≤ C.length)
    (h : ∀ K : Act → Prop, (∀ b, wpD P ops W T Q (i + 1) k aL rest b → K b) → K (a.put o.dst (.agg ((C.drop off).take n).toArray))) : wpD P ops W T Q i k aL (o :: rest) a :=
  wpD_val ha he hn hw (fun w hb => by
    unfold aggB at hu
    rw [Bool.and_eq_true, beq_iff_eq] at hu
    unfold execOp
    cases hd : P.underlying ty with
    | none => rw [hd] at hu; simp at hu
    | some d => simp only [ho, hx, Instr.loadAt, Instr.sureAddr, Sem.run_bind, Sem.run_pure, Result.andThen_ok, run_loadVar_part w b C t ty off n d ((HM.call hb).blk hs) hl hd (by rw [hd] at hu; cases d <;> simp_all) hu.2]) h
theorem wpD_storeM {St : Nat → (Nat → Nat) → List En} {ty : TypeId} {x y : Operand} (blk : (Nat → Nat) → Nat) {off : Nat} {C : List Value} {t : TypeId} {Mk : (Nat → Nat) → List En} {f : (Nat → Nat) → En → List En} {v : (Nat → Nat) → Value} (ha : isAlloc o = false) (he : eff o = true) (hg : o.guard = none) (ho : o.op = .store ty x y)
    (hx : ∀ b, (putsC b aL a).eval x = .pointer (some ⟨blk b, off, none⟩)) (hy : ∀ b, (putsC b aL a).eval y = v b) (hM : ∀ b w, SS W (fun k b w => Mem w0 S (St k b) w) aL b w k → Mem w0 S (Mk b) w) (hs : ∀ b, Sel (.blk (blk b) C t) (Mk b) (f b)) (hi : off < C.length)
    (hu : oneB P ty = true) (h1 : ∀ b, (v b).oneCell' = true) (hn : ∀ b, St (k + 1) b = f b (.blk (blk b) (C.set off (v b)) t))
    (h : ∀ K : Act → Prop, (∀ b, wpD P ops W (fun k b w => Mem w0 S (St k b) w) Q (i + 1) (k + 1) aL rest b → K b) → K (a.put o.dst undef)) : wpD P ops W (fun k b w => Mem w0 S (St k b) w) Q i k aL (o :: rest) a :=
  wpD_write ha he ⟨hg, fun b w hss => by
    have HM := hM b w hss
    have hc : w.cell? ⟨blk b, off, none⟩ = some C[off] := by rw [(HM.blk (hs b)).cell]; exact List.getElem?_eq_getElem hi
    refine ⟨_, ?_, show Mem w0 S (St (k + 1) b) _ by rw [hn]; exact HM.set (hs b) off (v b)⟩
    unfold execOp
    simp only [ho, hx b, hy b, Instr.storeAt, Instr.sureAddr, Sem.run_bind, Sem.run_pure, Result.andThen_ok, run_storeVar_cell ty hu _ (v b) _ (h1 b) hc ((HM.blk (hs b)).frozen _)]⟩ h
theorem wpD_storeMA {St : Nat → (Nat → Nat) → List En} {ty : TypeId} {x y : Operand} (blk : (Nat → Nat) → Nat) {off n : Nat} {C vs : List Value} {t : TypeId} {Mk : (Nat → Nat) → List En} {f : (Nat → Nat) → En → List En} (ha : isAlloc o = false) (he : eff o = true) (hg : o.guard = none) (ho : o.op = .store ty x y)
    (hx : ∀ b, (putsC b aL a).eval x = .pointer (some ⟨blk b, off, none⟩)) (hy : ∀ b, (putsC b aL a).eval y = .agg vs.toArray) (hM : ∀ b w, SS W (fun k b w => Mem w0 S (St k b) w) aL b w k → Mem w0 S (Mk b) w) (hs : ∀ b, Sel (.blk (blk b) C t) (Mk b) (f b)) (hl : vs.length = n) (hi : off + n ≤ C.length)
    (hu : (P.info? ty).map (·.size) = some n) (h1 : ∀ v ∈ vs, v.oneCell' = true) (hn : ∀ b, St (k + 1) b = f b (.blk (blk b) (spl C off vs) t))
    (h : ∀ K : Act → Prop, (∀ b, wpD P ops W (fun k b w => Mem w0 S (St k b) w) Q (i + 1) (k + 1) aL rest b → K b) → K (a.put o.dst undef)) : wpD P ops W (fun k b w => Mem w0 S (St k b) w) Q i k aL (o :: rest) a :=
  wpD_write ha he ⟨hg, fun b w hss => by
    have HM := hM b w hss
    refine ⟨_, ?_, show Mem w0 S (St (k + 1) b) _ by rw [hn]; exact HM.setAll (hs b) _⟩
    unfold execOp
    simp only [ho, hx b, hy b, Instr.storeAt, Instr.sureAddr, Sem.run_bind, Sem.run_pure, Result.andThen_ok, run_storeVar_part w (blk b) C t ty off n vs (HM.blk (hs b)) hl hi hu h1]⟩ h
end
end
end Go.Proofs.Ytpedkcpkdacnlaa
end
section
namespace Go.Proofs.Ytpedkcpkdacnlaa
open Go.RowKit
set_option linter.unusedVariables false
section
variable {P : Program} {fn : Func} {tmps : Array Value} {w w0 : World} {S : Nat → Prop} {M : List En}
theorem run_loadVar_M (HM : Mem w0 S M w) {b : Nat} {C : List Value} {t ty : TypeId} {f : En → List En} (hs : Sel (.blk b C t) M f) (hu : aggB P ty C.length = true) : (loadVar ty ⟨b, 0, none⟩).run P w = .ok (.agg C.toArray) w := by
  unfold aggB at hu
  rw [Bool.and_eq_true, beq_iff_eq] at hu
  cases hd : P.underlying ty with
  | none => rw [hd] at hu; simp at hu
  | some d => exact run_loadVar_whole b C t ty d (HM.blk hs) hd (by rw [hd] at hu; cases d <;> simp_all) hu.2
theorem run_loadVar_1 (HM : Mem w0 S M w) {b : Nat} {v : Value} {t ty : TypeId} {f : En → List En} (hs : Sel (.blk b [v] t) M f) (hu : scalarB P ty = true) : (loadVar ty ⟨b, 0, none⟩).run P w = .ok v w :=
  run_loadVar_cell ty hu _ v (by rw [(HM.blk hs).cell]; rfl)
theorem resM_c (HM : Mem w0 S M w) {a : Tmp} {ty : TypeId} (hr : fn.results = #[.cell a ty]) {b : Nat} {C : List Value} {t : TypeId} {f : En → List En} (ha : tmps.getD a undef = .pointer (some ⟨b, 0, none⟩)) (hs : Sel (.blk b C t) M f) (hu : aggB P ty C.length = true) :
    (results fn tmps).run P w = .ok (.agg C.toArray) w := by
  have h := run_loadVar_M (P := P) HM hs hu
  rw [Array.getD_eq_getD_getElem?] at ha
  simp [results, hr, Array.mapM_eq_mapM_toList, ha, asAddr, h]
theorem resM_tc (HM : Mem w0 S M w) {x a : Tmp} {ty : TypeId} (hr : fn.results = #[.tmp x, .cell a ty]) {v : Value} (hx : tmps.getD x undef = v) {b : Nat} {C : List Value} {t : TypeId} {f : En → List En} (ha : tmps.getD a undef = .pointer (some ⟨b, 0, none⟩)) (hs : Sel (.blk b C t) M f) (hu : aggB P ty C.length = true) :
    (results fn tmps).run P w = .ok (.tuple #[v, .agg C.toArray]) w := by
  have h := run_loadVar_M (P := P) HM hs hu
  rw [Array.getD_eq_getD_getElem?] at ha hx
  simp [results, hr, Array.mapM_eq_mapM_toList, ha, hx, asAddr, h]
theorem resM_ct (HM : Mem w0 S M w) {x a : Tmp} {ty : TypeId} (hr : fn.results = #[.cell a ty, .tmp x]) {v : Value} (hx : tmps.getD x undef = v) {b : Nat} {C : List Value} {t : TypeId} {f : En → List En} (ha : tmps.getD a undef = .pointer (some ⟨b, 0, none⟩)) (hs : Sel (.blk b C t) M f) (hu : aggB P ty C.length = true) :
    (results fn tmps).run P w = .ok (.tuple #[.agg C.toArray, v]) w := by
  have h := run_loadVar_M (P := P) HM hs hu
  rw [Array.getD_eq_getD_getElem?] at ha hx
  simp [results, hr, Array.mapM_eq_mapM_toList, ha, hx, asAddr, h]
theorem resM_cc (HM : Mem w0 S M w) {a a' : Tmp} {ty ty' : TypeId} (hr : fn.results = #[.cell a ty, .cell a' ty']) {b b' : Nat} {C C' : List Value} {t t' : TypeId} {f f' : En → List En} (ha : tmps.getD a undef = .pointer (some ⟨b, 0, none⟩)) (hs : Sel (.blk b C t) M f) (hu : aggB P ty C.length = true)
    (ha' : tmps.getD a' undef = .pointer (some ⟨b', 0, none⟩)) (hs' : Sel (.blk b' C' t') M f') (hu' : aggB P ty' C'.length = true) :
    (results fn tmps).run P w = .ok (.tuple #[.agg C.toArray, .agg C'.toArray]) w := by
  have h := run_loadVar_M (P := P) HM hs hu
  have h' := run_loadVar_M (P := P) HM hs' hu'
  rw [Array.getD_eq_getD_getElem?] at ha ha'
  simp [results, hr, Array.mapM_eq_mapM_toList, ha, ha', asAddr, Sem.run_bind, h, h']
theorem resM_ctt (HM : Mem w0 S M w) {x y a : Tmp} {ty : TypeId} (hr : fn.results = #[.cell a ty, .tmp x, .tmp y]) {v u : Value} (hx : tmps.getD x undef = v) (hy : tmps.getD y undef = u) {b : Nat} {C : List Value} {t : TypeId} {f : En → List En} (ha : tmps.getD a undef = .pointer (some ⟨b, 0, none⟩)) (hs : Sel (.blk b C t) M f) (hu : aggB P ty C.length = true) :
    (results fn tmps).run P w = .ok (.tuple #[.agg C.toArray, v, u]) w := by
  have h := run_loadVar_M (P := P) HM hs hu
  rw [Array.getD_eq_getD_getElem?] at ha hx hy
  simp [results, hr, Array.mapM_eq_mapM_toList, ha, hx, hy, asAddr, h]
theorem resM_cct (HM : Mem w0 S M w) {x a a' : Tmp} {ty ty' : TypeId} (hr : fn.results = #[.cell a ty, .cell a' ty', .tmp x]) {v : Value} (hx : tmps.getD x undef = v) {b b' : Nat} {C C' : List Value} {t t' : TypeId} {f f' : En → List En} (ha : tmps.getD a undef = .pointer (some ⟨b, 0, none⟩)) (hs : Sel (.blk b C t) M f) (hu : aggB P ty C.length = true)
    (ha' : tmps.getD a' undef = .pointer (some ⟨b', 0, none⟩)) (hs' : Sel (.blk b' C' t') M f') (hu' : aggB P ty' C'.length = true) :
    (results fn tmps).run P w = .ok (.tuple #[.agg C.toArray, .agg C'.toArray, v]) w := by
  have h := run_loadVar_M (P := P) HM hs hu
  have h' := run_loadVar_M (P := P) HM hs' hu'
  rw [Array.getD_eq_getD_getElem?] at ha ha' hx
  simp [results, hr, Array.mapM_eq_mapM_toList, ha, ha', hx, asAddr, Sem.run_bind, h, h']
/-- A whole variable is written. -/
theorem wpM_storeAll {ops : Array Oper} {rest : List Oper} {o : Oper} {a : Act} {Q : Exit → Act → World → Prop} (HM : Mem w0 S M w) {ty : TypeId} {x y : Operand} {b : Nat} {C vs : List Value} {t : TypeId} {f : En → List En} (hg : o.guard = none) (ho : o.op = .store ty x y)
    (hx : a.eval x = .pointer (some ⟨b, 0, none⟩)) (hy : a.eval y = .agg vs.toArray) (hs : Sel (.blk b C t) M f) (hn : vs.length = C.length) (hu : aggB P ty vs.length = true) (h1 : vs.all Value.oneCell' = true)
    (h : ∀ w', Mem w0 S (f (.blk b vs t)) w' → wpList P ops Q rest (a.put o.dst undef) w') : wpList P ops Q (o :: rest) a w := by
  unfold aggB at hu
  rw [Bool.and_eq_true, beq_iff_eq] at hu
  refine wpM_storeA HM hg ho hx hy hs rfl (by omega) hu.2 (fun v hv => List.all_eq_true.1 h1 v hv) (fun w' H => h w' ?_)
  have e : spl C 0 vs = vs := by unfold spl; rw [List.take_zero, List.nil_append, List.drop_of_length_le (by omega), List.append_nil]
  rwa [e] at H
theorem Mem.takeRow (h : Mem w0 S M w) {e sz n g c : Nat} {xs : List Value} {f : En → List En} (hs : Sel (.row (.slice (some ⟨g, 0, none⟩) n c) e sz n xs) M f) (m : Nat) (hm : m ≤ n) : Mem w0 S (f (.row (.slice (some ⟨g, 0, none⟩) m c) e sz m (xs.take (m * sz)))) w := by
  refine h.turn hs (Kept.refl _ _) _ ?_ (fun g hg => .inl hg)
  obtain ⟨C, hB, ht, h1, h2, h3, h4, h5⟩ := ownsRow.cells (h.row hs)
  have hmul : m * sz ≤ n * sz := Nat.mul_le_mul_right _ hm
  refine ⟨by rw [List.length_take]; omega, .inr ⟨g, c, C.toArray, rfl, h4, hB, by omega, h3, by simpa using h2, ?_⟩⟩
  rw [← ht, List.take_take, h5, Nat.min_eq_left hmul]
/-- A whole variable is read. -/
theorem wpM_loadAll {ops : Array Oper} {rest : List Oper} {o : Oper} {a : Act} {Q : Exit → Act → World → Prop} (HM : Mem w0 S M w) {ty : TypeId} {x : Operand} {b : Nat} {C : List Value} {t : TypeId} {f : En → List En} (hw : Region.wanted o (yielded ops a.tmps) = true) (ho : o.op = .load ty x)
    (hx : a.eval x = .pointer (some ⟨b, 0, none⟩)) (hs : Sel (.blk b C t) M f) (hu : aggB P ty C.length = true)
    (h : wpList P ops Q rest (a.put o.dst (.agg C.toArray)) w) : wpList P ops Q (o :: rest) a w :=
  wpList_step fun _ hK => by
    rw [if_pos hw]
    unfold Oper.wp execOp
    simp only [ho, hx, Instr.loadAt, Instr.sureAddr, Sem.run_bind, Sem.run_pure, Result.andThen_ok, run_loadVar_M HM hs hu]
    exact hK _ _ h
/-- A slice literal. -/
theorem wpM_buildSliceK {ops : Array Oper} {rest : List Oper} {o : Oper} {a : Act} {Q : Exit → Act → World → Prop} (HM : Mem w0 S M w) {t e len : Nat} {parts : Array (Nat × Operand)} (C : List Value) (hw : Region.wanted o (yielded ops a.tmps) = true) (ho : o.op = .buildSlice t len parts)
    (hr : ∀ w : World, (Instr.buildSlice t len (parts.map fun p => (p.1, a.eval p.2))).run P w = .ok (.slice (some ⟨w.heap.size, 0, none⟩) len len) (w.alloc (.cells C.toArray e)))
    (h : ∀ b w', b = w.heap.size → Mem w0 S (.blk b C e :: M) w' → wpList P ops Q rest (a.put o.dst (.slice (some ⟨b, 0, none⟩) len len)) w') : wpList P ops Q (o :: rest) a w :=
  wpList_step fun _ hK => by
    rw [if_pos hw]
    unfold Oper.wp execOp
    simp only [ho, Sem.run_bind, hr]
    exact hK _ _ (h _ _ rfl (HM.alloc C e))
/-- A cell that was there at first, and that nothing may have turned. -/
theorem wpM_loadOld {ops : Array Oper} {rest : List Oper} {o : Oper} {a : Act} {Q : Exit → Act → World → Prop} (HM : Mem w0 S M w) {ty : TypeId} {x : Operand} {b off : Nat} {v : Value} (hw : Region.wanted o (yielded ops a.tmps) = true) (ho : o.op = .load ty x)
    (hx : a.eval x = .pointer (some ⟨b, off, none⟩)) (hc : w0.cell? ⟨b, off, none⟩ = some v) (hS : ¬ S b) (hu : scalarB P ty = true)
    (h : wpList P ops Q rest (a.put o.dst v) w) : wpList P ops Q (o :: rest) a w :=
  wpList_step fun _ hK => by
    rw [if_pos hw]
    unfold Oper.wp execOp
    have hb : b < w0.heap.size := by
      rcases Nat.lt_or_ge b w0.heap.size with h' | h'
      · exact h'
      · simp [World.cell?, Array.getElem?_eq_none h'] at hc
    have hc' : w.cell? ⟨b, off, none⟩ = some v := by rw [HM.kept.cell hb hS]; exact hc
    simp only [ho, hx, Instr.loadAt, Instr.sureAddr, Sem.run_bind, Sem.run_pure, Result.andThen_ok, run_loadVar_cell ty hu _ v hc']
    exact hK _ _ h
theorem wpM_loadOldA {ops : Array Oper} {rest : List Oper} {o : Oper} {a : Act} {Q : Exit → Act → World → Prop} (HM : Mem w0 S M w) {ty : TypeId} {x : Operand} {b off : Nat} {C : List Value} (hw : Region.wanted o (yielded ops a.tmps) = true) (ho : o.op = .load ty x)
    (hx : a.eval x = .pointer (some ⟨b, off, none⟩)) (hc : w0.rangeAt b off C) (hb : b < w0.heap.size) (hS : ¬ S b) {d : TypeDesc} (hu : P.underlying ty = some d) (hd : d.isRow = true) (hi : (P.info? ty).map (·.size) = some C.length)
    (h : wpList P ops Q rest (a.put o.dst (.agg C.toArray)) w) : wpList P ops Q (o :: rest) a w :=
  wpList_step fun _ hK => by
    rw [if_pos hw]
    unfold Oper.wp execOp
    have hc' : w.rangeAt b off C := fun j v hj => by rw [HM.kept.cell hb hS]; exact hc j v hj
    simp only [ho, hx, Instr.loadAt, Instr.sureAddr, Sem.run_bind, Sem.run_pure, Result.andThen_ok, run_loadVar_mid w b off ty C d hc' hu hd hi]
    exact hK _ _ h
end
end Go.Proofs.Ytpedkcpkdacnlaa
end
section
namespace Go.Proofs.Ytpedkcpkdacnlaa
open Go.RowKit
set_option linter.unusedVariables false
def vals (xs : List Int) : List Value := xs.map (Value.int .i64)
theorem vals_get (xs : List Int) (i : Nat) (h : i < xs.length) : (vals xs)[i]? = some (.int .i64 (hp xs i)) := by simp [vals, hp, h]
theorem vals_swp (xs : List Int) (i j : Nat) : ((vals xs).set i (.int .i64 (hp xs j))).set j (.int .i64 (hp xs i)) = vals (swp xs i j) := by simp [vals, swp, List.map_set]
theorem vals_len (xs : List Int) : (vals xs).length = xs.length := by simp [vals]
theorem upF_stop (f : Nat) (xs : List Int) (i : Nat) (h : ¬ (0 < i ∧ hp xs i < hp xs ((i - 1) / 2))) : upF f xs i = xs := by
  cases f with
  | zero => rfl
  | succ f => simp only [upF]; rw [if_neg h]
theorem upF_step (f : Nat) (xs : List Int) (i : Nat) (h : 0 < i ∧ hp xs i < hp xs ((i - 1) / 2)) : upF (f + 1) xs i = upF f (swp xs i ((i - 1) / 2)) ((i - 1) / 2) := by
  simp only [upF]; rw [if_pos h]
set_option maxRecDepth 20000 in
set_option maxHeartbeats 4000000 in
theorem heap_up (W : World) (v : Value) (xs : List Int) (h : W.ownsRow 0 3 1 v xs.length (vals xs)) (hx : 0 < xs.length) (hx2 : xs.length ≤ 1000) :
    Calls Try.prog 46 #[v] W fun e w' => e = .returned v ∧ w'.ownsRow 0 3 1 v xs.length (vals (upF (xs.length - 1) xs (xs.length - 1))) ∧ Kept (fun g => v.ownBlock = some g) W w' := by
  obtain ⟨R, hR⟩ : ∃ R, upF (xs.length - 1) xs (xs.length - 1) = R := ⟨_, rfl⟩
  rw [hR]
  obtain ⟨g, cap, rfl, hc1, hc2, hc3, -⟩ := ownsRow.head h hx
  have HR := Lib.hid hR
  have HM : Mem W (fun g' => g = g') [.row (.slice (some ⟨g, 0, none⟩) xs.length cap) 3 1 xs.length (vals xs)] W := ⟨Kept.refl _ _, fun e he => by simp at he; subst he; exact h, fun e he g' hg => by simp at he; subst he; simp [En.foot, Value.ownBlock] at hg; exact .inl hg, List.pairwise_singleton _ _⟩
  have hl0 : IntKind.i64.wrap ((xs.length : Int) - 1) = ((xs.length - 1 : Nat) : Int) := by rw [IntWalk.i64_in _ (by omega)]; omega
  clear h hR
  go_enter Try.func46, Try.ntmps46
  go_wp2_with fail
  go_loopw [3] (fun i wr => ∃ (j f : Nat) (ys : List Int), j < xs.length ∧ j ≤ f ∧ i = .int .i64 j ∧ ys.length = xs.length ∧ upF f ys j = R ∧ Mem W (fun g' => g = g') [.row (.slice (some ⟨g, 0, none⟩) xs.length cap) 3 1 xs.length (vals ys)] wr) (fun i _ => (intOf i).toNat)
  case atStart => exact ⟨xs.length - 1, xs.length - 1, xs, by omega, by omega, by go_num, rfl, HR.out, HM⟩
  case round =>
    clear HM
    obtain ⟨j, f, ys, hj, hf, rfl, hyl, hu, HM⟩ := hrel
    have HU := Lib.hid hu
    have HYL := Lib.hid hyl
    clear hu hyl
    by_cases h0 : j = 0
    · subst h0
      have g0 : decide ((0 : Int) < ((0 : Nat) : Int)) = false := by simp
      go_upto_region 2 with fail
      refine wp_region_M HM (fun _ => [.row (.slice (some ⟨g, 0, none⟩) xs.length cap) 3 1 xs.length (vals ys)]) rfl (by kernel_rfl) (by kernel_rfl) ?_
      refine wpB_pure (v := ?v1) (by kernel_rfl) (by kernel_rfl) (fun w' => ?h1) (fun K hK => ?k1)
      case h1 =>
        go_simp
        try rfl
      go_simp
      refine hK _ ?_
      clear hK K
      refine wpB_pure (v := ?v2) (by kernel_rfl) (by kernel_rfl) (fun w' => ?h2) (fun K hK => ?k2)
      case h2 =>
        go_simp
        try rfl
      go_simp
      refine hK _ ?_
      clear hK K
      refine wpB_pure (v := ?v3) (by kernel_rfl) (by kernel_rfl) (fun w' => ?h3) (fun K hK => ?k3)
      case h3 =>
        go_simp
        try rfl
      go_simp
      refine hK _ ?_
      clear hK K
      refine wpB_skip (by kernel_rfl) (by kernel_rfl) (fun K hK => ?_)
      go_simp
      refine hK _ ?_
      clear hK K
      refine wpB_skip (by kernel_rfl) (by kernel_rfl) (fun K hK => ?_)
      go_simp
      refine hK _ ?_
      clear hK K
      refine wpB_skip (by kernel_rfl) (by kernel_rfl) (fun K hK => ?_)
      go_simp
      refine hK _ ?_
      clear hK K
      refine wpB_skip (by kernel_rfl) (by kernel_rfl) (fun K hK => ?_)
      go_simp
      refine hK _ ?_
      clear hK K
      refine wpB_skip (by kernel_rfl) (by kernel_rfl) (fun K hK => ?_)
      go_simp
      refine hK _ ?_
      clear hK K
      refine wpB_skip (by kernel_rfl) (by kernel_rfl) (fun K hK => ?_)
      go_simp
      refine hK _ ?_
      clear hK K
      refine wpB_skip (by kernel_rfl) (by kernel_rfl) (fun K hK => ?_)
      go_simp
      refine hK _ ?_
      clear hK K
      refine wpB_skip (by kernel_rfl) (by kernel_rfl) (fun K hK => ?_)
      go_simp
      refine hK _ ?_
      clear hK K
      refine wpB_skip (by kernel_rfl) (by kernel_rfl) (fun K hK => ?_)
      go_simp
      refine hK _ ?_
      clear hK K
      refine wpB_skip (by kernel_rfl) (by kernel_rfl) (fun K hK => ?_)
      go_simp
      refine hK _ ?_
      clear hK K
      refine wpB_skip (by kernel_rfl) (by kernel_rfl) (fun K hK => ?_)
      go_simp
      refine hK _ ?_
      clear hK K
      refine wpB_pure (v := ?v4) (by kernel_rfl) (by kernel_rfl) (fun w' => ?h4) (fun K hK => ?k4)
      case h4 =>
        go_simp
        try rfl
      go_simp
      refine hK _ ?_
      clear hK K
      refine wpB_nil (fun w HM => ?_)
      go_wp2_with fail
      go_ret
      refine ⟨rfl, ?_, HM.kept.mono (fun k hk => by subst hk; rfl)⟩
      have := HU.out
      rw [upF_stop f ys 0 (by omega)] at this
      subst this; exact HM.row .head
    · have g0 : decide ((0 : Int) < (j : Int)) = true := by simp; omega
      have g00 : (0 : Int) < (j : Int) := by omega
      have g01 : 0 < j := by omega
      obtain ⟨p, hp0⟩ : ∃ p, p = (j - 1) / 2 := ⟨_, rfl⟩
      have hpj : p < xs.length := by omega
      have GJ := Lib.hid (vals_get ys j (by have := HYL.out; omega))
      have GP := Lib.hid (vals_get ys p (by have := HYL.out; omega))
      have LJ : Hid (j < (vals ys).length) := Lib.hid (by rw [vals_len]; have := HYL.out; omega)
      have LP : Hid (p < ((vals ys).set j (.int .i64 (hp ys p))).length) := Lib.hid (by rw [List.length_set, vals_len]; have := HYL.out; omega)
      have hw1 : IntKind.i64.wrap ((j : Int) - 1) = (j : Int) - 1 := IntWalk.i64_in _ (by omega)
      have hw2 : IntKind.i64.wrap (((j : Int) - 1).tdiv 2) = (p : Int) := by
        rw [Int.tdiv_eq_ediv_of_nonneg (by omega)]
        rw [IntWalk.i64_in _ (by omega)]; omega
      have hw3 : ((j : Int) - 1).tdiv 2 = (p : Int) := by
        rw [Int.tdiv_eq_ediv_of_nonneg (by omega)]; omega
      have hw4 : IntKind.i64.wrap (p : Int) = (p : Int) := IntWalk.i64_in _ (by omega)
      have hp9 : (0 : Int) ≤ (p : Int) ∧ (p : Int) < (xs.length : Int) := by omega
      have hj9 : (0 : Int) ≤ (j : Int) ∧ (j : Int) < (xs.length : Int) := by omega
      have HP := Lib.hid hp0
      clear hp0
      by_cases hz : hp ys j < hp ys p
      · have g1 : decide (hp ys j < hp ys p) = true := by simp [hz]
        go_upto_region 2 with fail
        refine wp_region_M HM (fun _ => [.row (.slice (some ⟨g, 0, none⟩) xs.length cap) 3 1 xs.length (vals ys)]) rfl (by kernel_rfl) (by kernel_rfl) ?_
        refine wpB_pure (v := ?v5) (by kernel_rfl) (by kernel_rfl) (fun w' => ?h5) (fun K hK => ?k5)
        case h5 =>
          go_simp
          try rfl
        go_simp
        refine hK _ ?_
        clear hK K
        refine wpB_pure (v := ?v6) (by kernel_rfl) (by kernel_rfl) (fun w' => ?h6) (fun K hK => ?k6)
        case h6 =>
          go_simp
          try rfl
        go_simp
        refine hK _ ?_
        clear hK K
        refine wpB_pure (v := ?v7) (by kernel_rfl) (by kernel_rfl) (fun w' => ?h7) (fun K hK => ?k7)
        case h7 =>
          go_simp
          try rfl
        go_simp
        refine hK _ ?_
        clear hK K
        refine wpB_pure (v := ?v8) (by kernel_rfl) (by kernel_rfl) (fun w' => ?h8) (fun K hK => ?k8)
        case h8 =>
          go_simp
          try rfl
        go_simp
        refine hK _ ?_
        clear hK K
        refine wpB_pure (v := ?v9) (by kernel_rfl) (by kernel_rfl) (fun w' => ?h9) (fun K hK => ?k9)
        case h9 =>
          go_simp
          try rfl
        go_simp
        refine hK _ ?_
        clear hK K
        refine wpB_pure (v := ?v10) (by kernel_rfl) (by kernel_rfl) (fun w' => ?h10) (fun K hK => ?k10)
        case h10 =>
          go_simp
          try rfl
        go_simp
        refine hK _ ?_
        clear hK K
        (refine wpB_loadMR (by kernel_rfl) (by kernel_rfl) (by kernel_rfl) rfl rfl (by repeat (first | exact Sel.head | apply Sel.tail)) (GJ.out) (by kernel_rfl) (fun K hK => ?_))
        go_simp
        refine hK _ ?_
        clear hK K
        refine wpB_pure (v := ?v11) (by kernel_rfl) (by kernel_rfl) (fun w' => ?h11) (fun K hK => ?k11)
        case h11 =>
          go_simp
          try rfl
        go_simp
        refine hK _ ?_
        clear hK K
        refine wpB_pure (v := ?v12) (by kernel_rfl) (by kernel_rfl) (fun w' => ?h12) (fun K hK => ?k12)
        case h12 =>
          go_simp
          try rfl
        go_simp
        refine hK _ ?_
        clear hK K
        refine wpB_pure (v := ?v13) (by kernel_rfl) (by kernel_rfl) (fun w' => ?h13) (fun K hK => ?k13)
        case h13 =>
          go_simp
          try rfl
        go_simp
        refine hK _ ?_
        clear hK K
        refine wpB_pure (v := ?v14) (by kernel_rfl) (by kernel_rfl) (fun w' => ?h14) (fun K hK => ?k14)
        case h14 =>
          go_simp
          try rfl
        go_simp
        refine hK _ ?_
        clear hK K
        refine wpB_pure (v := ?v15) (by kernel_rfl) (by kernel_rfl) (fun w' => ?h15) (fun K hK => ?k15)
        case h15 =>
          go_simp
          try rfl
        go_simp
        refine hK _ ?_
        clear hK K
        (refine wpB_loadMR (by kernel_rfl) (by kernel_rfl) (by kernel_rfl) rfl rfl (by repeat (first | exact Sel.head | apply Sel.tail)) (GP.out) (by kernel_rfl) (fun K hK => ?_))
        go_simp
        refine hK _ ?_
        clear hK K
        refine wpB_pure (v := ?v16) (by kernel_rfl) (by kernel_rfl) (fun w' => ?h16) (fun K hK => ?k16)
        case h16 =>
          go_simp
          try rfl
        go_simp
        refine hK _ ?_
        clear hK K
        refine wpB_pure (v := ?v17) (by kernel_rfl) (by kernel_rfl) (fun w' => ?h17) (fun K hK => ?k17)
        case h17 =>
          go_simp
          try rfl
        go_simp
        refine hK _ ?_
        clear hK K
        refine wpB_nil (fun w HM => ?_)
        go_upto_region 4 with fail
        refine wp_region_M HM (fun k => match k with | 0 => [.row (.slice (some ⟨g, 0, none⟩) xs.length cap) 3 1 xs.length (vals ys)] | 1 => [.row (.slice (some ⟨g, 0, none⟩) xs.length cap) 3 1 xs.length ((vals ys).set j (.int .i64 (hp ys p)))] | _ => [.row (.slice (some ⟨g, 0, none⟩) xs.length cap) 3 1 xs.length (((vals ys).set j (.int .i64 (hp ys p))).set p (.int .i64 (hp ys j)))]) rfl (by kernel_rfl) (by kernel_rfl) ?_
        refine wpB_pure (v := ?v18) (by kernel_rfl) (by kernel_rfl) (fun w' => ?h18) (fun K hK => ?k18)
        case h18 =>
          go_simp
          try rfl
        go_simp
        refine hK _ ?_
        clear hK K
        refine wpB_pure (v := ?v19) (by kernel_rfl) (by kernel_rfl) (fun w' => ?h19) (fun K hK => ?k19)
        case h19 =>
          go_simp
          try rfl
        go_simp
        refine hK _ ?_
        clear hK K
        refine wpB_pure (v := ?v20) (by kernel_rfl) (by kernel_rfl) (fun w' => ?h20) (fun K hK => ?k20)
        case h20 =>
          go_simp
          try rfl
        go_simp
        refine hK _ ?_
        clear hK K
        refine wpB_pure (v := ?v21) (by kernel_rfl) (by kernel_rfl) (fun w' => ?h21) (fun K hK => ?k21)
        case h21 =>
          go_simp
          try rfl
        go_simp
        refine hK _ ?_
        clear hK K
        refine wpB_pure (v := ?v22) (by kernel_rfl) (by kernel_rfl) (fun w' => ?h22) (fun K hK => ?k22)
        case h22 =>
          go_simp
          try rfl
        go_simp
        refine hK _ ?_
        clear hK K
        refine wpB_pure (v := ?v23) (by kernel_rfl) (by kernel_rfl) (fun w' => ?h23) (fun K hK => ?k23)
        case h23 =>
          go_simp
          try rfl
        go_simp
        refine hK _ ?_
        clear hK K
        refine wpB_pure (v := ?v24) (by kernel_rfl) (by kernel_rfl) (fun w' => ?h24) (fun K hK => ?k24)
        case h24 =>
          go_simp
          try rfl
        go_simp
        refine hK _ ?_
        clear hK K
        refine wpB_pure (v := ?v25) (by kernel_rfl) (by kernel_rfl) (fun w' => ?h25) (fun K hK => ?k25)
        case h25 =>
          go_simp
          try rfl
        go_simp
        refine hK _ ?_
        clear hK K
        refine wpB_pure (v := ?v26) (by kernel_rfl) (by kernel_rfl) (fun w' => ?h26) (fun K hK => ?k26)
        case h26 =>
          go_simp
          try rfl
        go_simp
        refine hK _ ?_
        clear hK K
        refine wpB_pure (v := ?v27) (by kernel_rfl) (by kernel_rfl) (fun w' => ?h27) (fun K hK => ?k27)
        case h27 =>
          go_simp
          try rfl
        go_simp
        refine hK _ ?_
        clear hK K
        refine wpB_pure (v := ?v28) (by kernel_rfl) (by kernel_rfl) (fun w' => ?h28) (fun K hK => ?k28)
        case h28 =>
          go_simp
          try rfl
        go_simp
        refine hK _ ?_
        clear hK K
        (refine wpB_loadMR (by kernel_rfl) (by kernel_rfl) (by kernel_rfl) rfl rfl (by repeat (first | exact Sel.head | apply Sel.tail)) (GP.out) (by kernel_rfl) (fun K hK => ?_))
        go_simp
        refine hK _ ?_
        clear hK K
        refine wpB_pure (v := ?v29) (by kernel_rfl) (by kernel_rfl) (fun w' => ?h29) (fun K hK => ?k29)
        case h29 =>
          go_simp
          try rfl
        go_simp
        refine hK _ ?_
        clear hK K
        refine wpB_pure (v := ?v30) (by kernel_rfl) (by kernel_rfl) (fun w' => ?h30) (fun K hK => ?k30)
        case h30 =>
          go_simp
          try rfl
        go_simp
        refine hK _ ?_
        clear hK K
        refine wpB_pure (v := ?v31) (by kernel_rfl) (by kernel_rfl) (fun w' => ?h31) (fun K hK => ?k31)
        case h31 =>
          go_simp
          try rfl
        go_simp
        refine hK _ ?_
        clear hK K
        (refine wpB_loadMR (by kernel_rfl) (by kernel_rfl) (by kernel_rfl) rfl rfl (by repeat (first | exact Sel.head | apply Sel.tail)) (GJ.out) (by kernel_rfl) (fun K hK => ?_))
        go_simp
        refine hK _ ?_
        clear hK K
        refine wpB_pure (v := ?v32) (by kernel_rfl) (by kernel_rfl) (fun w' => ?h32) (fun K hK => ?k32)
        case h32 =>
          go_simp
          try rfl
        go_simp
        refine hK _ ?_
        clear hK K
        (refine wpB_storeMR (by kernel_rfl) (by kernel_rfl) rfl rfl rfl (by repeat (first | exact Sel.head | apply Sel.tail)) (LJ.out) (by kernel_rfl) rfl rfl (fun K hK => ?_))
        go_simp
        refine hK _ ?_
        clear hK K
        refine wpB_pure (v := ?v33) (by kernel_rfl) (by kernel_rfl) (fun w' => ?h33) (fun K hK => ?k33)
        case h33 =>
          go_simp
          try rfl
        go_simp
        refine hK _ ?_
        clear hK K
        (refine wpB_storeMR (by kernel_rfl) (by kernel_rfl) rfl rfl rfl (by repeat (first | exact Sel.head | apply Sel.tail)) (LP.out) (by kernel_rfl) rfl rfl (fun K hK => ?_))
        go_simp
        refine hK _ ?_
        clear hK K
        refine wpB_nil (fun w HM => ?_)
        have HS := HYL.out
        rw [vals_swp ys j p] at HM
        go_wp2_with fail
        go_roundw
        case rel =>
          cases f with
          | zero => omega
          | succ f =>
            refine ⟨p, f, swp ys j p, by omega, by have := HP.out; omega, by go_num, by rw [swp_length]; exact HYL.out, ?_, HM⟩
            have h1 := HU.out
            rw [upF_step f ys j ⟨g01, by rw [← HP.out]; exact hz⟩, ← HP.out] at h1
            exact h1
        case measure => have := HP.out; simp [intOf]; omega
      · have g1 : decide (hp ys j < hp ys p) = false := by simp [hz]
        go_upto_region 2 with fail
        refine wp_region_M HM (fun _ => [.row (.slice (some ⟨g, 0, none⟩) xs.length cap) 3 1 xs.length (vals ys)]) rfl (by kernel_rfl) (by kernel_rfl) ?_
        refine wpB_pure (v := ?v34) (by kernel_rfl) (by kernel_rfl) (fun w' => ?h34) (fun K hK => ?k34)
        case h34 =>
          go_simp
          try rfl
        go_simp
        refine hK _ ?_
        clear hK K
        refine wpB_pure (v := ?v35) (by kernel_rfl) (by kernel_rfl) (fun w' => ?h35) (fun K hK => ?k35)
        case h35 =>
          go_simp
          try rfl
        go_simp
        refine hK _ ?_
        clear hK K
        refine wpB_pure (v := ?v36) (by kernel_rfl) (by kernel_rfl) (fun w' => ?h36) (fun K hK => ?k36)
        case h36 =>
          go_simp
          try rfl
        go_simp
        refine hK _ ?_
        clear hK K
        refine wpB_pure (v := ?v37) (by kernel_rfl) (by kernel_rfl) (fun w' => ?h37) (fun K hK => ?k37)
        case h37 =>
          go_simp
          try rfl
        go_simp
        refine hK _ ?_
        clear hK K
        refine wpB_pure (v := ?v38) (by kernel_rfl) (by kernel_rfl) (fun w' => ?h38) (fun K hK => ?k38)
        case h38 =>
          go_simp
          try rfl
        go_simp
        refine hK _ ?_
        clear hK K
        refine wpB_pure (v := ?v39) (by kernel_rfl) (by kernel_rfl) (fun w' => ?h39) (fun K hK => ?k39)
        case h39 =>
          go_simp
          try rfl
        go_simp
        refine hK _ ?_
        clear hK K
        (refine wpB_loadMR (by kernel_rfl) (by kernel_rfl) (by kernel_rfl) rfl rfl (by repeat (first | exact Sel.head | apply Sel.tail)) (GJ.out) (by kernel_rfl) (fun K hK => ?_))
        go_simp
        refine hK _ ?_
        clear hK K
        refine wpB_pure (v := ?v40) (by kernel_rfl) (by kernel_rfl) (fun w' => ?h40) (fun K hK => ?k40)
        case h40 =>
          go_simp
          try rfl
        go_simp
        refine hK _ ?_
        clear hK K
        refine wpB_pure (v := ?v41) (by kernel_rfl) (by kernel_rfl) (fun w' => ?h41) (fun K hK => ?k41)
        case h41 =>
          go_simp
          try rfl
        go_simp
        refine hK _ ?_
        clear hK K
        refine wpB_pure (v := ?v42) (by kernel_rfl) (by kernel_rfl) (fun w' => ?h42) (fun K hK => ?k42)
        case h42 =>
          go_simp
          try rfl
        go_simp
        refine hK _ ?_
        clear hK K
        refine wpB_pure (v := ?v43) (by kernel_rfl) (by kernel_rfl) (fun w' => ?h43) (fun K hK => ?k43)
        case h43 =>
          go_simp
          try rfl
        go_simp
        refine hK _ ?_
        clear hK K
        refine wpB_pure (v := ?v44) (by kernel_rfl) (by kernel_rfl) (fun w' => ?h44) (fun K hK => ?k44)
        case h44 =>
          go_simp
          try rfl
        go_simp
        refine hK _ ?_
        clear hK K
        (refine wpB_loadMR (by kernel_rfl) (by kernel_rfl) (by kernel_rfl) rfl rfl (by repeat (first | exact Sel.head | apply Sel.tail)) (GP.out) (by kernel_rfl) (fun K hK => ?_))
        go_simp
        refine hK _ ?_
        clear hK K
        refine wpB_pure (v := ?v45) (by kernel_rfl) (by kernel_rfl) (fun w' => ?h45) (fun K hK => ?k45)
        case h45 =>
          go_simp
          try rfl
        go_simp
        refine hK _ ?_
        clear hK K
        refine wpB_pure (v := ?v46) (by kernel_rfl) (by kernel_rfl) (fun w' => ?h46) (fun K hK => ?k46)
        case h46 =>
          go_simp
          try rfl
        go_simp
        refine hK _ ?_
        clear hK K
        refine wpB_nil (fun w HM => ?_)
        go_wp2_with fail
        go_ret
        refine ⟨rfl, ?_, HM.kept.mono (fun k hk => by subst hk; rfl)⟩
        have := HU.out
        rw [upF_stop f ys j (by rw [← HP.out]; omega)] at this
        subst this; exact HM.row .head
end Go.Proofs.Ytpedkcpkdacnlaa
end
section
namespace Go.Proofs.Ytpedkcpkdacnlaa
open Go.RowKit
set_option linter.unusedVariables false
theorem downF_stop (f : Nat) (xs : List Int) (i : Nat) (h : xs.length ≤ kid xs i ∨ hp xs i ≤ hp xs (kid xs i)) : downF f xs i = xs := by
  cases f with
  | zero => rfl
  | succ f => simp only [downF]; rw [if_pos h]
theorem downF_step (f : Nat) (xs : List Int) (i : Nat) (h : ¬ (xs.length ≤ kid xs i ∨ hp xs i ≤ hp xs (kid xs i))) : downF (f + 1) xs i = downF f (swp xs i (kid xs i)) (kid xs i) := by
  simp only [downF]; rw [if_neg h]
theorem kid_one (xs : List Int) (i k : Nat) (hk : k = 2 * i + 1) (h : ¬ (2 * i + 2 < xs.length ∧ hp xs (2 * i + 2) < hp xs (2 * i + 1))) : kid xs i = k := by unfold kid; rw [if_neg h, hk]
theorem kid_two (xs : List Int) (i k : Nat) (hk : k = 2 * i + 2) (h : (2 * i + 2 < xs.length ∧ hp xs (2 * i + 2) < hp xs (2 * i + 1))) : kid xs i = k := by unfold kid; rw [if_pos h, hk]
set_option maxRecDepth 20000 in
set_option maxHeartbeats 4000000 in
theorem heap_down (W : World) (g cap : Nat) (xs : List Int) (h : W.ownsRow 0 3 1 (.slice (some ⟨g, 0, none⟩) xs.length cap) xs.length (vals xs)) (hx2 : xs.length ≤ 1000) :
    Calls Try.prog 47 #[.slice (some ⟨g, 0, none⟩) xs.length cap] W fun e w' => e = .returned (.slice (some ⟨g, 0, none⟩) xs.length cap) ∧ w'.ownsRow 0 3 1 (.slice (some ⟨g, 0, none⟩) xs.length cap) xs.length (vals (downF xs.length xs 0)) ∧ Kept (· = g) W w' := by
  obtain ⟨R, hR⟩ : ∃ R, downF xs.length xs 0 = R := ⟨_, rfl⟩
  rw [hR]
  obtain ⟨-, -, -, hc1, -, hc2, -⟩ := ownsRow.cells h
  have HR := Lib.hid hR
  have HM : Mem W (fun g' => g = g') [.row (.slice (some ⟨g, 0, none⟩) xs.length cap) 3 1 xs.length (vals xs)] W := ⟨Kept.refl _ _, fun e he => by simp at he; subst he; exact h, fun e he g' hg => by simp at he; subst he; simp [En.foot, Value.ownBlock] at hg; exact .inl hg, List.pairwise_singleton _ _⟩
  unfold maxLen at hc2
  clear h hR
  go_enter Try.func47, Try.ntmps47
  go_wp2_with fail
  go_loopw [3] (fun i wr => ∃ (j f : Nat) (ys : List Int), (j < xs.length ∨ j = 0) ∧ xs.length ≤ j + f ∧ i = .int .i64 j ∧ ys.length = xs.length ∧ downF f ys j = R ∧ Mem W (fun g' => g = g') [.row (.slice (some ⟨g, 0, none⟩) xs.length cap) 3 1 xs.length (vals ys)] wr) (fun i _ => xs.length - (intOf i).toNat)
  case atStart => exact ⟨0, xs.length, xs, by omega, by omega, by go_num, rfl, HR.out, HM⟩
  case round =>
    clear HM
    obtain ⟨j, f, ys, hj, hf, rfl, hyl, hu, HM⟩ := hrel
    have HU := Lib.hid hu
    have HYL := Lib.hid hyl
    clear hu hyl
    obtain ⟨k, hk⟩ : ∃ k, k = 2 * j + 1 := ⟨_, rfl⟩
    obtain ⟨k2, hk2⟩ : ∃ k2, k2 = 2 * j + 2 := ⟨_, rfl⟩
    have m1 : IntKind.i64.wrap (2 * (j : Int)) = 2 * (j : Int) := IntWalk.i64_in _ (by omega)
    have m2 : 2 * (j : Int) + 1 = (k : Int) := by omega
    have m3 : (k : Int) + 1 = (k2 : Int) := by omega
    have m4 : IntKind.i64.wrap (k : Int) = (k : Int) := IntWalk.i64_in _ (by omega)
    have m5 : IntKind.i64.wrap (k2 : Int) = (k2 : Int) := IntWalk.i64_in _ (by omega)
    have m6 : IntKind.i64.wrap (j : Int) = (j : Int) := IntWalk.i64_in _ (by omega)
    have m7 : wrap64 (k : Int) = (k : Int) := IntWalk.wrap64_in _ ⟨by omega, by omega⟩
    have m8 : wrap64 (k2 : Int) = (k2 : Int) := IntWalk.wrap64_in _ ⟨by omega, by omega⟩
    have HK1 := Lib.hid hk
    have HK2 := Lib.hid hk2
    have hkl : k2 ≤ 3000 ∧ k ≤ 3000 ∧ j < k ∧ k < k2 := by omega
    obtain ⟨z1, z2, z3, z4⟩ := hkl
    clear hk hk2
    go_upto_region 3 with fail
    by_cases hlt : k2 < xs.length
    · have g3 : decide ((k2 : Int) < (xs.length : Int)) = true := by simp; omega
      have GK1 := Lib.hid (vals_get ys k (by have := HYL.out; omega))
      have GK2 := Lib.hid (vals_get ys k2 (by have := HYL.out; omega))
      have p1 : (0 : Int) ≤ (k : Int) ∧ (k : Int) < (xs.length : Int) := by omega
      have p2 : (0 : Int) ≤ (k2 : Int) ∧ (k2 : Int) < (xs.length : Int) := by omega
      by_cases hy : hp ys k2 < hp ys k
      · have g4 : decide (hp ys k2 < hp ys k) = true := by simp [hy]
        refine wp_region_M HM (fun _ => [.row (.slice (some ⟨g, 0, none⟩) xs.length cap) 3 1 xs.length (vals ys)]) rfl (by kernel_rfl) (by kernel_rfl) ?_
        refine wpB_pure (v := ?v1) (by kernel_rfl) (by kernel_rfl) (fun w' => ?h1) (fun K hK => ?k1)
        case h1 =>
          go_simp
          try rfl
        go_simp
        refine hK _ ?_
        clear hK K
        refine wpB_pure (v := ?v2) (by kernel_rfl) (by kernel_rfl) (fun w' => ?h2) (fun K hK => ?k2)
        case h2 =>
          go_simp
          try rfl
        go_simp
        refine hK _ ?_
        clear hK K
        refine wpB_pure (v := ?v3) (by kernel_rfl) (by kernel_rfl) (fun w' => ?h3) (fun K hK => ?k3)
        case h3 =>
          go_simp
          try rfl
        go_simp
        refine hK _ ?_
        clear hK K
        refine wpB_pure (v := ?v4) (by kernel_rfl) (by kernel_rfl) (fun w' => ?h4) (fun K hK => ?k4)
        case h4 =>
          go_simp
          try rfl
        go_simp
        refine hK _ ?_
        clear hK K
        refine wpB_pure (v := ?v5) (by kernel_rfl) (by kernel_rfl) (fun w' => ?h5) (fun K hK => ?k5)
        case h5 =>
          go_simp
          try rfl
        go_simp
        refine hK _ ?_
        clear hK K
        refine wpB_pure (v := ?v6) (by kernel_rfl) (by kernel_rfl) (fun w' => ?h6) (fun K hK => ?k6)
        case h6 =>
          go_simp
          try rfl
        go_simp
        refine hK _ ?_
        clear hK K
        refine wpB_pure (v := ?v7) (by kernel_rfl) (by kernel_rfl) (fun w' => ?h7) (fun K hK => ?k7)
        case h7 =>
          go_simp
          try rfl
        go_simp
        refine hK _ ?_
        clear hK K
        refine wpB_pure (v := ?v8) (by kernel_rfl) (by kernel_rfl) (fun w' => ?h8) (fun K hK => ?k8)
        case h8 =>
          go_simp
          try rfl
        go_simp
        refine hK _ ?_
        clear hK K
        refine wpB_pure (v := ?v9) (by kernel_rfl) (by kernel_rfl) (fun w' => ?h9) (fun K hK => ?k9)
        case h9 =>
          go_simp
          try rfl
        go_simp
        refine hK _ ?_
        clear hK K
        refine wpB_pure (v := ?v10) (by kernel_rfl) (by kernel_rfl) (fun w' => ?h10) (fun K hK => ?k10)
        case h10 =>
          go_simp
          try rfl
        go_simp
        refine hK _ ?_
        clear hK K
        (refine wpB_loadMR (by kernel_rfl) (by kernel_rfl) (by kernel_rfl) rfl rfl (by repeat (first | exact Sel.head | apply Sel.tail)) (GK2.out) (by kernel_rfl) (fun K hK => ?_))
        go_simp
        refine hK _ ?_
        clear hK K
        refine wpB_pure (v := ?v11) (by kernel_rfl) (by kernel_rfl) (fun w' => ?h11) (fun K hK => ?k11)
        case h11 =>
          go_simp
          try rfl
        go_simp
        refine hK _ ?_
        clear hK K
        refine wpB_pure (v := ?v12) (by kernel_rfl) (by kernel_rfl) (fun w' => ?h12) (fun K hK => ?k12)
        case h12 =>
          go_simp
          try rfl
        go_simp
        refine hK _ ?_
        clear hK K
        refine wpB_pure (v := ?v13) (by kernel_rfl) (by kernel_rfl) (fun w' => ?h13) (fun K hK => ?k13)
        case h13 =>
          go_simp
          try rfl
        go_simp
        refine hK _ ?_
        clear hK K
        (refine wpB_loadMR (by kernel_rfl) (by kernel_rfl) (by kernel_rfl) rfl rfl (by repeat (first | exact Sel.head | apply Sel.tail)) (GK1.out) (by kernel_rfl) (fun K hK => ?_))
        go_simp
        refine hK _ ?_
        clear hK K
        refine wpB_pure (v := ?v14) (by kernel_rfl) (by kernel_rfl) (fun w' => ?h14) (fun K hK => ?k14)
        case h14 =>
          go_simp
          try rfl
        go_simp
        refine hK _ ?_
        clear hK K
        refine wpB_pure (v := ?v15) (by kernel_rfl) (by kernel_rfl) (fun w' => ?h15) (fun K hK => ?k15)
        case h15 =>
          go_simp
          try rfl
        go_simp
        refine hK _ ?_
        clear hK K
        refine wpB_nil (fun w HM => ?_)
        have HKID : Hid (kid ys j = k2) := Lib.hid (kid_two ys j k2 HK2.out (by rw [← HK1.out, ← HK2.out, HYL.out]; exact ⟨hlt, hy⟩))
        have HKL : Hid (j < k2) := Lib.hid (by omega)
        clear GK1 GK2
        by_cases hkn : xs.length ≤ k2
        · have g5 : decide ((xs.length : Int) ≤ (k2 : Int)) = true := by simp; omega
          go_upto_region 5 with fail
          refine wp_region_M HM (fun _ => [.row (.slice (some ⟨g, 0, none⟩) xs.length cap) 3 1 xs.length (vals ys)]) rfl (by kernel_rfl) (by kernel_rfl) ?_
          refine wpB_pure (v := ?v16) (by kernel_rfl) (by kernel_rfl) (fun w' => ?h16) (fun K hK => ?k16)
          case h16 =>
            go_simp
            try rfl
          go_simp
          refine hK _ ?_
          clear hK K
          refine wpB_pure (v := ?v17) (by kernel_rfl) (by kernel_rfl) (fun w' => ?h17) (fun K hK => ?k17)
          case h17 =>
            go_simp
            try rfl
          go_simp
          refine hK _ ?_
          clear hK K
          refine wpB_pure (v := ?v18) (by kernel_rfl) (by kernel_rfl) (fun w' => ?h18) (fun K hK => ?k18)
          case h18 =>
            go_simp
            try rfl
          go_simp
          refine hK _ ?_
          clear hK K
          refine wpB_pure (v := ?v19) (by kernel_rfl) (by kernel_rfl) (fun w' => ?h19) (fun K hK => ?k19)
          case h19 =>
            go_simp
            try rfl
          go_simp
          refine hK _ ?_
          clear hK K
          refine wpB_pure (v := ?v20) (by kernel_rfl) (by kernel_rfl) (fun w' => ?h20) (fun K hK => ?k20)
          case h20 =>
            go_simp
            try rfl
          go_simp
          refine hK _ ?_
          clear hK K
          refine wpB_skip (by kernel_rfl) (by kernel_rfl) (fun K hK => ?_)
          go_simp
          refine hK _ ?_
          clear hK K
          refine wpB_skip (by kernel_rfl) (by kernel_rfl) (fun K hK => ?_)
          go_simp
          refine hK _ ?_
          clear hK K
          refine wpB_skip (by kernel_rfl) (by kernel_rfl) (fun K hK => ?_)
          go_simp
          refine hK _ ?_
          clear hK K
          refine wpB_skip (by kernel_rfl) (by kernel_rfl) (fun K hK => ?_)
          go_simp
          refine hK _ ?_
          clear hK K
          refine wpB_skip (by kernel_rfl) (by kernel_rfl) (fun K hK => ?_)
          go_simp
          refine hK _ ?_
          clear hK K
          refine wpB_skip (by kernel_rfl) (by kernel_rfl) (fun K hK => ?_)
          go_simp
          refine hK _ ?_
          clear hK K
          refine wpB_skip (by kernel_rfl) (by kernel_rfl) (fun K hK => ?_)
          go_simp
          refine hK _ ?_
          clear hK K
          refine wpB_skip (by kernel_rfl) (by kernel_rfl) (fun K hK => ?_)
          go_simp
          refine hK _ ?_
          clear hK K
          refine wpB_skip (by kernel_rfl) (by kernel_rfl) (fun K hK => ?_)
          go_simp
          refine hK _ ?_
          clear hK K
          refine wpB_pure (v := ?v21) (by kernel_rfl) (by kernel_rfl) (fun w' => ?h21) (fun K hK => ?k21)
          case h21 =>
            go_simp
            try rfl
          go_simp
          refine hK _ ?_
          clear hK K
          refine wpB_nil (fun w HM => ?_)
          go_wp2_with fail
          go_ret
          refine ⟨rfl, ?_, HM.kept.mono (fun k hk => by subst hk; rfl)⟩
          have := HU.out
          rw [downF_stop f ys j (.inl (by rw [HKID.out, HYL.out]; exact hkn))] at this
          subst this; exact HM.row .head
        · have g5 : decide ((xs.length : Int) ≤ (k2 : Int)) = false := by simp; omega
          have GJ := Lib.hid (vals_get ys j (by have := HYL.out; omega))
          have GK := Lib.hid (vals_get ys k2 (by have := HYL.out; omega))
          have LJ : Hid (j < (vals ys).length) := Lib.hid (by rw [vals_len]; have := HYL.out; omega)
          have LK : Hid (k2 < ((vals ys).set j (.int .i64 (hp ys k2))).length) := Lib.hid (by rw [List.length_set, vals_len]; have := HYL.out; omega)
          have q1 : (0 : Int) ≤ (k2 : Int) ∧ (k2 : Int) < (xs.length : Int) := by omega
          have q2 : (0 : Int) ≤ (j : Int) ∧ (j : Int) < (xs.length : Int) := by omega
          by_cases hz : hp ys j ≤ hp ys k2
          · have g6 : decide (hp ys j ≤ hp ys k2) = true := by simp [hz]
            go_upto_region 5 with fail
            refine wp_region_M HM (fun _ => [.row (.slice (some ⟨g, 0, none⟩) xs.length cap) 3 1 xs.length (vals ys)]) rfl (by kernel_rfl) (by kernel_rfl) ?_
            refine wpB_pure (v := ?v22) (by kernel_rfl) (by kernel_rfl) (fun w' => ?h22) (fun K hK => ?k22)
            case h22 =>
              go_simp
              try rfl
            go_simp
            refine hK _ ?_
            clear hK K
            refine wpB_pure (v := ?v23) (by kernel_rfl) (by kernel_rfl) (fun w' => ?h23) (fun K hK => ?k23)
            case h23 =>
              go_simp
              try rfl
            go_simp
            refine hK _ ?_
            clear hK K
            refine wpB_pure (v := ?v24) (by kernel_rfl) (by kernel_rfl) (fun w' => ?h24) (fun K hK => ?k24)
            case h24 =>
              go_simp
              try rfl
            go_simp
            refine hK _ ?_
            clear hK K
            refine wpB_pure (v := ?v25) (by kernel_rfl) (by kernel_rfl) (fun w' => ?h25) (fun K hK => ?k25)
            case h25 =>
              go_simp
              try rfl
            go_simp
            refine hK _ ?_
            clear hK K
            refine wpB_pure (v := ?v26) (by kernel_rfl) (by kernel_rfl) (fun w' => ?h26) (fun K hK => ?k26)
            case h26 =>
              go_simp
              try rfl
            go_simp
            refine hK _ ?_
            clear hK K
            refine wpB_pure (v := ?v27) (by kernel_rfl) (by kernel_rfl) (fun w' => ?h27) (fun K hK => ?k27)
            case h27 =>
              go_simp
              try rfl
            go_simp
            refine hK _ ?_
            clear hK K
            refine wpB_pure (v := ?v28) (by kernel_rfl) (by kernel_rfl) (fun w' => ?h28) (fun K hK => ?k28)
            case h28 =>
              go_simp
              try rfl
            go_simp
            refine hK _ ?_
            clear hK K
            refine wpB_pure (v := ?v29) (by kernel_rfl) (by kernel_rfl) (fun w' => ?h29) (fun K hK => ?k29)
            case h29 =>
              go_simp
              try rfl
            go_simp
            refine hK _ ?_
            clear hK K
            (refine wpB_loadMR (by kernel_rfl) (by kernel_rfl) (by kernel_rfl) rfl rfl (by repeat (first | exact Sel.head | apply Sel.tail)) (GJ.out) (by kernel_rfl) (fun K hK => ?_))
            go_simp
            refine hK _ ?_
            clear hK K
            refine wpB_pure (v := ?v30) (by kernel_rfl) (by kernel_rfl) (fun w' => ?h30) (fun K hK => ?k30)
            case h30 =>
              go_simp
              try rfl
            go_simp
            refine hK _ ?_
            clear hK K
            refine wpB_pure (v := ?v31) (by kernel_rfl) (by kernel_rfl) (fun w' => ?h31) (fun K hK => ?k31)
            case h31 =>
              go_simp
              try rfl
            go_simp
            refine hK _ ?_
            clear hK K
            refine wpB_pure (v := ?v32) (by kernel_rfl) (by kernel_rfl) (fun w' => ?h32) (fun K hK => ?k32)
            case h32 =>
              go_simp
              try rfl
            go_simp
            refine hK _ ?_
            clear hK K
            (refine wpB_loadMR (by kernel_rfl) (by kernel_rfl) (by kernel_rfl) rfl rfl (by repeat (first | exact Sel.head | apply Sel.tail)) (GK.out) (by kernel_rfl) (fun K hK => ?_))
            go_simp
            refine hK _ ?_
            clear hK K
            refine wpB_pure (v := ?v33) (by kernel_rfl) (by kernel_rfl) (fun w' => ?h33) (fun K hK => ?k33)
            case h33 =>
              go_simp
              try rfl
            go_simp
            refine hK _ ?_
            clear hK K
            refine wpB_pure (v := ?v34) (by kernel_rfl) (by kernel_rfl) (fun w' => ?h34) (fun K hK => ?k34)
            case h34 =>
              go_simp
              try rfl
            go_simp
            refine hK _ ?_
            clear hK K
            refine wpB_nil (fun w HM => ?_)
            go_wp2_with fail
            go_ret
            refine ⟨rfl, ?_, HM.kept.mono (fun k hk => by subst hk; rfl)⟩
            have := HU.out
            rw [downF_stop f ys j (.inr (by rw [HKID.out]; exact hz))] at this
            subst this; exact HM.row .head
          · have g6 : decide (hp ys j ≤ hp ys k2) = false := by simp [hz]
            go_upto_region 5 with fail
            refine wp_region_M HM (fun _ => [.row (.slice (some ⟨g, 0, none⟩) xs.length cap) 3 1 xs.length (vals ys)]) rfl (by kernel_rfl) (by kernel_rfl) ?_
            refine wpB_pure (v := ?v35) (by kernel_rfl) (by kernel_rfl) (fun w' => ?h35) (fun K hK => ?k35)
            case h35 =>
              go_simp
              try rfl
            go_simp
            refine hK _ ?_
            clear hK K
            refine wpB_pure (v := ?v36) (by kernel_rfl) (by kernel_rfl) (fun w' => ?h36) (fun K hK => ?k36)
            case h36 =>
              go_simp
              try rfl
            go_simp
            refine hK _ ?_
            clear hK K
            refine wpB_pure (v := ?v37) (by kernel_rfl) (by kernel_rfl) (fun w' => ?h37) (fun K hK => ?k37)
            case h37 =>
              go_simp
              try rfl
            go_simp
            refine hK _ ?_
            clear hK K
            refine wpB_pure (v := ?v38) (by kernel_rfl) (by kernel_rfl) (fun w' => ?h38) (fun K hK => ?k38)
            case h38 =>
              go_simp
              try rfl
            go_simp
            refine hK _ ?_
            clear hK K
            refine wpB_pure (v := ?v39) (by kernel_rfl) (by kernel_rfl) (fun w' => ?h39) (fun K hK => ?k39)
            case h39 =>
              go_simp
              try rfl
            go_simp
            refine hK _ ?_
            clear hK K
            refine wpB_pure (v := ?v40) (by kernel_rfl) (by kernel_rfl) (fun w' => ?h40) (fun K hK => ?k40)
            case h40 =>
              go_simp
              try rfl
            go_simp
            refine hK _ ?_
            clear hK K
            refine wpB_pure (v := ?v41) (by kernel_rfl) (by kernel_rfl) (fun w' => ?h41) (fun K hK => ?k41)
            case h41 =>
              go_simp
              try rfl
            go_simp
            refine hK _ ?_
            clear hK K
            refine wpB_pure (v := ?v42) (by kernel_rfl) (by kernel_rfl) (fun w' => ?h42) (fun K hK => ?k42)
            case h42 =>
              go_simp
              try rfl
            go_simp
            refine hK _ ?_
            clear hK K
            (refine wpB_loadMR (by kernel_rfl) (by kernel_rfl) (by kernel_rfl) rfl rfl (by repeat (first | exact Sel.head | apply Sel.tail)) (GJ.out) (by kernel_rfl) (fun K hK => ?_))
            go_simp
            refine hK _ ?_
            clear hK K
            refine wpB_pure (v := ?v43) (by kernel_rfl) (by kernel_rfl) (fun w' => ?h43) (fun K hK => ?k43)
            case h43 =>
              go_simp
              try rfl
            go_simp
            refine hK _ ?_
            clear hK K
            refine wpB_pure (v := ?v44) (by kernel_rfl) (by kernel_rfl) (fun w' => ?h44) (fun K hK => ?k44)
            case h44 =>
              go_simp
              try rfl
            go_simp
            refine hK _ ?_
            clear hK K
            refine wpB_pure (v := ?v45) (by kernel_rfl) (by kernel_rfl) (fun w' => ?h45) (fun K hK => ?k45)
            case h45 =>
              go_simp
              try rfl
            go_simp
            refine hK _ ?_
            clear hK K
            (refine wpB_loadMR (by kernel_rfl) (by kernel_rfl) (by kernel_rfl) rfl rfl (by repeat (first | exact Sel.head | apply Sel.tail)) (GK.out) (by kernel_rfl) (fun K hK => ?_))
            go_simp
            refine hK _ ?_
            clear hK K
            refine wpB_pure (v := ?v46) (by kernel_rfl) (by kernel_rfl) (fun w' => ?h46) (fun K hK => ?k46)
            case h46 =>
              go_simp
              try rfl
            go_simp
            refine hK _ ?_
            clear hK K
            refine wpB_pure (v := ?v47) (by kernel_rfl) (by kernel_rfl) (fun w' => ?h47) (fun K hK => ?k47)
            case h47 =>
              go_simp
              try rfl
            go_simp
            refine hK _ ?_
            clear hK K
            refine wpB_nil (fun w HM => ?_)
            go_upto_region 7 with fail
            refine wp_region_M HM (fun ix => match ix with | 0 => [.row (.slice (some ⟨g, 0, none⟩) xs.length cap) 3 1 xs.length (vals ys)] | 1 => [.row (.slice (some ⟨g, 0, none⟩) xs.length cap) 3 1 xs.length ((vals ys).set j (.int .i64 (hp ys k2)))] | _ => [.row (.slice (some ⟨g, 0, none⟩) xs.length cap) 3 1 xs.length (((vals ys).set j (.int .i64 (hp ys k2))).set k2 (.int .i64 (hp ys j)))]) rfl (by kernel_rfl) (by kernel_rfl) ?_
            refine wpB_pure (v := ?v48) (by kernel_rfl) (by kernel_rfl) (fun w' => ?h48) (fun K hK => ?k48)
            case h48 =>
              go_simp
              try rfl
            go_simp
            refine hK _ ?_
            clear hK K
            refine wpB_pure (v := ?v49) (by kernel_rfl) (by kernel_rfl) (fun w' => ?h49) (fun K hK => ?k49)
            case h49 =>
              go_simp
              try rfl
            go_simp
            refine hK _ ?_
            clear hK K
            refine wpB_pure (v := ?v50) (by kernel_rfl) (by kernel_rfl) (fun w' => ?h50) (fun K hK => ?k50)
            case h50 =>
              go_simp
              try rfl
            go_simp
            refine hK _ ?_
            clear hK K
            refine wpB_pure (v := ?v51) (by kernel_rfl) (by kernel_rfl) (fun w' => ?h51) (fun K hK => ?k51)
            case h51 =>
              go_simp
              try rfl
            go_simp
            refine hK _ ?_
            clear hK K
            refine wpB_pure (v := ?v52) (by kernel_rfl) (by kernel_rfl) (fun w' => ?h52) (fun K hK => ?k52)
            case h52 =>
              go_simp
              try rfl
            go_simp
            refine hK _ ?_
            clear hK K
            refine wpB_pure (v := ?v53) (by kernel_rfl) (by kernel_rfl) (fun w' => ?h53) (fun K hK => ?k53)
            case h53 =>
              go_simp
              try rfl
            go_simp
            refine hK _ ?_
            clear hK K
            refine wpB_pure (v := ?v54) (by kernel_rfl) (by kernel_rfl) (fun w' => ?h54) (fun K hK => ?k54)
            case h54 =>
              go_simp
              try rfl
            go_simp
            refine hK _ ?_
            clear hK K
            (refine wpB_loadMR (by kernel_rfl) (by kernel_rfl) (by kernel_rfl) rfl rfl (by repeat (first | exact Sel.head | apply Sel.tail)) (GK.out) (by kernel_rfl) (fun K hK => ?_))
            go_simp
            refine hK _ ?_
            clear hK K
            refine wpB_pure (v := ?v55) (by kernel_rfl) (by kernel_rfl) (fun w' => ?h55) (fun K hK => ?k55)
            case h55 =>
              go_simp
              try rfl
            go_simp
            refine hK _ ?_
            clear hK K
            refine wpB_pure (v := ?v56) (by kernel_rfl) (by kernel_rfl) (fun w' => ?h56) (fun K hK => ?k56)
            case h56 =>
              go_simp
              try rfl
            go_simp
            refine hK _ ?_
            clear hK K
            refine wpB_pure (v := ?v57) (by kernel_rfl) (by kernel_rfl) (fun w' => ?h57) (fun K hK => ?k57)
            case h57 =>
              go_simp
              try rfl
            go_simp
            refine hK _ ?_
            clear hK K
            (refine wpB_loadMR (by kernel_rfl) (by kernel_rfl) (by kernel_rfl) rfl rfl (by repeat (first | exact Sel.head | apply Sel.tail)) (GJ.out) (by kernel_rfl) (fun K hK => ?_))
            go_simp
            refine hK _ ?_
            clear hK K
            refine wpB_pure (v := ?v58) (by kernel_rfl) (by kernel_rfl) (fun w' => ?h58) (fun K hK => ?k58)
            case h58 =>
              go_simp
              try rfl
            go_simp
            refine hK _ ?_
            clear hK K
            (refine wpB_storeMR (by kernel_rfl) (by kernel_rfl) rfl rfl rfl (by repeat (first | exact Sel.head | apply Sel.tail)) (LJ.out) (by kernel_rfl) rfl rfl (fun K hK => ?_))
            go_simp
            refine hK _ ?_
            clear hK K
            refine wpB_pure (v := ?v59) (by kernel_rfl) (by kernel_rfl) (fun w' => ?h59) (fun K hK => ?k59)
            case h59 =>
              go_simp
              try rfl
            go_simp
            refine hK _ ?_
            clear hK K
            (refine wpB_storeMR (by kernel_rfl) (by kernel_rfl) rfl rfl rfl (by repeat (first | exact Sel.head | apply Sel.tail)) (LK.out) (by kernel_rfl) rfl rfl (fun K hK => ?_))
            go_simp
            refine hK _ ?_
            clear hK K
            refine wpB_nil (fun w HM => ?_)
            rw [vals_swp ys j k2] at HM
            go_wp2_with fail
            go_roundw
            case rel =>
              cases f with
              | zero => omega
              | succ f =>
                refine ⟨k2, f, swp ys j k2, by omega, by have := HKL.out; omega, by go_num, by rw [swp_length]; exact HYL.out, ?_, HM⟩
                have h1 := HU.out
                rw [downF_step f ys j (by rw [HKID.out, HYL.out]; omega), HKID.out] at h1
                exact h1
            case measure => have := HKL.out; simp [intOf]; omega
      · have g4 : decide (hp ys k2 < hp ys k) = false := by simp [hy]
        refine wp_region_M HM (fun _ => [.row (.slice (some ⟨g, 0, none⟩) xs.length cap) 3 1 xs.length (vals ys)]) rfl (by kernel_rfl) (by kernel_rfl) ?_
        refine wpB_pure (v := ?v60) (by kernel_rfl) (by kernel_rfl) (fun w' => ?h60) (fun K hK => ?k60)
        case h60 =>
          go_simp
          try rfl
        go_simp
        refine hK _ ?_
        clear hK K
        refine wpB_pure (v := ?v61) (by kernel_rfl) (by kernel_rfl) (fun w' => ?h61) (fun K hK => ?k61)
        case h61 =>
          go_simp
          try rfl
        go_simp
        refine hK _ ?_
        clear hK K
        refine wpB_pure (v := ?v62) (by kernel_rfl) (by kernel_rfl) (fun w' => ?h62) (fun K hK => ?k62)
        case h62 =>
          go_simp
          try rfl
        go_simp
        refine hK _ ?_
        clear hK K
        refine wpB_pure (v := ?v63) (by kernel_rfl) (by kernel_rfl) (fun w' => ?h63) (fun K hK => ?k63)
        case h63 =>
          go_simp
          try rfl
        go_simp
        refine hK _ ?_
        clear hK K
        refine wpB_pure (v := ?v64) (by kernel_rfl) (by kernel_rfl) (fun w' => ?h64) (fun K hK => ?k64)
        case h64 =>
          go_simp
          try rfl
        go_simp
        refine hK _ ?_
        clear hK K
        refine wpB_pure (v := ?v65) (by kernel_rfl) (by kernel_rfl) (fun w' => ?h65) (fun K hK => ?k65)
        case h65 =>
          go_simp
          try rfl
        go_simp
        refine hK _ ?_
        clear hK K
        refine wpB_pure (v := ?v66) (by kernel_rfl) (by kernel_rfl) (fun w' => ?h66) (fun K hK => ?k66)
        case h66 =>
          go_simp
          try rfl
        go_simp
        refine hK _ ?_
        clear hK K
        refine wpB_pure (v := ?v67) (by kernel_rfl) (by kernel_rfl) (fun w' => ?h67) (fun K hK => ?k67)
        case h67 =>
          go_simp
          try rfl
        go_simp
        refine hK _ ?_
        clear hK K
        refine wpB_pure (v := ?v68) (by kernel_rfl) (by kernel_rfl) (fun w' => ?h68) (fun K hK => ?k68)
        case h68 =>
          go_simp
          try rfl
        go_simp
        refine hK _ ?_
        clear hK K
        refine wpB_pure (v := ?v69) (by kernel_rfl) (by kernel_rfl) (fun w' => ?h69) (fun K hK => ?k69)
        case h69 =>
          go_simp
          try rfl
        go_simp
        refine hK _ ?_
        clear hK K
        (refine wpB_loadMR (by kernel_rfl) (by kernel_rfl) (by kernel_rfl) rfl rfl (by repeat (first | exact Sel.head | apply Sel.tail)) (GK2.out) (by kernel_rfl) (fun K hK => ?_))
        go_simp
        refine hK _ ?_
        clear hK K
        refine wpB_pure (v := ?v70) (by kernel_rfl) (by kernel_rfl) (fun w' => ?h70) (fun K hK => ?k70)
        case h70 =>
          go_simp
          try rfl
        go_simp
        refine hK _ ?_
        clear hK K
        refine wpB_pure (v := ?v71) (by kernel_rfl) (by kernel_rfl) (fun w' => ?h71) (fun K hK => ?k71)
        case h71 =>
          go_simp
          try rfl
        go_simp
        refine hK _ ?_
        clear hK K
        refine wpB_pure (v := ?v72) (by kernel_rfl) (by kernel_rfl) (fun w' => ?h72) (fun K hK => ?k72)
        case h72 =>
          go_simp
          try rfl
        go_simp
        refine hK _ ?_
        clear hK K
        (refine wpB_loadMR (by kernel_rfl) (by kernel_rfl) (by kernel_rfl) rfl rfl (by repeat (first | exact Sel.head | apply Sel.tail)) (GK1.out) (by kernel_rfl) (fun K hK => ?_))
        go_simp
        refine hK _ ?_
        clear hK K
        refine wpB_pure (v := ?v73) (by kernel_rfl) (by kernel_rfl) (fun w' => ?h73) (fun K hK => ?k73)
        case h73 =>
          go_simp
          try rfl
        go_simp
        refine hK _ ?_
        clear hK K
        refine wpB_pure (v := ?v74) (by kernel_rfl) (by kernel_rfl) (fun w' => ?h74) (fun K hK => ?k74)
        case h74 =>
          go_simp
          try rfl
        go_simp
        refine hK _ ?_
        clear hK K
        refine wpB_nil (fun w HM => ?_)
        have HKID : Hid (kid ys j = k) := Lib.hid (kid_one ys j k HK1.out (by rw [← HK1.out, ← HK2.out]; omega))
        have HKL : Hid (j < k) := Lib.hid (by omega)
        clear GK1 GK2
        by_cases hkn : xs.length ≤ k
        · have g5 : decide ((xs.length : Int) ≤ (k : Int)) = true := by simp; omega
          go_upto_region 5 with fail
          refine wp_region_M HM (fun _ => [.row (.slice (some ⟨g, 0, none⟩) xs.length cap) 3 1 xs.length (vals ys)]) rfl (by kernel_rfl) (by kernel_rfl) ?_
          refine wpB_pure (v := ?v75) (by kernel_rfl) (by kernel_rfl) (fun w' => ?h75) (fun K hK => ?k75)
          case h75 =>
            go_simp
            try rfl
          go_simp
          refine hK _ ?_
          clear hK K
          refine wpB_pure (v := ?v76) (by kernel_rfl) (by kernel_rfl) (fun w' => ?h76) (fun K hK => ?k76)
          case h76 =>
            go_simp
            try rfl
          go_simp
          refine hK _ ?_
          clear hK K
          refine wpB_pure (v := ?v77) (by kernel_rfl) (by kernel_rfl) (fun w' => ?h77) (fun K hK => ?k77)
          case h77 =>
            go_simp
            try rfl
          go_simp
          refine hK _ ?_
          clear hK K
          refine wpB_pure (v := ?v78) (by kernel_rfl) (by kernel_rfl) (fun w' => ?h78) (fun K hK => ?k78)
          case h78 =>
            go_simp
            try rfl
          go_simp
          refine hK _ ?_
          clear hK K
          refine wpB_pure (v := ?v79) (by kernel_rfl) (by kernel_rfl) (fun w' => ?h79) (fun K hK => ?k79)
          case h79 =>
            go_simp
            try rfl
          go_simp
          refine hK _ ?_
          clear hK K
          refine wpB_skip (by kernel_rfl) (by kernel_rfl) (fun K hK => ?_)
          go_simp
          refine hK _ ?_
          clear hK K
          refine wpB_skip (by kernel_rfl) (by kernel_rfl) (fun K hK => ?_)
          go_simp
          refine hK _ ?_
          clear hK K
          refine wpB_skip (by kernel_rfl) (by kernel_rfl) (fun K hK => ?_)
          go_simp
          refine hK _ ?_
          clear hK K
          refine wpB_skip (by kernel_rfl) (by kernel_rfl) (fun K hK => ?_)
          go_simp
          refine hK _ ?_
          clear hK K
          refine wpB_skip (by kernel_rfl) (by kernel_rfl) (fun K hK => ?_)
          go_simp
          refine hK _ ?_
          clear hK K
          refine wpB_skip (by kernel_rfl) (by kernel_rfl) (fun K hK => ?_)
          go_simp
          refine hK _ ?_
          clear hK K
          refine wpB_skip (by kernel_rfl) (by kernel_rfl) (fun K hK => ?_)
          go_simp
          refine hK _ ?_
          clear hK K
          refine wpB_skip (by kernel_rfl) (by kernel_rfl) (fun K hK => ?_)
          go_simp
          refine hK _ ?_
          clear hK K
          refine wpB_skip (by kernel_rfl) (by kernel_rfl) (fun K hK => ?_)
          go_simp
          refine hK _ ?_
          clear hK K
          refine wpB_pure (v := ?v80) (by kernel_rfl) (by kernel_rfl) (fun w' => ?h80) (fun K hK => ?k80)
          case h80 =>
            go_simp
            try rfl
          go_simp
          refine hK _ ?_
          clear hK K
          refine wpB_nil (fun w HM => ?_)
          go_wp2_with fail
          go_ret
          refine ⟨rfl, ?_, HM.kept.mono (fun k hk => by subst hk; rfl)⟩
          have := HU.out
          rw [downF_stop f ys j (.inl (by rw [HKID.out, HYL.out]; exact hkn))] at this
          subst this; exact HM.row .head
        · have g5 : decide ((xs.length : Int) ≤ (k : Int)) = false := by simp; omega
          have GJ := Lib.hid (vals_get ys j (by have := HYL.out; omega))
          have GK := Lib.hid (vals_get ys k (by have := HYL.out; omega))
          have LJ : Hid (j < (vals ys).length) := Lib.hid (by rw [vals_len]; have := HYL.out; omega)
          have LK : Hid (k < ((vals ys).set j (.int .i64 (hp ys k))).length) := Lib.hid (by rw [List.length_set, vals_len]; have := HYL.out; omega)
          have q1 : (0 : Int) ≤ (k : Int) ∧ (k : Int) < (xs.length : Int) := by omega
          have q2 : (0 : Int) ≤ (j : Int) ∧ (j : Int) < (xs.length : Int) := by omega
          by_cases hz : hp ys j ≤ hp ys k
          · have g6 : decide (hp ys j ≤ hp ys k) = true := by simp [hz]
            go_upto_region 5 with fail
            refine wp_region_M HM (fun _ => [.row (.slice (some ⟨g, 0, none⟩) xs.length cap) 3 1 xs.length (vals ys)]) rfl (by kernel_rfl) (by kernel_rfl) ?_
            refine wpB_pure (v := ?v81) (by kernel_rfl) (by kernel_rfl) (fun w' => ?h81) (fun K hK => ?k81)
            case h81 =>
              go_simp
              try rfl
            go_simp
            refine hK _ ?_
            clear hK K
            refine wpB_pure (v := ?v82) (by kernel_rfl) (by kernel_rfl) (fun w' => ?h82) (fun K hK => ?k82)
            case h82 =>
              go_simp
              try rfl
            go_simp
            refine hK _ ?_
            clear hK K
            refine wpB_pure (v := ?v83) (by kernel_rfl) (by kernel_rfl) (fun w' => ?h83) (fun K hK => ?k83)
            case h83 =>
              go_simp
              try rfl
            go_simp
            refine hK _ ?_
            clear hK K
            refine wpB_pure (v := ?v84) (by kernel_rfl) (by kernel_rfl) (fun w' => ?h84) (fun K hK => ?k84)
            case h84 =>
              go_simp
              try rfl
            go_simp
            refine hK _ ?_
            clear hK K
            refine wpB_pure (v := ?v85) (by kernel_rfl) (by kernel_rfl) (fun w' => ?h85) (fun K hK => ?k85)
            case h85 =>
              go_simp
              try rfl
            go_simp
            refine hK _ ?_
            clear hK K
            refine wpB_pure (v := ?v86) (by kernel_rfl) (by kernel_rfl) (fun w' => ?h86) (fun K hK => ?k86)
            case h86 =>
              go_simp
              try rfl
            go_simp
            refine hK _ ?_
            clear hK K
            refine wpB_pure (v := ?v87) (by kernel_rfl) (by kernel_rfl) (fun w' => ?h87) (fun K hK => ?k87)
            case h87 =>
              go_simp
              try rfl
            go_simp
            refine hK _ ?_
            clear hK K
            refine wpB_pure (v := ?v88) (by kernel_rfl) (by kernel_rfl) (fun w' => ?h88) (fun K hK => ?k88)
            case h88 =>
              go_simp
              try rfl
            go_simp
            refine hK _ ?_
            clear hK K
            (refine wpB_loadMR (by kernel_rfl) (by kernel_rfl) (by kernel_rfl) rfl rfl (by repeat (first | exact Sel.head | apply Sel.tail)) (GJ.out) (by kernel_rfl) (fun K hK => ?_))
            go_simp
            refine hK _ ?_
            clear hK K
            refine wpB_pure (v := ?v89) (by kernel_rfl) (by kernel_rfl) (fun w' => ?h89) (fun K hK => ?k89)
            case h89 =>
              go_simp
              try rfl
            go_simp
            refine hK _ ?_
            clear hK K
            refine wpB_pure (v := ?v90) (by kernel_rfl) (by kernel_rfl) (fun w' => ?h90) (fun K hK => ?k90)
            case h90 =>
              go_simp
              try rfl
            go_simp
            refine hK _ ?_
            clear hK K
            refine wpB_pure (v := ?v91) (by kernel_rfl) (by kernel_rfl) (fun w' => ?h91) (fun K hK => ?k91)
            case h91 =>
              go_simp
              try rfl
            go_simp
            refine hK _ ?_
            clear hK K
            (refine wpB_loadMR (by kernel_rfl) (by kernel_rfl) (by kernel_rfl) rfl rfl (by repeat (first | exact Sel.head | apply Sel.tail)) (GK.out) (by kernel_rfl) (fun K hK => ?_))
            go_simp
            refine hK _ ?_
            clear hK K
            refine wpB_pure (v := ?v92) (by kernel_rfl) (by kernel_rfl) (fun w' => ?h92) (fun K hK => ?k92)
            case h92 =>
              go_simp
              try rfl
            go_simp
            refine hK _ ?_
            clear hK K
            refine wpB_pure (v := ?v93) (by kernel_rfl) (by kernel_rfl) (fun w' => ?h93) (fun K hK => ?k93)
            case h93 =>
              go_simp
              try rfl
            go_simp
            refine hK _ ?_
            clear hK K
            refine wpB_nil (fun w HM => ?_)
            go_wp2_with fail
            go_ret
            refine ⟨rfl, ?_, HM.kept.mono (fun k hk => by subst hk; rfl)⟩
            have := HU.out
            rw [downF_stop f ys j (.inr (by rw [HKID.out]; exact hz))] at this
            subst this; exact HM.row .head
          · have g6 : decide (hp ys j ≤ hp ys k) = false := by simp [hz]
            go_upto_region 5 with fail
            refine wp_region_M HM (fun _ => [.row (.slice (some ⟨g, 0, none⟩) xs.length cap) 3 1 xs.length (vals ys)]) rfl (by kernel_rfl) (by kernel_rfl) ?_
            refine wpB_pure (v := ?v94) (by kernel_rfl) (by kernel_rfl) (fun w' => ?h94) (fun K hK => ?k94)
            case h94 =>
              go_simp
              try rfl
            go_simp
            refine hK _ ?_
            clear hK K
            refine wpB_pure (v := ?v95) (by kernel_rfl) (by kernel_rfl) (fun w' => ?h95) (fun K hK => ?k95)
            case h95 =>
              go_simp
              try rfl
            go_simp
            refine hK _ ?_
            clear hK K
            refine wpB_pure (v := ?v96) (by kernel_rfl) (by kernel_rfl) (fun w' => ?h96) (fun K hK => ?k96)
            case h96 =>
              go_simp
              try rfl
            go_simp
            refine hK _ ?_
            clear hK K
            refine wpB_pure (v := ?v97) (by kernel_rfl) (by kernel_rfl) (fun w' => ?h97) (fun K hK => ?k97)
            case h97 =>
              go_simp
              try rfl
            go_simp
            refine hK _ ?_
            clear hK K
            refine wpB_pure (v := ?v98) (by kernel_rfl) (by kernel_rfl) (fun w' => ?h98) (fun K hK => ?k98)
            case h98 =>
              go_simp
              try rfl
            go_simp
            refine hK _ ?_
            clear hK K
            refine wpB_pure (v := ?v99) (by kernel_rfl) (by kernel_rfl) (fun w' => ?h99) (fun K hK => ?k99)
            case h99 =>
              go_simp
              try rfl
            go_simp
            refine hK _ ?_
            clear hK K
            refine wpB_pure (v := ?v100) (by kernel_rfl) (by kernel_rfl) (fun w' => ?h100) (fun K hK => ?k100)
            case h100 =>
              go_simp
              try rfl
            go_simp
            refine hK _ ?_
            clear hK K
            refine wpB_pure (v := ?v101) (by kernel_rfl) (by kernel_rfl) (fun w' => ?h101) (fun K hK => ?k101)
            case h101 =>
              go_simp
              try rfl
            go_simp
            refine hK _ ?_
            clear hK K
            (refine wpB_loadMR (by kernel_rfl) (by kernel_rfl) (by kernel_rfl) rfl rfl (by repeat (first | exact Sel.head | apply Sel.tail)) (GJ.out) (by kernel_rfl) (fun K hK => ?_))
            go_simp
            refine hK _ ?_
            clear hK K
            refine wpB_pure (v := ?v102) (by kernel_rfl) (by kernel_rfl) (fun w' => ?h102) (fun K hK => ?k102)
            case h102 =>
              go_simp
              try rfl
            go_simp
            refine hK _ ?_
            clear hK K
            refine wpB_pure (v := ?v103) (by kernel_rfl) (by kernel_rfl) (fun w' => ?h103) (fun K hK => ?k103)
            case h103 =>
              go_simp
              try rfl
            go_simp
            refine hK _ ?_
            clear hK K
            refine wpB_pure (v := ?v104) (by kernel_rfl) (by kernel_rfl) (fun w' => ?h104) (fun K hK => ?k104)
            case h104 =>
              go_simp
              try rfl
            go_simp
            refine hK _ ?_
            clear hK K
            (refine wpB_loadMR (by kernel_rfl) (by kernel_rfl) (by kernel_rfl) rfl rfl (by repeat (first | exact Sel.head | apply Sel.tail)) (GK.out) (by kernel_rfl) (fun K hK => ?_))
            go_simp
            refine hK _ ?_
            clear hK K
            refine wpB_pure (v := ?v105) (by kernel_rfl) (by kernel_rfl) (fun w' => ?h105) (fun K hK => ?k105)
            case h105 =>
              go_simp
              try rfl
            go_simp
            refine hK _ ?_
            clear hK K
            refine wpB_pure (v := ?v106) (by kernel_rfl) (by kernel_rfl) (fun w' => ?h106) (fun K hK => ?k106)
            case h106 =>
              go_simp
              try rfl
            go_simp
            refine hK _ ?_
            clear hK K
            refine wpB_nil (fun w HM => ?_)
            go_upto_region 7 with fail
            refine wp_region_M HM (fun ix => match ix with | 0 => [.row (.slice (some ⟨g, 0, none⟩) xs.length cap) 3 1 xs.length (vals ys)] | 1 => [.row (.slice (some ⟨g, 0, none⟩) xs.length cap) 3 1 xs.length ((vals ys).set j (.int .i64 (hp ys k)))] | _ => [.row (.slice (some ⟨g, 0, none⟩) xs.length cap) 3 1 xs.length (((vals ys).set j (.int .i64 (hp ys k))).set k (.int .i64 (hp ys j)))]) rfl (by kernel_rfl) (by kernel_rfl) ?_
            refine wpB_pure (v := ?v107) (by kernel_rfl) (by kernel_rfl) (fun w' => ?h107) (fun K hK => ?k107)
            case h107 =>
              go_simp
              try rfl
            go_simp
            refine hK _ ?_
            clear hK K
            refine wpB_pure (v := ?v108) (by kernel_rfl) (by kernel_rfl) (fun w' => ?h108) (fun K hK => ?k108)
            case h108 =>
              go_simp
              try rfl
            go_simp
            refine hK _ ?_
            clear hK K
            refine wpB_pure (v := ?v109) (by kernel_rfl) (by kernel_rfl) (fun w' => ?h109) (fun K hK => ?k109)
            case h109 =>
              go_simp
              try rfl
            go_simp
            refine hK _ ?_
            clear hK K
            refine wpB_pure (v := ?v110) (by kernel_rfl) (by kernel_rfl) (fun w' => ?h110) (fun K hK => ?k110)
            case h110 =>
              go_simp
              try rfl
            go_simp
            refine hK _ ?_
            clear hK K
            refine wpB_pure (v := ?v111) (by kernel_rfl) (by kernel_rfl) (fun w' => ?h111) (fun K hK => ?k111)
            case h111 =>
              go_simp
              try rfl
            go_simp
            refine hK _ ?_
            clear hK K
            refine wpB_pure (v := ?v112) (by kernel_rfl) (by kernel_rfl) (fun w' => ?h112) (fun K hK => ?k112)
            case h112 =>
              go_simp
              try rfl
            go_simp
            refine hK _ ?_
            clear hK K
            refine wpB_pure (v := ?v113) (by kernel_rfl) (by kernel_rfl) (fun w' => ?h113) (fun K hK => ?k113)
            case h113 =>
              go_simp
              try rfl
            go_simp
            refine hK _ ?_
            clear hK K
            (refine wpB_loadMR (by kernel_rfl) (by kernel_rfl) (by kernel_rfl) rfl rfl (by repeat (first | exact Sel.head | apply Sel.tail)) (GK.out) (by kernel_rfl) (fun K hK => ?_))
            go_simp
            refine hK _ ?_
            clear hK K
            refine wpB_pure (v := ?v114) (by kernel_rfl) (by kernel_rfl) (fun w' => ?h114) (fun K hK => ?k114)
            case h114 =>
              go_simp
              try rfl
            go_simp
            refine hK _ ?_
            clear hK K
            refine wpB_pure (v := ?v115) (by kernel_rfl) (by kernel_rfl) (fun w' => ?h115) (fun K hK => ?k115)
            case h115 =>
              go_simp
              try rfl
            go_simp
            refine hK _ ?_
            clear hK K
            refine wpB_pure (v := ?v116) (by kernel_rfl) (by kernel_rfl) (fun w' => ?h116) (fun K hK => ?k116)
            case h116 =>
              go_simp
              try rfl
            go_simp
            refine hK _ ?_
            clear hK K
            (refine wpB_loadMR (by kernel_rfl) (by kernel_rfl) (by kernel_rfl) rfl rfl (by repeat (first | exact Sel.head | apply Sel.tail)) (GJ.out) (by kernel_rfl) (fun K hK => ?_))
            go_simp
            refine hK _ ?_
            clear hK K
            refine wpB_pure (v := ?v117) (by kernel_rfl) (by kernel_rfl) (fun w' => ?h117) (fun K hK => ?k117)
            case h117 =>
              go_simp
              try rfl
            go_simp
            refine hK _ ?_
            clear hK K
            (refine wpB_storeMR (by kernel_rfl) (by kernel_rfl) rfl rfl rfl (by repeat (first | exact Sel.head | apply Sel.tail)) (LJ.out) (by kernel_rfl) rfl rfl (fun K hK => ?_))
            go_simp
            refine hK _ ?_
            clear hK K
            refine wpB_pure (v := ?v118) (by kernel_rfl) (by kernel_rfl) (fun w' => ?h118) (fun K hK => ?k118)
            case h118 =>
              go_simp
              try rfl
            go_simp
            refine hK _ ?_
            clear hK K
            (refine wpB_storeMR (by kernel_rfl) (by kernel_rfl) rfl rfl rfl (by repeat (first | exact Sel.head | apply Sel.tail)) (LK.out) (by kernel_rfl) rfl rfl (fun K hK => ?_))
            go_simp
            refine hK _ ?_
            clear hK K
            refine wpB_nil (fun w HM => ?_)
            rw [vals_swp ys j k] at HM
            go_wp2_with fail
            go_roundw
            case rel =>
              cases f with
              | zero => omega
              | succ f =>
                refine ⟨k, f, swp ys j k, by omega, by have := HKL.out; omega, by go_num, by rw [swp_length]; exact HYL.out, ?_, HM⟩
                have h1 := HU.out
                rw [downF_step f ys j (by rw [HKID.out, HYL.out]; omega), HKID.out] at h1
                exact h1
            case measure => have := HKL.out; simp [intOf]; omega
    · have g3 : decide ((k2 : Int) < (xs.length : Int)) = false := by simp; omega
      refine wp_region_M HM (fun _ => [.row (.slice (some ⟨g, 0, none⟩) xs.length cap) 3 1 xs.length (vals ys)]) rfl (by kernel_rfl) (by kernel_rfl) ?_
      refine wpB_pure (v := ?v119) (by kernel_rfl) (by kernel_rfl) (fun w' => ?h119) (fun K hK => ?k119)
      case h119 =>
        go_simp
        try rfl
      go_simp
      refine hK _ ?_
      clear hK K
      refine wpB_pure (v := ?v120) (by kernel_rfl) (by kernel_rfl) (fun w' => ?h120) (fun K hK => ?k120)
      case h120 =>
        go_simp
        try rfl
      go_simp
      refine hK _ ?_
      clear hK K
      refine wpB_pure (v := ?v121) (by kernel_rfl) (by kernel_rfl) (fun w' => ?h121) (fun K hK => ?k121)
      case h121 =>
        go_simp
        try rfl
      go_simp
      refine hK _ ?_
      clear hK K
      refine wpB_pure (v := ?v122) (by kernel_rfl) (by kernel_rfl) (fun w' => ?h122) (fun K hK => ?k122)
      case h122 =>
        go_simp
        try rfl
      go_simp
      refine hK _ ?_
      clear hK K
      refine wpB_pure (v := ?v123) (by kernel_rfl) (by kernel_rfl) (fun w' => ?h123) (fun K hK => ?k123)
      case h123 =>
        go_simp
        try rfl
      go_simp
      refine hK _ ?_
      clear hK K
      refine wpB_pure (v := ?v124) (by kernel_rfl) (by kernel_rfl) (fun w' => ?h124) (fun K hK => ?k124)
      case h124 =>
        go_simp
        try rfl
      go_simp
      refine hK _ ?_
      clear hK K
      refine wpB_skip (by kernel_rfl) (by kernel_rfl) (fun K hK => ?_)
      go_simp
      refine hK _ ?_
      clear hK K
      refine wpB_skip (by kernel_rfl) (by kernel_rfl) (fun K hK => ?_)
      go_simp
      refine hK _ ?_
      clear hK K
      refine wpB_skip (by kernel_rfl) (by kernel_rfl) (fun K hK => ?_)
      go_simp
      refine hK _ ?_
      clear hK K
      refine wpB_skip (by kernel_rfl) (by kernel_rfl) (fun K hK => ?_)
      go_simp
      refine hK _ ?_
      clear hK K
      refine wpB_skip (by kernel_rfl) (by kernel_rfl) (fun K hK => ?_)
      go_simp
      refine hK _ ?_
      clear hK K
      refine wpB_skip (by kernel_rfl) (by kernel_rfl) (fun K hK => ?_)
      go_simp
      refine hK _ ?_
      clear hK K
      refine wpB_skip (by kernel_rfl) (by kernel_rfl) (fun K hK => ?_)
      go_simp
      refine hK _ ?_
      clear hK K
      refine wpB_skip (by kernel_rfl) (by kernel_rfl) (fun K hK => ?_)
      go_simp
      refine hK _ ?_
      clear hK K
      refine wpB_skip (by kernel_rfl) (by kernel_rfl) (fun K hK => ?_)
      go_simp
      refine hK _ ?_
      clear hK K
      refine wpB_skip (by kernel_rfl) (by kernel_rfl) (fun K hK => ?_)
      go_simp
      refine hK _ ?_
      clear hK K
      refine wpB_pure (v := ?v125) (by kernel_rfl) (by kernel_rfl) (fun w' => ?h125) (fun K hK => ?k125)
      case h125 =>
        go_simp
        try rfl
      go_simp
      refine hK _ ?_
      clear hK K
      refine wpB_nil (fun w HM => ?_)
      have HKID : Hid (kid ys j = k) := Lib.hid (kid_one ys j k HK1.out (by rw [← HK1.out, ← HK2.out, HYL.out]; omega))
      have HKL : Hid (j < k) := Lib.hid (by omega)
      by_cases hkn : xs.length ≤ k
      · have g5 : decide ((xs.length : Int) ≤ (k : Int)) = true := by simp; omega
        go_upto_region 5 with fail
        refine wp_region_M HM (fun _ => [.row (.slice (some ⟨g, 0, none⟩) xs.length cap) 3 1 xs.length (vals ys)]) rfl (by kernel_rfl) (by kernel_rfl) ?_
        refine wpB_pure (v := ?v126) (by kernel_rfl) (by kernel_rfl) (fun w' => ?h126) (fun K hK => ?k126)
        case h126 =>
          go_simp
          try rfl
        go_simp
        refine hK _ ?_
        clear hK K
        refine wpB_pure (v := ?v127) (by kernel_rfl) (by kernel_rfl) (fun w' => ?h127) (fun K hK => ?k127)
        case h127 =>
          go_simp
          try rfl
        go_simp
        refine hK _ ?_
        clear hK K
        refine wpB_pure (v := ?v128) (by kernel_rfl) (by kernel_rfl) (fun w' => ?h128) (fun K hK => ?k128)
        case h128 =>
          go_simp
          try rfl
        go_simp
        refine hK _ ?_
        clear hK K
        refine wpB_pure (v := ?v129) (by kernel_rfl) (by kernel_rfl) (fun w' => ?h129) (fun K hK => ?k129)
        case h129 =>
          go_simp
          try rfl
        go_simp
        refine hK _ ?_
        clear hK K
        refine wpB_pure (v := ?v130) (by kernel_rfl) (by kernel_rfl) (fun w' => ?h130) (fun K hK => ?k130)
        case h130 =>
          go_simp
          try rfl
        go_simp
        refine hK _ ?_
        clear hK K
        refine wpB_skip (by kernel_rfl) (by kernel_rfl) (fun K hK => ?_)
        go_simp
        refine hK _ ?_
        clear hK K
        refine wpB_skip (by kernel_rfl) (by kernel_rfl) (fun K hK => ?_)
        go_simp
        refine hK _ ?_
        clear hK K
        refine wpB_skip (by kernel_rfl) (by kernel_rfl) (fun K hK => ?_)
        go_simp
        refine hK _ ?_
        clear hK K
        refine wpB_skip (by kernel_rfl) (by kernel_rfl) (fun K hK => ?_)
        go_simp
        refine hK _ ?_
        clear hK K
        refine wpB_skip (by kernel_rfl) (by kernel_rfl) (fun K hK => ?_)
        go_simp
        refine hK _ ?_
        clear hK K
        refine wpB_skip (by kernel_rfl) (by kernel_rfl) (fun K hK => ?_)
        go_simp
        refine hK _ ?_
        clear hK K
        refine wpB_skip (by kernel_rfl) (by kernel_rfl) (fun K hK => ?_)
        go_simp
        refine hK _ ?_
        clear hK K
        refine wpB_skip (by kernel_rfl) (by kernel_rfl) (fun K hK => ?_)
        go_simp
        refine hK _ ?_
        clear hK K
        refine wpB_skip (by kernel_rfl) (by kernel_rfl) (fun K hK => ?_)
        go_simp
        refine hK _ ?_
        clear hK K
        refine wpB_pure (v := ?v131) (by kernel_rfl) (by kernel_rfl) (fun w' => ?h131) (fun K hK => ?k131)
        case h131 =>
          go_simp
          try rfl
        go_simp
        refine hK _ ?_
        clear hK K
        refine wpB_nil (fun w HM => ?_)
        go_wp2_with fail
        go_ret
        refine ⟨rfl, ?_, HM.kept.mono (fun k hk => by subst hk; rfl)⟩
        have := HU.out
        rw [downF_stop f ys j (.inl (by rw [HKID.out, HYL.out]; exact hkn))] at this
        subst this; exact HM.row .head
      · have g5 : decide ((xs.length : Int) ≤ (k : Int)) = false := by simp; omega
        have GJ := Lib.hid (vals_get ys j (by have := HYL.out; omega))
        have GK := Lib.hid (vals_get ys k (by have := HYL.out; omega))
        have LJ : Hid (j < (vals ys).length) := Lib.hid (by rw [vals_len]; have := HYL.out; omega)
        have LK : Hid (k < ((vals ys).set j (.int .i64 (hp ys k))).length) := Lib.hid (by rw [List.length_set, vals_len]; have := HYL.out; omega)
        have q1 : (0 : Int) ≤ (k : Int) ∧ (k : Int) < (xs.length : Int) := by omega
        have q2 : (0 : Int) ≤ (j : Int) ∧ (j : Int) < (xs.length : Int) := by omega
        by_cases hz : hp ys j ≤ hp ys k
        · have g6 : decide (hp ys j ≤ hp ys k) = true := by simp [hz]
          go_upto_region 5 with fail
          refine wp_region_M HM (fun _ => [.row (.slice (some ⟨g, 0, none⟩) xs.length cap) 3 1 xs.length (vals ys)]) rfl (by kernel_rfl) (by kernel_rfl) ?_
          refine wpB_pure (v := ?v132) (by kernel_rfl) (by kernel_rfl) (fun w' => ?h132) (fun K hK => ?k132)
          case h132 =>
            go_simp
            try rfl
          go_simp
          refine hK _ ?_
          clear hK K
          refine wpB_pure (v := ?v133) (by kernel_rfl) (by kernel_rfl) (fun w' => ?h133) (fun K hK => ?k133)
          case h133 =>
            go_simp
            try rfl
          go_simp
          refine hK _ ?_
          clear hK K
          refine wpB_pure (v := ?v134) (by kernel_rfl) (by kernel_rfl) (fun w' => ?h134) (fun K hK => ?k134)
          case h134 =>
            go_simp
            try rfl
          go_simp
          refine hK _ ?_
          clear hK K
          refine wpB_pure (v := ?v135) (by kernel_rfl) (by kernel_rfl) (fun w' => ?h135) (fun K hK => ?k135)
          case h135 =>
            go_simp
            try rfl
          go_simp
          refine hK _ ?_
          clear hK K
          refine wpB_pure (v := ?v136) (by kernel_rfl) (by kernel_rfl) (fun w' => ?h136) (fun K hK => ?k136)
          case h136 =>
            go_simp
            try rfl
          go_simp
          refine hK _ ?_
          clear hK K
          refine wpB_pure (v := ?v137) (by kernel_rfl) (by kernel_rfl) (fun w' => ?h137) (fun K hK => ?k137)
          case h137 =>
            go_simp
            try rfl
          go_simp
          refine hK _ ?_
          clear hK K
          refine wpB_pure (v := ?v138) (by kernel_rfl) (by kernel_rfl) (fun w' => ?h138) (fun K hK => ?k138)
          case h138 =>
            go_simp
            try rfl
          go_simp
          refine hK _ ?_
          clear hK K
          refine wpB_pure (v := ?v139) (by kernel_rfl) (by kernel_rfl) (fun w' => ?h139) (fun K hK => ?k139)
          case h139 =>
            go_simp
            try rfl
          go_simp
          refine hK _ ?_
          clear hK K
          (refine wpB_loadMR (by kernel_rfl) (by kernel_rfl) (by kernel_rfl) rfl rfl (by repeat (first | exact Sel.head | apply Sel.tail)) (GJ.out) (by kernel_rfl) (fun K hK => ?_))
          go_simp
          refine hK _ ?_
          clear hK K
          refine wpB_pure (v := ?v140) (by kernel_rfl) (by kernel_rfl) (fun w' => ?h140) (fun K hK => ?k140)
          case h140 =>
            go_simp
            try rfl
          go_simp
          refine hK _ ?_
          clear hK K
          refine wpB_pure (v := ?v141) (by kernel_rfl) (by kernel_rfl) (fun w' => ?h141) (fun K hK => ?k141)
          case h141 =>
            go_simp
            try rfl
          go_simp
          refine hK _ ?_
          clear hK K
          refine wpB_pure (v := ?v142) (by kernel_rfl) (by kernel_rfl) (fun w' => ?h142) (fun K hK => ?k142)
          case h142 =>
            go_simp
            try rfl
          go_simp
          refine hK _ ?_
          clear hK K
          (refine wpB_loadMR (by kernel_rfl) (by kernel_rfl) (by kernel_rfl) rfl rfl (by repeat (first | exact Sel.head | apply Sel.tail)) (GK.out) (by kernel_rfl) (fun K hK => ?_))
          go_simp
          refine hK _ ?_
          clear hK K
          refine wpB_pure (v := ?v143) (by kernel_rfl) (by kernel_rfl) (fun w' => ?h143) (fun K hK => ?k143)
          case h143 =>
            go_simp
            try rfl
          go_simp
          refine hK _ ?_
          clear hK K
          refine wpB_pure (v := ?v144) (by kernel_rfl) (by kernel_rfl) (fun w' => ?h144) (fun K hK => ?k144)
          case h144 =>
            go_simp
            try rfl
          go_simp
          refine hK _ ?_
          clear hK K
          refine wpB_nil (fun w HM => ?_)
          go_wp2_with fail
          go_ret
          refine ⟨rfl, ?_, HM.kept.mono (fun k hk => by subst hk; rfl)⟩
          have := HU.out
          rw [downF_stop f ys j (.inr (by rw [HKID.out]; exact hz))] at this
          subst this; exact HM.row .head
        · have g6 : decide (hp ys j ≤ hp ys k) = false := by simp [hz]
          go_upto_region 5 with fail
          refine wp_region_M HM (fun _ => [.row (.slice (some ⟨g, 0, none⟩) xs.length cap) 3 1 xs.length (vals ys)]) rfl (by kernel_rfl) (by kernel_rfl) ?_
          refine wpB_pure (v := ?v145) (by kernel_rfl) (by kernel_rfl) (fun w' => ?h145) (fun K hK => ?k145)
          case h145 =>
            go_simp
            try rfl
          go_simp
          refine hK _ ?_
          clear hK K
          refine wpB_pure (v := ?v146) (by kernel_rfl) (by kernel_rfl) (fun w' => ?h146) (fun K hK => ?k146)
          case h146 =>
            go_simp
            try rfl
          go_simp
          refine hK _ ?_
          clear hK K
          refine wpB_pure (v := ?v147) (by kernel_rfl) (by kernel_rfl) (fun w' => ?h147) (fun K hK => ?k147)
          case h147 =>
            go_simp
            try rfl
          go_simp
          refine hK _ ?_
          clear hK K
          refine wpB_pure (v := ?v148) (by kernel_rfl) (by kernel_rfl) (fun w' => ?h148) (fun K hK => ?k148)
          case h148 =>
            go_simp
            try rfl
          go_simp
          refine hK _ ?_
          clear hK K
          refine wpB_pure (v := ?v149) (by kernel_rfl) (by kernel_rfl) (fun w' => ?h149) (fun K hK => ?k149)
          case h149 =>
            go_simp
            try rfl
          go_simp
          refine hK _ ?_
          clear hK K
          refine wpB_pure (v := ?v150) (by kernel_rfl) (by kernel_rfl) (fun w' => ?h150) (fun K hK => ?k150)
          case h150 =>
            go_simp
            try rfl
          go_simp
          refine hK _ ?_
          clear hK K
          refine wpB_pure (v := ?v151) (by kernel_rfl) (by kernel_rfl) (fun w' => ?h151) (fun K hK => ?k151)
          case h151 =>
            go_simp
            try rfl
          go_simp
          refine hK _ ?_
          clear hK K
          refine wpB_pure (v := ?v152) (by kernel_rfl) (by kernel_rfl) (fun w' => ?h152) (fun K hK => ?k152)
          case h152 =>
            go_simp
            try rfl
          go_simp
          refine hK _ ?_
          clear hK K
          (refine wpB_loadMR (by kernel_rfl) (by kernel_rfl) (by kernel_rfl) rfl rfl (by repeat (first | exact Sel.head | apply Sel.tail)) (GJ.out) (by kernel_rfl) (fun K hK => ?_))
          go_simp
          refine hK _ ?_
          clear hK K
          refine wpB_pure (v := ?v153) (by kernel_rfl) (by kernel_rfl) (fun w' => ?h153) (fun K hK => ?k153)
          case h153 =>
            go_simp
            try rfl
          go_simp
          refine hK _ ?_
          clear hK K
          refine wpB_pure (v := ?v154) (by kernel_rfl) (by kernel_rfl) (fun w' => ?h154) (fun K hK => ?k154)
          case h154 =>
            go_simp
            try rfl
          go_simp
          refine hK _ ?_
          clear hK K
          refine wpB_pure (v := ?v155) (by kernel_rfl) (by kernel_rfl) (fun w' => ?h155) (fun K hK => ?k155)
          case h155 =>
            go_simp
            try rfl
          go_simp
          refine hK _ ?_
          clear hK K
          (refine wpB_loadMR (by kernel_rfl) (by kernel_rfl) (by kernel_rfl) rfl rfl (by repeat (first | exact Sel.head | apply Sel.tail)) (GK.out) (by kernel_rfl) (fun K hK => ?_))
          go_simp
          refine hK _ ?_
          clear hK K
          refine wpB_pure (v := ?v156) (by kernel_rfl) (by kernel_rfl) (fun w' => ?h156) (fun K hK => ?k156)
          case h156 =>
            go_simp
            try rfl
          go_simp
          refine hK _ ?_
          clear hK K
          refine wpB_pure (v := ?v157) (by kernel_rfl) (by kernel_rfl) (fun w' => ?h157) (fun K hK => ?k157)
          case h157 =>
            go_simp
            try rfl
          go_simp
          refine hK _ ?_
          clear hK K
          refine wpB_nil (fun w HM => ?_)
          go_upto_region 7 with fail
          refine wp_region_M HM (fun ix => match ix with | 0 => [.row (.slice (some ⟨g, 0, none⟩) xs.length cap) 3 1 xs.length (vals ys)] | 1 => [.row (.slice (some ⟨g, 0, none⟩) xs.length cap) 3 1 xs.length ((vals ys).set j (.int .i64 (hp ys k)))] | _ => [.row (.slice (some ⟨g, 0, none⟩) xs.length cap) 3 1 xs.length (((vals ys).set j (.int .i64 (hp ys k))).set k (.int .i64 (hp ys j)))]) rfl (by kernel_rfl) (by kernel_rfl) ?_
          refine wpB_pure (v := ?v158) (by kernel_rfl) (by kernel_rfl) (fun w' => ?h158) (fun K hK => ?k158)
          case h158 =>
            go_simp
            try rfl
          go_simp
          refine hK _ ?_
          clear hK K
          refine wpB_pure (v := ?v159) (by kernel_rfl) (by kernel_rfl) (fun w' => ?h159) (fun K hK => ?k159)
          case h159 =>
            go_simp
            try rfl
          go_simp
          refine hK _ ?_
          clear hK K
          refine wpB_pure (v := ?v160) (by kernel_rfl) (by kernel_rfl) (fun w' => ?h160) (fun K hK => ?k160)
          case h160 =>
            go_simp
            try rfl
          go_simp
          refine hK _ ?_
          clear hK K
          refine wpB_pure (v := ?v161) (by kernel_rfl) (by kernel_rfl) (fun w' => ?h161) (fun K hK => ?k161)
          case h161 =>
            go_simp
            try rfl
          go_simp
          refine hK _ ?_
          clear hK K
          refine wpB_pure (v := ?v162) (by kernel_rfl) (by kernel_rfl) (fun w' => ?h162) (fun K hK => ?k162)
          case h162 =>
            go_simp
            try rfl
          go_simp
          refine hK _ ?_
          clear hK K
          refine wpB_pure (v := ?v163) (by kernel_rfl) (by kernel_rfl) (fun w' => ?h163) (fun K hK => ?k163)
          case h163 =>
            go_simp
            try rfl
          go_simp
          refine hK _ ?_
          clear hK K
          refine wpB_pure (v := ?v164) (by kernel_rfl) (by kernel_rfl) (fun w' => ?h164) (fun K hK => ?k164)
          case h164 =>
            go_simp
            try rfl
          go_simp
          refine hK _ ?_
          clear hK K
          (refine wpB_loadMR (by kernel_rfl) (by kernel_rfl) (by kernel_rfl) rfl rfl (by repeat (first | exact Sel.head | apply Sel.tail)) (GK.out) (by kernel_rfl) (fun K hK => ?_))
          go_simp
          refine hK _ ?_
          clear hK K
          refine wpB_pure (v := ?v165) (by kernel_rfl) (by kernel_rfl) (fun w' => ?h165) (fun K hK => ?k165)
          case h165 =>
            go_simp
            try rfl
          go_simp
          refine hK _ ?_
          clear hK K
          refine wpB_pure (v := ?v166) (by kernel_rfl) (by kernel_rfl) (fun w' => ?h166) (fun K hK => ?k166)
          case h166 =>
            go_simp
            try rfl
          go_simp
          refine hK _ ?_
          clear hK K
          refine wpB_pure (v := ?v167) (by kernel_rfl) (by kernel_rfl) (fun w' => ?h167) (fun K hK => ?k167)
          case h167 =>
            go_simp
            try rfl
          go_simp
          refine hK _ ?_
          clear hK K
          (refine wpB_loadMR (by kernel_rfl) (by kernel_rfl) (by kernel_rfl) rfl rfl (by repeat (first | exact Sel.head | apply Sel.tail)) (GJ.out) (by kernel_rfl) (fun K hK => ?_))
          go_simp
          refine hK _ ?_
          clear hK K
          refine wpB_pure (v := ?v168) (by kernel_rfl) (by kernel_rfl) (fun w' => ?h168) (fun K hK => ?k168)
          case h168 =>
            go_simp
            try rfl
          go_simp
          refine hK _ ?_
          clear hK K
          (refine wpB_storeMR (by kernel_rfl) (by kernel_rfl) rfl rfl rfl (by repeat (first | exact Sel.head | apply Sel.tail)) (LJ.out) (by kernel_rfl) rfl rfl (fun K hK => ?_))
          go_simp
          refine hK _ ?_
          clear hK K
          refine wpB_pure (v := ?v169) (by kernel_rfl) (by kernel_rfl) (fun w' => ?h169) (fun K hK => ?k169)
          case h169 =>
            go_simp
            try rfl
          go_simp
          refine hK _ ?_
          clear hK K
          (refine wpB_storeMR (by kernel_rfl) (by kernel_rfl) rfl rfl rfl (by repeat (first | exact Sel.head | apply Sel.tail)) (LK.out) (by kernel_rfl) rfl rfl (fun K hK => ?_))
          go_simp
          refine hK _ ?_
          clear hK K
          refine wpB_nil (fun w HM => ?_)
          rw [vals_swp ys j k] at HM
          go_wp2_with fail
          go_roundw
          case rel =>
            cases f with
            | zero => omega
            | succ f =>
              refine ⟨k, f, swp ys j k, by omega, by have := HKL.out; omega, by go_num, by rw [swp_length]; exact HYL.out, ?_, HM⟩
              have h1 := HU.out
              rw [downF_step f ys j (by rw [HKID.out, HYL.out]; omega), HKID.out] at h1
              exact h1
          case measure => have := HKL.out; simp [intOf]; omega
end Go.Proofs.Ytpedkcpkdacnlaa
end
section
namespace Go.Proofs.Ytpedkcpkdacnlaa
open Go.RowKit
set_option linter.unusedVariables false
theorem zt_Answer : (Try.prog.info? 26).bind (·.zero) = some (.agg #[.int .i64 0, .int .i64 0]) := by kernel_rfl
theorem vals_snoc (xs : List Int) (x : Int) : vals xs ++ [.int .i64 x] = vals (xs ++ [x]) := by simp [vals]
theorem vals_set (xs : List Int) (i : Nat) (x : Int) : (vals xs).set i (.int .i64 x) = vals (xs.set i x) := by simp [vals, List.map_set]
theorem vals_take (xs : List Int) (n : Nat) : (vals xs).take n = vals (xs.take n) := by simp [vals]
set_option maxRecDepth 20000 in
set_option maxHeartbeats 4000000 in
theorem heap_full (W : World) (v : Value) (xs : List Int) (k key x : Int) (h : Sl W v xs) (hx2 : xs.length ≤ 1000) (hk : k = 1) (hf : 6 ≤ xs.length) :
    Calls Try.prog 19 #[v, .agg #[.int .i64 k, .int .i64 key, .int .i64 x]] W fun e w' =>
      ∃ v', e = .returned (.tuple #[v', .agg #[.int .i64 (heapR xs k x).2.1, .int .i64 (heapR xs k x).2.2]]) ∧ Own w' W.heap.size v' (heapR xs k x).1 ∧ Below W.heap.size W w' := by
  subst hk
  have HR : Hid (heapR xs 1 x = (xs, 3, 0)) := Lib.hid (by unfold heapR; rw [if_pos rfl, if_pos hf])
  have t1 : decide ((6 : Int) ≤ (xs.length : Int)) = true := by simp; omega
  obtain ⟨a, cap, rfl⟩ := h.slice
  have HS := Lib.hid h
  clear h
  have HM := Mem.start W
  go_enter Try.func19, Try.ntmps19
  go_wp2_with (first | (refine wpM_buildSlice1 (e := 3) (size := 1) (z := .int .i64 0) HM rfl rfl (by (conv => lhs; whnf); try rfl) (by rfl) Try.underlying22 (by kernel_rfl) (by kernel_rfl) (by rfl) (by rfl) (by decide) (by decide) ?_; clear HM; intro b w HB HM; clear HB) | (refine wpM_append (e := 3) (sz := 1) (bytes := 8) (z := .int .i64 0) HM rfl rfl rfl Try.underlying22 (by kernel_rfl) (by kernel_rfl) (by rfl) (by decide) rfl rfl (by repeat (first | exact Sel.head | apply Sel.tail)) (by simp) (by simp [Value.oneCell']) (by omega) (by omega) ?_; clear HM; intro p1 c1 w HC1 HC2 HM) | (refine wpM_storeAll HM rfl rfl rfl rfl (by repeat (first | exact Sel.head | apply Sel.tail)) (by rfl) (by kernel_rfl) (by rfl) ?_; clear HM; intro w HM) | (refine wpM_storeR HM rfl rfl rfl (by (conv => lhs; whnf); try rfl) (by repeat (first | exact Sel.head | apply Sel.tail)) (by exact L0.out) (by kernel_rfl) (by rfl) ?_; clear HM; intro w HM) | (refine wpM_box HM rfl rfl rfl rfl ?_; clear HM; intro b w HB HM; clear HB) | (refine wpM_alloc HM rfl rfl zt_Answer rfl ?_; clear HM; intro b w HB HM; clear HB) | (refine wpM_load (ty := 3) HM rfl rfl rfl (by repeat (first | exact Sel.head | apply Sel.tail)) (by first | rfl | exact HV0.out | exact HVm.out) (by kernel_rfl) ?_) | (refine wpM_loadR (ty := 3) HM rfl rfl rfl (by repeat (first | exact Sel.head | apply Sel.tail)) (by first | rfl | exact HV0.out | exact HVm.out) (by kernel_rfl) ?_) | (refine wpM_store HM rfl rfl rfl (by (conv => lhs; whnf); try rfl) (by repeat (first | exact Sel.head | apply Sel.tail)) (by simp) (by kernel_rfl) (by rfl) ?_; clear HM; intro w HM; simp only [List.set_cons_zero, List.set_cons_succ] at HM))
  refine (clone_any _ _ xs (HS.out.below HM.below) hx2).mono ?_
  rintro e w ⟨v3, rfl, ho, hb3⟩
  replace HM := HM.got hb3 ho
  change Mem W _ (.row v3 3 1 xs.length (vals xs) :: _) w at HM
  clear ho hb3
  obtain ⟨p3, c3, rfl, hc3, hc4, -⟩ := ownsRow.form (HM.row .head)
  go_wp2_with (first | (refine wpM_buildSlice1 (e := 3) (size := 1) (z := .int .i64 0) HM rfl rfl (by (conv => lhs; whnf); try rfl) (by rfl) Try.underlying22 (by kernel_rfl) (by kernel_rfl) (by rfl) (by rfl) (by decide) (by decide) ?_; clear HM; intro b w HB HM; clear HB) | (refine wpM_append (e := 3) (sz := 1) (bytes := 8) (z := .int .i64 0) HM rfl rfl rfl Try.underlying22 (by kernel_rfl) (by kernel_rfl) (by rfl) (by decide) rfl rfl (by repeat (first | exact Sel.head | apply Sel.tail)) (by simp) (by simp [Value.oneCell']) (by omega) (by omega) ?_; clear HM; intro p1 c1 w HC1 HC2 HM) | (refine wpM_storeAll HM rfl rfl rfl rfl (by repeat (first | exact Sel.head | apply Sel.tail)) (by rfl) (by kernel_rfl) (by rfl) ?_; clear HM; intro w HM) | (refine wpM_storeR HM rfl rfl rfl (by (conv => lhs; whnf); try rfl) (by repeat (first | exact Sel.head | apply Sel.tail)) (by exact L0.out) (by kernel_rfl) (by rfl) ?_; clear HM; intro w HM) | (refine wpM_box HM rfl rfl rfl rfl ?_; clear HM; intro b w HB HM; clear HB) | (refine wpM_alloc HM rfl rfl zt_Answer rfl ?_; clear HM; intro b w HB HM; clear HB) | (refine wpM_load (ty := 3) HM rfl rfl rfl (by repeat (first | exact Sel.head | apply Sel.tail)) (by first | rfl | exact HV0.out | exact HVm.out) (by kernel_rfl) ?_) | (refine wpM_loadR (ty := 3) HM rfl rfl rfl (by repeat (first | exact Sel.head | apply Sel.tail)) (by first | rfl | exact HV0.out | exact HVm.out) (by kernel_rfl) ?_) | (refine wpM_store HM rfl rfl rfl (by (conv => lhs; whnf); try rfl) (by repeat (first | exact Sel.head | apply Sel.tail)) (by simp) (by kernel_rfl) (by rfl) ?_; clear HM; intro w HM; simp only [List.set_cons_zero, List.set_cons_succ] at HM))
  exact bodyPost_ret (v := .tuple #[.slice p3 xs.length c3, .agg #[.int .i64 3, .int .i64 0]]) (resM_tc HM rfl (by rfl) (by rfl) (by repeat (first | exact Sel.head | apply Sel.tail)) (by kernel_rfl)) rfl ⟨_, by rw [HR.out], by rw [HR.out]; exact (HM.gives .head (fun _ _ h => h)), HM.below⟩
set_option maxRecDepth 20000 in
set_option maxHeartbeats 4000000 in
theorem heap_put (W : World) (v : Value) (xs : List Int) (k key x : Int) (h : Sl W v xs) (hx2 : xs.length ≤ 1000) (hk : k = 1) (hf : xs.length < 6) :
    Calls Try.prog 19 #[v, .agg #[.int .i64 k, .int .i64 key, .int .i64 x]] W fun e w' =>
      ∃ v', e = .returned (.tuple #[v', .agg #[.int .i64 (heapR xs k x).2.1, .int .i64 (heapR xs k x).2.2]]) ∧ Own w' W.heap.size v' (heapR xs k x).1 ∧ Below W.heap.size W w' := by
  subst hk
  have HR : Hid (heapR xs 1 x = (upF xs.length (xs ++ [x]) xs.length, 1, 0)) := Lib.hid (by unfold heapR; rw [if_pos rfl, if_neg (by omega)])
  have t1 : decide ((6 : Int) ≤ (xs.length : Int)) = false := by simp; omega
  obtain ⟨a, cap, rfl⟩ := h.slice
  have HS := Lib.hid h
  clear h
  have HM := Mem.start W
  go_enter Try.func19, Try.ntmps19
  go_wp2_with (first | (refine wpM_buildSlice1 (e := 3) (size := 1) (z := .int .i64 0) HM rfl rfl (by (conv => lhs; whnf); try rfl) (by rfl) Try.underlying22 (by kernel_rfl) (by kernel_rfl) (by rfl) (by rfl) (by decide) (by decide) ?_; clear HM; intro b w HB HM; clear HB) | (refine wpM_append (e := 3) (sz := 1) (bytes := 8) (z := .int .i64 0) HM rfl rfl rfl Try.underlying22 (by kernel_rfl) (by kernel_rfl) (by rfl) (by decide) rfl rfl (by repeat (first | exact Sel.head | apply Sel.tail)) (by simp) (by simp [Value.oneCell']) (by omega) (by omega) ?_; clear HM; intro p1 c1 w HC1 HC2 HM) | (refine wpM_storeAll HM rfl rfl rfl rfl (by repeat (first | exact Sel.head | apply Sel.tail)) (by rfl) (by kernel_rfl) (by rfl) ?_; clear HM; intro w HM) | (refine wpM_storeR HM rfl rfl rfl (by (conv => lhs; whnf); try rfl) (by repeat (first | exact Sel.head | apply Sel.tail)) (by exact L0.out) (by kernel_rfl) (by rfl) ?_; clear HM; intro w HM) | (refine wpM_box HM rfl rfl rfl rfl ?_; clear HM; intro b w HB HM; clear HB) | (refine wpM_alloc HM rfl rfl zt_Answer rfl ?_; clear HM; intro b w HB HM; clear HB) | (refine wpM_load (ty := 3) HM rfl rfl rfl (by repeat (first | exact Sel.head | apply Sel.tail)) (by first | rfl | exact HV0.out | exact HVm.out) (by kernel_rfl) ?_) | (refine wpM_loadR (ty := 3) HM rfl rfl rfl (by repeat (first | exact Sel.head | apply Sel.tail)) (by first | rfl | exact HV0.out | exact HVm.out) (by kernel_rfl) ?_) | (refine wpM_store HM rfl rfl rfl (by (conv => lhs; whnf); try rfl) (by repeat (first | exact Sel.head | apply Sel.tail)) (by simp) (by kernel_rfl) (by rfl) ?_; clear HM; intro w HM; simp only [List.set_cons_zero, List.set_cons_succ] at HM))
  refine (clone_any _ _ xs (HS.out.below HM.below) hx2).mono ?_
  rintro e w ⟨v3, rfl, ho, hb3⟩
  replace HM := HM.got hb3 ho
  change Mem W _ (.row v3 3 1 xs.length (vals xs) :: _) w at HM
  clear ho hb3
  obtain ⟨p3, c3, rfl, hc3, hc4, -⟩ := ownsRow.form (HM.row .head)
  go_wp2_with (first | (refine wpM_buildSlice1 (e := 3) (size := 1) (z := .int .i64 0) HM rfl rfl (by (conv => lhs; whnf); try rfl) (by rfl) Try.underlying22 (by kernel_rfl) (by kernel_rfl) (by rfl) (by rfl) (by decide) (by decide) ?_; clear HM; intro b w HB HM; clear HB) | (refine wpM_append (e := 3) (sz := 1) (bytes := 8) (z := .int .i64 0) HM rfl rfl rfl Try.underlying22 (by kernel_rfl) (by kernel_rfl) (by rfl) (by decide) rfl rfl (by repeat (first | exact Sel.head | apply Sel.tail)) (by simp) (by simp [Value.oneCell']) (by omega) (by omega) ?_; clear HM; intro p1 c1 w HC1 HC2 HM) | (refine wpM_storeAll HM rfl rfl rfl rfl (by repeat (first | exact Sel.head | apply Sel.tail)) (by rfl) (by kernel_rfl) (by rfl) ?_; clear HM; intro w HM) | (refine wpM_storeR HM rfl rfl rfl (by (conv => lhs; whnf); try rfl) (by repeat (first | exact Sel.head | apply Sel.tail)) (by exact L0.out) (by kernel_rfl) (by rfl) ?_; clear HM; intro w HM) | (refine wpM_box HM rfl rfl rfl rfl ?_; clear HM; intro b w HB HM; clear HB) | (refine wpM_alloc HM rfl rfl zt_Answer rfl ?_; clear HM; intro b w HB HM; clear HB) | (refine wpM_load (ty := 3) HM rfl rfl rfl (by repeat (first | exact Sel.head | apply Sel.tail)) (by first | rfl | exact HV0.out | exact HVm.out) (by kernel_rfl) ?_) | (refine wpM_loadR (ty := 3) HM rfl rfl rfl (by repeat (first | exact Sel.head | apply Sel.tail)) (by first | rfl | exact HV0.out | exact HVm.out) (by kernel_rfl) ?_) | (refine wpM_store HM rfl rfl rfl (by (conv => lhs; whnf); try rfl) (by repeat (first | exact Sel.head | apply Sel.tail)) (by simp) (by kernel_rfl) (by rfl) ?_; clear HM; intro w HM; simp only [List.set_cons_zero, List.set_cons_succ] at HM))
  rw [vals_snoc] at HM
  have HLN : Hid ((xs ++ [x]).length = xs.length + 1) := Lib.hid (by simp)
  have hup := heap_up w (.slice p1 (xs.length + 1) c1) (xs ++ [x]) (by rw [HLN.out]; exact HM.row .head) (by rw [HLN.out]; omega) (by rw [HLN.out]; omega)
  rw [HLN.out] at hup
  refine hup.mono ?_
  rintro e w1 ⟨rfl, ho, hk⟩
  replace HM := HM.turn .head hk (.row _ _ _ _ _) ho (fun g h => .inl h)
  clear ho hk hup
  go_wp2_with (first | (refine wpM_buildSlice1 (e := 3) (size := 1) (z := .int .i64 0) HM rfl rfl (by (conv => lhs; whnf); try rfl) (by rfl) Try.underlying22 (by kernel_rfl) (by kernel_rfl) (by rfl) (by rfl) (by decide) (by decide) ?_; clear HM; intro b w HB HM; clear HB) | (refine wpM_append (e := 3) (sz := 1) (bytes := 8) (z := .int .i64 0) HM rfl rfl rfl Try.underlying22 (by kernel_rfl) (by kernel_rfl) (by rfl) (by decide) rfl rfl (by repeat (first | exact Sel.head | apply Sel.tail)) (by simp) (by simp [Value.oneCell']) (by omega) (by omega) ?_; clear HM; intro p1 c1 w HC1 HC2 HM) | (refine wpM_storeAll HM rfl rfl rfl rfl (by repeat (first | exact Sel.head | apply Sel.tail)) (by rfl) (by kernel_rfl) (by rfl) ?_; clear HM; intro w HM) | (refine wpM_storeR HM rfl rfl rfl (by (conv => lhs; whnf); try rfl) (by repeat (first | exact Sel.head | apply Sel.tail)) (by exact L0.out) (by kernel_rfl) (by rfl) ?_; clear HM; intro w HM) | (refine wpM_box HM rfl rfl rfl rfl ?_; clear HM; intro b w HB HM; clear HB) | (refine wpM_alloc HM rfl rfl zt_Answer rfl ?_; clear HM; intro b w HB HM; clear HB) | (refine wpM_load (ty := 3) HM rfl rfl rfl (by repeat (first | exact Sel.head | apply Sel.tail)) (by first | rfl | exact HV0.out | exact HVm.out) (by kernel_rfl) ?_) | (refine wpM_loadR (ty := 3) HM rfl rfl rfl (by repeat (first | exact Sel.head | apply Sel.tail)) (by first | rfl | exact HV0.out | exact HVm.out) (by kernel_rfl) ?_) | (refine wpM_store HM rfl rfl rfl (by (conv => lhs; whnf); try rfl) (by repeat (first | exact Sel.head | apply Sel.tail)) (by simp) (by kernel_rfl) (by rfl) ?_; clear HM; intro w HM; simp only [List.set_cons_zero, List.set_cons_succ] at HM))
  refine bodyPost_ret (v := .tuple #[.slice p1 (xs.length + 1) c1, .agg #[.int .i64 1, .int .i64 0]]) (resM_tc HM rfl (by rfl) (by rfl) (by repeat (first | exact Sel.head | apply Sel.tail)) (by kernel_rfl)) rfl ⟨_, by rw [HR.out], ?_, HM.below⟩
  have hg := HM.gives .head (fun _ _ h => h)
  rw [HR.out]
  show World.ownsRow _ _ _ _ _ (upF xs.length (xs ++ [x]) xs.length).length (vals _)
  rw [upF_length, HLN.out]
  exact hg
set_option maxRecDepth 20000 in
set_option maxHeartbeats 4000000 in
theorem heap_empty2 (W : World) (v : Value) (xs : List Int) (k key x : Int) (h : Sl W v xs) (hx2 : xs.length ≤ 1000) (hk : k = 2) (hf : xs.length = 0) :
    Calls Try.prog 19 #[v, .agg #[.int .i64 k, .int .i64 key, .int .i64 x]] W fun e w' =>
      ∃ v', e = .returned (.tuple #[v', .agg #[.int .i64 (heapR xs k x).2.1, .int .i64 (heapR xs k x).2.2]]) ∧ Own w' W.heap.size v' (heapR xs k x).1 ∧ Below W.heap.size W w' := by
  subst hk
  have HR : Hid (heapR xs 2 x = (xs, 2, 0)) := Lib.hid (by unfold heapR; rw [if_neg (by decide), if_pos (by decide), if_pos hf])
  have t1 : ((xs.length : Int) == 0) = true := by rw [hf]; rfl
  have HF := Lib.hid hf
  clear hf
  obtain ⟨a, cap, rfl⟩ := h.slice
  have HS := Lib.hid h
  clear h
  have HM := Mem.start W
  go_enter Try.func19, Try.ntmps19
  go_wp2_with (first | (refine wpM_buildSlice1 (e := 3) (size := 1) (z := .int .i64 0) HM rfl rfl (by (conv => lhs; whnf); try rfl) (by rfl) Try.underlying22 (by kernel_rfl) (by kernel_rfl) (by rfl) (by rfl) (by decide) (by decide) ?_; clear HM; intro b w HB HM; clear HB) | (refine wpM_append (e := 3) (sz := 1) (bytes := 8) (z := .int .i64 0) HM rfl rfl rfl Try.underlying22 (by kernel_rfl) (by kernel_rfl) (by rfl) (by decide) rfl rfl (by repeat (first | exact Sel.head | apply Sel.tail)) (by simp) (by simp [Value.oneCell']) (by omega) (by omega) ?_; clear HM; intro p1 c1 w HC1 HC2 HM) | (refine wpM_storeAll HM rfl rfl rfl rfl (by repeat (first | exact Sel.head | apply Sel.tail)) (by rfl) (by kernel_rfl) (by rfl) ?_; clear HM; intro w HM) | (refine wpM_storeR HM rfl rfl rfl (by (conv => lhs; whnf); try rfl) (by repeat (first | exact Sel.head | apply Sel.tail)) (by exact L0.out) (by kernel_rfl) (by rfl) ?_; clear HM; intro w HM) | (refine wpM_box HM rfl rfl rfl rfl ?_; clear HM; intro b w HB HM; clear HB) | (refine wpM_alloc HM rfl rfl zt_Answer rfl ?_; clear HM; intro b w HB HM; clear HB) | (refine wpM_load (ty := 3) HM rfl rfl rfl (by repeat (first | exact Sel.head | apply Sel.tail)) (by first | rfl | exact HV0.out | exact HVm.out) (by kernel_rfl) ?_) | (refine wpM_loadR (ty := 3) HM rfl rfl rfl (by repeat (first | exact Sel.head | apply Sel.tail)) (by first | rfl | exact HV0.out | exact HVm.out) (by kernel_rfl) ?_) | (refine wpM_store HM rfl rfl rfl (by (conv => lhs; whnf); try rfl) (by repeat (first | exact Sel.head | apply Sel.tail)) (by simp) (by kernel_rfl) (by rfl) ?_; clear HM; intro w HM; simp only [List.set_cons_zero, List.set_cons_succ] at HM))
  refine (clone_any _ _ xs (HS.out.below HM.below) hx2).mono ?_
  rintro e w ⟨v3, rfl, ho, hb3⟩
  replace HM := HM.got hb3 ho
  change Mem W _ (.row v3 3 1 xs.length (vals xs) :: _) w at HM
  clear ho hb3
  obtain ⟨p3, c3, rfl, hc3, hc4, -⟩ := ownsRow.form (HM.row .head)
  go_wp2_with (first | (refine wpM_buildSlice1 (e := 3) (size := 1) (z := .int .i64 0) HM rfl rfl (by (conv => lhs; whnf); try rfl) (by rfl) Try.underlying22 (by kernel_rfl) (by kernel_rfl) (by rfl) (by rfl) (by decide) (by decide) ?_; clear HM; intro b w HB HM; clear HB) | (refine wpM_append (e := 3) (sz := 1) (bytes := 8) (z := .int .i64 0) HM rfl rfl rfl Try.underlying22 (by kernel_rfl) (by kernel_rfl) (by rfl) (by decide) rfl rfl (by repeat (first | exact Sel.head | apply Sel.tail)) (by simp) (by simp [Value.oneCell']) (by omega) (by omega) ?_; clear HM; intro p1 c1 w HC1 HC2 HM) | (refine wpM_storeAll HM rfl rfl rfl rfl (by repeat (first | exact Sel.head | apply Sel.tail)) (by rfl) (by kernel_rfl) (by rfl) ?_; clear HM; intro w HM) | (refine wpM_storeR HM rfl rfl rfl (by (conv => lhs; whnf); try rfl) (by repeat (first | exact Sel.head | apply Sel.tail)) (by exact L0.out) (by kernel_rfl) (by rfl) ?_; clear HM; intro w HM) | (refine wpM_box HM rfl rfl rfl rfl ?_; clear HM; intro b w HB HM; clear HB) | (refine wpM_alloc HM rfl rfl zt_Answer rfl ?_; clear HM; intro b w HB HM; clear HB) | (refine wpM_load (ty := 3) HM rfl rfl rfl (by repeat (first | exact Sel.head | apply Sel.tail)) (by first | rfl | exact HV0.out | exact HVm.out) (by kernel_rfl) ?_) | (refine wpM_loadR (ty := 3) HM rfl rfl rfl (by repeat (first | exact Sel.head | apply Sel.tail)) (by first | rfl | exact HV0.out | exact HVm.out) (by kernel_rfl) ?_) | (refine wpM_store HM rfl rfl rfl (by (conv => lhs; whnf); try rfl) (by repeat (first | exact Sel.head | apply Sel.tail)) (by simp) (by kernel_rfl) (by rfl) ?_; clear HM; intro w HM; simp only [List.set_cons_zero, List.set_cons_succ] at HM))
  exact bodyPost_ret (v := .tuple #[.slice p3 xs.length c3, .agg #[.int .i64 2, .int .i64 0]]) (resM_tc HM rfl (by rfl) (by rfl) (by repeat (first | exact Sel.head | apply Sel.tail)) (by kernel_rfl)) rfl ⟨_, by rw [HR.out], by rw [HR.out]; exact (HM.gives .head (fun _ _ h => h)), HM.below⟩
set_option maxRecDepth 20000 in
set_option maxHeartbeats 4000000 in
theorem heap_empty5 (W : World) (v : Value) (xs : List Int) (k key x : Int) (h : Sl W v xs) (hx2 : xs.length ≤ 1000) (hk : k = 5) (hf : xs.length = 0) :
    Calls Try.prog 19 #[v, .agg #[.int .i64 k, .int .i64 key, .int .i64 x]] W fun e w' =>
      ∃ v', e = .returned (.tuple #[v', .agg #[.int .i64 (heapR xs k x).2.1, .int .i64 (heapR xs k x).2.2]]) ∧ Own w' W.heap.size v' (heapR xs k x).1 ∧ Below W.heap.size W w' := by
  subst hk
  have HR : Hid (heapR xs 5 x = (xs, 2, 0)) := Lib.hid (by unfold heapR; rw [if_neg (by decide), if_pos (by decide), if_pos hf])
  have t1 : ((xs.length : Int) == 0) = true := by rw [hf]; rfl
  have HF := Lib.hid hf
  clear hf
  obtain ⟨a, cap, rfl⟩ := h.slice
  have HS := Lib.hid h
  clear h
  have HM := Mem.start W
  go_enter Try.func19, Try.ntmps19
  go_wp2_with (first | (refine wpM_buildSlice1 (e := 3) (size := 1) (z := .int .i64 0) HM rfl rfl (by (conv => lhs; whnf); try rfl) (by rfl) Try.underlying22 (by kernel_rfl) (by kernel_rfl) (by rfl) (by rfl) (by decide) (by decide) ?_; clear HM; intro b w HB HM; clear HB) | (refine wpM_append (e := 3) (sz := 1) (bytes := 8) (z := .int .i64 0) HM rfl rfl rfl Try.underlying22 (by kernel_rfl) (by kernel_rfl) (by rfl) (by decide) rfl rfl (by repeat (first | exact Sel.head | apply Sel.tail)) (by simp) (by simp [Value.oneCell']) (by omega) (by omega) ?_; clear HM; intro p1 c1 w HC1 HC2 HM) | (refine wpM_storeAll HM rfl rfl rfl rfl (by repeat (first | exact Sel.head | apply Sel.tail)) (by rfl) (by kernel_rfl) (by rfl) ?_; clear HM; intro w HM) | (refine wpM_storeR HM rfl rfl rfl (by (conv => lhs; whnf); try rfl) (by repeat (first | exact Sel.head | apply Sel.tail)) (by exact L0.out) (by kernel_rfl) (by rfl) ?_; clear HM; intro w HM) | (refine wpM_box HM rfl rfl rfl rfl ?_; clear HM; intro b w HB HM; clear HB) | (refine wpM_alloc HM rfl rfl zt_Answer rfl ?_; clear HM; intro b w HB HM; clear HB) | (refine wpM_load (ty := 3) HM rfl rfl rfl (by repeat (first | exact Sel.head | apply Sel.tail)) (by first | rfl | exact HV0.out | exact HVm.out) (by kernel_rfl) ?_) | (refine wpM_loadR (ty := 3) HM rfl rfl rfl (by repeat (first | exact Sel.head | apply Sel.tail)) (by first | rfl | exact HV0.out | exact HVm.out) (by kernel_rfl) ?_) | (refine wpM_store HM rfl rfl rfl (by (conv => lhs; whnf); try rfl) (by repeat (first | exact Sel.head | apply Sel.tail)) (by simp) (by kernel_rfl) (by rfl) ?_; clear HM; intro w HM; simp only [List.set_cons_zero, List.set_cons_succ] at HM))
  refine (clone_any _ _ xs (HS.out.below HM.below) hx2).mono ?_
  rintro e w ⟨v3, rfl, ho, hb3⟩
  replace HM := HM.got hb3 ho
  change Mem W _ (.row v3 3 1 xs.length (vals xs) :: _) w at HM
  clear ho hb3
  obtain ⟨p3, c3, rfl, hc3, hc4, -⟩ := ownsRow.form (HM.row .head)
  go_wp2_with (first | (refine wpM_buildSlice1 (e := 3) (size := 1) (z := .int .i64 0) HM rfl rfl (by (conv => lhs; whnf); try rfl) (by rfl) Try.underlying22 (by kernel_rfl) (by kernel_rfl) (by rfl) (by rfl) (by decide) (by decide) ?_; clear HM; intro b w HB HM; clear HB) | (refine wpM_append (e := 3) (sz := 1) (bytes := 8) (z := .int .i64 0) HM rfl rfl rfl Try.underlying22 (by kernel_rfl) (by kernel_rfl) (by rfl) (by decide) rfl rfl (by repeat (first | exact Sel.head | apply Sel.tail)) (by simp) (by simp [Value.oneCell']) (by omega) (by omega) ?_; clear HM; intro p1 c1 w HC1 HC2 HM) | (refine wpM_storeAll HM rfl rfl rfl rfl (by repeat (first | exact Sel.head | apply Sel.tail)) (by rfl) (by kernel_rfl) (by rfl) ?_; clear HM; intro w HM) | (refine wpM_storeR HM rfl rfl rfl (by (conv => lhs; whnf); try rfl) (by repeat (first | exact Sel.head | apply Sel.tail)) (by exact L0.out) (by kernel_rfl) (by rfl) ?_; clear HM; intro w HM) | (refine wpM_box HM rfl rfl rfl rfl ?_; clear HM; intro b w HB HM; clear HB) | (refine wpM_alloc HM rfl rfl zt_Answer rfl ?_; clear HM; intro b w HB HM; clear HB) | (refine wpM_load (ty := 3) HM rfl rfl rfl (by repeat (first | exact Sel.head | apply Sel.tail)) (by first | rfl | exact HV0.out | exact HVm.out) (by kernel_rfl) ?_) | (refine wpM_loadR (ty := 3) HM rfl rfl rfl (by repeat (first | exact Sel.head | apply Sel.tail)) (by first | rfl | exact HV0.out | exact HVm.out) (by kernel_rfl) ?_) | (refine wpM_store HM rfl rfl rfl (by (conv => lhs; whnf); try rfl) (by repeat (first | exact Sel.head | apply Sel.tail)) (by simp) (by kernel_rfl) (by rfl) ?_; clear HM; intro w HM; simp only [List.set_cons_zero, List.set_cons_succ] at HM))
  exact bodyPost_ret (v := .tuple #[.slice p3 xs.length c3, .agg #[.int .i64 2, .int .i64 0]]) (resM_tc HM rfl (by rfl) (by rfl) (by repeat (first | exact Sel.head | apply Sel.tail)) (by kernel_rfl)) rfl ⟨_, by rw [HR.out], by rw [HR.out]; exact (HM.gives .head (fun _ _ h => h)), HM.below⟩
set_option maxRecDepth 20000 in
set_option maxHeartbeats 4000000 in
theorem heap_peek (W : World) (v : Value) (xs : List Int) (k key x : Int) (h : Sl W v xs) (hx2 : xs.length ≤ 1000) (hk : k = 5) (hf : 0 < xs.length) :
    Calls Try.prog 19 #[v, .agg #[.int .i64 k, .int .i64 key, .int .i64 x]] W fun e w' =>
      ∃ v', e = .returned (.tuple #[v', .agg #[.int .i64 (heapR xs k x).2.1, .int .i64 (heapR xs k x).2.2]]) ∧ Own w' W.heap.size v' (heapR xs k x).1 ∧ Below W.heap.size W w' := by
  subst hk
  have HR : Hid (heapR xs 5 x = (xs, 1, hp xs 0)) := Lib.hid (by unfold heapR; rw [if_neg (by decide), if_pos (by decide), if_neg (by omega), if_pos rfl])
  have t1 : ((xs.length : Int) == 0) = false := beq_eq_false_iff_ne.2 (by omega)
  have t2 : (0 : Int) < (xs.length : Int) := by omega
  have HV0 := Lib.hid (vals_get xs 0 (by omega))
  obtain ⟨a, cap, rfl⟩ := h.slice
  have HS := Lib.hid h
  clear h
  have HM := Mem.start W
  go_enter Try.func19, Try.ntmps19
  go_wp2_with (first | (refine wpM_buildSlice1 (e := 3) (size := 1) (z := .int .i64 0) HM rfl rfl (by (conv => lhs; whnf); try rfl) (by rfl) Try.underlying22 (by kernel_rfl) (by kernel_rfl) (by rfl) (by rfl) (by decide) (by decide) ?_; clear HM; intro b w HB HM; clear HB) | (refine wpM_append (e := 3) (sz := 1) (bytes := 8) (z := .int .i64 0) HM rfl rfl rfl Try.underlying22 (by kernel_rfl) (by kernel_rfl) (by rfl) (by decide) rfl rfl (by repeat (first | exact Sel.head | apply Sel.tail)) (by simp) (by simp [Value.oneCell']) (by omega) (by omega) ?_; clear HM; intro p1 c1 w HC1 HC2 HM) | (refine wpM_storeAll HM rfl rfl rfl rfl (by repeat (first | exact Sel.head | apply Sel.tail)) (by rfl) (by kernel_rfl) (by rfl) ?_; clear HM; intro w HM) | (refine wpM_storeR HM rfl rfl rfl (by (conv => lhs; whnf); try rfl) (by repeat (first | exact Sel.head | apply Sel.tail)) (by exact L0.out) (by kernel_rfl) (by rfl) ?_; clear HM; intro w HM) | (refine wpM_box HM rfl rfl rfl rfl ?_; clear HM; intro b w HB HM; clear HB) | (refine wpM_alloc HM rfl rfl zt_Answer rfl ?_; clear HM; intro b w HB HM; clear HB) | (refine wpM_load (ty := 3) HM rfl rfl rfl (by repeat (first | exact Sel.head | apply Sel.tail)) (by first | rfl | exact HV0.out | exact HVm.out) (by kernel_rfl) ?_) | (refine wpM_loadR (ty := 3) HM rfl rfl rfl (by repeat (first | exact Sel.head | apply Sel.tail)) (by first | rfl | exact HV0.out | exact HVm.out) (by kernel_rfl) ?_) | (refine wpM_store HM rfl rfl rfl (by (conv => lhs; whnf); try rfl) (by repeat (first | exact Sel.head | apply Sel.tail)) (by simp) (by kernel_rfl) (by rfl) ?_; clear HM; intro w HM; simp only [List.set_cons_zero, List.set_cons_succ] at HM))
  refine (clone_any _ _ xs (HS.out.below HM.below) hx2).mono ?_
  rintro e w ⟨v3, rfl, ho, hb3⟩
  replace HM := HM.got hb3 ho
  change Mem W _ (.row v3 3 1 xs.length (vals xs) :: _) w at HM
  clear ho hb3
  obtain ⟨g, c3, rfl, hc3, hc4, hc5, -⟩ := ownsRow.head (HM.row .head) (by omega)
  go_wp2_with (first | (refine wpM_buildSlice1 (e := 3) (size := 1) (z := .int .i64 0) HM rfl rfl (by (conv => lhs; whnf); try rfl) (by rfl) Try.underlying22 (by kernel_rfl) (by kernel_rfl) (by rfl) (by rfl) (by decide) (by decide) ?_; clear HM; intro b w HB HM; clear HB) | (refine wpM_append (e := 3) (sz := 1) (bytes := 8) (z := .int .i64 0) HM rfl rfl rfl Try.underlying22 (by kernel_rfl) (by kernel_rfl) (by rfl) (by decide) rfl rfl (by repeat (first | exact Sel.head | apply Sel.tail)) (by simp) (by simp [Value.oneCell']) (by omega) (by omega) ?_; clear HM; intro p1 c1 w HC1 HC2 HM) | (refine wpM_storeAll HM rfl rfl rfl rfl (by repeat (first | exact Sel.head | apply Sel.tail)) (by rfl) (by kernel_rfl) (by rfl) ?_; clear HM; intro w HM) | (refine wpM_storeR HM rfl rfl rfl (by (conv => lhs; whnf); try rfl) (by repeat (first | exact Sel.head | apply Sel.tail)) (by exact L0.out) (by kernel_rfl) (by rfl) ?_; clear HM; intro w HM) | (refine wpM_box HM rfl rfl rfl rfl ?_; clear HM; intro b w HB HM; clear HB) | (refine wpM_alloc HM rfl rfl zt_Answer rfl ?_; clear HM; intro b w HB HM; clear HB) | (refine wpM_load (ty := 3) HM rfl rfl rfl (by repeat (first | exact Sel.head | apply Sel.tail)) (by first | rfl | exact HV0.out | exact HVm.out) (by kernel_rfl) ?_) | (refine wpM_loadR (ty := 3) HM rfl rfl rfl (by repeat (first | exact Sel.head | apply Sel.tail)) (by first | rfl | exact HV0.out | exact HVm.out) (by kernel_rfl) ?_) | (refine wpM_store HM rfl rfl rfl (by (conv => lhs; whnf); try rfl) (by repeat (first | exact Sel.head | apply Sel.tail)) (by simp) (by kernel_rfl) (by rfl) ?_; clear HM; intro w HM; simp only [List.set_cons_zero, List.set_cons_succ] at HM))
  exact bodyPost_ret (v := .tuple #[.slice (some ⟨g, 0, none⟩) xs.length c3, .agg #[.int .i64 1, .int .i64 (hp xs 0)]]) (resM_tc HM rfl (by rfl) (by rfl) (by repeat (first | exact Sel.head | apply Sel.tail)) (by kernel_rfl)) rfl ⟨_, by rw [HR.out], by rw [HR.out]; exact (HM.gives .head (fun _ _ h => h)), HM.below⟩
set_option maxRecDepth 20000 in
set_option maxHeartbeats 4000000 in
theorem heap_take (W : World) (v : Value) (xs : List Int) (k key x : Int) (h : Sl W v xs) (hx2 : xs.length ≤ 1000) (hk : k = 2) (hf : 0 < xs.length) :
    Calls Try.prog 19 #[v, .agg #[.int .i64 k, .int .i64 key, .int .i64 x]] W fun e w' =>
      ∃ v', e = .returned (.tuple #[v', .agg #[.int .i64 (heapR xs k x).2.1, .int .i64 (heapR xs k x).2.2]]) ∧ Own w' W.heap.size v' (heapR xs k x).1 ∧ Below W.heap.size W w' := by
  subst hk
  obtain ⟨m, hm⟩ : ∃ m, m = xs.length - 1 := ⟨_, rfl⟩
  have HR : Hid (heapR xs 2 x = (downF m ((xs.set 0 (hp xs m)).take m) 0, 1, hp xs 0)) := Lib.hid (by unfold heapR; rw [if_neg (by decide), if_pos (by decide), if_neg (by omega), if_neg (by decide), hm])
  have t1 : ((xs.length : Int) == 0) = false := beq_eq_false_iff_ne.2 (by omega)
  have t2 : (0 : Int) < (xs.length : Int) := by omega
  have HV0 := Lib.hid (vals_get xs 0 (by omega))
  have HVm := Lib.hid (vals_get xs m (by omega))
  have L0 : Hid (0 < (vals xs).length) := Lib.hid (by rw [vals_len]; omega)
  have e1 : (xs.length : Int) - 1 = (m : Int) := by omega
  have e2 : IntKind.i64.wrap (m : Int) = (m : Int) := IntWalk.i64_in _ (by omega)
  have e3 : wrap64 (m : Int) = (m : Int) := IntWalk.wrap64_in _ ⟨by omega, by omega⟩
  have hml : m < xs.length := by omega
  have hml2 : (m : Int) < (xs.length : Int) := by omega
  clear hm
  obtain ⟨a, cap, rfl⟩ := h.slice
  have HS := Lib.hid h
  clear h
  have HM := Mem.start W
  go_enter Try.func19, Try.ntmps19
  go_wp2_with (first | (refine wpM_buildSlice1 (e := 3) (size := 1) (z := .int .i64 0) HM rfl rfl (by (conv => lhs; whnf); try rfl) (by rfl) Try.underlying22 (by kernel_rfl) (by kernel_rfl) (by rfl) (by rfl) (by decide) (by decide) ?_; clear HM; intro b w HB HM; clear HB) | (refine wpM_append (e := 3) (sz := 1) (bytes := 8) (z := .int .i64 0) HM rfl rfl rfl Try.underlying22 (by kernel_rfl) (by kernel_rfl) (by rfl) (by decide) rfl rfl (by repeat (first | exact Sel.head | apply Sel.tail)) (by simp) (by simp [Value.oneCell']) (by omega) (by omega) ?_; clear HM; intro p1 c1 w HC1 HC2 HM) | (refine wpM_storeAll HM rfl rfl rfl rfl (by repeat (first | exact Sel.head | apply Sel.tail)) (by rfl) (by kernel_rfl) (by rfl) ?_; clear HM; intro w HM) | (refine wpM_storeR HM rfl rfl rfl (by (conv => lhs; whnf); try rfl) (by repeat (first | exact Sel.head | apply Sel.tail)) (by exact L0.out) (by kernel_rfl) (by rfl) ?_; clear HM; intro w HM) | (refine wpM_box HM rfl rfl rfl rfl ?_; clear HM; intro b w HB HM; clear HB) | (refine wpM_alloc HM rfl rfl zt_Answer rfl ?_; clear HM; intro b w HB HM; clear HB) | (refine wpM_load (ty := 3) HM rfl rfl rfl (by repeat (first | exact Sel.head | apply Sel.tail)) (by first | rfl | exact HV0.out | exact HVm.out) (by kernel_rfl) ?_) | (refine wpM_loadR (ty := 3) HM rfl rfl rfl (by repeat (first | exact Sel.head | apply Sel.tail)) (by first | rfl | exact HV0.out | exact HVm.out) (by kernel_rfl) ?_) | (refine wpM_store HM rfl rfl rfl (by (conv => lhs; whnf); try rfl) (by repeat (first | exact Sel.head | apply Sel.tail)) (by simp) (by kernel_rfl) (by rfl) ?_; clear HM; intro w HM; simp only [List.set_cons_zero, List.set_cons_succ] at HM))
  refine (clone_any _ _ xs (HS.out.below HM.below) hx2).mono ?_
  rintro e w ⟨v3, rfl, ho, hb3⟩
  replace HM := HM.got hb3 ho
  change Mem W _ (.row v3 3 1 xs.length (vals xs) :: _) w at HM
  clear ho hb3
  obtain ⟨g, c3, rfl, hc3, hc4, hc5, -⟩ := ownsRow.head (HM.row .head) (by omega)
  go_wp2_with (first | (refine wpM_buildSlice1 (e := 3) (size := 1) (z := .int .i64 0) HM rfl rfl (by (conv => lhs; whnf); try rfl) (by rfl) Try.underlying22 (by kernel_rfl) (by kernel_rfl) (by rfl) (by rfl) (by decide) (by decide) ?_; clear HM; intro b w HB HM; clear HB) | (refine wpM_append (e := 3) (sz := 1) (bytes := 8) (z := .int .i64 0) HM rfl rfl rfl Try.underlying22 (by kernel_rfl) (by kernel_rfl) (by rfl) (by decide) rfl rfl (by repeat (first | exact Sel.head | apply Sel.tail)) (by simp) (by simp [Value.oneCell']) (by omega) (by omega) ?_; clear HM; intro p1 c1 w HC1 HC2 HM) | (refine wpM_storeAll HM rfl rfl rfl rfl (by repeat (first | exact Sel.head | apply Sel.tail)) (by rfl) (by kernel_rfl) (by rfl) ?_; clear HM; intro w HM) | (refine wpM_storeR HM rfl rfl rfl (by (conv => lhs; whnf); try rfl) (by repeat (first | exact Sel.head | apply Sel.tail)) (by exact L0.out) (by kernel_rfl) (by rfl) ?_; clear HM; intro w HM) | (refine wpM_box HM rfl rfl rfl rfl ?_; clear HM; intro b w HB HM; clear HB) | (refine wpM_alloc HM rfl rfl zt_Answer rfl ?_; clear HM; intro b w HB HM; clear HB) | (refine wpM_load (ty := 3) HM rfl rfl rfl (by repeat (first | exact Sel.head | apply Sel.tail)) (by first | rfl | exact HV0.out | exact HVm.out) (by kernel_rfl) ?_) | (refine wpM_loadR (ty := 3) HM rfl rfl rfl (by repeat (first | exact Sel.head | apply Sel.tail)) (by first | rfl | exact HV0.out | exact HVm.out) (by kernel_rfl) ?_) | (refine wpM_store HM rfl rfl rfl (by (conv => lhs; whnf); try rfl) (by repeat (first | exact Sel.head | apply Sel.tail)) (by simp) (by kernel_rfl) (by rfl) ?_; clear HM; intro w HM; simp only [List.set_cons_zero, List.set_cons_succ] at HM))
  rw [vals_set] at HM
  replace HM := HM.takeRow .head m (by omega)
  rw [vals_take, Nat.mul_one] at HM
  have HLN : Hid (((xs.set 0 (hp xs m)).take m).length = m) := Lib.hid (by simp; omega)
  have hdn := heap_down w g c3 ((xs.set 0 (hp xs m)).take m) (by rw [HLN.out]; exact HM.row .head) (by rw [HLN.out]; omega)
  rw [HLN.out] at hdn
  refine hdn.mono ?_
  rintro e w1 ⟨rfl, ho, hk⟩
  replace HM := HM.turn .head (hk.mono (fun k hk => by subst hk; rfl)) (.row _ _ _ _ _) ho (fun g h => .inl h)
  clear ho hk hdn
  go_wp2_with (first | (refine wpM_buildSlice1 (e := 3) (size := 1) (z := .int .i64 0) HM rfl rfl (by (conv => lhs; whnf); try rfl) (by rfl) Try.underlying22 (by kernel_rfl) (by kernel_rfl) (by rfl) (by rfl) (by decide) (by decide) ?_; clear HM; intro b w HB HM; clear HB) | (refine wpM_append (e := 3) (sz := 1) (bytes := 8) (z := .int .i64 0) HM rfl rfl rfl Try.underlying22 (by kernel_rfl) (by kernel_rfl) (by rfl) (by decide) rfl rfl (by repeat (first | exact Sel.head | apply Sel.tail)) (by simp) (by simp [Value.oneCell']) (by omega) (by omega) ?_; clear HM; intro p1 c1 w HC1 HC2 HM) | (refine wpM_storeAll HM rfl rfl rfl rfl (by repeat (first | exact Sel.head | apply Sel.tail)) (by rfl) (by kernel_rfl) (by rfl) ?_; clear HM; intro w HM) | (refine wpM_storeR HM rfl rfl rfl (by (conv => lhs; whnf); try rfl) (by repeat (first | exact Sel.head | apply Sel.tail)) (by exact L0.out) (by kernel_rfl) (by rfl) ?_; clear HM; intro w HM) | (refine wpM_box HM rfl rfl rfl rfl ?_; clear HM; intro b w HB HM; clear HB) | (refine wpM_alloc HM rfl rfl zt_Answer rfl ?_; clear HM; intro b w HB HM; clear HB) | (refine wpM_load (ty := 3) HM rfl rfl rfl (by repeat (first | exact Sel.head | apply Sel.tail)) (by first | rfl | exact HV0.out | exact HVm.out) (by kernel_rfl) ?_) | (refine wpM_loadR (ty := 3) HM rfl rfl rfl (by repeat (first | exact Sel.head | apply Sel.tail)) (by first | rfl | exact HV0.out | exact HVm.out) (by kernel_rfl) ?_) | (refine wpM_store HM rfl rfl rfl (by (conv => lhs; whnf); try rfl) (by repeat (first | exact Sel.head | apply Sel.tail)) (by simp) (by kernel_rfl) (by rfl) ?_; clear HM; intro w HM; simp only [List.set_cons_zero, List.set_cons_succ] at HM))
  refine bodyPost_ret (v := .tuple #[.slice (some ⟨g, 0, none⟩) m c3, .agg #[.int .i64 1, .int .i64 (hp xs 0)]]) (resM_tc HM rfl (by rfl) (by rfl) (by repeat (first | exact Sel.head | apply Sel.tail)) (by kernel_rfl)) rfl ⟨_, by rw [HR.out], ?_, HM.below⟩
  have hg := HM.gives .head (fun _ _ h => h)
  rw [HR.out]
  show World.ownsRow _ _ _ _ _ (downF m ((xs.set 0 (hp xs m)).take m) 0).length (vals _)
  rw [downF_length, HLN.out]
  exact hg
set_option maxRecDepth 20000 in
set_option maxHeartbeats 4000000 in
theorem heap_count (W : World) (v : Value) (xs : List Int) (k key x : Int) (h : Sl W v xs) (hx2 : xs.length ≤ 1000) (hk : k = 6) :
    Calls Try.prog 19 #[v, .agg #[.int .i64 k, .int .i64 key, .int .i64 x]] W fun e w' =>
      ∃ v', e = .returned (.tuple #[v', .agg #[.int .i64 (heapR xs k x).2.1, .int .i64 (heapR xs k x).2.2]]) ∧ Own w' W.heap.size v' (heapR xs k x).1 ∧ Below W.heap.size W w' := by
  subst hk
  have HR : Hid (heapR xs 6 x = (xs, 1, (xs.length : Int))) := Lib.hid (by unfold heapR; rw [if_neg (by decide), if_neg (by decide), if_pos rfl])
  obtain ⟨a, cap, rfl⟩ := h.slice
  have HS := Lib.hid h
  clear h
  have HM := Mem.start W
  go_enter Try.func19, Try.ntmps19
  go_wp2_with (first | (refine wpM_buildSlice1 (e := 3) (size := 1) (z := .int .i64 0) HM rfl rfl (by (conv => lhs; whnf); try rfl) (by rfl) Try.underlying22 (by kernel_rfl) (by kernel_rfl) (by rfl) (by rfl) (by decide) (by decide) ?_; clear HM; intro b w HB HM; clear HB) | (refine wpM_append (e := 3) (sz := 1) (bytes := 8) (z := .int .i64 0) HM rfl rfl rfl Try.underlying22 (by kernel_rfl) (by kernel_rfl) (by rfl) (by decide) rfl rfl (by repeat (first | exact Sel.head | apply Sel.tail)) (by simp) (by simp [Value.oneCell']) (by omega) (by omega) ?_; clear HM; intro p1 c1 w HC1 HC2 HM) | (refine wpM_storeAll HM rfl rfl rfl rfl (by repeat (first | exact Sel.head | apply Sel.tail)) (by rfl) (by kernel_rfl) (by rfl) ?_; clear HM; intro w HM) | (refine wpM_storeR HM rfl rfl rfl (by (conv => lhs; whnf); try rfl) (by repeat (first | exact Sel.head | apply Sel.tail)) (by exact L0.out) (by kernel_rfl) (by rfl) ?_; clear HM; intro w HM) | (refine wpM_box HM rfl rfl rfl rfl ?_; clear HM; intro b w HB HM; clear HB) | (refine wpM_alloc HM rfl rfl zt_Answer rfl ?_; clear HM; intro b w HB HM; clear HB) | (refine wpM_load (ty := 3) HM rfl rfl rfl (by repeat (first | exact Sel.head | apply Sel.tail)) (by first | rfl | exact HV0.out | exact HVm.out) (by kernel_rfl) ?_) | (refine wpM_loadR (ty := 3) HM rfl rfl rfl (by repeat (first | exact Sel.head | apply Sel.tail)) (by first | rfl | exact HV0.out | exact HVm.out) (by kernel_rfl) ?_) | (refine wpM_store HM rfl rfl rfl (by (conv => lhs; whnf); try rfl) (by repeat (first | exact Sel.head | apply Sel.tail)) (by simp) (by kernel_rfl) (by rfl) ?_; clear HM; intro w HM; simp only [List.set_cons_zero, List.set_cons_succ] at HM))
  refine (clone_any _ _ xs (HS.out.below HM.below) hx2).mono ?_
  rintro e w ⟨v3, rfl, ho, hb3⟩
  replace HM := HM.got hb3 ho
  change Mem W _ (.row v3 3 1 xs.length (vals xs) :: _) w at HM
  clear ho hb3
  obtain ⟨p3, c3, rfl, hc3, hc4, -⟩ := ownsRow.form (HM.row .head)
  go_wp2_with (first | (refine wpM_buildSlice1 (e := 3) (size := 1) (z := .int .i64 0) HM rfl rfl (by (conv => lhs; whnf); try rfl) (by rfl) Try.underlying22 (by kernel_rfl) (by kernel_rfl) (by rfl) (by rfl) (by decide) (by decide) ?_; clear HM; intro b w HB HM; clear HB) | (refine wpM_append (e := 3) (sz := 1) (bytes := 8) (z := .int .i64 0) HM rfl rfl rfl Try.underlying22 (by kernel_rfl) (by kernel_rfl) (by rfl) (by decide) rfl rfl (by repeat (first | exact Sel.head | apply Sel.tail)) (by simp) (by simp [Value.oneCell']) (by omega) (by omega) ?_; clear HM; intro p1 c1 w HC1 HC2 HM) | (refine wpM_storeAll HM rfl rfl rfl rfl (by repeat (first | exact Sel.head | apply Sel.tail)) (by rfl) (by kernel_rfl) (by rfl) ?_; clear HM; intro w HM) | (refine wpM_storeR HM rfl rfl rfl (by (conv => lhs; whnf); try rfl) (by repeat (first | exact Sel.head | apply Sel.tail)) (by exact L0.out) (by kernel_rfl) (by rfl) ?_; clear HM; intro w HM) | (refine wpM_box HM rfl rfl rfl rfl ?_; clear HM; intro b w HB HM; clear HB) | (refine wpM_alloc HM rfl rfl zt_Answer rfl ?_; clear HM; intro b w HB HM; clear HB) | (refine wpM_load (ty := 3) HM rfl rfl rfl (by repeat (first | exact Sel.head | apply Sel.tail)) (by first | rfl | exact HV0.out | exact HVm.out) (by kernel_rfl) ?_) | (refine wpM_loadR (ty := 3) HM rfl rfl rfl (by repeat (first | exact Sel.head | apply Sel.tail)) (by first | rfl | exact HV0.out | exact HVm.out) (by kernel_rfl) ?_) | (refine wpM_store HM rfl rfl rfl (by (conv => lhs; whnf); try rfl) (by repeat (first | exact Sel.head | apply Sel.tail)) (by simp) (by kernel_rfl) (by rfl) ?_; clear HM; intro w HM; simp only [List.set_cons_zero, List.set_cons_succ] at HM))
  exact bodyPost_ret (v := .tuple #[.slice p3 xs.length c3, .agg #[.int .i64 1, .int .i64 xs.length]]) (resM_tc HM rfl (by rfl) (by rfl) (by repeat (first | exact Sel.head | apply Sel.tail)) (by kernel_rfl)) rfl ⟨_, by rw [HR.out], by rw [HR.out]; exact (HM.gives .head (fun _ _ h => h)), HM.below⟩
set_option maxRecDepth 20000 in
set_option maxHeartbeats 4000000 in
theorem heap_wrong (W : World) (v : Value) (xs : List Int) (k key x : Int) (h : Sl W v xs) (hx2 : xs.length ≤ 1000) (k1 : k ≠ 1) (k2 : k ≠ 2) (k5 : k ≠ 5) (k6 : k ≠ 6) :
    Calls Try.prog 19 #[v, .agg #[.int .i64 k, .int .i64 key, .int .i64 x]] W fun e w' =>
      ∃ v', e = .returned (.tuple #[v', .agg #[.int .i64 (heapR xs k x).2.1, .int .i64 (heapR xs k x).2.2]]) ∧ Own w' W.heap.size v' (heapR xs k x).1 ∧ Below W.heap.size W w' := by
  have HR : Hid (heapR xs k x = (xs, 5, 0)) := Lib.hid (by unfold heapR; rw [if_neg k1, if_neg (by omega), if_neg k6])
  have q1 : (k == 1) = false := by simpa using k1
  have q2 : (k == 2) = false := by simpa using k2
  have q5 : (k == 5) = false := by simpa using k5
  have q6 : (k == 6) = false := by simpa using k6
  clear k1 k2 k5 k6
  obtain ⟨a, cap, rfl⟩ := h.slice
  have HS := Lib.hid h
  clear h
  have HM := Mem.start W
  go_enter Try.func19, Try.ntmps19
  go_wp2_with (first | (refine wpM_buildSlice1 (e := 3) (size := 1) (z := .int .i64 0) HM rfl rfl (by (conv => lhs; whnf); try rfl) (by rfl) Try.underlying22 (by kernel_rfl) (by kernel_rfl) (by rfl) (by rfl) (by decide) (by decide) ?_; clear HM; intro b w HB HM; clear HB) | (refine wpM_append (e := 3) (sz := 1) (bytes := 8) (z := .int .i64 0) HM rfl rfl rfl Try.underlying22 (by kernel_rfl) (by kernel_rfl) (by rfl) (by decide) rfl rfl (by repeat (first | exact Sel.head | apply Sel.tail)) (by simp) (by simp [Value.oneCell']) (by omega) (by omega) ?_; clear HM; intro p1 c1 w HC1 HC2 HM) | (refine wpM_storeAll HM rfl rfl rfl rfl (by repeat (first | exact Sel.head | apply Sel.tail)) (by rfl) (by kernel_rfl) (by rfl) ?_; clear HM; intro w HM) | (refine wpM_storeR HM rfl rfl rfl (by (conv => lhs; whnf); try rfl) (by repeat (first | exact Sel.head | apply Sel.tail)) (by exact L0.out) (by kernel_rfl) (by rfl) ?_; clear HM; intro w HM) | (refine wpM_box HM rfl rfl rfl rfl ?_; clear HM; intro b w HB HM; clear HB) | (refine wpM_alloc HM rfl rfl zt_Answer rfl ?_; clear HM; intro b w HB HM; clear HB) | (refine wpM_load (ty := 3) HM rfl rfl rfl (by repeat (first | exact Sel.head | apply Sel.tail)) (by first | rfl | exact HV0.out | exact HVm.out) (by kernel_rfl) ?_) | (refine wpM_loadR (ty := 3) HM rfl rfl rfl (by repeat (first | exact Sel.head | apply Sel.tail)) (by first | rfl | exact HV0.out | exact HVm.out) (by kernel_rfl) ?_) | (refine wpM_store HM rfl rfl rfl (by (conv => lhs; whnf); try rfl) (by repeat (first | exact Sel.head | apply Sel.tail)) (by simp) (by kernel_rfl) (by rfl) ?_; clear HM; intro w HM; simp only [List.set_cons_zero, List.set_cons_succ] at HM))
  refine (clone_any _ _ xs (HS.out.below HM.below) hx2).mono ?_
  rintro e w ⟨v3, rfl, ho, hb3⟩
  replace HM := HM.got hb3 ho
  change Mem W _ (.row v3 3 1 xs.length (vals xs) :: _) w at HM
  clear ho hb3
  obtain ⟨p3, c3, rfl, hc3, hc4, -⟩ := ownsRow.form (HM.row .head)
  go_wp2_with (first | (refine wpM_buildSlice1 (e := 3) (size := 1) (z := .int .i64 0) HM rfl rfl (by (conv => lhs; whnf); try rfl) (by rfl) Try.underlying22 (by kernel_rfl) (by kernel_rfl) (by rfl) (by rfl) (by decide) (by decide) ?_; clear HM; intro b w HB HM; clear HB) | (refine wpM_append (e := 3) (sz := 1) (bytes := 8) (z := .int .i64 0) HM rfl rfl rfl Try.underlying22 (by kernel_rfl) (by kernel_rfl) (by rfl) (by decide) rfl rfl (by repeat (first | exact Sel.head | apply Sel.tail)) (by simp) (by simp [Value.oneCell']) (by omega) (by omega) ?_; clear HM; intro p1 c1 w HC1 HC2 HM) | (refine wpM_storeAll HM rfl rfl rfl rfl (by repeat (first | exact Sel.head | apply Sel.tail)) (by rfl) (by kernel_rfl) (by rfl) ?_; clear HM; intro w HM) | (refine wpM_storeR HM rfl rfl rfl (by (conv => lhs; whnf); try rfl) (by repeat (first | exact Sel.head | apply Sel.tail)) (by exact L0.out) (by kernel_rfl) (by rfl) ?_; clear HM; intro w HM) | (refine wpM_box HM rfl rfl rfl rfl ?_; clear HM; intro b w HB HM; clear HB) | (refine wpM_alloc HM rfl rfl zt_Answer rfl ?_; clear HM; intro b w HB HM; clear HB) | (refine wpM_load (ty := 3) HM rfl rfl rfl (by repeat (first | exact Sel.head | apply Sel.tail)) (by first | rfl | exact HV0.out | exact HVm.out) (by kernel_rfl) ?_) | (refine wpM_loadR (ty := 3) HM rfl rfl rfl (by repeat (first | exact Sel.head | apply Sel.tail)) (by first | rfl | exact HV0.out | exact HVm.out) (by kernel_rfl) ?_) | (refine wpM_store HM rfl rfl rfl (by (conv => lhs; whnf); try rfl) (by repeat (first | exact Sel.head | apply Sel.tail)) (by simp) (by kernel_rfl) (by rfl) ?_; clear HM; intro w HM; simp only [List.set_cons_zero, List.set_cons_succ] at HM))
  exact bodyPost_ret (v := .tuple #[.slice p3 xs.length c3, .agg #[.int .i64 5, .int .i64 0]]) (resM_tc HM rfl (by rfl) (by rfl) (by repeat (first | exact Sel.head | apply Sel.tail)) (by kernel_rfl)) rfl ⟨_, by rw [HR.out], by rw [HR.out]; exact (HM.gives .head (fun _ _ h => h)), HM.below⟩
theorem heap_do (W : World) (v : Value) (xs : List Int) (k key x : Int) (h : Sl W v xs) (hx2 : xs.length ≤ 1000) :
    Calls Try.prog 19 #[v, .agg #[.int .i64 k, .int .i64 key, .int .i64 x]] W fun e w' =>
      ∃ v', e = .returned (.tuple #[v', .agg #[.int .i64 (heapR xs k x).2.1, .int .i64 (heapR xs k x).2.2]]) ∧ Own w' W.heap.size v' (heapR xs k x).1 ∧ Below W.heap.size W w' := by
  by_cases k1 : k = 1
  · by_cases hf : 6 ≤ xs.length
    · exact heap_full W v xs k key x h hx2 k1 hf
    · exact heap_put W v xs k key x h hx2 k1 (by omega)
  · by_cases k2 : k = 2
    · by_cases hf : xs.length = 0
      · exact heap_empty2 W v xs k key x h hx2 k2 hf
      · exact heap_take W v xs k key x h hx2 k2 (by omega)
    · by_cases k5 : k = 5
      · by_cases hf : xs.length = 0
        · exact heap_empty5 W v xs k key x h hx2 k5 hf
        · exact heap_peek W v xs k key x h hx2 k5 (by omega)
      · by_cases k6 : k = 6
        · exact heap_count W v xs k key x h hx2 k6
        · exact heap_wrong W v xs k key x h hx2 k1 k2 k5 k6
end Go.Proofs.Ytpedkcpkdacnlaa
end
section
namespace Go.Proofs.Ytpedkcpkdacnlaa
open Go.RowKit

/-- A block in which a cell reads is there. -/
theorem block_lt {w : World} {b o : Nat} {v : Value} (h : w.cell? ⟨b, o, none⟩ = some v) : b < w.heap.size := by
  rcases Nat.lt_or_ge b w.heap.size with h' | h'
  · exact h'
  · simp [World.cell?, Array.getElem?_eq_none h'] at h

/-- What the walk is told of a slice of integers that came in (the skeleton's own word). -/
def IsRow (k : IntKind) (w : World) (a : Option Addr) (len cap : Nat) (zs : List Int) : Prop :=
  (a = none ∧ len = 0 ∧ cap = 0 ∧ zs = []) ∨
  ∃ x, a = some x ∧ len ≤ cap ∧ cap ≤ maxLen ∧ zs.length = cap ∧ (∀ i, i < zs.length → w.cell? (x.add i) = some (.int k (zs.getD i 0))) ∧ ∀ n ∈ zs, (Lit.int k n).wf = true

/-- The same, turned to the walk's use: 'ys' are the elements; a slice without spare room is nil, or leads to its cells. -/
theorem row_cases {k : IntKind} {w : World} {a : Option Addr} {len cap : Nat} {zs : List Int} (h : IsRow k w a len cap zs) :
    ∃ ys : List Int, ys.length = len ∧ len ≤ cap ∧ cap ≤ 9223372036854775807 ∧ (∀ n ∈ ys, (Lit.int k n).wf = true) ∧
      ((a = none ∧ len = 0 ∧ cap = 0) ∨ (len = 0 ∧ ∃ x, a = some x) ∨
        ∃ b off, a = some ⟨b, off, none⟩ ∧ 0 < len ∧ b < w.heap.size ∧ ∀ j, j < len → w.cell? ⟨b, off + j, none⟩ = some (.int k (ys[j]?.getD 0))) := by
  rcases h with ⟨rfl, rfl, rfl, rfl⟩ | ⟨x, rfl, hl, hm, hz, hc, hw⟩
  · exact ⟨[], rfl, Nat.le_refl _, by omega, by simp, .inl ⟨rfl, rfl, rfl⟩⟩
  · unfold maxLen at hm
    refine ⟨zs.take len, by simp; omega, hl, hm, fun n hn => hw n (List.mem_of_mem_take hn), .inr ?_⟩
    by_cases h0 : len = 0
    · exact .inl ⟨h0, _, rfl⟩
    · obtain ⟨b, off, rfl, hc'⟩ := Go.ints_at hc (by omega)
      refine .inr ⟨b, off, rfl, by omega, block_lt (hc' 0 (by omega)), fun j hj => ?_⟩
      rw [hc' j (by omega)]
      simp [hj]
end Go.Proofs.Ytpedkcpkdacnlaa
end
section
namespace Go.Proofs.Ytpedkcpkdacnlaa
open Go.RowKit

theorem pick_any (a n : Int) (w : World) (hn : 0 < n) (hn' : n ≤ 9223372036854775807) :
    Calls Try.prog 24 #[.int .i64 a, .int .i64 n] w fun e w' => e = .returned (.int .i64 (pickZ a n)) ∧ w = w' := by
  have H0 := pick_eq a n hn hn'
  have H := Lib.hid H0; clear H0
  go_enter Try.func24, Try.ntmps24
  go_wp2
  go_ret
  exact ⟨ret_int H.out, rfl⟩
end Go.Proofs.Ytpedkcpkdacnlaa
end
section
namespace Go.Proofs.Ytpedkcpkdacnlaa
open Go.RowKit
theorem put_any (v : Int) (w : World) :
    Calls Try.prog 38 #[.int .i64 v] w fun e w' => e = .returned (.agg #[.int .i64 1, .int .i64 0, .int .i64 v]) ∧ Below w.heap.size w w' := by
  go_enter Try.func38, Try.ntmps38
  go_wp2
  refine bodyPost_ret (v := .agg #[.int .i64 1, .int .i64 0, .int .i64 v]) (by simp [results, Try.results38, go_sem]) rfl ⟨rfl, ?_⟩
  exact (Below.refl _ _).alloc (Nat.le_refl _) _
end Go.Proofs.Ytpedkcpkdacnlaa
end
section
namespace Go.Proofs.Ytpedkcpkdacnlaa
open Go.RowKit
def fewL (ys : List Int) : List Int := (ys.take 6).map (pickZ · 4294967296)
theorem fewL_len (ys : List Int) : (fewL ys).length ≤ 6 := by unfold fewL; simp; omega
def fewTo (zs : List Int) (k : Nat) : List Int := (zs.take k).map (pickZ · 4294967296) ++ zs.drop k
theorem fewTo_len (zs : List Int) (k : Nat) : (fewTo zs k).length = zs.length := by unfold fewTo; simp; omega
theorem fewTo_zero (zs : List Int) : fewTo zs 0 = zs := by simp [fewTo]
theorem fewTo_all (zs : List Int) : fewTo zs zs.length = zs.map (pickZ · 4294967296) := by simp [fewTo]
theorem fewTo_get (zs : List Int) (k : Nat) (h : k < zs.length) : (fewTo zs k).getD k 0 = zs.getD k 0 := by
  unfold fewTo
  rw [List.getD_eq_getElem?_getD, List.getD_eq_getElem?_getD, List.getElem?_append_right (by simp; omega)]
  simp [Nat.min_eq_left (Nat.le_of_lt h)]
theorem fewTo_set (zs : List Int) (k : Nat) (h : k < zs.length) : (fewTo zs k).set k (pickZ (zs.getD k 0) 4294967296) = fewTo zs (k + 1) := by
  apply List.ext_getElem?
  intro i
  unfold fewTo
  rw [List.getElem?_set]
  by_cases hk : k = i
  · subst hk
    simp [List.getElem?_append, h, Nat.min_eq_left (Nat.le_of_lt h), Nat.min_eq_left h]
    omega
  · simp only [hk, if_false]
    by_cases hi : i < k
    · rw [List.getElem?_append_left (by simp; omega), List.getElem?_append_left (by simp; omega)]
      simp [hi, Nat.lt_succ_of_lt hi]
    · rw [List.getElem?_append_right (by simp; omega), List.getElem?_append_right (by simp; omega)]
      simp [Nat.min_eq_left (Nat.le_of_lt h), Nat.min_eq_left h]
      congr 1; omega
theorem row_sl {w : World} {a : Option Addr} {len cap : Nat} {zs : List Int} (h : IsRow .i64 w a len cap zs) :
    ∃ ys : List Int, ys.length = len ∧ Sl w (.slice a len cap) ys := by
  obtain ⟨ys, rfl, h1, h2, -, h3⟩ := row_cases h
  refine ⟨ys, rfl, a, cap, rfl, h1, h2, ?_⟩
  rcases h3 with ⟨rfl, h4, rfl⟩ | ⟨h4, x, rfl⟩ | ⟨b, off, rfl, h4, h5, h6⟩
  · exact .inl ⟨h4, fun _ => rfl⟩
  · exact .inl ⟨h4, fun h => by cases h⟩
  · exact .inr ⟨b, off, rfl, h5, fun j hj => by rw [h6 j hj, List.getD_eq_getElem?_getD]⟩
set_option maxHeartbeats 1000000 in
theorem few_any (a0 : Option Addr) (len0 cap0 : Nat) (ys : List Int) (w : World) (hl : ys.length = len0) (w0 : Sl w (.slice a0 len0 cap0) ys) :
    Calls Try.prog 23 #[.slice a0 len0 cap0] w fun e w' => ∃ v', e = .returned v' ∧ Own w' w.heap.size v' (fewL ys) ∧ Below w.heap.size w w' := by
  have h63 : len0 ≤ cap0 ∧ cap0 ≤ 9223372036854775807 := by obtain ⟨_, _, he, h1, h2, -⟩ := w0; simp at he; omega
  obtain ⟨hcap, hmax⟩ := h63
  obtain ⟨m, hm0, hm, hm6⟩ : ∃ m : Nat, (m : Int) = min (len0 : Int) 6 ∧ m ≤ ys.length ∧ ys.take 6 = ys.take m := by
    by_cases h : len0 ≤ 6
    · exact ⟨len0, by omega, by omega, by rw [List.take_of_length_le (by omega), List.take_of_length_le (by omega)]⟩
    · exact ⟨6, by omega, by omega, rfl⟩
  have ht := w0.take m hm
  have hf : fewL ys = (ys.take m).map (pickZ · 4294967296) := by unfold fewL; rw [hm6]
  have hzl : (ys.take m).length = m := by simp; omega
  have hm6' : m ≤ 6 := by omega
  have hmc : (m : Int) ≤ cap0 := by omega
  rw [hf]
  generalize ys.take m = zs at *
  have HT := Lib.hid ht; have HM := Lib.hid hm0
  clear ht w0 hf hm6 hm hm0 hl
  subst hzl
  go_enter Try.func23, Try.ntmps23
  go_wp2_with fail
  rw [show (min (len0 : Int) 6).toNat = zs.length from by have := HM.out; omega]
  refine (clone_any _ _ zs HT.out (by omega)).mono ?_
  rintro e w1 ⟨v1, rfl, ho, hb⟩
  obtain ⟨a1, cap1, rfl⟩ := ho.sl.slice
  have HO : Hid (Own w1 w.heap.size (.slice a1 zs.length cap1) (fewTo zs 0)) := by rw [fewTo_zero]; exact ho
  clear ho HM
  go_wp2_with fail
  go_loopw [12] (fun i wr => ∃ k : Nat, k ≤ zs.length ∧ i = .int .i64 k ∧ Below w.heap.size w wr ∧ Hid (Own wr w.heap.size (.slice a1 zs.length cap1) (fewTo zs k)))
    (fun i _ => zs.length - (intOf i).toNat)
  case atStart => exact ⟨0, Nat.zero_le _, rfl, hb, HO⟩
  case round =>
    obtain ⟨k, hk, rfl, hbr, hor⟩ := hrel
    by_cases hlt : k < zs.length
    · obtain ⟨g, cap2, he, hg1, hg2, hg3, hg4, hc, hf⟩ := hor.out.head (by rw [fewTo_len]; omega)
      simp only [Value.slice.injEq] at he
      obtain ⟨rfl, -, rfl⟩ := he
      have c1 := hc k (by rw [fewTo_len]; exact hlt)
      rw [fewTo_get zs k hlt] at c1
      have f1 := hf (0 + k)
      have hset := hor.out.set k (pickZ (zs.getD k 0) 4294967296)
      rw [fewTo_set zs k hlt] at hset
      have HSET := Lib.hid hset
      generalize zs.getD k 0 = z at *
      simp only [Nat.zero_add] at c1 f1
      clear hset hc hf
      go_wp2_with fail
      refine (pick_any _ _ _ (by decide) (by decide)).mono ?_
      rintro e w' ⟨rfl, rfl⟩
      go_wp2_with fail
      go_roundw
      case rel => exact ⟨k + 1, by omega, by go_num, bstore hbr hg1 _, Lib.hid (by simpa using HSET.out)⟩
      case measure => simp [intOf]; omega
    · obtain rfl : k = zs.length := by omega
      have ho := hor.out
      rw [fewTo_all] at ho
      have HO2 := Lib.hid ho
      clear ho hor
      go_wp2_with fail
      go_ret
      exact ⟨_, rfl, HO2.out, hbr⟩
end Go.Proofs.Ytpedkcpkdacnlaa
end
section
namespace Go.Proofs.Ytpedkcpkdacnlaa
open Go.RowKit
set_option linter.unusedVariables false
/-- A block of numbers as a slice. -/
theorem Blk.sl {w : World} {b : Nat} {xs : List Int} {t : TypeId} (h : Blk w b (xs.map (Value.int .i64)) t) (hx : xs.length ≤ 1000) : Sl w (.slice (some ⟨b, 0, none⟩) xs.length xs.length) xs :=
  ⟨_, _, rfl, Nat.le_refl _, by omega, .inr ⟨b, 0, rfl, h.lt, fun j hj => by rw [Nat.zero_add, h.cell, List.getElem?_map, List.getElem?_eq_getElem hj, List.getD_eq_getElem?_getD, List.getElem?_eq_getElem hj]; rfl⟩⟩
set_option maxRecDepth 20000 in
set_option maxHeartbeats 4000000 in
theorem dealt_any (w : World) :
    Calls Try.prog 22 #[] w fun e w' => e = .returned (.bool true) ∧ Below w.heap.size w w' := by
  go_enter Try.func22, Try.ntmps22
  have HB := Lib.hid (Below.refl w.heap.size w)
  go_wp2_with fail
  have hb1 := balloc (Below.refl _ w) (Obj.cells #[.int .i64 1, .int .i64 2] 3)
  have L12 := Lib.hid (Blk.new w [.int .i64 1, .int .i64 2] 3)
  change Hid (Blk (w.alloc (Obj.cells #[.int .i64 1, .int .i64 2] 3)) _ _ _) at L12
  have ZL12 : Hid ((w.alloc (Obj.cells #[.int .i64 1, .int .i64 2] 3)).heap.size = w.heap.size + 1) := World.size_alloc _ _
  replace HB := Lib.hid (bcall HB.out hb1)
  clear hb1
  generalize w.alloc (Obj.cells #[.int .i64 1, .int .i64 2] 3) = w1 at *
  refine (deque_eq _ _ [1, 2] 3 0 3 (Blk.sl (xs := [1, 2]) L12.out (by decide)) (by decide) (ys := [3, 1, 2]) (c := 1) (r := 0) rfl).mono ?_
  rintro e w2 ⟨v1, rfl, ho1, hb2⟩
  replace HB := Lib.hid (bcall HB.out hb2)
  replace L12 := Lib.hid (L12.out.below hb2)
  replace ho1 := Lib.hid ho1
  clear hb2
  go_wp2_with fail
  have hb3 := balloc (Below.refl _ w2) (Obj.cells #[.int .i64 1, .int .i64 0] 26)
  have A1 := Lib.hid (Blk.new w2 [.int .i64 1, .int .i64 0] 26)
  change Hid (Blk (w2.alloc (Obj.cells #[.int .i64 1, .int .i64 0] 26)) _ _ _) at A1
  have ZA1 : Hid ((w2.alloc (Obj.cells #[.int .i64 1, .int .i64 0] 26)).heap.size = w2.heap.size + 1) := World.size_alloc _ _
  replace HB := Lib.hid (bcall HB.out hb3)
  replace L12 := Lib.hid (L12.out.below hb3)
  replace ho1 := Lib.hid (ho1.out.below hb3)
  clear hb3
  generalize w2.alloc (Obj.cells #[.int .i64 1, .int .i64 0] 26) = w3 at *
  generalize w2.heap.size = bA1 at *
  have A1_c0 : w3.cell? ⟨bA1, 0, none⟩ = some (.int .i64 1) := A1.out.cell 0
  have A1_c1 : w3.cell? ⟨bA1, 1, none⟩ = some (.int .i64 0) := A1.out.cell 1
  have A1_z : bA1 < w3.heap.size := A1.out.lt
  go_wp2_with fail
  refine (deque_eq _ _ [3, 1, 2] 4 0 0 ho1.out.sl (by decide) (ys := [3, 1]) (c := 1) (r := 2) rfl).mono ?_
  rintro e w4 ⟨v2, rfl, ho2, hb4⟩
  clear A1_c0 A1_c1 A1_z
  replace HB := Lib.hid (bcall HB.out hb4)
  replace L12 := Lib.hid (L12.out.below hb4)
  replace ho1 := Lib.hid (ho1.out.below hb4)
  replace A1 := Lib.hid (A1.out.below hb4)
  replace ho2 := Lib.hid ho2
  clear hb4
  have A1_c0 : w4.cell? ⟨bA1, 0, none⟩ = some (.int .i64 1) := A1.out.cell 0
  have A1_c1 : w4.cell? ⟨bA1, 1, none⟩ = some (.int .i64 0) := A1.out.cell 1
  have A1_z : bA1 < w4.heap.size := A1.out.lt
  go_wp2_with fail
  have hb5 := balloc (Below.refl _ w4) (Obj.cells #[.int .i64 1, .int .i64 2] 26)
  have A2 := Lib.hid (Blk.new w4 [.int .i64 1, .int .i64 2] 26)
  change Hid (Blk (w4.alloc (Obj.cells #[.int .i64 1, .int .i64 2] 26)) _ _ _) at A2
  have ZA2 : Hid ((w4.alloc (Obj.cells #[.int .i64 1, .int .i64 2] 26)).heap.size = w4.heap.size + 1) := World.size_alloc _ _
  clear A1_c0 A1_c1 A1_z
  replace HB := Lib.hid (bcall HB.out hb5)
  replace L12 := Lib.hid (L12.out.below hb5)
  replace ho1 := Lib.hid (ho1.out.below hb5)
  replace A1 := Lib.hid (A1.out.below hb5)
  replace ho2 := Lib.hid (ho2.out.below hb5)
  clear hb5
  generalize w4.alloc (Obj.cells #[.int .i64 1, .int .i64 2] 26) = w5 at *
  generalize w4.heap.size = bA2 at *
  have A1_c0 : w5.cell? ⟨bA1, 0, none⟩ = some (.int .i64 1) := A1.out.cell 0
  have A1_c1 : w5.cell? ⟨bA1, 1, none⟩ = some (.int .i64 0) := A1.out.cell 1
  have A1_z : bA1 < w5.heap.size := A1.out.lt
  have A2_c0 : w5.cell? ⟨bA2, 0, none⟩ = some (.int .i64 1) := A2.out.cell 0
  have A2_c1 : w5.cell? ⟨bA2, 1, none⟩ = some (.int .i64 2) := A2.out.cell 1
  have A2_z : bA2 < w5.heap.size := A2.out.lt
  go_wp2_with fail
  have hb6 := balloc (Below.refl _ w5) (Obj.cells #[.int .i64 3, .int .i64 1, .int .i64 2] 3)
  have L3 := Lib.hid (Blk.new w5 [.int .i64 3, .int .i64 1, .int .i64 2] 3)
  change Hid (Blk (w5.alloc (Obj.cells #[.int .i64 3, .int .i64 1, .int .i64 2] 3)) _ _ _) at L3
  have ZL3 : Hid ((w5.alloc (Obj.cells #[.int .i64 3, .int .i64 1, .int .i64 2] 3)).heap.size = w5.heap.size + 1) := World.size_alloc _ _
  clear A1_c0 A1_c1 A1_z
  clear A2_c0 A2_c1 A2_z
  replace HB := Lib.hid (bcall HB.out hb6)
  replace L12 := Lib.hid (L12.out.below hb6)
  replace ho1 := Lib.hid (ho1.out.below hb6)
  replace A1 := Lib.hid (A1.out.below hb6)
  replace ho2 := Lib.hid (ho2.out.below hb6)
  replace A2 := Lib.hid (A2.out.below hb6)
  clear hb6
  rw [ZA2.out] at L3 ZL3
  clear ZA2
  generalize w5.alloc (Obj.cells #[.int .i64 3, .int .i64 1, .int .i64 2] 3) = w6 at *
  have A1_c0 : w6.cell? ⟨bA1, 0, none⟩ = some (.int .i64 1) := A1.out.cell 0
  have A1_c1 : w6.cell? ⟨bA1, 1, none⟩ = some (.int .i64 0) := A1.out.cell 1
  have A1_z : bA1 < w6.heap.size := A1.out.lt
  have A2_c0 : w6.cell? ⟨bA2, 0, none⟩ = some (.int .i64 1) := A2.out.cell 0
  have A2_c1 : w6.cell? ⟨bA2, 1, none⟩ = some (.int .i64 2) := A2.out.cell 1
  have A2_z : bA2 < w6.heap.size := A2.out.lt
  refine (equal_any _ _ _ [3, 1, 2] [3, 1, 2] ho1.out.sl (Blk.sl (xs := [3, 1, 2]) L3.out (by decide)) (by decide) (by decide)).mono ?_
  rintro e w7 ⟨rfl, hb7⟩
  clear A1_c0 A1_c1 A1_z
  clear A2_c0 A2_c1 A2_z
  replace HB := Lib.hid (bcall HB.out hb7)
  replace L12 := Lib.hid (L12.out.below hb7)
  replace ho1 := Lib.hid (ho1.out.below hb7)
  replace A1 := Lib.hid (A1.out.below hb7)
  replace ho2 := Lib.hid (ho2.out.below hb7)
  replace A2 := Lib.hid (A2.out.below hb7)
  replace L3 := Lib.hid (L3.out.below hb7)
  clear hb7
  have A1_c0 : w7.cell? ⟨bA1, 0, none⟩ = some (.int .i64 1) := A1.out.cell 0
  have A1_c1 : w7.cell? ⟨bA1, 1, none⟩ = some (.int .i64 0) := A1.out.cell 1
  have A1_z : bA1 < w7.heap.size := A1.out.lt
  have A2_c0 : w7.cell? ⟨bA2, 0, none⟩ = some (.int .i64 1) := A2.out.cell 0
  have A2_c1 : w7.cell? ⟨bA2, 1, none⟩ = some (.int .i64 2) := A2.out.cell 1
  have A2_z : bA2 < w7.heap.size := A2.out.lt
  go_wp2_with fail
  have hb8 := balloc (Below.refl _ w7) (Obj.cells #[.int .i64 3, .int .i64 1] 3)
  have L4 := Lib.hid (Blk.new w7 [.int .i64 3, .int .i64 1] 3)
  change Hid (Blk (w7.alloc (Obj.cells #[.int .i64 3, .int .i64 1] 3)) _ _ _) at L4
  have ZL4 : Hid ((w7.alloc (Obj.cells #[.int .i64 3, .int .i64 1] 3)).heap.size = w7.heap.size + 1) := World.size_alloc _ _
  clear A1_c0 A1_c1 A1_z
  clear A2_c0 A2_c1 A2_z
  replace HB := Lib.hid (bcall HB.out hb8)
  replace L12 := Lib.hid (L12.out.below hb8)
  replace ho1 := Lib.hid (ho1.out.below hb8)
  replace A1 := Lib.hid (A1.out.below hb8)
  replace ho2 := Lib.hid (ho2.out.below hb8)
  replace A2 := Lib.hid (A2.out.below hb8)
  replace L3 := Lib.hid (L3.out.below hb8)
  clear hb8
  generalize w7.alloc (Obj.cells #[.int .i64 3, .int .i64 1] 3) = w8 at *
  generalize w7.heap.size = bL4 at *
  have A1_c0 : w8.cell? ⟨bA1, 0, none⟩ = some (.int .i64 1) := A1.out.cell 0
  have A1_c1 : w8.cell? ⟨bA1, 1, none⟩ = some (.int .i64 0) := A1.out.cell 1
  have A1_z : bA1 < w8.heap.size := A1.out.lt
  have A2_c0 : w8.cell? ⟨bA2, 0, none⟩ = some (.int .i64 1) := A2.out.cell 0
  have A2_c1 : w8.cell? ⟨bA2, 1, none⟩ = some (.int .i64 2) := A2.out.cell 1
  have A2_z : bA2 < w8.heap.size := A2.out.lt
  refine (equal_any _ _ _ [3, 1] [3, 1] ho2.out.sl (Blk.sl (xs := [3, 1]) L4.out (by decide)) (by decide) (by decide)).mono ?_
  rintro e w9 ⟨rfl, hb9⟩
  clear A1_c0 A1_c1 A1_z
  clear A2_c0 A2_c1 A2_z
  replace HB := Lib.hid (bcall HB.out hb9)
  replace L12 := Lib.hid (L12.out.below hb9)
  replace ho1 := Lib.hid (ho1.out.below hb9)
  replace A1 := Lib.hid (A1.out.below hb9)
  replace ho2 := Lib.hid (ho2.out.below hb9)
  replace A2 := Lib.hid (A2.out.below hb9)
  replace L3 := Lib.hid (L3.out.below hb9)
  replace L4 := Lib.hid (L4.out.below hb9)
  clear hb9
  have A1_c0 : w9.cell? ⟨bA1, 0, none⟩ = some (.int .i64 1) := A1.out.cell 0
  have A1_c1 : w9.cell? ⟨bA1, 1, none⟩ = some (.int .i64 0) := A1.out.cell 1
  have A1_z : bA1 < w9.heap.size := A1.out.lt
  have A2_c0 : w9.cell? ⟨bA2, 0, none⟩ = some (.int .i64 1) := A2.out.cell 0
  have A2_c1 : w9.cell? ⟨bA2, 1, none⟩ = some (.int .i64 2) := A2.out.cell 1
  have A2_z : bA2 < w9.heap.size := A2.out.lt
  go_wp2_with fail
  go_ret
  exact ⟨by first | rfl | simp, HB.out⟩
set_option maxRecDepth 20000 in
set_option maxHeartbeats 4000000 in
theorem queued_any (w : World) :
    Calls Try.prog 31 #[] w fun e w' => e = .returned (.bool true) ∧ Below w.heap.size w w' := by
  go_enter Try.func31, Try.ntmps31
  have HB := Lib.hid (Below.refl w.heap.size w)
  go_wp2_with fail
  have hb1 := balloc (Below.refl _ w) (Obj.cells #[.int .i64 1, .int .i64 2] 3)
  have L12 := Lib.hid (Blk.new w [.int .i64 1, .int .i64 2] 3)
  change Hid (Blk (w.alloc (Obj.cells #[.int .i64 1, .int .i64 2] 3)) _ _ _) at L12
  have ZL12 : Hid ((w.alloc (Obj.cells #[.int .i64 1, .int .i64 2] 3)).heap.size = w.heap.size + 1) := World.size_alloc _ _
  replace HB := Lib.hid (bcall HB.out hb1)
  clear hb1
  generalize w.alloc (Obj.cells #[.int .i64 1, .int .i64 2] 3) = w1 at *
  refine (put_any _ _).mono ?_
  rintro e w2 ⟨rfl, hb2⟩
  replace HB := Lib.hid (bcall HB.out hb2)
  replace L12 := Lib.hid (L12.out.below hb2)
  clear hb2
  go_wp2_with fail
  refine (queue_eq _ _ [1, 2] 1 0 3 (Blk.sl (xs := [1, 2]) L12.out (by decide)) (by decide) (ys := [1, 2, 3]) (c := 1) (r := 0) rfl).mono ?_
  rintro e w3 ⟨v1, rfl, ho1, hb3⟩
  replace HB := Lib.hid (bcall HB.out hb3)
  replace L12 := Lib.hid (L12.out.below hb3)
  replace ho1 := Lib.hid ho1
  clear hb3
  go_wp2_with fail
  have hb4 := balloc (Below.refl _ w3) (Obj.cells #[.int .i64 1, .int .i64 0] 26)
  have A1 := Lib.hid (Blk.new w3 [.int .i64 1, .int .i64 0] 26)
  change Hid (Blk (w3.alloc (Obj.cells #[.int .i64 1, .int .i64 0] 26)) _ _ _) at A1
  have ZA1 : Hid ((w3.alloc (Obj.cells #[.int .i64 1, .int .i64 0] 26)).heap.size = w3.heap.size + 1) := World.size_alloc _ _
  replace HB := Lib.hid (bcall HB.out hb4)
  replace L12 := Lib.hid (L12.out.below hb4)
  replace ho1 := Lib.hid (ho1.out.below hb4)
  clear hb4
  generalize w3.alloc (Obj.cells #[.int .i64 1, .int .i64 0] 26) = w4 at *
  generalize w3.heap.size = bA1 at *
  have A1_c0 : w4.cell? ⟨bA1, 0, none⟩ = some (.int .i64 1) := A1.out.cell 0
  have A1_c1 : w4.cell? ⟨bA1, 1, none⟩ = some (.int .i64 0) := A1.out.cell 1
  have A1_z : bA1 < w4.heap.size := A1.out.lt
  go_wp2_with fail
  refine (queue_eq _ _ [1, 2, 3] 2 0 0 ho1.out.sl (by decide) (ys := [2, 3]) (c := 1) (r := 1) rfl).mono ?_
  rintro e w5 ⟨v2, rfl, ho2, hb5⟩
  clear A1_c0 A1_c1 A1_z
  replace HB := Lib.hid (bcall HB.out hb5)
  replace L12 := Lib.hid (L12.out.below hb5)
  replace ho1 := Lib.hid (ho1.out.below hb5)
  replace A1 := Lib.hid (A1.out.below hb5)
  replace ho2 := Lib.hid ho2
  clear hb5
  have A1_c0 : w5.cell? ⟨bA1, 0, none⟩ = some (.int .i64 1) := A1.out.cell 0
  have A1_c1 : w5.cell? ⟨bA1, 1, none⟩ = some (.int .i64 0) := A1.out.cell 1
  have A1_z : bA1 < w5.heap.size := A1.out.lt
  go_wp2_with fail
  have hb6 := balloc (Below.refl _ w5) (Obj.cells #[.int .i64 1, .int .i64 1] 26)
  have A2 := Lib.hid (Blk.new w5 [.int .i64 1, .int .i64 1] 26)
  change Hid (Blk (w5.alloc (Obj.cells #[.int .i64 1, .int .i64 1] 26)) _ _ _) at A2
  have ZA2 : Hid ((w5.alloc (Obj.cells #[.int .i64 1, .int .i64 1] 26)).heap.size = w5.heap.size + 1) := World.size_alloc _ _
  clear A1_c0 A1_c1 A1_z
  replace HB := Lib.hid (bcall HB.out hb6)
  replace L12 := Lib.hid (L12.out.below hb6)
  replace ho1 := Lib.hid (ho1.out.below hb6)
  replace A1 := Lib.hid (A1.out.below hb6)
  replace ho2 := Lib.hid (ho2.out.below hb6)
  clear hb6
  generalize w5.alloc (Obj.cells #[.int .i64 1, .int .i64 1] 26) = w6 at *
  generalize w5.heap.size = bA2 at *
  have A1_c0 : w6.cell? ⟨bA1, 0, none⟩ = some (.int .i64 1) := A1.out.cell 0
  have A1_c1 : w6.cell? ⟨bA1, 1, none⟩ = some (.int .i64 0) := A1.out.cell 1
  have A1_z : bA1 < w6.heap.size := A1.out.lt
  have A2_c0 : w6.cell? ⟨bA2, 0, none⟩ = some (.int .i64 1) := A2.out.cell 0
  have A2_c1 : w6.cell? ⟨bA2, 1, none⟩ = some (.int .i64 1) := A2.out.cell 1
  have A2_z : bA2 < w6.heap.size := A2.out.lt
  go_wp2_with fail
  have hb7 := balloc (Below.refl _ w6) (Obj.cells #[.int .i64 1, .int .i64 2, .int .i64 3] 3)
  have L3 := Lib.hid (Blk.new w6 [.int .i64 1, .int .i64 2, .int .i64 3] 3)
  change Hid (Blk (w6.alloc (Obj.cells #[.int .i64 1, .int .i64 2, .int .i64 3] 3)) _ _ _) at L3
  have ZL3 : Hid ((w6.alloc (Obj.cells #[.int .i64 1, .int .i64 2, .int .i64 3] 3)).heap.size = w6.heap.size + 1) := World.size_alloc _ _
  clear A1_c0 A1_c1 A1_z
  clear A2_c0 A2_c1 A2_z
  replace HB := Lib.hid (bcall HB.out hb7)
  replace L12 := Lib.hid (L12.out.below hb7)
  replace ho1 := Lib.hid (ho1.out.below hb7)
  replace A1 := Lib.hid (A1.out.below hb7)
  replace ho2 := Lib.hid (ho2.out.below hb7)
  replace A2 := Lib.hid (A2.out.below hb7)
  clear hb7
  rw [ZA2.out] at L3 ZL3
  clear ZA2
  generalize w6.alloc (Obj.cells #[.int .i64 1, .int .i64 2, .int .i64 3] 3) = w7 at *
  have A1_c0 : w7.cell? ⟨bA1, 0, none⟩ = some (.int .i64 1) := A1.out.cell 0
  have A1_c1 : w7.cell? ⟨bA1, 1, none⟩ = some (.int .i64 0) := A1.out.cell 1
  have A1_z : bA1 < w7.heap.size := A1.out.lt
  have A2_c0 : w7.cell? ⟨bA2, 0, none⟩ = some (.int .i64 1) := A2.out.cell 0
  have A2_c1 : w7.cell? ⟨bA2, 1, none⟩ = some (.int .i64 1) := A2.out.cell 1
  have A2_z : bA2 < w7.heap.size := A2.out.lt
  refine (equal_any _ _ _ [1, 2, 3] [1, 2, 3] ho1.out.sl (Blk.sl (xs := [1, 2, 3]) L3.out (by decide)) (by decide) (by decide)).mono ?_
  rintro e w8 ⟨rfl, hb8⟩
  clear A1_c0 A1_c1 A1_z
  clear A2_c0 A2_c1 A2_z
  replace HB := Lib.hid (bcall HB.out hb8)
  replace L12 := Lib.hid (L12.out.below hb8)
  replace ho1 := Lib.hid (ho1.out.below hb8)
  replace A1 := Lib.hid (A1.out.below hb8)
  replace ho2 := Lib.hid (ho2.out.below hb8)
  replace A2 := Lib.hid (A2.out.below hb8)
  replace L3 := Lib.hid (L3.out.below hb8)
  clear hb8
  have A1_c0 : w8.cell? ⟨bA1, 0, none⟩ = some (.int .i64 1) := A1.out.cell 0
  have A1_c1 : w8.cell? ⟨bA1, 1, none⟩ = some (.int .i64 0) := A1.out.cell 1
  have A1_z : bA1 < w8.heap.size := A1.out.lt
  have A2_c0 : w8.cell? ⟨bA2, 0, none⟩ = some (.int .i64 1) := A2.out.cell 0
  have A2_c1 : w8.cell? ⟨bA2, 1, none⟩ = some (.int .i64 1) := A2.out.cell 1
  have A2_z : bA2 < w8.heap.size := A2.out.lt
  go_wp2_with fail
  have hb9 := balloc (Below.refl _ w8) (Obj.cells #[.int .i64 2, .int .i64 3] 3)
  have L4 := Lib.hid (Blk.new w8 [.int .i64 2, .int .i64 3] 3)
  change Hid (Blk (w8.alloc (Obj.cells #[.int .i64 2, .int .i64 3] 3)) _ _ _) at L4
  have ZL4 : Hid ((w8.alloc (Obj.cells #[.int .i64 2, .int .i64 3] 3)).heap.size = w8.heap.size + 1) := World.size_alloc _ _
  clear A1_c0 A1_c1 A1_z
  clear A2_c0 A2_c1 A2_z
  replace HB := Lib.hid (bcall HB.out hb9)
  replace L12 := Lib.hid (L12.out.below hb9)
  replace ho1 := Lib.hid (ho1.out.below hb9)
  replace A1 := Lib.hid (A1.out.below hb9)
  replace ho2 := Lib.hid (ho2.out.below hb9)
  replace A2 := Lib.hid (A2.out.below hb9)
  replace L3 := Lib.hid (L3.out.below hb9)
  clear hb9
  generalize w8.alloc (Obj.cells #[.int .i64 2, .int .i64 3] 3) = w9 at *
  generalize w8.heap.size = bL4 at *
  have A1_c0 : w9.cell? ⟨bA1, 0, none⟩ = some (.int .i64 1) := A1.out.cell 0
  have A1_c1 : w9.cell? ⟨bA1, 1, none⟩ = some (.int .i64 0) := A1.out.cell 1
  have A1_z : bA1 < w9.heap.size := A1.out.lt
  have A2_c0 : w9.cell? ⟨bA2, 0, none⟩ = some (.int .i64 1) := A2.out.cell 0
  have A2_c1 : w9.cell? ⟨bA2, 1, none⟩ = some (.int .i64 1) := A2.out.cell 1
  have A2_z : bA2 < w9.heap.size := A2.out.lt
  refine (equal_any _ _ _ [2, 3] [2, 3] ho2.out.sl (Blk.sl (xs := [2, 3]) L4.out (by decide)) (by decide) (by decide)).mono ?_
  rintro e w10 ⟨rfl, hb10⟩
  clear A1_c0 A1_c1 A1_z
  clear A2_c0 A2_c1 A2_z
  replace HB := Lib.hid (bcall HB.out hb10)
  replace L12 := Lib.hid (L12.out.below hb10)
  replace ho1 := Lib.hid (ho1.out.below hb10)
  replace A1 := Lib.hid (A1.out.below hb10)
  replace ho2 := Lib.hid (ho2.out.below hb10)
  replace A2 := Lib.hid (A2.out.below hb10)
  replace L3 := Lib.hid (L3.out.below hb10)
  replace L4 := Lib.hid (L4.out.below hb10)
  clear hb10
  have A1_c0 : w10.cell? ⟨bA1, 0, none⟩ = some (.int .i64 1) := A1.out.cell 0
  have A1_c1 : w10.cell? ⟨bA1, 1, none⟩ = some (.int .i64 0) := A1.out.cell 1
  have A1_z : bA1 < w10.heap.size := A1.out.lt
  have A2_c0 : w10.cell? ⟨bA2, 0, none⟩ = some (.int .i64 1) := A2.out.cell 0
  have A2_c1 : w10.cell? ⟨bA2, 1, none⟩ = some (.int .i64 1) := A2.out.cell 1
  have A2_z : bA2 < w10.heap.size := A2.out.lt
  go_wp2_with fail
  go_ret
  exact ⟨by first | rfl | simp, HB.out⟩
set_option maxRecDepth 20000 in
set_option maxHeartbeats 4000000 in
theorem stacked_any (w : World) :
    Calls Try.prog 28 #[] w fun e w' => e = .returned (.bool true) ∧ Below w.heap.size w w' := by
  go_enter Try.func28, Try.ntmps28
  have HB := Lib.hid (Below.refl w.heap.size w)
  go_wp2_with fail
  have hb1 := balloc (Below.refl _ w) (Obj.cells #[.int .i64 1, .int .i64 2] 3)
  have L12 := Lib.hid (Blk.new w [.int .i64 1, .int .i64 2] 3)
  change Hid (Blk (w.alloc (Obj.cells #[.int .i64 1, .int .i64 2] 3)) _ _ _) at L12
  have ZL12 : Hid ((w.alloc (Obj.cells #[.int .i64 1, .int .i64 2] 3)).heap.size = w.heap.size + 1) := World.size_alloc _ _
  replace HB := Lib.hid (bcall HB.out hb1)
  clear hb1
  generalize w.alloc (Obj.cells #[.int .i64 1, .int .i64 2] 3) = w1 at *
  refine (put_any _ _).mono ?_
  rintro e w2 ⟨rfl, hb2⟩
  replace HB := Lib.hid (bcall HB.out hb2)
  replace L12 := Lib.hid (L12.out.below hb2)
  clear hb2
  go_wp2_with fail
  refine (stack_eq _ _ [1, 2] 1 0 3 (Blk.sl (xs := [1, 2]) L12.out (by decide)) (by decide) (ys := [1, 2, 3]) (c := 1) (r := 0) rfl).mono ?_
  rintro e w3 ⟨v1, rfl, ho1, hb3⟩
  replace HB := Lib.hid (bcall HB.out hb3)
  replace L12 := Lib.hid (L12.out.below hb3)
  replace ho1 := Lib.hid ho1
  clear hb3
  go_wp2_with fail
  have hb4 := balloc (Below.refl _ w3) (Obj.cells #[.int .i64 1, .int .i64 0] 26)
  have A1 := Lib.hid (Blk.new w3 [.int .i64 1, .int .i64 0] 26)
  change Hid (Blk (w3.alloc (Obj.cells #[.int .i64 1, .int .i64 0] 26)) _ _ _) at A1
  have ZA1 : Hid ((w3.alloc (Obj.cells #[.int .i64 1, .int .i64 0] 26)).heap.size = w3.heap.size + 1) := World.size_alloc _ _
  replace HB := Lib.hid (bcall HB.out hb4)
  replace L12 := Lib.hid (L12.out.below hb4)
  replace ho1 := Lib.hid (ho1.out.below hb4)
  clear hb4
  generalize w3.alloc (Obj.cells #[.int .i64 1, .int .i64 0] 26) = w4 at *
  generalize w3.heap.size = bA1 at *
  have A1_c0 : w4.cell? ⟨bA1, 0, none⟩ = some (.int .i64 1) := A1.out.cell 0
  have A1_c1 : w4.cell? ⟨bA1, 1, none⟩ = some (.int .i64 0) := A1.out.cell 1
  have A1_z : bA1 < w4.heap.size := A1.out.lt
  go_wp2_with fail
  refine (stack_eq _ _ [1, 2, 3] 2 0 0 ho1.out.sl (by decide) (ys := [1, 2]) (c := 1) (r := 3) rfl).mono ?_
  rintro e w5 ⟨v2, rfl, ho2, hb5⟩
  clear A1_c0 A1_c1 A1_z
  replace HB := Lib.hid (bcall HB.out hb5)
  replace L12 := Lib.hid (L12.out.below hb5)
  replace ho1 := Lib.hid (ho1.out.below hb5)
  replace A1 := Lib.hid (A1.out.below hb5)
  replace ho2 := Lib.hid ho2
  clear hb5
  have A1_c0 : w5.cell? ⟨bA1, 0, none⟩ = some (.int .i64 1) := A1.out.cell 0
  have A1_c1 : w5.cell? ⟨bA1, 1, none⟩ = some (.int .i64 0) := A1.out.cell 1
  have A1_z : bA1 < w5.heap.size := A1.out.lt
  go_wp2_with fail
  have hb6 := balloc (Below.refl _ w5) (Obj.cells #[.int .i64 1, .int .i64 3] 26)
  have A2 := Lib.hid (Blk.new w5 [.int .i64 1, .int .i64 3] 26)
  change Hid (Blk (w5.alloc (Obj.cells #[.int .i64 1, .int .i64 3] 26)) _ _ _) at A2
  have ZA2 : Hid ((w5.alloc (Obj.cells #[.int .i64 1, .int .i64 3] 26)).heap.size = w5.heap.size + 1) := World.size_alloc _ _
  clear A1_c0 A1_c1 A1_z
  replace HB := Lib.hid (bcall HB.out hb6)
  replace L12 := Lib.hid (L12.out.below hb6)
  replace ho1 := Lib.hid (ho1.out.below hb6)
  replace A1 := Lib.hid (A1.out.below hb6)
  replace ho2 := Lib.hid (ho2.out.below hb6)
  clear hb6
  generalize w5.alloc (Obj.cells #[.int .i64 1, .int .i64 3] 26) = w6 at *
  generalize w5.heap.size = bA2 at *
  have A1_c0 : w6.cell? ⟨bA1, 0, none⟩ = some (.int .i64 1) := A1.out.cell 0
  have A1_c1 : w6.cell? ⟨bA1, 1, none⟩ = some (.int .i64 0) := A1.out.cell 1
  have A1_z : bA1 < w6.heap.size := A1.out.lt
  have A2_c0 : w6.cell? ⟨bA2, 0, none⟩ = some (.int .i64 1) := A2.out.cell 0
  have A2_c1 : w6.cell? ⟨bA2, 1, none⟩ = some (.int .i64 3) := A2.out.cell 1
  have A2_z : bA2 < w6.heap.size := A2.out.lt
  go_wp2_with fail
  have hb7 := balloc (Below.refl _ w6) (Obj.cells #[.int .i64 1, .int .i64 2, .int .i64 3] 3)
  have L3 := Lib.hid (Blk.new w6 [.int .i64 1, .int .i64 2, .int .i64 3] 3)
  change Hid (Blk (w6.alloc (Obj.cells #[.int .i64 1, .int .i64 2, .int .i64 3] 3)) _ _ _) at L3
  have ZL3 : Hid ((w6.alloc (Obj.cells #[.int .i64 1, .int .i64 2, .int .i64 3] 3)).heap.size = w6.heap.size + 1) := World.size_alloc _ _
  clear A1_c0 A1_c1 A1_z
  clear A2_c0 A2_c1 A2_z
  replace HB := Lib.hid (bcall HB.out hb7)
  replace L12 := Lib.hid (L12.out.below hb7)
  replace ho1 := Lib.hid (ho1.out.below hb7)
  replace A1 := Lib.hid (A1.out.below hb7)
  replace ho2 := Lib.hid (ho2.out.below hb7)
  replace A2 := Lib.hid (A2.out.below hb7)
  clear hb7
  rw [ZA2.out] at L3 ZL3
  clear ZA2
  generalize w6.alloc (Obj.cells #[.int .i64 1, .int .i64 2, .int .i64 3] 3) = w7 at *
  have A1_c0 : w7.cell? ⟨bA1, 0, none⟩ = some (.int .i64 1) := A1.out.cell 0
  have A1_c1 : w7.cell? ⟨bA1, 1, none⟩ = some (.int .i64 0) := A1.out.cell 1
  have A1_z : bA1 < w7.heap.size := A1.out.lt
  have A2_c0 : w7.cell? ⟨bA2, 0, none⟩ = some (.int .i64 1) := A2.out.cell 0
  have A2_c1 : w7.cell? ⟨bA2, 1, none⟩ = some (.int .i64 3) := A2.out.cell 1
  have A2_z : bA2 < w7.heap.size := A2.out.lt
  refine (equal_any _ _ _ [1, 2, 3] [1, 2, 3] ho1.out.sl (Blk.sl (xs := [1, 2, 3]) L3.out (by decide)) (by decide) (by decide)).mono ?_
  rintro e w8 ⟨rfl, hb8⟩
  clear A1_c0 A1_c1 A1_z
  clear A2_c0 A2_c1 A2_z
  replace HB := Lib.hid (bcall HB.out hb8)
  replace L12 := Lib.hid (L12.out.below hb8)
  replace ho1 := Lib.hid (ho1.out.below hb8)
  replace A1 := Lib.hid (A1.out.below hb8)
  replace ho2 := Lib.hid (ho2.out.below hb8)
  replace A2 := Lib.hid (A2.out.below hb8)
  replace L3 := Lib.hid (L3.out.below hb8)
  clear hb8
  have A1_c0 : w8.cell? ⟨bA1, 0, none⟩ = some (.int .i64 1) := A1.out.cell 0
  have A1_c1 : w8.cell? ⟨bA1, 1, none⟩ = some (.int .i64 0) := A1.out.cell 1
  have A1_z : bA1 < w8.heap.size := A1.out.lt
  have A2_c0 : w8.cell? ⟨bA2, 0, none⟩ = some (.int .i64 1) := A2.out.cell 0
  have A2_c1 : w8.cell? ⟨bA2, 1, none⟩ = some (.int .i64 3) := A2.out.cell 1
  have A2_z : bA2 < w8.heap.size := A2.out.lt
  go_wp2_with fail
  have hb9 := balloc (Below.refl _ w8) (Obj.cells #[.int .i64 1, .int .i64 2] 3)
  have L4 := Lib.hid (Blk.new w8 [.int .i64 1, .int .i64 2] 3)
  change Hid (Blk (w8.alloc (Obj.cells #[.int .i64 1, .int .i64 2] 3)) _ _ _) at L4
  have ZL4 : Hid ((w8.alloc (Obj.cells #[.int .i64 1, .int .i64 2] 3)).heap.size = w8.heap.size + 1) := World.size_alloc _ _
  clear A1_c0 A1_c1 A1_z
  clear A2_c0 A2_c1 A2_z
  replace HB := Lib.hid (bcall HB.out hb9)
  replace L12 := Lib.hid (L12.out.below hb9)
  replace ho1 := Lib.hid (ho1.out.below hb9)
  replace A1 := Lib.hid (A1.out.below hb9)
  replace ho2 := Lib.hid (ho2.out.below hb9)
  replace A2 := Lib.hid (A2.out.below hb9)
  replace L3 := Lib.hid (L3.out.below hb9)
  clear hb9
  generalize w8.alloc (Obj.cells #[.int .i64 1, .int .i64 2] 3) = w9 at *
  generalize w8.heap.size = bL4 at *
  have A1_c0 : w9.cell? ⟨bA1, 0, none⟩ = some (.int .i64 1) := A1.out.cell 0
  have A1_c1 : w9.cell? ⟨bA1, 1, none⟩ = some (.int .i64 0) := A1.out.cell 1
  have A1_z : bA1 < w9.heap.size := A1.out.lt
  have A2_c0 : w9.cell? ⟨bA2, 0, none⟩ = some (.int .i64 1) := A2.out.cell 0
  have A2_c1 : w9.cell? ⟨bA2, 1, none⟩ = some (.int .i64 3) := A2.out.cell 1
  have A2_z : bA2 < w9.heap.size := A2.out.lt
  refine (equal_any _ _ _ [1, 2] [1, 2] ho2.out.sl (Blk.sl (xs := [1, 2]) L4.out (by decide)) (by decide) (by decide)).mono ?_
  rintro e w10 ⟨rfl, hb10⟩
  clear A1_c0 A1_c1 A1_z
  clear A2_c0 A2_c1 A2_z
  replace HB := Lib.hid (bcall HB.out hb10)
  replace L12 := Lib.hid (L12.out.below hb10)
  replace ho1 := Lib.hid (ho1.out.below hb10)
  replace A1 := Lib.hid (A1.out.below hb10)
  replace ho2 := Lib.hid (ho2.out.below hb10)
  replace A2 := Lib.hid (A2.out.below hb10)
  replace L3 := Lib.hid (L3.out.below hb10)
  replace L4 := Lib.hid (L4.out.below hb10)
  clear hb10
  have A1_c0 : w10.cell? ⟨bA1, 0, none⟩ = some (.int .i64 1) := A1.out.cell 0
  have A1_c1 : w10.cell? ⟨bA1, 1, none⟩ = some (.int .i64 0) := A1.out.cell 1
  have A1_z : bA1 < w10.heap.size := A1.out.lt
  have A2_c0 : w10.cell? ⟨bA2, 0, none⟩ = some (.int .i64 1) := A2.out.cell 0
  have A2_c1 : w10.cell? ⟨bA2, 1, none⟩ = some (.int .i64 3) := A2.out.cell 1
  have A2_z : bA2 < w10.heap.size := A2.out.lt
  go_wp2_with fail
  go_ret
  exact ⟨by first | rfl | simp, HB.out⟩
end Go.Proofs.Ytpedkcpkdacnlaa
end
