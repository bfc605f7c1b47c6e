/- A region that draws its order, whose first n operations read, call and make variables in whatever order, and whose last ones come one behind the other: it may be walked in the order of the text. No program is named here. -/
import Derived.Test.YtpedkcpkdacnlaaStable
import Derived.StillTail
import Derived.Below
namespace Go.Proofs.Ytpedkcpkdacnlaa
open Go.RowKit
set_option linter.unusedVariables false
variable {P : Program} {ops : Array Oper}
def isAlloc (o : Oper) : Bool := match o.op with
  | .alloc _ => true
  | _ => false
def allocAt (ops : Array Oper) (i : Nat) : Bool := match ops[i]? with
  | some o => isAlloc o
  | none => false
/-- In every world above W the operation yields v, and at the most makes memory. -/
def YB (P : Program) (W : World) (r : Sem Next) (v : Value) : Prop :=
  ∀ w, Below W.heap.size W w → (r.run P w = .ok (.value v) w) ∨ (∃ f args, r.run P w = .ok (.enter f args) w ∧ Calls P f args w (fun e w' => e = .returned v ∧ Below w.heap.size w w'))
def KnownB (P : Program) (ops : Array Oper) (W : World) (o : Oper) (a : Act) (v : Value) : Prop :=
  (Region.wanted o (yielded ops a.tmps) = true ∧ YB P W (execOp a.eval o) v) ∨ (Region.wanted o (yielded ops a.tmps) = false ∧ v = undef)
def AllocR (P : Program) (o : Oper) (O : Obj) : Prop := o.guard = none ∧ ∀ (ρ : Operand → Value) w, (execOp ρ o).run P w = .ok (.value (.pointer (some ⟨w.heap.size, 0, none⟩))) (w.alloc O)
abbrev AsC := List (Nat × Option Tmp × Obj)
def ptrB (b : Nat) : Value := .pointer (some ⟨b, 0, none⟩)
def factsC (W w : World) (b : Nat → Nat) : AsC → List Nat → Prop
  | [], _ => True
  | (i, _, O) :: as, used => W.heap.size ≤ b i ∧ (∀ x ∈ used, x ≠ b i) ∧ w.heap[b i]? = some O ∧ factsC W w b as (b i :: used)
def putsC (b : Nat → Nat) : AsC → Act → Act
  | [], a => a
  | (i, d, _) :: as, a => putsC b as (a.put d (ptrB (b i)))
theorem putsC_snoc (b : Nat → Nat) (x : Nat × Option Tmp × Obj) : ∀ (as : AsC) (a : Act), putsC b (as ++ [x]) a = (putsC b as a).put x.2.1 (ptrB (b x.1))
  | [], a => rfl
  | y :: as, a => putsC_snoc b x as _
theorem factsC_snoc (W w : World) (b : Nat → Nat) (x : Nat × Option Tmp × Obj) : ∀ (as : AsC) (used : List Nat), factsC W w b as used → W.heap.size ≤ b x.1 → (∀ y ∈ used, y ≠ b x.1) → (∀ y ∈ as, b y.1 ≠ b x.1) → w.heap[b x.1]? = some x.2.2 → factsC W w b (as ++ [x]) used
  | [], used, _, h1, h2, _, h4 => ⟨h1, h2, h4, trivial⟩
  | (i, d, O) :: as, used, ⟨g1, g2, g3, g4⟩, h1, h2, h3, h4 => ⟨g1, g2, g3, factsC_snoc W w b x as _ g4 h1 (fun y hy => by
      rcases List.mem_cons.1 hy with rfl | hy
      · exact h3 _ List.mem_cons_self
      · exact h2 y hy) (fun y hy => h3 y (List.mem_cons_of_mem _ hy)) h4⟩
theorem putsC_put (b : Nat → Nat) (d : Option Tmp) (v : Value) : ∀ (as : AsC) (a : Act), (∀ x ∈ as, ∀ e, d = some e → x.2.1 ≠ some e) → putsC b as (a.put d v) = (putsC b as a).put d v
  | [], a, _ => rfl
  | (i, d', O) :: as, a, h => by
    simp only [putsC]
    rw [Act.put_comm a v (ptrB (b i)) (fun e he => h (i, d', O) List.mem_cons_self e he)]
    exact putsC_put b d v as _ (fun x hx => h x (List.mem_cons_of_mem _ hx))
/-- The walk in the order of the text. -/
def wpC (P : Program) (ops : Array Oper) (W : World) (Q : Act → World → Prop) : Nat → AsC → List Oper → Act → Prop
  | _, as, [], a => ∀ b w, Below W.heap.size W w → factsC W w b as [] → Q (putsC b as a) w
  | i, as, o :: rest, a => if isAlloc o then ∃ O, AllocR P o O ∧ wpC P ops W Q (i + 1) (as ++ [(i, o.dst, O)]) rest a
    else ∃ v, KnownB P ops W o a v ∧ wpC P ops W Q (i + 1) as rest (a.put o.dst v)
/-- What the list of made variables is behind n operations. -/
def asL (ops : Array Oper) (O : Nat → Obj) : Nat → AsC
  | 0 => []
  | k + 1 => if allocAt ops k then asL ops O k ++ [(k, dstOf ops k, O k)] else asL ops O k
theorem asL_mem (O : Nat → Obj) : ∀ n x, x ∈ asL ops O n → x.1 < n ∧ allocAt ops x.1 = true ∧ x.2.1 = dstOf ops x.1 ∧ x.2.2 = O x.1
  | 0, x, h => by cases h
  | n + 1, x, h => by
    simp only [asL] at h
    split at h
    · next ha =>
      rcases List.mem_append.1 h with h | h
      · obtain ⟨a, b⟩ := asL_mem O n x h; exact ⟨by omega, b⟩
      · simp at h; subst h; exact ⟨by simp, ha, rfl, rfl⟩
    · obtain ⟨a, b⟩ := asL_mem O n x h; exact ⟨by omega, b⟩
/-- The frame behind those that make no variable. -/
def frNA (ops : Array Oper) (V : Nat → Value) (a : Act) (n : Nat) : Act := canon ops V a (fun j => !allocAt ops j) n
theorem wpC_vals {W : World} {Q : Act → World → Prop} (a0 : Act) : ∀ (l : List Oper) (n : Nat) (V : Nat → Value) (O : Nat → Obj) (a : Act), (∀ j, l[j]? = (ops[n + j]?).filter (fun _ => decide (j < l.length))) →
    a = frNA ops V a0 n → wpC P ops W Q n (asL ops O n) l a →
    ∃ V' O', (∀ j, j < n → V' j = V j ∧ O' j = O j) ∧ (∀ i o, n ≤ i → i < n + l.length → ops[i]? = some o → (isAlloc o = true → AllocR P o (O' i)) ∧ (isAlloc o = false → KnownB P ops W o (frNA ops V' a0 i) (V' i))) ∧
      (∀ b w, Below W.heap.size W w → factsC W w b (asL ops O' (n + l.length)) [] → Q (putsC b (asL ops O' (n + l.length)) (frNA ops V' a0 (n + l.length))) w)
  | [], n, V, O, a, _, ha, h => ⟨V, O, fun _ _ => ⟨rfl, rfl⟩, fun i o h1 h2 => by simp at h2; omega, by subst ha; exact h⟩
  | o :: l, n, V, O, a, hl, ha, h => by
    have ho : ops[n]? = some o := by
      have := hl 0
      simp only [List.getElem?_cons_zero, Nat.add_zero, List.length_cons, Nat.zero_lt_succ, decide_true] at this
      cases hx : ops[n]? with
      | none => rw [hx] at this; cases this
      | some p => rw [hx] at this; simpa using this.symm
    have hl' : ∀ j, l[j]? = (ops[n + 1 + j]?).filter (fun _ => decide (j < l.length)) := fun j => by
      have := hl (j + 1)
      rw [List.getElem?_cons_succ, show n + (j + 1) = n + 1 + j by omega] at this
      rw [this]; congr 1; funext x; simp
    have asC : ∀ (O O' : Nat → Obj) k, (∀ j, j < k → O' j = O j) → asL ops O' k = asL ops O k := by
      intro O O' k
      induction k with
      | zero => intro _; rfl
      | succ k ih => intro hh; simp only [asL]; rw [ih (fun j hj => hh j (by omega)), hh k (by omega)]
    have frC : ∀ (V V' : Nat → Value) k, (∀ j, j < k → V' j = V j) → frNA ops V' a0 k = frNA ops V a0 k := by
      intro V V' k
      induction k with
      | zero => intro _; rfl
      | succ k ih =>
        intro hh
        have := ih (fun j hj => hh j (by omega))
        unfold frNA at this ⊢
        simp only [canon]; rw [this, hh k (by omega)]
    simp only [wpC] at h
    cases hA : isAlloc o
    · rw [hA] at h
      simp only [Bool.false_eq_true, if_false] at h
      obtain ⟨v, hk, hr⟩ := h
      have hnA : allocAt ops n = false := by simp [allocAt, ho, hA]
      have e1 : asL ops O (n + 1) = asL ops O n := by simp [asL, hnA]
      obtain ⟨V', O', g1, g2, g3⟩ := wpC_vals a0 l (n + 1) (fun j => if j = n then v else V j) O (a.put o.dst v) hl' (by
          rw [ha]; unfold frNA; simp only [canon, hnA, Bool.not_false, if_true]
          rw [show dstOf ops n = o.dst by simp [dstOf, ho]]
          have := frC V (fun j => if j = n then v else V j) n (fun j hj => by simp [show j ≠ n by omega])
          unfold frNA at this
          rw [this]) (by rw [e1]; exact hr)
      have gn := (g1 n (by omega)).1
      simp at gn
      refine ⟨V', O', fun j hj => ⟨by rw [(g1 j (by omega)).1]; simp [show j ≠ n by omega], (g1 j (by omega)).2⟩, fun i p h1 h2 hp => ?_, by rw [show n + (o :: l).length = n + 1 + l.length by simp; omega]; exact g3⟩
      by_cases e : i = n
      · subst e
        rw [ho] at hp
        obtain rfl : o = p := Option.some.inj hp
        refine ⟨(fun hh => by rw [hA] at hh; cases hh), fun _ => ?_⟩
        rw [gn, frC V V' i (fun j hj => by rw [(g1 j (by omega)).1]; simp [show j ≠ i by omega]), ← ha]
        exact hk
      · exact g2 i p (by omega) (by simp at h2; omega) hp
    · rw [hA] at h
      simp only [if_true] at h
      obtain ⟨Ob, hk, hr⟩ := h
      have hnA : allocAt ops n = true := by simp [allocAt, ho, hA]
      have e1 : asL ops (fun j => if j = n then Ob else O j) (n + 1) = asL ops O n ++ [(n, o.dst, Ob)] := by
        simp only [asL, hnA, if_true]
        rw [asC O (fun j => if j = n then Ob else O j) n (fun j hj => by simp [show j ≠ n by omega])]
        simp [dstOf, ho]
      obtain ⟨V', O', g1, g2, g3⟩ := wpC_vals a0 l (n + 1) V (fun j => if j = n then Ob else O j) a hl' (by
          rw [ha]; unfold frNA; simp only [canon, hnA, Bool.not_true, Bool.false_eq_true, if_false]) (by rw [e1]; exact hr)
      have gn := (g1 n (by omega)).2
      simp at gn
      refine ⟨V', O', fun j hj => ⟨(g1 j (by omega)).1, by rw [(g1 j (by omega)).2]; simp [show j ≠ n by omega]⟩, fun i p h1 h2 hp => ?_, by rw [show n + (o :: l).length = n + 1 + l.length by simp; omega]; exact g3⟩
      by_cases e : i = n
      · subst e
        rw [ho] at hp
        obtain rfl : o = p := Option.some.inj hp
        exact ⟨(fun _ => by rw [gn]; exact hk), (fun hh => by rw [hA] at hh; cases hh)⟩
      · exact g2 i p (by omega) (by simp at h2; omega) hp
/-- The side condition on the first n: none writes, none looks at a variable that is made among them. -/
def preB (ops : Array Oper) (n : Nat) : Bool :=
  (List.range n).all fun i => match ops[i]? with
    | none => false
    | some o => !eff o && ((o.looksAt ops).all fun t => (List.range n).all fun j => !allocAt ops j || dstOf ops j != some t)
theorem preB_spec {n : Nat} (h : preB ops n = true) (i : Nat) (o : Oper) (hi : i < n) (ho : ops[i]? = some o) : eff o = false ∧ ∀ t ∈ o.looksAt ops, ∀ j, j < n → allocAt ops j = true → dstOf ops j ≠ some t := by
  have := List.all_eq_true.1 h i (List.mem_range.2 hi)
  simp only [ho, Bool.and_eq_true, Bool.not_eq_true'] at this
  refine ⟨this.1, fun t ht j hj ha hd => ?_⟩
  have h2 := List.all_eq_true.1 (List.all_eq_true.1 this.2 t ht) j (List.mem_range.2 hj)
  simp [ha, hd] at h2
theorem canon_slot2 (V V' : Nat → Value) (a : Act) (L L' : Nat → Bool) (t : Tmp) : ∀ n, (∀ j, j < n → dstOf ops j = some t → L j = L' j ∧ (L' j = true → V j = V' j)) →
    (canon ops V a L n).tmps[t]? = (canon ops V' a L' n).tmps[t]?
  | 0, _ => rfl
  | n + 1, h => by
    have ih := canon_slot2 V V' a L L' t n (fun j hj => h j (by omega))
    simp only [canon]
    by_cases hd : dstOf ops n = some t
    · obtain ⟨h1, h2⟩ := h n (by omega) hd
      rw [h1]
      cases hl : L' n
      · exact ih
      · rw [h2 hl]
        simp only [if_true, hd, Act.put, Array.getElem?_setIfInBounds, canon_size]
    · have put_ne : ∀ (b : Act) (u : Value), (b.put (dstOf ops n) u).tmps[t]? = b.tmps[t]? := fun b u => by
        cases hq : dstOf ops n with
        | none => rfl
        | some d =>
          have : d ≠ t := fun e => hd (by rw [hq, e])
          simp [Act.put, Array.getElem?_setIfInBounds_ne this]
      split <;> split <;> (first | exact ih | (simp only [put_ne]; exact ih))
/-- The values, the made variables at blocks b. -/
def VbC (ops : Array Oper) (V : Nat → Value) (b : Nat → Nat) (i : Nat) : Value := if allocAt ops i then ptrB (b i) else V i
theorem canon_V (V V' : Nat → Value) (a : Act) (L : Nat → Bool) : ∀ n, (∀ k, k < n → L k = true → V k = V' k) → canon ops V a L n = canon ops V' a L n
  | 0, _ => rfl
  | n + 1, h => by
    simp only [canon]
    rw [canon_V V V' a L n (fun k hk => h k (by omega))]
    cases hl : L n
    · rfl
    · rw [h n (by omega) hl]
theorem canon_puts (hst : Stable ops) (V : Nat → Value) (O : Nat → Obj) (b : Nat → Nat) (a : Act) : ∀ n, n ≤ ops.size → canon ops (VbC ops V b) a (fun _ => true) n = putsC b (asL ops O n) (frNA ops V a n)
  | 0, _ => rfl
  | n + 1, h => by
    have ih := canon_puts hst V O b a n (by omega)
    have ho : ops[n]? = some ops[n] := by simp [show n < ops.size by omega]
    simp only [canon, if_true, asL]
    rw [ih]
    unfold frNA
    simp only [canon]
    rcases Bool.eq_false_or_eq_true (allocAt ops n) with hA | hA
    rotate_left
    · simp only [VbC, hA, Bool.not_false, if_true, Bool.false_eq_true, if_false]
      rw [putsC_put b (dstOf ops n) (V n) _ _ (fun x hx e he he' => by
        obtain ⟨h1, h2, h3, h4⟩ := asL_mem O n x hx
        rw [h3] at he'
        exact hst.dist n ops[n] ho x.1 (by omega) (by omega) e (by rw [← he]; simp [dstOf, ho]) he')]
    · simp only [VbC, hA, Bool.not_true, Bool.false_eq_true, if_false, if_true]
      rw [putsC_snoc]
theorem any_of_alloc (hst : Stable ops) {n : Nat} (hn : n < ops.size) (hpre : preB ops n = true) (hs : Region.sinkB .any ops n = true) (hc : Region.chainB .any ops n = true) (V : Nat → Value) (O : Nat → Obj) (a : Act) (W : World) (Q : Exit → Act → World → Prop)
    (HA : ∀ i o, i < n → ops[i]? = some o → isAlloc o = true → AllocR P o (O i))
    (HK : ∀ i o, i < n → ops[i]? = some o → isAlloc o = false → KnownB P ops W o (frNA ops V a i) (V i)) (g : Nat)
    (hQ : ∀ (b : Nat → Nat) (listed : Array Bool) w, listed.size = ops.size → (∀ j, j < n → listed.getD j false = true) → (∀ j, n ≤ j → j < ops.size → listed.getD j true = false) → Below W.heap.size W w →
      (∀ i, i < n → allocAt ops i = true → W.heap.size ≤ b i ∧ w.heap[b i]? = some (O i) ∧ ∀ j, j < n → j ≠ i → allocAt ops j = true → b j ≠ b i) → wpAny P .any ops Q g listed (canon ops (VbC ops V b) a (fun j => decide (j < n)) ops.size) w) :
    ∀ (fuel : Nat) (listed : Array Bool) (b : Nat → Nat) (w : World), leftN listed n = fuel → HeadInv .any ops n listed → Below W.heap.size W w →
      (∀ i, i < n → allocAt ops i = true → listed.getD i false = true → W.heap.size ≤ b i ∧ w.heap[b i]? = some (O i) ∧ ∀ j, j < n → j ≠ i → allocAt ops j = true → listed.getD j false = true → b j ≠ b i) →
      wpAny P .any ops Q (fuel + g) listed (canon ops (VbC ops V b) a (fun j => listed.getD j false) ops.size) w := by
  intro fuel
  induction fuel with
  | zero =>
    intro listed b w hf inv hB hal
    have hall : ∀ j, j < n → listed.getD j false = true := by
      intro j hj
      have := List.countP_eq_zero.1 hf j (List.mem_range.2 hj)
      simpa using this
    rw [Nat.zero_add]
    have e : canon ops (VbC ops V b) a (fun j => listed.getD j false) ops.size = canon ops (VbC ops V b) a (fun j => decide (j < n)) ops.size :=
      canon_congr _ _ _ _ _ (fun k hk => by
        by_cases h : k < n
        · rw [hall k h]; simp [h]
        · have := inv.tail k (by omega) hk
          rw [getD_both this]; simp [h])
    rw [e]
    exact hQ b listed w inv.size hall inv.tail hB (fun i hi ha => ⟨(hal i hi ha (hall i hi)).1, (hal i hi ha (hall i hi)).2.1, fun j hj hne haj => (hal i hi ha (hall i hi)).2.2 j hj hne haj (hall j hj)⟩)
  | succ fuel ih =>
    intro listed b w hf inv hB hal
    rw [show fuel + 1 + g = (fuel + g) + 1 by omega]
    -- something among the first n is not listed
    have hex : ∃ i, i < n ∧ listed.getD i false = false := by
      by_cases h : ∃ i, i < n ∧ listed.getD i false = false
      · exact h
      · exfalso
        have : leftN listed n = 0 := List.countP_eq_zero.2 (fun j hj => by
          have hj' := List.mem_range.1 hj
          cases hh : listed.getD j false
          · exact absurd ⟨j, hj', hh⟩ h
          · simp)
        omega
    obtain ⟨i0, hi0, hu0⟩ := hex
    have hu0' : listed.getD i0 true = false := getD_in (by rw [inv.size]; omega) hu0
    have hnot : ∀ t, n ≤ t → t ∉ Region.ready .any ops listed := fun t ht => tail_waits hs hc hn inv _ i0 rfl hi0 hu0' t ht
    refine ⟨fun hr => ?_, fun i hi => ?_⟩
    · exfalso
      have key : ∀ j, j < n → listed.getD j false = true := by
        intro j
        induction j using Nat.strongRecOn with
        | _ j ihj =>
          intro hj
          cases hl : listed.getD j false with
          | true => rfl
          | false =>
            exfalso
            have : j ∈ Region.ready .any ops listed := mem_ready.2 ⟨getD_in (by rw [inv.size]; omega) hl, ops[j], by simp [show j < ops.size by omega], fun e he hb => by
              have hlt := hst.edge j ops[j] (by simp [show j < ops.size by omega]) e he hb
              exact ihj e.on hlt (by omega)⟩
            rw [hr] at this; cases this
      rw [key i0 hi0] at hu0; cases hu0
    · obtain ⟨hun, o, ho, hall⟩ := mem_ready.1 hi
      have hisz : i < ops.size := (Array.getElem?_eq_some_iff.1 ho).1
      have hin : i < n := by
        rcases Nat.lt_or_ge i n with h | h
        · exact h
        · exact absurd hi (hnot i h)
      have his : i < listed.size := by rw [inv.size]; exact hisz
      have hun' : listed.getD i false = false := getD_both hun
      have hdo : dstOf ops i = o.dst := by simp [dstOf, ho]
      obtain ⟨hne, hnl⟩ := preB_spec hpre i o hin ho
      have hinv := inv.set hi hin
      have hlt : leftN (listed.setIfInBounds i true) n = fuel := by
        have hmono : ∀ (l : List Nat), l.Nodup → i ∈ l → List.countP (fun j => !(listed.setIfInBounds i true).getD j false) l + 1 = List.countP (fun j => !listed.getD j false) l := by
          intro l
          induction l with
          | nil => intro _ h; cases h
          | cons x l ihl =>
            intro hnd hm
            rw [List.nodup_cons] at hnd
            rw [List.countP_cons, List.countP_cons]
            by_cases e : i = x
            · subst e
              rw [if_neg (by simp [his]), if_pos (by simp [hun'])]
              have : List.countP (fun j => !(listed.setIfInBounds i true).getD j false) l = List.countP (fun j => !listed.getD j false) l :=
                List.countP_congr (fun j hj => by
                  have : i ≠ j := fun e => hnd.1 (e ▸ hj)
                  rw [getD_set_ne false this])
              omega
            · have : i ∈ l := by
                rcases List.mem_cons.1 hm with h | h
                · exact absurd h e
                · exact h
              have h3 := ihl hnd.2 this
              rw [getD_set_ne false e]; omega
        have := hmono _ List.nodup_range (List.mem_range.2 hin)
        unfold leftN at hf ⊢
        omega
      have hcs : ∀ b' : Nat → Nat, (∀ j, j ≠ i → b' j = b j) → canon ops (VbC ops V b') a (fun j => (listed.setIfInBounds i true).getD j false) ops.size = (canon ops (VbC ops V b) a (fun j => listed.getD j false) ops.size).put o.dst (VbC ops V b' i) := by
        intro b' hb'
        have := canon_set (ops := ops) (VbC ops V b') a (fun j => listed.getD j false) (fun j => (listed.setIfInBounds i true).getD j false) i hun' (by simp [his]) (fun j hj => getD_set_ne false (Ne.symm hj)) ops.size hisz
          (fun j hj hne d hd => hst.dist i o ho j hj hne d (by rw [← hdo]; exact hd))
        rw [hdo] at this
        rw [this, canon_V (VbC ops V b') (VbC ops V b) a (fun j => listed.getD j false) ops.size (fun k hk hl => by
          have : k ≠ i := by rintro rfl; rw [hun'] at hl; cases hl
          unfold VbC; rw [hb' k this])]
      unfold wpOp
      simp only [ho]
      cases hA : isAlloc o
      · -- it makes nothing
        have hnA : allocAt ops i = false := by simp [allocAt, ho, hA]
        have hslot : ∀ t, t ∈ o.looksAt ops → (canon ops (VbC ops V b) a (fun j => listed.getD j false) ops.size).tmps[t]? = (frNA ops V a i).tmps[t]? := by
          intro t ht
          have e1 : frNA ops V a i = canon ops V a (fun j => decide (j < i) && !allocAt ops j) ops.size := by
            unfold frNA
            rw [canon_congr V a (fun j => !allocAt ops j) (fun j => decide (j < i) && !allocAt ops j) i (fun k hk => by simp [hk])]
            have : ∀ m, i ≤ m → canon ops V a (fun j => decide (j < i) && !allocAt ops j) m = canon ops V a (fun j => decide (j < i) && !allocAt ops j) i := by
              intro m hm
              induction m with
              | zero => rw [show i = 0 by omega]
              | succ m ihn =>
                by_cases e : i = m + 1
                · rw [e]
                · simp only [canon]
                  rw [if_neg (by simp; omega)]; exact ihn (by omega)
            exact (this _ (by omega)).symm
          rw [e1]
          refine canon_slot2 _ _ a _ _ t ops.size (fun j hj hd => ?_)
          obtain ⟨h1, e, he, hb, hon⟩ := hst.look i o ho t ht j hj hd
          have hl := hall e he hb
          rw [hon] at hl
          have hja : allocAt ops j = false := by
            cases h : allocAt ops j
            · rfl
            · exact absurd hd (hnl t ht j (by omega) h)
          refine ⟨?_, fun _ => ?_⟩
          · show listed.getD j false = (decide (j < i) && !allocAt ops j)
            rw [hl, hja]; simp [h1]
          · unfold VbC; rw [hja]; rfl
        have hev : execOp (canon ops (VbC ops V b) a (fun j => listed.getD j false) ops.size).eval o = execOp (frNA ops V a i).eval o :=
          execOp_congr o (hst.sel i o ho) (fun x hx => eval_slot (fun t hxt => hslot t (by
            subst hxt; exact List.mem_append_left _ (List.mem_filterMap.2 ⟨.tmp t, by simpa using hx, rfl⟩))))
        have hwt := wanted_slot (ops := ops) (o := o) hslot
        have hVi : VbC ops V b i = V i := by unfold VbC; rw [hnA]; rfl
        have hnext : ∀ w', Below w.heap.size w w' → wpAny P .any ops Q (fuel + g) (listed.setIfInBounds i true) ((canon ops (VbC ops V b) a (fun j => listed.getD j false) ops.size).put o.dst (V i)) w' := by
          intro w' hb'
          have e := hcs b (fun _ _ => rfl)
          rw [hVi] at e
          rw [← e]
          refine ih _ b w' hlt hinv (hB.trans (hb'.mono hB.size)) (fun k hk ha hl => ?_)
          have hki : i ≠ k := by rintro rfl; rw [hnA] at ha; cases ha
          rw [getD_set_ne false hki] at hl
          obtain ⟨g1, g2, g3⟩ := hal k hk ha hl
          refine ⟨g1, ?_, fun j hj hne haj hlj => ?_⟩
          · rw [hb'.block (b k) (Array.getElem?_eq_some_iff.1 g2).1]; exact g2
          · have hji : i ≠ j := by rintro rfl; rw [hnA] at haj; cases haj
            rw [getD_set_ne false hji] at hlj
            exact g3 j hj hne haj hlj
        rcases HK i o hin ho hA with ⟨hw, hy⟩ | ⟨hw, hv⟩
        · rw [if_pos (by rw [hwt]; exact hw)]
          left
          unfold Oper.wp
          rw [hev]
          rcases hy w hB with hr | ⟨f, args, hr, hcall⟩
          · rw [hr]; exact hnext w (Below.refl _ _)
          · rw [hr]
            exact hcall.mono fun e w'' ⟨he, hbb⟩ => by subst he; exact hnext w'' hbb
        · rw [if_neg (by rw [hwt, hw]; simp), ← hv]
          exact hnext w (Below.refl _ _)
      · -- a variable is made
        have hiA : allocAt ops i = true := by simp [allocAt, ho, hA]
        obtain ⟨hg, hr⟩ := HA i o hin ho hA
        rw [if_pos (by simp [Region.wanted, hg])]
        left
        unfold Oper.wp
        rw [hr]
        show wpAny P .any ops Q (fuel + g) (listed.setIfInBounds i true) ((canon ops (VbC ops V b) a (fun j => listed.getD j false) ops.size).put o.dst (.pointer (some ⟨w.heap.size, 0, none⟩))) (w.alloc (O i))
        have e := hcs (fun j => if j = i then w.heap.size else b j) (fun j hj => by simp [hj])
        have hVi : VbC ops V (fun j => if j = i then w.heap.size else b j) i = .pointer (some ⟨w.heap.size, 0, none⟩) := by
          unfold VbC; rw [hiA]; simp [ptrB]
        rw [hVi] at e
        rw [← e]
        have hold : ∀ k, k < n → allocAt ops k = true → listed.getD k false = true → b k < w.heap.size := fun k hk ha hl => (Array.getElem?_eq_some_iff.1 (hal k hk ha hl).2.1).1
        refine ih _ _ (w.alloc (O i)) hlt hinv (hB.alloc hB.size _) (fun k hk ha hl => ?_)
        by_cases hki : k = i
        · subst hki
          refine ⟨by simp; exact hB.size, by simp only [if_true]; show (w.heap.push _)[w.heap.size]? = _; simp, fun j hj hne haj hlj => ?_⟩
          rw [getD_set_ne false (Ne.symm hne)] at hlj
          have := hold j hj haj hlj
          simp [hne]; omega
        · rw [getD_set_ne false (Ne.symm hki)] at hl
          obtain ⟨g1, g2, g3⟩ := hal k hk ha hl
          refine ⟨by simp [hki]; exact g1, ?_, fun j hj hne haj hlj => ?_⟩
          · simp only [hki, if_false]
            rw [Below.heap_alloc _ _ _ (hold k hk ha hl)]; exact g2
          · simp only [hki, if_false]
            by_cases hji : j = i
            · subst hji
              have := hold k hk ha hl
              simp; omega
            · rw [getD_set_ne false (Ne.symm hji)] at hlj
              simp only [hji, if_false]
              exact g3 j hj hne haj hlj
/-- The facts of the made variables. -/
theorem factsC_of (W w : World) (b : Nat → Nat) (O : Nat → Obj) (n : Nat) (H : ∀ i, i < n → allocAt ops i = true → W.heap.size ≤ b i ∧ w.heap[b i]? = some (O i) ∧ ∀ j, j < n → j ≠ i → allocAt ops j = true → b j ≠ b i) :
    ∀ m, m ≤ n → factsC W w b (asL ops O m) []
  | 0, _ => trivial
  | m + 1, h => by
    have ih := factsC_of W w b O n H m (by omega)
    simp only [asL]
    split
    · next ha =>
      obtain ⟨h1, h2, h3⟩ := H m (by omega) ha
      exact factsC_snoc W w b _ _ _ ih h1 (fun y hy => by cases hy) (fun y hy => by
        obtain ⟨g1, g2, -⟩ := asL_mem O m y hy
        exact h3 y.1 (by omega) (by omega) g2) h2
    · exact ih
def listed0 (n m : Nat) : Array Bool := (List.replicate n true ++ List.replicate (m - n) false).toArray
theorem wp_region_alloc {id : Nat} {l : List Oper} {a : Act} {w : World} {Q : Exit → Act → World → Prop} (n : Nat) (hm : P.follows .mixedOrders = true) (hB : stableB l.toArray = true) (hpre : preB l.toArray n = true)
    (hs : Region.sinkB .any l.toArray n = true) (hc : Region.chainB .any l.toArray n = true) (hn : n < l.length) (hsq : Region.seqB .any l.toArray (l.length - n) n (listed0 n l.length) = true)
    (h : wpC P l.toArray w.drew (fun a' w' => wpList P l.toArray Q (l.drop n) a' w') 0 [] (l.take n) a) : (Code.region id l.toArray true).wp P Q a w := by
  have hst := stable_of hB
  have htl : (l.take n).length = n := by simp; omega
  obtain ⟨V, O, -, h2, h3⟩ := wpC_vals (ops := l.toArray) a (l.take n) 0 (fun _ => undef) (fun _ => .map #[] 0) a (fun j => by
      rw [htl, Nat.zero_add, List.getElem?_take, List.getElem?_toArray]
      by_cases hj : j < n
      · rw [if_pos hj]; cases l[j]? <;> simp [hj, Option.filter]
      · rw [if_neg hj]; cases l[j]? <;> simp [hj, Option.filter]) rfl h
  rw [Nat.zero_add, htl] at h2 h3
  refine wp_region_any hm ?_
  have hsz : l.toArray.size = l.length := by simp
  have H := any_of_alloc (P := P) hst (n := n) (by rw [hsz]; exact hn) hpre hs hc V O a w.drew Q (fun i o hi ho hA => (h2 i o (Nat.zero_le _) hi ho).1 hA) (fun i o hi ho hA => (h2 i o (Nat.zero_le _) hi ho).2 hA) (l.length - n)
    (fun b listed w' h4 h5 h6 h7 h8 => by
      have hl0 : listed = listed0 n l.length := by
        apply Array.ext_getElem?
        intro j
        have hjs : listed.size = l.length := by rw [h4, hsz]
        by_cases hj : j < n
        · have := h5 j hj
          have hj2 : j < listed.size := by omega
          simp [hj2] at this
          simp [listed0, hj, hj2, this, List.getElem?_append_left]
        · by_cases hj3 : j < l.length
          · have := h6 j (by omega) (by omega)
            have hj2 : j < listed.size := by omega
            simp [hj2] at this
            have hj4 : j - n < l.length - n := by omega
            simp [listed0, hj2, this, List.getElem?_append, hj, hj4]
          · rw [Array.getElem?_eq_none (by omega)]
            symm; apply Array.getElem?_eq_none
            simp [listed0]; omega
      have hfr : canon l.toArray (VbC l.toArray V b) a (fun j => decide (j < n)) l.toArray.size = putsC b (asL l.toArray O n) (frNA l.toArray V a n) := by
        rw [← canon_puts hst V O b a n (by rw [hsz]; omega)]
        rw [canon_congr (VbC l.toArray V b) a (fun _ => true) (fun j => decide (j < n)) n (fun k hk => by simp [hk])]
        have : ∀ m, n ≤ m → canon l.toArray (VbC l.toArray V b) a (fun j => decide (j < n)) m = canon l.toArray (VbC l.toArray V b) a (fun j => decide (j < n)) n := by
          intro m hm
          induction m with
          | zero => rw [show n = 0 by omega]
          | succ m ihn =>
            by_cases e : n = m + 1
            · rw [e]
            · simp only [canon]
              rw [if_neg (by simp; omega)]; exact ihn (by omega)
        exact this _ (by rw [hsz]; omega)
      have h9 := h3 b w' h7 (factsC_of w.drew w' b O n h8 n (Nat.le_refl _))
      rw [hfr]
      have hdl : (l.drop n).length = l.length - n := by simp
      have := wpAny_of_seq (P := P) (ops := l.toArray) (md := .any) (Q' := Q) (l.drop n) n listed _ w' (fun j => by simp [List.getElem?_drop]) (by rw [hdl, hl0]; exact hsq) h9
      rwa [hdl] at this)
    n (Array.replicate l.toArray.size false) (fun _ => 0) w.drew (by
      unfold leftN
      have : ∀ m, List.countP (fun i => !(Array.replicate l.toArray.size false).getD i false) (List.range m) = m := by
        intro m
        rw [List.countP_eq_length.2 (fun j _ => by rw [getD_replicate_false]; rfl), List.length_range]
      exact this n)
    ⟨by simp, fun j oj _ hl => by rw [getD_replicate_false] at hl; exact absurd hl (by decide), fun t ht ht' => getD_in (by simpa using ht') (getD_replicate_false _ _)⟩
    (Below.refl _ _) (fun i hi ha hl => by rw [getD_replicate_false] at hl; exact absurd hl (by decide))
  have e : canon l.toArray (VbC l.toArray V fun _ => 0) a (fun j => (Array.replicate l.toArray.size false).getD j false) l.toArray.size = a := by
    have : ∀ m, canon l.toArray (VbC l.toArray V fun _ => 0) a (fun j => (Array.replicate l.toArray.size false).getD j false) m = a := by
      intro m
      induction m with
      | zero => rfl
      | succ m ih =>
        simp only [canon]
        rw [if_neg, ih]
        rw [getD_replicate_false]; decide
    exact this _
  rw [e, show n + (l.length - n) = l.toArray.size by rw [hsz]; omega] at H
  exact H
section
variable {W : World} {Q : Act → World → Prop} {i : Nat} {as : AsC} {o : Oper} {rest : List Oper} {a : Act}
theorem wpC_nil (h : ∀ b w, Below W.heap.size W w → factsC W w b as [] → Q (putsC b as a) w) : wpC P ops W Q i as [] a := h
theorem wpC_alloc (O : Obj) (ha : isAlloc o = true) (hr : AllocR P o O) (h : wpC P ops W Q (i + 1) (as ++ [(i, o.dst, O)]) rest a) : wpC P ops W Q i as (o :: rest) a := by
  unfold wpC; rw [ha]; exact ⟨O, hr, h⟩
theorem wpC_val {v : Value} (ha : isAlloc o = false) (hw : Region.wanted o (yielded ops a.tmps) = true) (hr : ∀ w, Below W.heap.size W w → (execOp a.eval o).run P w = .ok (.value v) w)
    (h : ∀ K : Act → Prop, (∀ b, wpC P ops W Q (i + 1) as rest b → K b) → K (a.put o.dst v)) : wpC P ops W Q i as (o :: rest) a := by
  unfold wpC; rw [ha]; exact ⟨v, .inl ⟨hw, fun w hw => .inl (hr w hw)⟩, h _ (fun _ h => h)⟩
theorem wpC_skip (ha : isAlloc o = false) (hw : Region.wanted o (yielded ops a.tmps) = false)
    (h : ∀ K : Act → Prop, (∀ b, wpC P ops W Q (i + 1) as rest b → K b) → K (a.put o.dst undef)) : wpC P ops W Q i as (o :: rest) a := by
  unfold wpC; rw [ha]; exact ⟨undef, .inr ⟨hw, rfl⟩, h _ (fun _ h => h)⟩
theorem wpC_call {v : Value} (f : FuncId) (args : Array Value) (ha : isAlloc o = false) (hw : Region.wanted o (yielded ops a.tmps) = true) (hr : ∀ w, (execOp a.eval o).run P w = .ok (.enter f args) w)
    (hc : ∀ w, Below W.heap.size W w → Calls P f args w (fun e w' => e = .returned v ∧ Below w.heap.size w w'))
    (h : ∀ K : Act → Prop, (∀ b, wpC P ops W Q (i + 1) as rest b → K b) → K (a.put o.dst v)) : wpC P ops W Q i as (o :: rest) a := by
  unfold wpC; rw [ha]; exact ⟨v, .inl ⟨hw, fun w hw => .inr ⟨f, args, hr w, hc w hw⟩⟩, h _ (fun _ h => h)⟩
theorem wpC_load (ty : TypeId) (x : Operand) (ho : o.op = .load ty x) (b off : Nat) (C : List Value) (d : TypeDesc) (hw : Region.wanted o (yielded ops a.tmps) = true) (hx : a.eval x = .pointer (some ⟨b, off, none⟩))
    (hS : ∀ w, Below W.heap.size W w → w.rangeAt b off C) (hu : P.underlying ty = some d) (hd : d.isRow = true) (hi : (P.info? ty).map (·.size) = some C.length)
    (h : ∀ K : Act → Prop, (∀ b, wpC P ops W Q (i + 1) as rest b → K b) → K (a.put o.dst (.agg C.toArray))) : wpC P ops W Q i as (o :: rest) a :=
  wpC_val (by unfold isAlloc; rw [ho]) hw (fun w hs => by
    unfold execOp
    simp only [ho, hx, Instr.loadAt, Instr.sureAddr, Sem.run_bind, Sem.run_pure, Result.andThen_ok, run_loadVar_mid w b off ty C d (hS w hs) hu hd hi]) h
end
end Go.Proofs.Ytpedkcpkdacnlaa
