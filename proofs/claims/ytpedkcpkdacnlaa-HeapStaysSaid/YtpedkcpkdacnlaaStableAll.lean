/- A region that draws its order, in which operations read, call, make variables and at last fill variables: it may be walked in the order of the text. No program is named here. -/
import Derived.Test.YtpedkcpkdacnlaaStableAlloc
namespace Go.Proofs.Ytpedkcpkdacnlaa
open Go.RowKit
set_option linter.unusedVariables false
variable {P : Program} {ops : Array Oper}
/-- What is known of the world while k writers are done. -/
def SS (W : World) (S : Nat → (Nat → Nat) → World → Prop) (as : AsC) (b : Nat → Nat) (w : World) : Nat → Prop
  | 0 => Below W.heap.size W w ∧ factsC W w b as []
  | k + 1 => S (k + 1) b w
def PureV (P : Program) (r : Sem Next) (v : Value) : Prop := ∀ w, r.run P w = .ok (.value v) w
/-- Of a writer: it is not guarded, and brings the next state about. -/
def WriteR (P : Program) (W : World) (S : Nat → (Nat → Nat) → World → Prop) (k : Nat) (as : AsC) (o : Oper) (a : Act) : Prop :=
  o.guard = none ∧ ∀ b w, SS W S as b w k → ∃ w', (execOp (putsC b as a).eval o).run P w = .ok .skip w' ∧ S (k + 1) b w'
def KnownD (P : Program) (ops : Array Oper) (W : World) (i : Nat) (o : Oper) (a : Act) (v : Value) : Prop :=
  KnownB P ops W o a v ∧ (hiN ops i = 0 ∨ (Region.wanted o (yielded ops a.tmps) = true → PureV P (execOp a.eval o) v))
def wpD (P : Program) (ops : Array Oper) (W : World) (S : Nat → (Nat → Nat) → World → Prop) (Q : Act → World → Prop) : Nat → Nat → AsC → List Oper → Act → Prop
  | _, k, as, [], a => ∀ b w, SS W S as b w k → Q (putsC b as a) w
  | i, k, as, o :: rest, a => if isAlloc o then ∃ O, AllocR P o O ∧ wpD P ops W S Q (i + 1) k (as ++ [(i, o.dst, O)]) rest a
    else if eff o then WriteR P W S k as o a ∧ wpD P ops W S Q (i + 1) (k + 1) as rest (a.put o.dst undef)
    else ∃ v, KnownD P ops W i o a v ∧ wpD P ops W S Q (i + 1) k as rest (a.put o.dst v)
theorem asL_congr (O O' : Nat → Obj) : ∀ k, (∀ j, j < k → O' j = O j) → asL ops O' k = asL ops O k
  | 0, _ => rfl
  | k + 1, hh => by simp only [asL]; rw [asL_congr O O' k (fun j hj => hh j (by omega)), hh k (by omega)]
theorem frNA_congr (a0 : Act) (V V' : Nat → Value) : ∀ k, (∀ j, j < k → V' j = V j) → frNA ops V' a0 k = frNA ops V a0 k
  | 0, _ => rfl
  | k + 1, hh => by
    have := frNA_congr a0 V V' k (fun j hj => hh j (by omega))
    unfold frNA at this ⊢
    simp only [canon]; rw [this, hh k (by omega)]
theorem wpD_vals {W : World} {S : Nat → (Nat → Nat) → World → Prop} {Q : Act → World → Prop} (a0 : Act) : ∀ (l : List Oper) (n : Nat) (V : Nat → Value) (O : Nat → Obj) (a : Act), (∀ j, l[j]? = ops[n + j]?) →
    a = frNA ops V a0 n → wpD P ops W S Q n (effN ops n) (asL ops O n) l a →
    ∃ V' O', (∀ j, j < n → V' j = V j ∧ O' j = O j) ∧ (∀ i o, n ≤ i → ops[i]? = some o → (isAlloc o = true → AllocR P o (O' i)) ∧
      (isAlloc o = false → eff o = true → V' i = undef ∧ WriteR P W S (effN ops i) (asL ops O' i) o (frNA ops V' a0 i)) ∧ (isAlloc o = false → eff o = false → KnownD P ops W i o (frNA ops V' a0 i) (V' i))) ∧
      (∀ b w, SS W S (asL ops O' (n + l.length)) b w (effN ops (n + l.length)) → Q (putsC b (asL ops O' (n + l.length)) (frNA ops V' a0 (n + l.length))) w)
  | [], n, V, O, a, hl, ha, h => ⟨V, O, fun _ _ => ⟨rfl, rfl⟩, fun i o h1 ho => by
      exfalso
      have := hl (i - n)
      rw [show n + (i - n) = i by omega, ho] at this
      simp at this, by subst ha; exact h⟩
  | o :: l, n, V, O, a, hl, ha, h => by
    have ho : ops[n]? = some o := by simpa using (hl 0).symm
    have hl' : ∀ j, l[j]? = ops[n + 1 + j]? := fun j => by
      have := hl (j + 1)
      rwa [List.getElem?_cons_succ, show n + (j + 1) = n + 1 + j by omega] at this
    have hlen : n + (o :: l).length = n + 1 + l.length := by simp; omega
    have heN : effN ops (n + 1) = effN ops n + if eff o then 1 else 0 := by simp [effN, ho]
    simp only [wpD] at h
    cases hA : isAlloc o
    · have hnA : allocAt ops n = false := by simp [allocAt, ho, hA]
      have e1 : asL ops O (n + 1) = asL ops O n := by simp [asL, hnA]
      have step : ∀ v, (a.put o.dst v) = frNA ops (fun j => if j = n then v else V j) a0 (n + 1) := fun v => by
        rw [ha]; unfold frNA; simp only [canon, hnA, Bool.not_false, if_true]
        rw [show dstOf ops n = o.dst by simp [dstOf, ho]]
        have := frNA_congr (ops := ops) a0 V (fun j => if j = n then v else V j) n (fun j hj => by simp [show j ≠ n by omega])
        unfold frNA at this
        rw [this]
      rw [hA] at h
      simp only [Bool.false_eq_true, if_false] at h
      cases hE : eff o
      · rw [hE] at h heN
        simp only [Bool.false_eq_true, if_false, Nat.add_zero] at h heN
        obtain ⟨v, hk, hr⟩ := h
        obtain ⟨V', O', g1, g2, g3⟩ := wpD_vals a0 l (n + 1) (fun j => if j = n then v else V j) O (a.put o.dst v) hl' (step v) (by rw [e1, heN]; exact hr)
        have gn := (g1 n (by omega)).1
        simp at gn
        refine ⟨V', O', fun j hj => ⟨by rw [(g1 j (by omega)).1]; simp [show j ≠ n by omega], (g1 j (by omega)).2⟩, fun i p h1 hp => ?_, by rw [hlen]; exact g3⟩
        by_cases e : i = n
        · subst e
          rw [ho] at hp
          obtain rfl : o = p := Option.some.inj hp
          refine ⟨(fun hh => by rw [hA] at hh; cases hh), (fun _ hh => by rw [hE] at hh; cases hh), fun _ _ => ?_⟩
          rw [gn, frNA_congr a0 V V' i (fun j hj => by rw [(g1 j (by omega)).1]; simp [show j ≠ i by omega]), ← ha]
          exact hk
        · exact g2 i p (by omega) hp
      · rw [hE] at h heN
        simp only [if_true] at h heN
        obtain ⟨hk, hr⟩ := h
        obtain ⟨V', O', g1, g2, g3⟩ := wpD_vals a0 l (n + 1) (fun j => if j = n then undef else V j) O (a.put o.dst undef) hl' (step undef) (by rw [e1, heN]; exact hr)
        have gn := (g1 n (by omega)).1
        simp at gn
        refine ⟨V', O', fun j hj => ⟨by rw [(g1 j (by omega)).1]; simp [show j ≠ n by omega], (g1 j (by omega)).2⟩, fun i p h1 hp => ?_, by rw [hlen]; exact g3⟩
        by_cases e : i = n
        · subst e
          rw [ho] at hp
          obtain rfl : o = p := Option.some.inj hp
          refine ⟨(fun hh => by rw [hA] at hh; cases hh), (fun _ _ => ⟨gn, ?_⟩), (fun _ hh => by rw [hE] at hh; cases hh)⟩
          rw [frNA_congr a0 V V' i (fun j hj => by rw [(g1 j (by omega)).1]; simp [show j ≠ i by omega]), ← ha, asL_congr O O' i (fun j hj => (g1 j (by omega)).2)]
          exact hk
        · exact g2 i p (by omega) hp
    · have hnA : allocAt ops n = true := by simp [allocAt, ho, hA]
      have hE : eff o = false := by
        cases hE : eff o
        · rfl
        · unfold eff at hE; unfold isAlloc at hA
          cases hop : o.op <;> simp [hop] at hE hA
      rw [hA] at h
      rw [hE] at heN
      simp only [if_true] at h
      simp only [Bool.false_eq_true, if_false, Nat.add_zero] at heN
      obtain ⟨Ob, hk, hr⟩ := h
      have e1 : asL ops (fun j => if j = n then Ob else O j) (n + 1) = asL ops O n ++ [(n, o.dst, Ob)] := by
        simp only [asL, hnA, if_true]
        rw [asL_congr O (fun j => if j = n then Ob else O j) n (fun j hj => by simp [show j ≠ n by omega])]
        simp [dstOf, ho]
      obtain ⟨V', O', g1, g2, g3⟩ := wpD_vals a0 l (n + 1) V (fun j => if j = n then Ob else O j) a hl' (by
          rw [ha]; unfold frNA; simp only [canon, hnA, Bool.not_true, Bool.false_eq_true, if_false]) (by rw [e1, heN]; exact hr)
      have gn := (g1 n (by omega)).2
      simp at gn
      refine ⟨V', O', fun j hj => ⟨(g1 j (by omega)).1, by rw [(g1 j (by omega)).2]; simp [show j ≠ n by omega]⟩, fun i p h1 hp => ?_, by rw [hlen]; exact g3⟩
      by_cases e : i = n
      · subst e
        rw [ho] at hp
        obtain rfl : o = p := Option.some.inj hp
        exact ⟨(fun _ => by rw [gn]; exact hk), (fun hh => by rw [hA] at hh; cases hh), (fun hh => by rw [hA] at hh; cases hh)⟩
      · exact g2 i p (by omega) hp
/-- The side condition: what writes nothing looks at no variable that is made here; what writes waits for all that are. -/
def allB (ops : Array Oper) : Bool :=
  (List.range ops.size).all fun i => match ops[i]? with
    | none => false
    | some o => if eff o then (List.range ops.size).all fun j => !allocAt ops j || o.after.any fun e => Region.binds .any e && e.on == j
      else (o.looksAt ops).all fun t => (List.range ops.size).all fun j => !allocAt ops j || dstOf ops j != some t
theorem allB_spec (h : allB ops = true) (i : Nat) (o : Oper) (ho : ops[i]? = some o) :
    (eff o = true → ∀ j, j < ops.size → allocAt ops j = true → ∃ e ∈ o.after, Region.binds .any e = true ∧ e.on = j) ∧ (eff o = false → ∀ t ∈ o.looksAt ops, ∀ j, j < ops.size → allocAt ops j = true → dstOf ops j ≠ some t) := by
  have hi : i < ops.size := (Array.getElem?_eq_some_iff.1 ho).1
  have := List.all_eq_true.1 h i (List.mem_range.2 hi)
  simp only [ho] at this
  refine ⟨fun he j hj ha => ?_, fun he t ht j hj ha hd => ?_⟩
  · rw [he] at this
    simp only [if_true] at this
    have h2 := List.all_eq_true.1 this j (List.mem_range.2 hj)
    simp only [ha, Bool.not_true, Bool.false_or] at h2
    obtain ⟨e, he, hb⟩ := Array.any_eq_true'.1 h2
    simp only [Bool.and_eq_true, beq_iff_eq] at hb
    exact ⟨e, he, hb.1, hb.2⟩
  · rw [he] at this
    simp only [Bool.false_eq_true, if_false] at this
    have h2 := List.all_eq_true.1 (List.all_eq_true.1 this t ht) j (List.mem_range.2 hj)
    simp [ha, hd] at h2
theorem effN_pos (p : Nat) (h : effN ops p ≠ 0) : ∃ e o, e < p ∧ ops[e]? = some o ∧ eff o = true := by
  induction p with
  | zero => exact absurd rfl h
  | succ p ih =>
    by_cases h0 : effN ops p = 0
    · simp only [effN] at h
      cases ho : ops[p]? with
      | none => rw [ho] at h; simp at h; exact absurd h0 h
      | some o =>
        cases he : eff o
        · rw [ho] at h; simp [he, h0] at h
        · exact ⟨p, o, by omega, ho, he⟩
    · obtain ⟨e, o, h1, h2⟩ := ih h0
      exact ⟨e, o, by omega, h2⟩
/-- The state while the operations are listed as they are. -/
def StD (ops : Array Oper) (O : Nat → Obj) (W : World) (S : Nat → (Nat → Nat) → World → Prop) (listed : Array Bool) (b : Nat → Nat) (w : World) : Nat → Prop
  | 0 => Below W.heap.size W w ∧ ∀ i, i < ops.size → allocAt ops i = true → listed.getD i false = true → W.heap.size ≤ b i ∧ w.heap[b i]? = some (O i) ∧ ∀ j, j < ops.size → j ≠ i → allocAt ops j = true → listed.getD j false = true → b j ≠ b i
  | k + 1 => S (k + 1) b w
theorem any_of_all (hst : Stable ops) (hall : allB ops = true) (V : Nat → Value) (O : Nat → Obj) (a : Act) (W : World) (S : Nat → (Nat → Nat) → World → Prop) (Q : Exit → Act → World → Prop)
    (H : ∀ i o, ops[i]? = some o → (isAlloc o = true → AllocR P o (O i)) ∧ (isAlloc o = false → eff o = true → V i = undef ∧ WriteR P W S (effN ops i) (asL ops O i) o (frNA ops V a i)) ∧
      (isAlloc o = false → eff o = false → KnownD P ops W i o (frNA ops V a i) (V i)))
    (hQ : ∀ b w, SS W S (asL ops O ops.size) b w (effN ops ops.size) → Q .normal (putsC b (asL ops O ops.size) (frNA ops V a ops.size)) w) :
    ∀ (fuel : Nat) (listed : Array Bool) (b : Nat → Nat) (w : World), listed.size = ops.size → leftN listed ops.size = fuel →
      (∀ (j : Nat) (oj : Oper), ops[j]? = some oj → listed.getD j false = true → ∀ e ∈ oj.after, Region.binds .any e = true → listed.getD e.on false = true) →
      (∃ p, p ≤ ops.size ∧ (∀ (j : Nat) (o : Oper), ops[j]? = some o → eff o = true → (listed.getD j false = true ↔ j < p)) ∧ StD ops O W S listed b w (effN ops p)) →
      wpAny P .any ops Q fuel listed (canon ops (VbC ops V b) a (fun j => listed.getD j false) ops.size) w := by
  have hsome : ∀ j, j < ops.size → ops[j]? = some (ops.getD j default) := fun j hj => by simp [hj]
  have allq : ∀ (listed : Array Bool) (b : Nat → Nat) (w : World), (∀ j, j < ops.size → listed.getD j false = true) →
      (∃ p, p ≤ ops.size ∧ (∀ (j : Nat) (o : Oper), ops[j]? = some o → eff o = true → (listed.getD j false = true ↔ j < p)) ∧ StD ops O W S listed b w (effN ops p)) →
      Q .normal (canon ops (VbC ops V b) a (fun j => listed.getD j false) ops.size) w := by
    rintro listed b w hl ⟨p, hp, hpe, hs⟩
    rw [canon_congr (VbC ops V b) a (fun j => listed.getD j false) (fun _ => true) ops.size (fun k hk => hl k hk), canon_puts hst V O b a ops.size (Nat.le_refl _)]
    refine hQ b w ?_
    have he : effN ops ops.size = effN ops p := effN_same p ops.size hp (fun j o h1 h2 ho => by
      cases he : eff o
      · rfl
      · have := (hpe j o ho he).1 (hl j h2); omega)
    rw [he]
    cases hk : effN ops p with
    | zero =>
      rw [hk] at hs
      exact ⟨hs.1, factsC_of W w b O ops.size (fun i hi ha => ⟨(hs.2 i hi ha (hl i hi)).1, (hs.2 i hi ha (hl i hi)).2.1, fun j hj hne haj => (hs.2 i hi ha (hl i hi)).2.2 j hj hne haj (hl j hj)⟩) ops.size (Nat.le_refl _)⟩
    | succ k => rw [hk] at hs; exact hs
  have rdy : ∀ (listed : Array Bool), listed.size = ops.size → Region.ready .any ops listed = [] → ∀ j, j < ops.size → listed.getD j false = true := by
    intro listed hsz hr j
    induction j using Nat.strongRecOn with
    | _ j ih =>
      intro hj
      cases hl : listed.getD j false with
      | true => rfl
      | false =>
        exfalso
        have : j ∈ Region.ready .any ops listed := mem_ready.2 ⟨getD_in (by omega) hl, ops[j], by simp [hj], fun e he hb => by
            have hlt := hst.edge j ops[j] (by simp [hj]) e he hb
            exact ih e.on hlt (by omega)⟩
        rw [hr] at this; cases this
  intro fuel
  induction fuel with
  | zero =>
    intro listed b w hsz hc hcl hp
    have hal : ∀ j, j < ops.size → listed.getD j false = true := by
      intro j hj
      have := List.countP_eq_zero.1 hc j (List.mem_range.2 hj)
      simpa using this
    refine ⟨?_, allq listed b w hal hp⟩
    cases hr : Region.ready .any ops listed with
    | nil => rfl
    | cons j r =>
      exfalso
      have hm : j ∈ Region.ready .any ops listed := by rw [hr]; exact List.mem_cons_self
      obtain ⟨h1, oj, hoj, _⟩ := mem_ready.1 hm
      have hj : j < ops.size := (Array.getElem?_eq_some_iff.1 hoj).1
      have h2 := hal j hj
      rw [getD_both h1] at h2; cases h2
  | succ fuel ih =>
    intro listed b w hsz hc hcl hp
    refine ⟨fun hr => allq listed b w (rdy listed hsz hr) hp, fun i hi => ?_⟩
    obtain ⟨hun, o, ho, hrd⟩ := mem_ready.1 hi
    have hin : i < ops.size := (Array.getElem?_eq_some_iff.1 ho).1
    have his : i < listed.size := by omega
    have hun' : listed.getD i false = false := getD_both hun
    have hdo : dstOf ops i = o.dst := by simp [dstOf, ho]
    obtain ⟨hallE, hallN⟩ := allB_spec hall i o ho
    have hlt : leftN (listed.setIfInBounds i true) ops.size = fuel := by
      have hmono : ∀ (l : List Nat), l.Nodup → i ∈ l → List.countP (fun j => !(listed.setIfInBounds i true).getD j false) l + 1 = List.countP (fun j => !listed.getD j false) l := by
        intro l
        induction l with
        | nil => intro _ h; cases h
        | cons x l ihl =>
          intro hnd hm
          rw [List.nodup_cons] at hnd
          rw [List.countP_cons, List.countP_cons]
          by_cases e : i = x
          · subst e
            rw [if_neg (by simp [his]), if_pos (by simp [hun'])]
            have : List.countP (fun j => !(listed.setIfInBounds i true).getD j false) l = List.countP (fun j => !listed.getD j false) l :=
              List.countP_congr (fun j hj => by
                have : i ≠ j := fun e => hnd.1 (e ▸ hj)
                rw [getD_set_ne false this])
            omega
          · have : i ∈ l := by
              rcases List.mem_cons.1 hm with h | h
              · exact absurd h e
              · exact h
            have h3 := ihl hnd.2 this
            rw [getD_set_ne false e]; omega
      have := hmono _ List.nodup_range (List.mem_range.2 hin)
      unfold leftN at hc ⊢
      omega
    have hcl' : ∀ (j : Nat) (oj : Oper), ops[j]? = some oj → (listed.setIfInBounds i true).getD j false = true → ∀ e ∈ oj.after, Region.binds .any e = true → (listed.setIfInBounds i true).getD e.on false = true := by
      intro j oj hoj hl e he hb
      by_cases hij : i = j
      · subst hij
        have : o = oj := Option.some.inj (ho.symm.trans hoj)
        subst this
        exact getD_set_true (hrd e he hb)
      · rw [getD_set_ne false hij] at hl
        exact getD_set_true (hcl j oj hoj hl e he hb)
    have hcs : ∀ b' : Nat → Nat, (∀ j, j ≠ i → b' j = b j) → canon ops (VbC ops V b') a (fun j => (listed.setIfInBounds i true).getD j false) ops.size = (canon ops (VbC ops V b) a (fun j => listed.getD j false) ops.size).put o.dst (VbC ops V b' i) := by
      intro b' hb'
      have := canon_set (ops := ops) (VbC ops V b') a (fun j => listed.getD j false) (fun j => (listed.setIfInBounds i true).getD j false) i hun' (by simp [his]) (fun j hj => getD_set_ne false (Ne.symm hj)) ops.size hin
        (fun j hj hne d hd => hst.dist i o ho j hj hne d (by rw [← hdo]; exact hd))
      rw [hdo] at this
      rw [this, canon_V (VbC ops V b') (VbC ops V b) a (fun j => listed.getD j false) ops.size (fun k hk hl => by
        have : k ≠ i := by rintro rfl; rw [hun'] at hl; cases hl
        unfold VbC; rw [hb' k this])]
    obtain ⟨p, hpn, hpe, hs⟩ := hp
    obtain ⟨H1, H2, H3⟩ := H i o ho
    unfold wpOp
    simp only [ho]
    cases hA : isAlloc o
    · have hnA : allocAt ops i = false := by simp [allocAt, ho, hA]
      have hVi : VbC ops V b i = V i := by unfold VbC; rw [hnA]; rfl
      cases hE : eff o
      · -- reads, calls, reckons
        have hslot : ∀ t, t ∈ o.looksAt ops → (canon ops (VbC ops V b) a (fun j => listed.getD j false) ops.size).tmps[t]? = (frNA ops V a i).tmps[t]? := by
          intro t ht
          have e1 : frNA ops V a i = canon ops V a (fun j => decide (j < i) && !allocAt ops j) ops.size := by
            unfold frNA
            rw [canon_congr V a (fun j => !allocAt ops j) (fun j => decide (j < i) && !allocAt ops j) i (fun k hk => by simp [hk])]
            have : ∀ m, i ≤ m → canon ops V a (fun j => decide (j < i) && !allocAt ops j) m = canon ops V a (fun j => decide (j < i) && !allocAt ops j) i := by
              intro m hm
              induction m with
              | zero => rw [show i = 0 by omega]
              | succ m ihn =>
                by_cases e : i = m + 1
                · rw [e]
                · simp only [canon]
                  rw [if_neg (by simp; omega)]; exact ihn (by omega)
            exact (this _ (by omega)).symm
          rw [e1]
          refine canon_slot2 _ _ a _ _ t ops.size (fun j hj hd => ?_)
          obtain ⟨h1, e, he, hb, hon⟩ := hst.look i o ho t ht j hj hd
          have hl := hrd e he hb
          rw [hon] at hl
          have hja : allocAt ops j = false := by
            cases h : allocAt ops j
            · rfl
            · exact absurd hd (hallN hE t ht j hj h)
          refine ⟨?_, fun _ => ?_⟩
          · show listed.getD j false = (decide (j < i) && !allocAt ops j)
            rw [hl, hja]; simp [h1]
          · unfold VbC; rw [hja]; rfl
        have hev : execOp (canon ops (VbC ops V b) a (fun j => listed.getD j false) ops.size).eval o = execOp (frNA ops V a i).eval o :=
          execOp_congr o (hst.sel i o ho) (fun x hx => eval_slot (fun t hxt => hslot t (by
            subst hxt; exact List.mem_append_left _ (List.mem_filterMap.2 ⟨.tmp t, by simpa using hx, rfl⟩))))
        have hwt := wanted_slot (ops := ops) (o := o) hslot
        have hpe' : ∀ (j : Nat) (o' : Oper), ops[j]? = some o' → eff o' = true → ((listed.setIfInBounds i true).getD j false = true ↔ j < p) := fun j o' ho' he' => by
          have : i ≠ j := by
            rintro rfl
            have : o = o' := Option.some.inj (ho.symm.trans ho')
            subst this; rw [hE] at he'; cases he'
          rw [getD_set_ne false this]; exact hpe j o' ho' he'
        have hnext : ∀ w', StD ops O W S (listed.setIfInBounds i true) b w' (effN ops p) → wpAny P .any ops Q fuel (listed.setIfInBounds i true) ((canon ops (VbC ops V b) a (fun j => listed.getD j false) ops.size).put o.dst (V i)) w' := by
          intro w' hs'
          have e := hcs b (fun _ _ => rfl)
          rw [hVi] at e
          rw [← e]
          exact ih _ b w' (by simp [hsz]) hlt hcl' ⟨p, hpn, hpe', hs'⟩
        have hfacts : ∀ w', Below w.heap.size w w' → (∀ i', i' < ops.size → allocAt ops i' = true → listed.getD i' false = true → W.heap.size ≤ b i' ∧ w.heap[b i']? = some (O i') ∧ ∀ j, j < ops.size → j ≠ i' → allocAt ops j = true → listed.getD j false = true → b j ≠ b i') →
            ∀ i', i' < ops.size → allocAt ops i' = true → (listed.setIfInBounds i true).getD i' false = true → W.heap.size ≤ b i' ∧ w'.heap[b i']? = some (O i') ∧ ∀ j, j < ops.size → j ≠ i' → allocAt ops j = true → (listed.setIfInBounds i true).getD j false = true → b j ≠ b i' := by
          intro w' hb' hf k hk ha hl
          have hki : i ≠ k := by rintro rfl; rw [hnA] at ha; cases ha
          rw [getD_set_ne false hki] at hl
          obtain ⟨g1, g2, g3⟩ := hf k hk ha hl
          refine ⟨g1, ?_, fun j hj hne haj hlj => ?_⟩
          · rw [hb'.block (b k) (Array.getElem?_eq_some_iff.1 g2).1]; exact g2
          · have hji : i ≠ j := by rintro rfl; rw [hnA] at haj; cases haj
            rw [getD_set_ne false hji] at hlj
            exact g3 j hj hne haj hlj
        have hhi : effN ops p ≤ hiN ops i := by
          unfold hiN
          cases hf : (List.range ops.size).find? (waitsW ops i) with
          | none => exact effN_mono p _ hpn
          | some e =>
            have hw1 := List.find?_some hf
            unfold waitsW at hw1
            cases hoe : ops[e]? with
            | none => rw [hoe] at hw1; cases hw1
            | some oe =>
              rw [hoe] at hw1
              simp only [Bool.and_eq_true] at hw1
              obtain ⟨x, hx, hb⟩ := Array.any_eq_true'.1 hw1.2
              simp only [Bool.and_eq_true, beq_iff_eq] at hb
              refine effN_mono p e (Nat.le_of_not_lt fun hlt => ?_)
              have hle := (hpe e oe hoe hw1.1).2 hlt
              have := hcl e oe hoe hle x hx hb.1
              rw [hb.2, hun'] at this; cases this
        obtain ⟨hkn, hpu⟩ := H3 hA hE
        cases hk : effN ops p with
        | zero =>
          rw [hk] at hs hnext
          rcases hkn with ⟨hw, hy⟩ | ⟨hw, hv⟩
          · rw [if_pos (by rw [hwt]; exact hw)]
            left
            unfold Oper.wp
            rw [hev]
            rcases hy w hs.1 with hr | ⟨f, args, hr, hcall⟩
            · rw [hr]; exact hnext w ⟨hs.1, hfacts w (Below.refl _ _) hs.2⟩
            · rw [hr]
              exact hcall.mono fun e w'' ⟨he, hbb⟩ => by subst he; exact hnext w'' ⟨hs.1.trans (hbb.mono hs.1.size), hfacts w'' hbb hs.2⟩
          · rw [if_neg (by rw [hwt, hw]; simp), ← hv]
            exact hnext w ⟨hs.1, hfacts w (Below.refl _ _) hs.2⟩
        | succ k =>
          rw [hk] at hs hnext
          rcases hkn with ⟨hw, hy⟩ | ⟨hw, hv⟩
          · rw [if_pos (by rw [hwt]; exact hw)]
            left
            unfold Oper.wp
            rw [hev]
            rcases hpu with h0 | h0
            · omega
            · rw [h0 hw w]; exact hnext w hs
          · rw [if_neg (by rw [hwt, hw]; simp), ← hv]
            exact hnext w hs
      · -- writes
        obtain ⟨hv, hg, hwr⟩ := H2 hA hE
        have hnp : ¬ i < p := fun h => by have := (hpe i o ho hE).2 h; rw [hun'] at this; cases this
        have hepi : effN ops i = effN ops p := effN_same p i (by omega) (fun j oj h1 h2 hoj => by
          cases hej : eff oj
          · rfl
          · obtain ⟨e, hm, hb, hon⟩ := hst.order i o ho hE j oj h2 hoj hej
            have := hrd e hm hb
            rw [hon] at this
            have := (hpe j oj hoj hej).1 this; omega)
        have hals : ∀ j, j < ops.size → allocAt ops j = true → listed.getD j false = true ∧ j < i := fun j hj ha => by
          obtain ⟨e, hm, hb, hon⟩ := hallE hE j hj ha
          have h1 := hrd e hm hb
          have h2 := hst.edge i o ho e hm hb
          rw [hon] at h1 h2; exact ⟨h1, h2⟩
        have hSS : SS W S (asL ops O i) b w (effN ops i) := by
          rw [hepi]
          cases hk : effN ops p with
          | zero =>
            rw [hk] at hs
            exact ⟨hs.1, factsC_of W w b O ops.size (fun i' hi' ha => ⟨(hs.2 i' hi' ha (hals i' hi' ha).1).1, (hs.2 i' hi' ha (hals i' hi' ha).1).2.1, fun j hj hne haj => (hs.2 i' hi' ha (hals i' hi' ha).1).2.2 j hj hne haj (hals j hj haj).1⟩) i (by omega)⟩
          | succ k => rw [hk] at hs; exact hs
        obtain ⟨w', hr, hS'⟩ := hwr b w hSS
        have hslot : ∀ t, t ∈ o.looksAt ops → (canon ops (VbC ops V b) a (fun j => listed.getD j false) ops.size).tmps[t]? = (putsC b (asL ops O i) (frNA ops V a i)).tmps[t]? := by
          intro t ht
          rw [← canon_puts hst V O b a i (by omega)]
          have e1 : canon ops (VbC ops V b) a (fun _ => true) i = canon ops (VbC ops V b) a (fun j => decide (j < i)) ops.size := by
            rw [canon_congr (VbC ops V b) a (fun _ => true) (fun j => decide (j < i)) i (fun k hk => by simp [hk])]
            have : ∀ m, i ≤ m → canon ops (VbC ops V b) a (fun j => decide (j < i)) m = canon ops (VbC ops V b) a (fun j => decide (j < i)) i := by
              intro m hm
              induction m with
              | zero => rw [show i = 0 by omega]
              | succ m ihn =>
                by_cases e : i = m + 1
                · rw [e]
                · simp only [canon]
                  rw [if_neg (by simp; omega)]; exact ihn (by omega)
            exact (this _ (by omega)).symm
          rw [e1]
          refine canon_slot (VbC ops V b) a _ _ t ops.size (fun j hj hd => ?_)
          obtain ⟨h1, e, he, hb, hon⟩ := hst.look i o ho t ht j hj hd
          have := hrd e he hb
          rw [hon] at this
          simp [h1, this]
        have hev : execOp (canon ops (VbC ops V b) a (fun j => listed.getD j false) ops.size).eval o = execOp (putsC b (asL ops O i) (frNA ops V a i)).eval o :=
          execOp_congr o (hst.sel i o ho) (fun x hx => eval_slot (fun t hxt => hslot t (by
            subst hxt; exact List.mem_append_left _ (List.mem_filterMap.2 ⟨.tmp t, by simpa using hx, rfl⟩))))
        rw [if_pos (by simp [Region.wanted, hg])]
        left
        unfold Oper.wp
        rw [hev, hr]
        show wpAny P .any ops Q fuel (listed.setIfInBounds i true) ((canon ops (VbC ops V b) a (fun j => listed.getD j false) ops.size).put o.dst undef) w'
        have e := hcs b (fun _ _ => rfl)
        rw [hVi, hv] at e
        rw [← e]
        refine ih _ b w' (by simp [hsz]) hlt hcl' ⟨i + 1, hin, fun j o' ho' he' => ?_, ?_⟩
        · by_cases e : i = j
          · subst e; simp [his]
          · rw [getD_set_ne false e, hpe j o' ho' he']
            constructor
            · intro h; omega
            · intro h
              have hji : j < i := by omega
              obtain ⟨e', hm, hb, hon⟩ := hst.order i o ho hE j o' hji ho' he'
              have := hrd e' hm hb
              rw [hon] at this
              exact (hpe j o' ho' he').1 this
        · rw [show effN ops (i + 1) = effN ops i + 1 by simp [effN, ho, hE]]
          exact hS'
    · -- a variable is made
      have hiA : allocAt ops i = true := by simp [allocAt, ho, hA]
      have hE : eff o = false := by
        cases hE : eff o
        · rfl
        · unfold eff at hE; unfold isAlloc at hA
          cases hop : o.op <;> simp [hop] at hE hA
      have hk : effN ops p = 0 := by
        by_cases h0 : effN ops p = 0
        · exact h0
        · exfalso
          obtain ⟨e, oe, h1, h2, h3⟩ := effN_pos p h0
          obtain ⟨x, hm, hb, hon⟩ := (allB_spec hall e oe h2).1 h3 i hin hiA
          have := hcl e oe h2 ((hpe e oe h2 h3).2 h1) x hm hb
          rw [hon, hun'] at this; cases this
      rw [hk] at hs
      obtain ⟨hg, hr⟩ := H1 hA
      rw [if_pos (by simp [Region.wanted, hg])]
      left
      unfold Oper.wp
      rw [hr]
      show wpAny P .any ops Q fuel (listed.setIfInBounds i true) ((canon ops (VbC ops V b) a (fun j => listed.getD j false) ops.size).put o.dst (.pointer (some ⟨w.heap.size, 0, none⟩))) (w.alloc (O i))
      have e := hcs (fun j => if j = i then w.heap.size else b j) (fun j hj => by simp [hj])
      have hVi : VbC ops V (fun j => if j = i then w.heap.size else b j) i = .pointer (some ⟨w.heap.size, 0, none⟩) := by
        unfold VbC; rw [hiA]; simp [ptrB]
      rw [hVi] at e
      rw [← e]
      have hold : ∀ k, k < ops.size → allocAt ops k = true → listed.getD k false = true → b k < w.heap.size := fun k hk ha hl => (Array.getElem?_eq_some_iff.1 (hs.2 k hk ha hl).2.1).1
      refine ih _ _ (w.alloc (O i)) (by simp [hsz]) hlt hcl' ⟨p, hpn, fun j o' ho' he' => ?_, ?_⟩
      · have : i ≠ j := by
          rintro rfl
          have : o = o' := Option.some.inj (ho.symm.trans ho')
          subst this; rw [hE] at he'; cases he'
        rw [getD_set_ne false this]; exact hpe j o' ho' he'
      · rw [hk]
        refine ⟨hs.1.alloc hs.1.size _, fun k hk ha hl => ?_⟩
        by_cases hki : k = i
        · subst hki
          refine ⟨by simp; exact hs.1.size, by simp only [if_true]; show (w.heap.push _)[w.heap.size]? = _; simp, fun j hj hne haj hlj => ?_⟩
          rw [getD_set_ne false (Ne.symm hne)] at hlj
          have := hold j hj haj hlj
          simp [hne]; omega
        · rw [getD_set_ne false (Ne.symm hki)] at hl
          obtain ⟨g1, g2, g3⟩ := hs.2 k hk ha hl
          refine ⟨by simp [hki]; exact g1, ?_, fun j hj hne haj hlj => ?_⟩
          · simp only [hki, if_false]
            rw [Below.heap_alloc _ _ _ (hold k hk ha hl)]; exact g2
          · simp only [hki, if_false]
            by_cases hji : j = i
            · subst hji
              have := hold k hk ha hl
              simp; omega
            · rw [getD_set_ne false (Ne.symm hji)] at hlj
              simp only [hji, if_false]
              exact g3 j hj hne haj hlj
/-- A region that draws its order, walked in the order of the text. -/
theorem wp_region_all {id : Nat} {l : List Oper} {a : Act} {w : World} {Q : Exit → Act → World → Prop} (S : Nat → (Nat → Nat) → World → Prop) (hm : P.follows .mixedOrders = true) (hB : stableB l.toArray = true) (hall : allB l.toArray = true)
    (h : wpD P l.toArray w.drew S (Q .normal) 0 0 [] l a) : (Code.region id l.toArray true).wp P Q a w := by
  have hst := stable_of hB
  obtain ⟨V, O, -, h2, h3⟩ := wpD_vals (ops := l.toArray) a l 0 (fun _ => undef) (fun _ => .map #[] 0) a (fun j => by simp) rfl h
  rw [Nat.zero_add] at h3
  have hsz : l.toArray.size = l.length := by simp
  rw [← hsz] at h3
  refine wp_region_any hm ?_
  have H := any_of_all (P := P) hst hall V O a w.drew S Q (fun i o ho => h2 i o (Nat.zero_le _) ho) h3 l.toArray.size (Array.replicate l.toArray.size false) (fun _ => 0) w.drew (by simp) (by
      unfold leftN
      have : ∀ m, List.countP (fun i => !(Array.replicate l.toArray.size false).getD i false) (List.range m) = m := by
        intro m
        rw [List.countP_eq_length.2 (fun j _ => by rw [getD_replicate_false]; rfl), List.length_range]
      exact this _) (fun j oj _ hl => by rw [getD_replicate_false] at hl; exact absurd hl (by decide))
    ⟨0, Nat.zero_le _, fun j o ho he => by rw [getD_replicate_false]; constructor <;> intro hh <;> first | (exact absurd hh (by decide)) | omega,
      Below.refl _ _, fun i hi ha hl => by rw [getD_replicate_false] at hl; exact absurd hl (by decide)⟩
  have e : canon l.toArray (VbC l.toArray V fun _ => 0) a (fun j => (Array.replicate l.toArray.size false).getD j false) l.toArray.size = a := by
    have : ∀ m, canon l.toArray (VbC l.toArray V fun _ => 0) a (fun j => (Array.replicate l.toArray.size false).getD j false) m = a := by
      intro m
      induction m with
      | zero => rfl
      | succ m ih =>
        simp only [canon]
        rw [if_neg, ih]
        rw [getD_replicate_false]; decide
    exact this _
  rw [e] at H
  exact H
section
variable {W : World} {S : Nat → (Nat → Nat) → World → Prop} {Q : Act → World → Prop} {i k : Nat} {as : AsC} {o : Oper} {rest : List Oper} {a : Act}
theorem wpD_nil (h : ∀ b w, SS W S as b w k → Q (putsC b as a) w) : wpD P ops W S Q i k as [] a := h
theorem wpD_alloc (O : Obj) (ha : isAlloc o = true) (hr : AllocR P o O) (h : wpD P ops W S Q (i + 1) k (as ++ [(i, o.dst, O)]) rest a) : wpD P ops W S Q i k as (o :: rest) a := by
  unfold wpD; rw [ha]; exact ⟨O, hr, h⟩
/-- A reckoning that looks at no memory. -/
theorem wpD_pure {v : Value} (ha : isAlloc o = false) (he : eff o = false) (hw : Region.wanted o (yielded ops a.tmps) = true) (hr : ∀ w, (execOp a.eval o).run P w = .ok (.value v) w)
    (h : ∀ K : Act → Prop, (∀ b, wpD P ops W S Q (i + 1) k as rest b → K b) → K (a.put o.dst v)) : wpD P ops W S Q i k as (o :: rest) a := by
  unfold wpD; rw [ha, he]; exact ⟨v, ⟨.inl ⟨hw, fun w _ => .inl (hr w)⟩, .inr (fun _ => hr)⟩, h _ (fun _ h => h)⟩
theorem wpD_val {v : Value} (ha : isAlloc o = false) (he : eff o = false) (hn : hiN ops i = 0) (hw : Region.wanted o (yielded ops a.tmps) = true) (hr : ∀ w, Below W.heap.size W w → (execOp a.eval o).run P w = .ok (.value v) w)
    (h : ∀ K : Act → Prop, (∀ b, wpD P ops W S Q (i + 1) k as rest b → K b) → K (a.put o.dst v)) : wpD P ops W S Q i k as (o :: rest) a := by
  unfold wpD; rw [ha, he]; exact ⟨v, ⟨.inl ⟨hw, fun w hw => .inl (hr w hw)⟩, .inl hn⟩, h _ (fun _ h => h)⟩
theorem wpD_skip (ha : isAlloc o = false) (he : eff o = false) (hw : Region.wanted o (yielded ops a.tmps) = false)
    (h : ∀ K : Act → Prop, (∀ b, wpD P ops W S Q (i + 1) k as rest b → K b) → K (a.put o.dst undef)) : wpD P ops W S Q i k as (o :: rest) a := by
  unfold wpD; rw [ha, he]; exact ⟨undef, ⟨.inr ⟨hw, rfl⟩, .inr (fun h => by rw [hw] at h; cases h)⟩, h _ (fun _ h => h)⟩
theorem wpD_call {v : Value} (f : FuncId) (args : Array Value) (ha : isAlloc o = false) (he : eff o = false) (hn : hiN ops i = 0) (hw : Region.wanted o (yielded ops a.tmps) = true) (hr : ∀ w, (execOp a.eval o).run P w = .ok (.enter f args) w)
    (hc : ∀ w, Below W.heap.size W w → Calls P f args w (fun e w' => e = .returned v ∧ Below w.heap.size w w'))
    (h : ∀ K : Act → Prop, (∀ b, wpD P ops W S Q (i + 1) k as rest b → K b) → K (a.put o.dst v)) : wpD P ops W S Q i k as (o :: rest) a := by
  unfold wpD; rw [ha, he]; exact ⟨v, ⟨.inl ⟨hw, fun w hw => .inr ⟨f, args, hr w, hc w hw⟩⟩, .inl hn⟩, h _ (fun _ h => h)⟩
theorem wpD_load (ty : TypeId) (x : Operand) (ho : o.op = .load ty x) (b off : Nat) (C : List Value) (d : TypeDesc) (hn : hiN ops i = 0) (hw : Region.wanted o (yielded ops a.tmps) = true) (hx : a.eval x = .pointer (some ⟨b, off, none⟩))
    (hS : ∀ w, Below W.heap.size W w → w.rangeAt b off C) (hu : P.underlying ty = some d) (hd : d.isRow = true) (hi : (P.info? ty).map (·.size) = some C.length)
    (h : ∀ K : Act → Prop, (∀ b, wpD P ops W S Q (i + 1) k as rest b → K b) → K (a.put o.dst (.agg C.toArray))) : wpD P ops W S Q i k as (o :: rest) a :=
  wpD_val (by unfold isAlloc; rw [ho]) (by unfold eff; rw [ho]) hn hw (fun w hs => by
    unfold execOp
    simp only [ho, hx, Instr.loadAt, Instr.sureAddr, Sem.run_bind, Sem.run_pure, Result.andThen_ok, run_loadVar_mid w b off ty C d (hS w hs) hu hd hi]) h
theorem wpD_write (ha : isAlloc o = false) (he : eff o = true) (hr : WriteR P W S k as o a)
    (h : ∀ K : Act → Prop, (∀ b, wpD P ops W S Q (i + 1) (k + 1) as rest b → K b) → K (a.put o.dst undef)) : wpD P ops W S Q i k as (o :: rest) a := by
  unfold wpD; rw [ha, he]; exact ⟨hr, h _ (fun _ h => h)⟩
end
end Go.Proofs.Ytpedkcpkdacnlaa
