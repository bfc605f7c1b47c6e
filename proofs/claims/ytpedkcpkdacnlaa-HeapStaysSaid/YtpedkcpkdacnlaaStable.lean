/- A region that draws its order, whose operations each yield the same value in whatever order they come up: it may be walked in the order of the text. No program is named here. -/
import Derived.WalkKit
import Derived.Orders
import Derived.KernelRfl
import Derived.Deep.MidRow
namespace Go.Proofs.Ytpedkcpkdacnlaa
set_option linter.unusedVariables false
variable {P : Program} {ops : Array Oper}
/-- Does it write? -/
def eff (o : Oper) : Bool := match o.op with
  | .store _ _ _ => true
  | .mapUpdate _ _ _ _ => true
  | _ => false
/-- In every world that meets S the operation yields v, and leaves a world that meets S'. -/
def YR (P : Program) (S S' : World → Prop) (r : Sem Next) (v : Value) : Prop :=
  ∀ w, S w → (∃ w', r.run P w = .ok (.value v) w' ∧ S' w') ∨ (∃ w', r.run P w = .ok .skip w' ∧ v = undef ∧ S' w') ∨
    (∃ f args w', r.run P w = .ok (.enter f args) w' ∧ Calls P f args w' (fun e w'' => e = .returned v ∧ S' w''))
theorem YR.wp {S S' : World → Prop} {o : Oper} {a : Act} {v : Value} {K : Act → World → Prop} {Q : Exit → Act → World → Prop} (h : YR P S S' (execOp a.eval o) v)
    (hK : ∀ w, S' w → K (a.put o.dst v) w) (w : World) (hw : S w) : o.wp P a w K Q := by
  unfold Oper.wp
  rcases h w hw with ⟨w', hr, hs⟩ | ⟨w', hr, rfl, hs⟩ | ⟨f, args, w', hr, hc⟩
  · rw [hr]; exact hK _ hs
  · rw [hr]; exact hK _ hs
  · rw [hr]; exact hc.mono fun e w'' ⟨he, hs⟩ => by subst he; exact hK _ hs
def dstOf (ops : Array Oper) (k : Nat) : Option Tmp := (ops[k]?).bind (·.dst)
/-- The frame behind those of the first n operations that are listed. -/
def canon (ops : Array Oper) (V : Nat → Value) (a : Act) (L : Nat → Bool) : Nat → Act
  | 0 => a
  | k + 1 => if L k then (canon ops V a L k).put (dstOf ops k) (V k) else canon ops V a L k
theorem canon_congr (V : Nat → Value) (a : Act) (L L' : Nat → Bool) : ∀ n, (∀ k, k < n → L k = L' k) → canon ops V a L n = canon ops V a L' n
  | 0, _ => rfl
  | n + 1, h => by
    simp only [canon]
    rw [canon_congr V a L L' n (fun k hk => h k (by omega)), h n (by omega)]
theorem canon_set (V : Nat → Value) (a : Act) (L L' : Nat → Bool) (i : Nat) (hi : L i = false) (hi' : L' i = true) (ho : ∀ j, j ≠ i → L' j = L j) :
    ∀ n, i < n → (∀ j, j < n → j ≠ i → ∀ d, dstOf ops i = some d → dstOf ops j ≠ some d) → canon ops V a L' n = (canon ops V a L n).put (dstOf ops i) (V i)
  | 0, h, _ => by omega
  | n + 1, h, hd => by
    simp only [canon]
    by_cases e : n = i
    · subst e
      rw [hi, hi', if_pos rfl, if_neg (by simp), canon_congr V a L' L n (fun k hk => ho k (by omega))]
    · rw [ho n e, canon_set V a L L' i hi hi' ho n (by omega) (fun j hj => hd j (by omega))]
      cases L n
      · rfl
      · simp only [if_true]
        exact Act.put_comm _ _ _ (fun d h1 h2 => hd n (by omega) e d h1 h2)
theorem put_size (a : Act) (d : Option Tmp) (v : Value) : (a.put d v).tmps.size = a.tmps.size := by cases d <;> simp [Act.put]
theorem canon_size (V : Nat → Value) (a : Act) (L : Nat → Bool) : ∀ n, (canon ops V a L n).tmps.size = a.tmps.size
  | 0 => rfl
  | n + 1 => by
    simp only [canon]
    split
    · rw [put_size]; exact canon_size V a L n
    · exact canon_size V a L n
/-- A slot holds the same in two frames if of those that write it the same are listed. -/
theorem canon_slot (V : Nat → Value) (a : Act) (L L' : Nat → Bool) (t : Tmp) : ∀ n, (∀ j, j < n → dstOf ops j = some t → L j = L' j) →
    (canon ops V a L n).tmps[t]? = (canon ops V a L' n).tmps[t]?
  | 0, _ => rfl
  | n + 1, h => by
    have ih := canon_slot V a L L' t n (fun j hj => h j (by omega))
    simp only [canon]
    by_cases hd : dstOf ops n = some t
    · rw [h n (by omega) hd]
      cases L' n
      · exact ih
      · simp only [if_true, hd, Act.put, Array.getElem?_setIfInBounds, canon_size]
    · have put_ne : ∀ b : Act, (b.put (dstOf ops n) (V n)).tmps[t]? = b.tmps[t]? := fun b => by
        cases hq : dstOf ops n with
        | none => rfl
        | some d =>
          have : d ≠ t := fun e => hd (by rw [hq, e])
          simp [Act.put, Array.getElem?_setIfInBounds_ne this]
      split <;> split <;> (first | exact ih | (simp only [put_ne]; exact ih))
/-- The side condition: what an operation looks at comes up before it; slots are written once; writers are in order. -/
def stableB (ops : Array Oper) : Bool :=
  (List.range ops.size).all fun i => match ops[i]? with
    | none => false
    | some o => (match o.op with | .select _ _ => false | _ => true) &&
      (o.after.all fun e => !Region.binds .any e || decide (e.on < i)) &&
      ((o.looksAt ops).all fun t => (List.range ops.size).all fun j => (dstOf ops j != some t) || (decide (j < i) && o.after.any fun e => Region.binds .any e && e.on == j)) &&
      ((List.range ops.size).all fun j => decide (j = i) || (match o.dst with | some d => dstOf ops j != some d | none => true)) &&
      (!eff o || (List.range i).all fun j => (match ops[j]? with | some p => !eff p | none => true) || o.after.any fun e => Region.binds .any e && e.on == j)
structure Stable (ops : Array Oper) : Prop where
  sel : ∀ (i : Nat) (o : Oper), ops[i]? = some o → ∀ cs b, o.op ≠ .select cs b
  edge : ∀ (i : Nat) (o : Oper), ops[i]? = some o → ∀ e ∈ o.after, Region.binds .any e = true → e.on < i
  look : ∀ (i : Nat) (o : Oper), ops[i]? = some o → ∀ t ∈ o.looksAt ops, ∀ j, j < ops.size → dstOf ops j = some t → j < i ∧ ∃ e ∈ o.after, Region.binds .any e = true ∧ e.on = j
  dist : ∀ (i : Nat) (o : Oper), ops[i]? = some o → ∀ j, j < ops.size → j ≠ i → ∀ d, o.dst = some d → dstOf ops j ≠ some d
  order : ∀ (i : Nat) (o : Oper), ops[i]? = some o → eff o = true → ∀ (j : Nat) (p : Oper), j < i → ops[j]? = some p → eff p = true → ∃ e ∈ o.after, Region.binds .any e = true ∧ e.on = j
theorem stable_of (h : stableB ops = true) : Stable ops := by
  have key : ∀ (i : Nat) (o : Oper), ops[i]? = some o → ((((((match o.op with | .select _ _ => false | _ => true) = true ∧
      (o.after.all fun e => !Region.binds .any e || decide (e.on < i)) = true) ∧
      ((o.looksAt ops).all fun t => (List.range ops.size).all fun j => (dstOf ops j != some t) || (decide (j < i) && o.after.any fun e => Region.binds .any e && e.on == j)) = true) ∧
      ((List.range ops.size).all fun j => decide (j = i) || (match o.dst with | some d => dstOf ops j != some d | none => true)) = true)) ∧
      (!eff o || (List.range i).all fun j => (match ops[j]? with | some p => !eff p | none => true) || o.after.any fun e => Region.binds .any e && e.on == j) = true) := fun i o ho => by
    have hi : i < ops.size := (Array.getElem?_eq_some_iff.1 ho).1
    have := List.all_eq_true.1 h i (List.mem_range.2 hi)
    simp only [ho, Bool.and_eq_true] at this
    exact this
  refine ⟨fun i o ho cs b hs => ?_, fun i o ho e he hb => ?_, fun i o ho t ht j hj hd => ?_, fun i o ho j hj hne d hd hd' => ?_, fun i o ho he j p hj hp hep => ?_⟩
  · have := (key i o ho).1.1.1.1; rw [hs] at this; cases this
  · have := (key i o ho).1.1.1.2
    have := Array.all_eq_true_iff_forall_mem.1 this e he
    simpa [hb] using this
  · have := List.all_eq_true.1 (List.all_eq_true.1 (key i o ho).1.1.2 t ht) j (List.mem_range.2 hj)
    rw [hd] at this
    simp only [bne_self_eq_false, Bool.false_or, Bool.and_eq_true, decide_eq_true_eq] at this
    obtain ⟨e, he, hb⟩ := Array.any_eq_true'.1 this.2
    simp only [Bool.and_eq_true, beq_iff_eq] at hb
    exact ⟨this.1, e, he, hb.1, hb.2⟩
  · have := List.all_eq_true.1 (key i o ho).1.2 j (List.mem_range.2 hj)
    simp [hne, hd, hd'] at this
  · have h1 := (key i o ho).2
    rw [he] at h1
    simp only [Bool.not_true, Bool.false_or] at h1
    have := List.all_eq_true.1 h1 j (List.mem_range.2 hj)
    simp only [hp, hep, Bool.not_true, Bool.false_or] at this
    obtain ⟨e, he, hb⟩ := Array.any_eq_true'.1 this
    simp only [Bool.and_eq_true, beq_iff_eq] at hb
    exact ⟨e, he, hb.1, hb.2⟩
/-- How many writers stand below place n. -/
def effN (ops : Array Oper) : Nat → Nat
  | 0 => 0
  | n + 1 => effN ops n + (match ops[n]? with | some o => if eff o then 1 else 0 | none => 0)
theorem effN_same (p : Nat) : ∀ q, p ≤ q → (∀ (j : Nat) (o : Oper), p ≤ j → j < q → ops[j]? = some o → eff o = false) → effN ops q = effN ops p
  | 0, h, _ => by rw [show p = 0 by omega]
  | q + 1, h, hh => by
    by_cases e : p = q + 1
    · rw [e]
    · simp only [effN]
      rw [effN_same p q (by omega) (fun j o a b => hh j o a (by omega))]
      cases ho : ops[q]? with
      | none => rfl
      | some o => simp [hh q o (by omega) (by omega) ho]
theorem eval_slot {a b : Act} {x : Operand} (h : ∀ t, x = .tmp t → a.tmps[t]? = b.tmps[t]?) : a.eval x = b.eval x := by
  cases x with
  | tmp t =>
    have := h t rfl
    simp only [Act.eval, Array.getD_eq_getD_getElem?, this]
  | _ => rfl
theorem wanted_slot {a b : Act} {o : Oper} (h : ∀ t, t ∈ o.looksAt ops → a.tmps[t]? = b.tmps[t]?) : Region.wanted o (yielded ops a.tmps) = Region.wanted o (yielded ops b.tmps) := by
  unfold Region.wanted
  cases hg : o.guard with
  | none => rfl
  | some gw =>
    obtain ⟨g, want⟩ := gw
    have hy : yielded ops a.tmps g = yielded ops b.tmps g := by
      unfold yielded
      cases ht : (ops[g]?).bind (·.dst) with
      | none => rfl
      | some t =>
        have := h t (by simp [Oper.looksAt, hg, ht])
        simp only [Option.bind_some, this]
    simp only [hy]
/-- Does operation e write, and wait for operation i? -/
def waitsW (ops : Array Oper) (i e : Nat) : Bool := match ops[e]? with
  | some o => eff o && o.after.any fun x => Region.binds .any x && x.on == i
  | none => false
/-- How many writers at the most stand done while operation i is not. -/
def hiN (ops : Array Oper) (i : Nat) : Nat := match (List.range ops.size).find? (waitsW ops i) with
  | some e => effN ops e
  | none => effN ops ops.size
theorem effN_mono (p : Nat) : ∀ q, p ≤ q → effN ops p ≤ effN ops q
  | 0, h => by rw [show p = 0 by omega]; exact Nat.le_refl _
  | q + 1, h => by
    by_cases e : p = q + 1
    · rw [e]; exact Nat.le_refl _
    · have := effN_mono p q (by omega)
      simp only [effN]; omega
/-- What is known of operation number i in the frame of the text's order. -/
def Known (P : Program) (ops : Array Oper) (S : Nat → World → Prop) (h k : Nat) (o : Oper) (a : Act) (v : Value) : Prop :=
  (Region.wanted o (yielded ops a.tmps) = true ∧ (eff o = true → YR P (S k) (S (k + 1)) (execOp a.eval o) v) ∧ (eff o = false → ∀ j, j ≤ h → YR P (S j) (S j) (execOp a.eval o) v)) ∨
  (Region.wanted o (yielded ops a.tmps) = false ∧ v = undef ∧ (eff o = true → ∀ w, S k w → S (k + 1) w))
def leftN (listed : Array Bool) (n : Nat) : Nat := (List.range n).countP fun i => !listed.getD i false
theorem any_of_known (hst : Stable ops) (V : Nat → Value) (a : Act) (S : Nat → World → Prop) (Q : Exit → Act → World → Prop)
    (H : ∀ (i : Nat) (o : Oper), ops[i]? = some o → Known P ops S (hiN ops i) (effN ops i) o (canon ops V a (fun _ => true) i) (V i))
    (hQ : ∀ w, S (effN ops ops.size) w → Q .normal (canon ops V a (fun _ => true) ops.size) w) :
    ∀ (fuel : Nat) (listed : Array Bool) (w : World), listed.size = ops.size → leftN listed ops.size ≤ fuel →
      (∀ (j : Nat) (oj : Oper), ops[j]? = some oj → listed.getD j false = true → ∀ e ∈ oj.after, Region.binds .any e = true → listed.getD e.on false = true) →
      (∃ p, p ≤ ops.size ∧ (∀ (j : Nat) (o : Oper), ops[j]? = some o → eff o = true → (listed.getD j false = true ↔ j < p)) ∧ S (effN ops p) w) →
      wpAny P .any ops Q fuel listed (canon ops V a (fun j => listed.getD j false) ops.size) w := by
  have allq : ∀ (listed : Array Bool) (w : World), (∀ j, j < ops.size → listed.getD j false = true) →
      (∃ p, p ≤ ops.size ∧ (∀ (j : Nat) (o : Oper), ops[j]? = some o → eff o = true → (listed.getD j false = true ↔ j < p)) ∧ S (effN ops p) w) →
      Q .normal (canon ops V a (fun j => listed.getD j false) ops.size) w := by
    rintro listed w hall ⟨p, hp, hpe, hs⟩
    rw [canon_congr V a (fun j => listed.getD j false) (fun _ => true) ops.size (fun k hk => hall k hk)]
    refine hQ w ?_
    rw [effN_same p ops.size hp (fun j o h1 h2 ho => ?_)]
    · exact hs
    · cases he : eff o
      · rfl
      · have := (hpe j o ho he).1 (hall j h2); omega
  have rdy : ∀ (listed : Array Bool), listed.size = ops.size → Region.ready .any ops listed = [] → ∀ j, j < ops.size → listed.getD j false = true := by
    intro listed hsz hr j
    induction j using Nat.strongRecOn with
    | _ j ih =>
      intro hj
      cases hl : listed.getD j false with
      | true => rfl
      | false =>
        exfalso
        have : j ∈ Region.ready .any ops listed := mem_ready.2 ⟨by
            have hjs : j < listed.size := by omega
            simp [hjs] at hl ⊢; exact hl, ops[j], by simp [hj], fun e he hb => by
            have hlt := hst.edge j ops[j] (by simp [hj]) e he hb
            exact ih e.on hlt (by omega)⟩
        rw [hr] at this; cases this
  intro fuel
  induction fuel with
  | zero =>
    intro listed w hsz hc hcl hp
    have hall : ∀ j, j < ops.size → listed.getD j false = true := by
      intro j hj
      have h0 : leftN listed ops.size = 0 := by omega
      have := List.countP_eq_zero.1 h0 j (List.mem_range.2 hj)
      simpa using this
    refine ⟨?_, allq listed w hall hp⟩
    cases hr : Region.ready .any ops listed with
    | nil => rfl
    | cons j r =>
      exfalso
      have hm : j ∈ Region.ready .any ops listed := by rw [hr]; exact List.mem_cons_self
      obtain ⟨h1, oj, hoj, _⟩ := mem_ready.1 hm
      have hj : j < ops.size := (Array.getElem?_eq_some_iff.1 hoj).1
      have h2 := hall j hj
      have hjs : j < listed.size := by omega
      simp [hjs] at h1 h2
      rw [h1] at h2; cases h2
  | succ fuel ih =>
    intro listed w hsz hc hcl hp
    refine ⟨fun hr => allq listed w (rdy listed hsz hr) hp, fun i hi => ?_⟩
    obtain ⟨hun, o, ho, hall⟩ := mem_ready.1 hi
    have hin : i < ops.size := (Array.getElem?_eq_some_iff.1 ho).1
    have his : i < listed.size := by omega
    have hun' : listed.getD i false = false := by simp [his] at hun ⊢; exact hun
    have hdo : dstOf ops i = o.dst := by simp [dstOf, ho]
    -- the frames agree in what the operation looks at
    have hslot : ∀ t, t ∈ o.looksAt ops → (canon ops V a (fun j => listed.getD j false) ops.size).tmps[t]? = (canon ops V a (fun _ => true) i).tmps[t]? := by
      intro t ht
      have e1 : canon ops V a (fun _ => true) i = canon ops V a (fun j => decide (j < i)) ops.size := by
        rw [canon_congr V a (fun _ => true) (fun j => decide (j < i)) i (fun k hk => by simp [hk])]
        have : ∀ n, i ≤ n → canon ops V a (fun j => decide (j < i)) n = canon ops V a (fun j => decide (j < i)) i := by
          intro n hn
          induction n with
          | zero => rw [show i = 0 by omega]
          | succ n ihn =>
            by_cases e : i = n + 1
            · rw [e]
            · simp only [canon]
              rw [if_neg (by simp; omega)]; exact ihn (by omega)
        exact (this _ (by omega)).symm
      rw [e1]
      refine canon_slot V a _ _ t ops.size (fun j hj hd => ?_)
      obtain ⟨h1, e, he, hb, hon⟩ := hst.look i o ho t ht j hj hd
      have := hall e he hb
      rw [hon] at this
      simp [h1, this]
    have hev : execOp (canon ops V a (fun j => listed.getD j false) ops.size).eval o = execOp (canon ops V a (fun _ => true) i).eval o :=
      execOp_congr o (hst.sel i o ho) (fun x hx => eval_slot (fun t hxt => hslot t (by
        subst hxt; exact List.mem_append_left _ (List.mem_filterMap.2 ⟨.tmp t, by simpa using hx, rfl⟩))))
    have hwt := wanted_slot (ops := ops) (o := o) hslot
    -- behind it
    have hnext : ∀ w', (∃ p, p ≤ ops.size ∧ (∀ (j : Nat) (o' : Oper), ops[j]? = some o' → eff o' = true → ((listed.setIfInBounds i true).getD j false = true ↔ j < p)) ∧ S (effN ops p) w') →
        wpAny P .any ops Q fuel (listed.setIfInBounds i true) ((canon ops V a (fun j => listed.getD j false) ops.size).put o.dst (V i)) w' := by
      intro w' hp'
      have hcs := canon_set (ops := ops) V a (fun j => listed.getD j false) (fun j => (listed.setIfInBounds i true).getD j false) i hun' (by simp [his]) (fun j hj => getD_set_ne false (Ne.symm hj)) ops.size hin
        (fun j hj hne d hd => hst.dist i o ho j hj hne d (by rw [← hdo]; exact hd))
      rw [hdo] at hcs
      rw [← hcs]
      refine ih _ w' (by simp [hsz]) ?_ (fun j oj hoj hl e he hb => by
        by_cases hij : i = j
        · subst hij
          have : o = oj := Option.some.inj (ho.symm.trans hoj)
          subst this
          exact getD_set_true (hall e he hb)
        · rw [getD_set_ne false hij] at hl
          exact getD_set_true (hcl j oj hoj hl e he hb)) hp'
      have hlt : leftN (listed.setIfInBounds i true) ops.size < leftN listed ops.size := by
        unfold leftN
        have hmono : ∀ (l : List Nat), i ∈ l → List.countP (fun j => !(listed.setIfInBounds i true).getD j false) l < List.countP (fun j => !listed.getD j false) l := by
          intro l
          induction l with
          | nil => intro h; cases h
          | cons x l ihl =>
            intro hm
            have hle : List.countP (fun j => !(listed.setIfInBounds i true).getD j false) l ≤ List.countP (fun j => !listed.getD j false) l := by
              refine List.countP_mono_left (fun j _ hj => ?_)
              by_cases e : i = j
              · subst e; simp [his] at hj
              · rw [getD_set_ne false e] at hj; exact hj
            rw [List.countP_cons, List.countP_cons]
            by_cases e : i = x
            · subst e
              rw [if_neg (by simp [his]), if_pos (by simp [hun'])]; omega
            · have : i ∈ l := by
                rcases List.mem_cons.1 hm with h | h
                · exact absurd h e
                · exact h
              have h3 := ihl this
              rw [getD_set_ne false e]; omega
        exact hmono _ (List.mem_range.2 hin)
      omega
    obtain ⟨p, hpn, hpe, hs⟩ := hp
    have hpi : eff o = true → effN ops i = effN ops p ∧ p ≤ i := by
      intro he
      have hnp : ¬ i < p := fun h => by have := (hpe i o ho he).2 h; rw [hun'] at this; cases this
      refine ⟨effN_same p i (by omega) (fun j oj h1 h2 hoj => ?_), by omega⟩
      cases hej : eff oj
      · rfl
      · obtain ⟨e, hm, hb, hon⟩ := hst.order i o ho he j oj h2 hoj hej
        have := hall e hm hb
        rw [hon] at this
        have := (hpe j oj hoj hej).1 this; omega
    have heffi : eff o = true → effN ops (i + 1) = effN ops i + 1 := fun he => by simp [effN, ho, he]
    -- the place of the writers behind it
    have hpos1 : eff o = false → ∀ w', S (effN ops p) w' → (∃ p, p ≤ ops.size ∧ (∀ (j : Nat) (o' : Oper), ops[j]? = some o' → eff o' = true → ((listed.setIfInBounds i true).getD j false = true ↔ j < p)) ∧ S (effN ops p) w') :=
      fun he w' hs' => ⟨p, hpn, fun j o' ho' he' => by
        have : i ≠ j := by
          rintro rfl
          have : o = o' := Option.some.inj (ho.symm.trans ho')
          subst this; rw [he] at he'; cases he'
        rw [getD_set_ne false this]; exact hpe j o' ho' he', hs'⟩
    have hpos2 : eff o = true → ∀ w', S (effN ops i + 1) w' → (∃ p, p ≤ ops.size ∧ (∀ (j : Nat) (o' : Oper), ops[j]? = some o' → eff o' = true → ((listed.setIfInBounds i true).getD j false = true ↔ j < p)) ∧ S (effN ops p) w') :=
      fun he w' hs' => ⟨i + 1, hin, fun j o' ho' he' => by
        by_cases e : i = j
        · subst e; simp [his]
        · rw [getD_set_ne false e, hpe j o' ho' he']
          have h1 := (hpi he).2
          constructor
          · intro h; omega
          · intro h
            have hji : j < i := by omega
            obtain ⟨e', hm, hb, hon⟩ := hst.order i o ho he j o' hji ho' he'
            have := hall e' hm hb
            rw [hon] at this
            exact (hpe j o' ho' he').1 this, by rw [heffi he]; exact hs'⟩
    unfold wpOp
    simp only [ho]
    rcases H i o ho with ⟨hw, hy1, hy2⟩ | ⟨hw, hv, hy⟩
    · rw [if_pos (by rw [hwt]; exact hw)]
      left
      cases he : eff o
      · have hhi : effN ops p ≤ hiN ops i := by
          unfold hiN
          cases hf : (List.range ops.size).find? (waitsW ops i) with
          | none => exact effN_mono p _ hpn
          | some e =>
            have hw1 := List.find?_some hf
            unfold waitsW at hw1
            cases hoe : ops[e]? with
            | none => rw [hoe] at hw1; cases hw1
            | some oe =>
              rw [hoe] at hw1
              simp only [Bool.and_eq_true] at hw1
              obtain ⟨x, hx, hb⟩ := Array.any_eq_true'.1 hw1.2
              simp only [Bool.and_eq_true, beq_iff_eq] at hb
              refine effN_mono p e (Nat.le_of_not_lt fun hlt => ?_)
              have hle := (hpe e oe hoe hw1.1).2 hlt
              have := hcl e oe hoe hle x hx hb.1
              rw [hb.2, hun'] at this; cases this
        have hy := hy2 he (effN ops p) hhi
        rw [← hev] at hy
        exact hy.wp (fun w' hs' => hnext w' (hpos1 he w' hs')) w hs
      · have hy := hy1 he
        rw [← hev] at hy
        exact hy.wp (fun w' hs' => hnext w' (hpos2 he w' hs')) w (by rw [(hpi he).1]; exact hs)
    · rw [if_neg (by rw [hwt, hw]; simp), ← hv]
      cases he : eff o
      · exact hnext w (hpos1 he w hs)
      · exact hnext w (hpos2 he w (hy he w (by rw [(hpi he).1]; exact hs)))
/-- The walk in the order of the text. -/
def wpB (P : Program) (ops : Array Oper) (S : Nat → World → Prop) (Q : Act → World → Prop) : Nat → Nat → List Oper → Act → Prop
  | _, k, [], a => ∀ w, S k w → Q a w
  | i, k, o :: rest, a => ∃ v, Known P ops S (hiN ops i) k o a v ∧ wpB P ops S Q (i + 1) (if eff o then k + 1 else k) rest (a.put o.dst v)
def frm : List Oper → (Nat → Value) → Act → Nat → Act
  | _, _, a, 0 => a
  | [], _, a, _ + 1 => a
  | o :: l, V, a, i + 1 => frm l (fun j => V (j + 1)) (a.put o.dst (V 0)) i
def cntL : List Oper → Nat → Nat
  | _, 0 => 0
  | [], _ + 1 => 0
  | o :: l, i + 1 => (if eff o then 1 else 0) + cntL l i
theorem frm_snoc : ∀ (l : List Oper) (V : Nat → Value) (a : Act) (i : Nat) (o : Oper), l[i]? = some o → frm l V a (i + 1) = (frm l V a i).put o.dst (V i)
  | [], _, _, _, _, h => by simp at h
  | p :: l, V, a, 0, o, h => by simp at h; subst h; cases l <;> rfl
  | p :: l, V, a, i + 1, o, h => by
    simp only [frm]
    exact frm_snoc l (fun j => V (j + 1)) (a.put p.dst (V 0)) i o (by simpa using h)
theorem cntL_snoc : ∀ (l : List Oper) (i : Nat) (o : Oper), l[i]? = some o → cntL l (i + 1) = cntL l i + if eff o then 1 else 0
  | [], _, _, h => by simp at h
  | p :: l, 0, o, h => by simp at h; subst h; cases l <;> simp [cntL]
  | p :: l, i + 1, o, h => by
    simp only [cntL]
    have := cntL_snoc l i o (by simpa using h)
    omega
theorem canon_frm (l : List Oper) (V : Nat → Value) (a : Act) : ∀ i, i ≤ l.length → canon l.toArray V a (fun _ => true) i = frm l V a i
  | 0, _ => by cases l <;> rfl
  | i + 1, h => by
    have ho : l[i]? = some l[i] := List.getElem?_eq_getElem (by omega)
    rw [frm_snoc l V a i l[i] ho]
    simp only [canon, if_true]
    rw [canon_frm l V a i (by omega)]
    simp [dstOf, ho]
theorem effN_cntL (l : List Oper) : ∀ i, i ≤ l.length → effN l.toArray i = cntL l i
  | 0, _ => by cases l <;> rfl
  | i + 1, h => by
    have ho : l[i]? = some l[i] := List.getElem?_eq_getElem (by omega)
    rw [cntL_snoc l i l[i] ho]
    simp only [effN]
    rw [effN_cntL l i (by omega)]
    simp [ho]
theorem wpB_vals {S : Nat → World → Prop} {Q : Act → World → Prop} : ∀ (l : List Oper) (n k : Nat) (a : Act), wpB P ops S Q n k l a →
    ∃ V : Nat → Value, (∀ (i : Nat) (o : Oper), l[i]? = some o → Known P ops S (hiN ops (n + i)) (k + cntL l i) o (frm l V a i) (V i)) ∧ (∀ w, S (k + cntL l l.length) w → Q (frm l V a l.length) w)
  | [], n, k, a, h => ⟨fun _ => undef, fun i o ho => by simp at ho, h⟩
  | p :: l, n, k, a, h => by
    obtain ⟨v, hk, hr⟩ := h
    obtain ⟨V, h1, h2⟩ := wpB_vals l _ _ _ hr
    refine ⟨fun i => match i with | 0 => v | j + 1 => V j, fun i o ho => ?_, ?_⟩
    · cases i with
      | zero => simp at ho; subst ho; cases l <;> exact hk
      | succ i =>
        have := h1 i o (by simpa using ho)
        simp only [cntL, frm]
        rw [show n + 1 + i = n + (i + 1) by omega] at this
        rw [show k + ((if eff p then 1 else 0) + cntL l i) = (if eff p then k + 1 else k) + cntL l i by split <;> omega]
        exact this
    · simp only [List.length_cons, cntL, frm]
      rw [show k + ((if eff p then 1 else 0) + cntL l l.length) = (if eff p then k + 1 else k) + cntL l l.length by split <;> omega]
      exact h2
/-- A region that draws its order, walked in the order of the text. -/
theorem wp_region_stable {id : Nat} {l : List Oper} {a : Act} {w : World} {Q : Exit → Act → World → Prop} (S : Nat → World → Prop) (hm : P.follows .mixedOrders = true) (hB : stableB l.toArray = true)
    (h0 : S 0 w.drew) (h : wpB P l.toArray S (Q .normal) 0 0 l a) : (Code.region id l.toArray true).wp P Q a w := by
  obtain ⟨V, h1, h2⟩ := wpB_vals l 0 0 a h
  refine wp_region_any hm ?_
  have h3 := any_of_known (P := P) (stable_of hB) V a S Q (fun i o ho => by
      have hi : i < l.length := by simpa using (Array.getElem?_eq_some_iff.1 ho).1
      have := h1 i o (by simpa using ho)
      rwa [Nat.zero_add, Nat.zero_add, ← effN_cntL l i (by omega), ← canon_frm l V a i (by omega)] at this)
    (fun w hw => by
      have e : l.toArray.size = l.length := by simp
      rw [e] at hw ⊢
      rw [canon_frm l V a l.length (Nat.le_refl _)]
      rw [effN_cntL l l.length (Nat.le_refl _)] at hw
      exact h2 w (by rwa [Nat.zero_add]))
    l.toArray.size (Array.replicate l.toArray.size false) w.drew (by simp) (by
      unfold leftN
      exact Nat.le_trans List.countP_le_length (by simp)) (fun j oj _ hl => by
        exfalso
        rcases Nat.lt_or_ge j l.length with h | h
        · simp [h] at hl
        · simp [Nat.not_lt.2 h] at hl) ⟨0, Nat.zero_le _, fun j o ho he => by
        constructor
        · intro hh
          exfalso
          rcases Nat.lt_or_ge j l.length with h | h
          · simp [h] at hh
          · simp [Nat.not_lt.2 h] at hh
        · intro hh; omega, h0⟩
  have e : canon l.toArray V a (fun j => (Array.replicate l.toArray.size false).getD j false) l.toArray.size = a := by
    have : ∀ n, canon l.toArray V a (fun j => (Array.replicate l.toArray.size false).getD j false) n = a := by
      intro n
      induction n with
      | zero => rfl
      | succ n ih =>
        simp only [canon]
        rw [if_neg, ih]
        rcases Nat.lt_or_ge n l.length with h | h
        · simp [h]
        · simp [Nat.not_lt.2 h]
    exact this _
  rw [e] at h3
  exact h3
section
variable {S : Nat → World → Prop} {Q : Act → World → Prop} {i k : Nat} {o : Oper} {rest : List Oper} {a : Act}
theorem wpB_nil (h : ∀ w, S k w → Q a w) : wpB P ops S Q i k [] a := h
theorem wpB_val {v : Value} (hw : Region.wanted o (yielded ops a.tmps) = true) (he : eff o = false) (n : Nat) (hn : hiN ops i = n) (hr : ∀ j w, j ≤ n → S j w → (execOp a.eval o).run P w = .ok (.value v) w)
    (h : ∀ K : Act → Prop, (∀ b, wpB P ops S Q (i + 1) k rest b → K b) → K (a.put o.dst v)) : wpB P ops S Q i k (o :: rest) a :=
  ⟨v, .inl ⟨hw, fun h1 => (by rw [he] at h1; cases h1), fun _ j hj w hs => .inl ⟨w, hr j w (by rw [← hn]; exact hj) hs, hs⟩⟩, by rw [he]; exact h _ (fun _ h => h)⟩
theorem wpB_skip (hw : Region.wanted o (yielded ops a.tmps) = false) (he : eff o = false)
    (h : ∀ K : Act → Prop, (∀ b, wpB P ops S Q (i + 1) k rest b → K b) → K (a.put o.dst undef)) : wpB P ops S Q i k (o :: rest) a :=
  ⟨undef, .inr ⟨hw, rfl, fun h1 => (by rw [he] at h1; cases h1)⟩, by rw [he]; exact h _ (fun _ h => h)⟩
theorem wpB_call {v : Value} (f : FuncId) (args : Array Value) (hw : Region.wanted o (yielded ops a.tmps) = true) (he : eff o = false) (hr : ∀ w, (execOp a.eval o).run P w = .ok (.enter f args) w)
    (n : Nat) (hn : hiN ops i = n) (hc : ∀ j w, j ≤ n → S j w → Calls P f args w (fun e w' => e = .returned v ∧ S j w'))
    (h : ∀ K : Act → Prop, (∀ b, wpB P ops S Q (i + 1) k rest b → K b) → K (a.put o.dst v)) : wpB P ops S Q i k (o :: rest) a :=
  ⟨v, .inl ⟨hw, fun h1 => (by rw [he] at h1; cases h1), fun _ j hj w hs => .inr (.inr ⟨f, args, w, hr w, hc j w (by rw [← hn]; exact hj) hs⟩)⟩, by rw [he]; exact h _ (fun _ h => h)⟩
theorem wpB_new {v : Value} (hw : Region.wanted o (yielded ops a.tmps) = true) (he : eff o = false) (n : Nat) (hn : hiN ops i = n) (hr : ∀ j w, j ≤ n → S j w → ∃ w', (execOp a.eval o).run P w = .ok (.value v) w' ∧ S j w')
    (h : ∀ K : Act → Prop, (∀ b, wpB P ops S Q (i + 1) k rest b → K b) → K (a.put o.dst v)) : wpB P ops S Q i k (o :: rest) a :=
  ⟨v, .inl ⟨hw, fun h1 => (by rw [he] at h1; cases h1), fun _ j hj w hs => .inl (hr j w (by rw [← hn]; exact hj) hs)⟩, by rw [he]; exact h _ (fun _ h => h)⟩
theorem wpB_store (hw : Region.wanted o (yielded ops a.tmps) = true) (he : eff o = true) (hr : ∀ w, S k w → ∃ w', (execOp a.eval o).run P w = .ok .skip w' ∧ S (k + 1) w')
    (h : ∀ K : Act → Prop, (∀ b, wpB P ops S Q (i + 1) (k + 1) rest b → K b) → K (a.put o.dst undef)) : wpB P ops S Q i k (o :: rest) a :=
  ⟨undef, .inl ⟨hw, fun _ w hs => .inr (.inl (by obtain ⟨w', h1, h2⟩ := hr w hs; exact ⟨w', h1, rfl, h2⟩)), fun h1 => (by rw [he] at h1; cases h1)⟩, by rw [he]; exact h _ (fun _ h => h)⟩
/-- A whole array, or a struct, is read. -/
theorem wpB_load (ty : TypeId) (x : Operand) (ho : o.op = .load ty x) (b off : Nat) (C : List Value) (d : TypeDesc) (hw : Region.wanted o (yielded ops a.tmps) = true) (hx : a.eval x = .pointer (some ⟨b, off, none⟩))
    (n : Nat) (hn : hiN ops i = n) (hS : ∀ j w, j ≤ n → S j w → w.rangeAt b off C) (hu : P.underlying ty = some d) (hd : d.isRow = true) (hi : (P.info? ty).map (·.size) = some C.length)
    (h : ∀ K : Act → Prop, (∀ b, wpB P ops S Q (i + 1) k rest b → K b) → K (a.put o.dst (.agg C.toArray))) : wpB P ops S Q i k (o :: rest) a :=
  wpB_val hw (by unfold eff; rw [ho]) n hn (fun j w hj hs => by
    unfold execOp
    simp only [ho, hx, Instr.loadAt, Instr.sureAddr, Sem.run_bind, Sem.run_pure, Result.andThen_ok, run_loadVar_mid w b off ty C d (hS j w hj hs) hu hd hi]) h
end
end Go.Proofs.Ytpedkcpkdacnlaa
