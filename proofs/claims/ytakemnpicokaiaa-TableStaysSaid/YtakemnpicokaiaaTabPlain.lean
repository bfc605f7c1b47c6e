/- Plain laws of linear probing in a table of eight slots: what a good table is, and that putting and taking keep it good. No program is named here. -/
namespace Go.Proofs.Ytakemnpicokaiaa
set_option linter.unusedVariables false
def tk (t : List Int) (i : Nat) : Int := t.getD (i * 2) 0
def tv (t : List Int) (i : Nat) : Int := t.getD (i * 2 + 1) 0
def slotOf (key : Int) (k : Nat) : Nat := ((key * 5 % 8 + k) % 8).toNat
def hit (t : List Int) (key : Int) (i : Nat) : Bool := tk t i == key || tk t i == 0
def atFrom (t : List Int) (key : Int) : Nat → Nat → Int
  | 0, _ => -1
  | f + 1, k => if hit t key (slotOf key k) then slotOf key k else atFrom t key f (k + 1)
def atI (t : List Int) (key : Int) : Int := atFrom t key 8 0
def cntTo (t : List Int) : Nat → Nat
  | 0 => 0
  | k + 1 => cntTo t k + if tk t k = 0 then 0 else 1
def lenT (t : List Int) : Nat := cntTo t 8
theorem cntTo_le (t : List Int) (k : Nat) : cntTo t k ≤ k := by
  induction k with
  | zero => exact Nat.le_refl _
  | succ k ih => simp only [cntTo]; split <;> omega
def setS (t : List Int) (i : Nat) (k v : Int) : List Int := (t.set (i * 2) k).set (i * 2 + 1) v
theorem setS_len (t : List Int) (i : Nat) (k v : Int) : (setS t i k v).length = t.length := by simp [setS]
theorem tk_setS (t : List Int) (i j : Nat) (k v : Int) (hl : t.length = 16) (hi : i < 8) : tk (setS t i k v) j = if j = i then k else tk t j := by
  unfold tk setS
  rw [List.getD_eq_getElem?_getD, List.getD_eq_getElem?_getD, List.getElem?_set, List.getElem?_set]
  rw [if_neg (by omega)]
  by_cases h : j = i
  · subst h; have hj : j * 2 < t.length := by omega
    simp [hj]
  · rw [if_neg (by omega), if_neg h]
theorem tv_setS (t : List Int) (i j : Nat) (k v : Int) (hl : t.length = 16) (hi : i < 8) : tv (setS t i k v) j = if j = i then v else tv t j := by
  unfold tv setS
  rw [List.getD_eq_getElem?_getD, List.getD_eq_getElem?_getD, List.getElem?_set, List.getElem?_set]
  by_cases h : j = i
  · subst h; have hj : j * 2 + 1 < t.length := by omega
    simp [hj]
  · rw [if_neg (by omega), if_neg (by omega), if_neg h]
theorem cnt_setS (t : List Int) (i : Nat) (k v : Int) (hl : t.length = 16) (hi : i < 8) (n : Nat) :
    (n ≤ i → cntTo (setS t i k v) n = cntTo t n) ∧ (i < n → cntTo (setS t i k v) n + (if tk t i = 0 then 0 else 1) = cntTo t n + (if k = 0 then 0 else 1)) := by
  induction n with
  | zero => exact ⟨fun _ => rfl, fun h => by omega⟩
  | succ n ih =>
    simp only [cntTo, tk_setS t i n k v hl hi]
    obtain ⟨h1, h2⟩ := ih
    refine ⟨fun h => ?_, fun h => ?_⟩
    · rw [if_neg (by omega : ¬ n = i), h1 (by omega)]
    · by_cases e : n = i
      · subst e; rw [if_pos rfl, h1 (Nat.le_refl _)]; omega
      · rw [if_neg e]; have := h2 (by omega); omega
theorem len_setS (t : List Int) (i : Nat) (k v : Int) (hl : t.length = 16) (hi : i < 8) :
    lenT (setS t i k v) + (if tk t i = 0 then 0 else 1) = lenT t + (if k = 0 then 0 else 1) :=
  (cnt_setS t i k v hl hi 8).2 hi
theorem cnt_all (t : List Int) (n : Nat) (h : ∀ j, j < n → tk t j ≠ 0) : cntTo t n = n := by
  induction n with
  | zero => rfl
  | succ n ih => simp only [cntTo]; rw [ih (fun j hj => h j (by omega)), if_neg (h n (by omega))]
theorem cnt_none (t : List Int) (n : Nat) (h : ∀ j, j < n → tk t j = 0) : cntTo t n = 0 := by
  induction n with
  | zero => rfl
  | succ n ih => simp only [cntTo]; rw [ih (fun j hj => h j (by omega)), if_pos (h n (by omega))]
def hm (key : Int) : Nat := (key * 5 % 8).toNat
theorem hm_lt (key : Int) : hm key < 8 := by unfold hm; omega
theorem slotOf_eq (key : Int) (k : Nat) : slotOf key k = (hm key + k) % 8 := by unfold slotOf hm; omega
theorem slotOf_lt (key : Int) (k : Nat) : slotOf key k < 8 := by rw [slotOf_eq]; omega
theorem hit_iff (t : List Int) (key : Int) (i : Nat) : hit t key i = true ↔ tk t i = key ∨ tk t i = 0 := by simp [hit]
theorem hit_no (t : List Int) (key : Int) (i : Nat) : hit t key i = false ↔ tk t i ≠ key ∧ tk t i ≠ 0 := by simp [hit]
theorem atFrom_spec (t : List Int) (key : Int) : ∀ f k,
    (∃ m, k ≤ m ∧ m < k + f ∧ atFrom t key f k = slotOf key m ∧ hit t key (slotOf key m) = true ∧ ∀ m', k ≤ m' → m' < m → hit t key (slotOf key m') = false) ∨
    (atFrom t key f k = -1 ∧ ∀ m', k ≤ m' → m' < k + f → hit t key (slotOf key m') = false)
  | 0, k => .inr ⟨rfl, fun _ _ _ => by omega⟩
  | f + 1, k => by
    simp only [atFrom]
    cases h : hit t key (slotOf key k)
    · rcases atFrom_spec t key f (k + 1) with ⟨m, h1, h2, h3, h4, h5⟩ | ⟨h1, h2⟩
      · refine .inl ⟨m, by omega, by omega, by simpa using h3, h4, fun m' a b => ?_⟩
        by_cases e : m' = k
        · subst e; exact h
        · exact h5 m' (by omega) b
      · refine .inr ⟨by simpa using h1, fun m' a b => ?_⟩
        by_cases e : m' = k
        · subst e; exact h
        · exact h2 m' (by omega) (by omega)
    · exact .inl ⟨k, Nat.le_refl _, by omega, by simp, h, fun _ _ _ => by omega⟩
/-- Where a key stands: the first slot of its row that is hit, or none. -/
theorem atI_spec (t : List Int) (key : Int) :
    (∃ m, m < 8 ∧ atI t key = slotOf key m ∧ hit t key (slotOf key m) = true ∧ ∀ m', m' < m → hit t key (slotOf key m') = false) ∨
    (atI t key = -1 ∧ ∀ j, j < 8 → hit t key j = false) := by
  rcases atFrom_spec t key 8 0 with ⟨m, h1, h2, h3, h4, h5⟩ | ⟨h1, h2⟩
  · exact .inl ⟨m, by omega, h3, h4, fun m' h => h5 m' (by omega) h⟩
  · refine .inr ⟨h1, fun j hj => ?_⟩
    have hh := hm_lt key
    have := h2 ((j + 8 - hm key) % 8) (by omega) (by omega)
    rwa [slotOf_eq, show (hm key + (j + 8 - hm key) % 8) % 8 = j by omega] at this
theorem atI_of (t : List Int) (key : Int) (m : Nat) (hm8 : m < 8) (h : hit t key (slotOf key m) = true) (h' : ∀ m', m' < m → hit t key (slotOf key m') = false) : atI t key = slotOf key m := by
  rcases atI_spec t key with ⟨m2, a, b, c, d⟩ | ⟨_, b⟩
  · have : m2 = m := by
      rcases Nat.lt_trichotomy m2 m with g | g | g
      · rw [h' m2 g] at c; cases c
      · exact g
      · rw [d m g] at h; cases h
    rw [b, this]
  · rw [b _ (slotOf_lt _ _)] at h; cases h
def dst (h j : Nat) : Nat := (j + 8 - h) % 8
theorem slot_dst (key : Int) (j : Nat) (hj : j < 8) : slotOf key (dst (hm key) j) = j := by
  have := hm_lt key; rw [slotOf_eq]; unfold dst; omega
/-- A good table. -/
structure Good (t : List Int) : Prop where
  len : t.length = 16
  few : lenT t ≤ 6
  key0 : ∀ i, i < 8 → 0 ≤ tk t i
  key1 : ∀ i, i < 8 → tk t i ≤ 1000
  val0 : ∀ i, i < 8 → 0 ≤ tv t i
  val1 : ∀ i, i < 8 → tv t i ≤ 4294967295
  none : ∀ i, i < 8 → tk t i = 0 → tv t i = 0
  once : ∀ i j, i < 8 → j < 8 → tk t i = tk t j → tk t i ≠ 0 → i = j
  path : ∀ j, j < 8 → tk t j ≠ 0 → ∀ m, m < dst (hm (tk t j)) j → tk t (slotOf (tk t j) m) ≠ 0
theorem Good.found {t : List Int} (g : Good t) (j : Nat) (hj : j < 8) (h0 : tk t j ≠ 0) : atI t (tk t j) = j := by
  have e := slot_dst (tk t j) j hj
  rw [atI_of t (tk t j) (dst (hm (tk t j)) j) (by unfold dst; omega) (by rw [e, hit_iff]; exact .inl rfl), e]
  intro m hmm
  rw [hit_no]
  refine ⟨fun h => ?_, g.path j hj h0 m hmm⟩
  have := g.once _ _ (slotOf_lt _ _) hj h (by rw [h]; exact h0)
  rw [slotOf_eq] at this
  have h1 := hm_lt (tk t j)
  unfold dst at hmm; omega
theorem Good.mk' {t : List Int} (len : t.length = 16) (few : lenT t ≤ 6) (r : ∀ i, i < 8 → 0 ≤ tk t i ∧ tk t i ≤ 1000 ∧ 0 ≤ tv t i ∧ tv t i ≤ 4294967295 ∧ (tk t i = 0 → tv t i = 0) ∧ (tk t i ≠ 0 → atI t (tk t i) = i)) : Good t := by
  refine ⟨len, few, fun i h => (r i h).1, fun i h => (r i h).2.1, fun i h => (r i h).2.2.1, fun i h => (r i h).2.2.2.1, fun i h => (r i h).2.2.2.2.1, ?_, ?_⟩
  · intro i j hi hj e h0
    have a := (r i hi).2.2.2.2.2 h0
    have b := (r j hj).2.2.2.2.2 (by rw [← e]; exact h0)
    rw [← e, a] at b; omega
  · intro j hj h0 m hmm
    have a := (r j hj).2.2.2.2.2 h0
    rcases atI_spec t (tk t j) with ⟨m2, b, c, d, e⟩ | ⟨b, _⟩
    · rw [c] at a
      have : m2 = dst (hm (tk t j)) j := by
        have a' : slotOf (tk t j) m2 = j := by omega
        rw [slotOf_eq] at a'
        have := hm_lt (tk t j)
        unfold dst; omega
      exact ((hit_no _ _ _).1 (e m (by omega))).2
    · rw [b] at a; omega
/-- Some slot is free. -/
theorem Good.free {t : List Int} (g : Good t) : ∃ z, z < 8 ∧ tk t z = 0 := by
  by_cases h : ∃ z, z < 8 ∧ tk t z = 0
  · exact h
  · have := cnt_all t 8 (fun j hj hz => h ⟨j, hj, hz⟩)
    have := g.few; unfold lenT at this; omega
theorem Good.at {t : List Int} (g : Good t) (key : Int) : ∃ i, i < 8 ∧ atI t key = (i : Nat) ∧ (tk t i = key ∨ tk t i = 0) ∧ ∃ m, m < 8 ∧ slotOf key m = i ∧ ∀ m', m' < m → tk t (slotOf key m') ≠ key ∧ tk t (slotOf key m') ≠ 0 := by
  rcases atI_spec t key with ⟨m, a, b, c, d⟩ | ⟨_, b⟩
  · exact ⟨slotOf key m, slotOf_lt _ _, b, (hit_iff _ _ _).1 c, m, a, rfl, fun m' h => (hit_no _ _ _).1 (d m' h)⟩
  · obtain ⟨z, hz, h0⟩ := g.free
    have := (hit_no _ _ _).1 (b z hz)
    exact absurd h0 this.2
/-- Whether a key stands in a table, and its value. -/
def thereB (t : List Int) (key : Int) : Bool := decide (0 ≤ atI t key) && (tk t (atI t key).toNat == key)
theorem Good.there {t : List Int} (g : Good t) (key : Int) (hk : key ≠ 0) : thereB t key = true ↔ ∃ j, j < 8 ∧ tk t j = key := by
  obtain ⟨i, hi, ha, -, -⟩ := g.at key
  constructor
  · intro h
    simp only [thereB, ha, Bool.and_eq_true, decide_eq_true_eq, beq_iff_eq, Int.toNat_natCast] at h
    exact ⟨i, hi, h.2⟩
  · rintro ⟨j, hj, rfl⟩
    have := g.found j hj hk
    simp [thereB, this]
theorem Good.val {t : List Int} (g : Good t) (j : Nat) (hj : j < 8) (h0 : tk t j ≠ 0) : tv t (atI t (tk t j)).toNat = tv t j := by
  rw [g.found j hj h0]; rfl
/-- Putting a key where it stands, or where it would stand. -/
theorem Good.put {t : List Int} (g : Good t) (key v : Int) (h1 : 1 ≤ key) (h2 : key ≤ 1000) (v0 : 0 ≤ v) (v1 : v ≤ 4294967295) (hf : thereB t key = true ∨ lenT t ≤ 5) :
    Good (setS t (atI t key).toNat key v) := by
  obtain ⟨i, hi, ha, ho, m, hm8, hsm, hb⟩ := g.at key
  rw [ha, Int.toNat_natCast]
  have e1 := fun j => tk_setS t i j key v g.len hi
  have e2 := fun j => tv_setS t i j key v g.len hi
  have hl := len_setS t i key v g.len hi
  refine ⟨by rw [setS_len]; exact g.len, ?_, ?_, ?_, ?_, ?_, ?_, ?_, ?_⟩
  · rw [if_neg (by omega : ¬ key = 0)] at hl
    rcases ho with h | h
    · rw [if_neg (by omega)] at hl; have := g.few; omega
    · rw [if_pos h] at hl
      rcases hf with hf | hf
      · simp [thereB, ha, h] at hf; omega
      · omega
  · intro j hj; rw [e1]; split
    · omega
    · exact g.key0 j hj
  · intro j hj; rw [e1]; split
    · omega
    · exact g.key1 j hj
  · intro j hj; rw [e2]; split
    · omega
    · exact g.val0 j hj
  · intro j hj; rw [e2]; split
    · omega
    · exact g.val1 j hj
  · intro j hj; rw [e1, e2]; split
    · intro; omega
    · exact g.none j hj
  · have hk : ∀ j, j < 8 → tk t j = key → j = i := by
      intro j hj hh
      have := g.found j hj (by omega)
      rw [hh, ha] at this; omega
    intro a b ha' hb' e h0
    rw [e1, e1] at e; rw [e1] at h0
    by_cases x : a = i <;> by_cases y : b = i
    · omega
    · rw [if_pos x, if_neg y] at e; exact absurd (hk b hb' e.symm) y
    · rw [if_neg x, if_pos y] at e; exact absurd (hk a ha' e) x
    · rw [if_neg x, if_neg y] at e; rw [if_neg x] at h0; exact g.once a b ha' hb' e h0
  · intro j hj h0 m2 hm2
    rw [e1] at h0 hm2 ⊢
    rw [e1]
    by_cases x : j = i
    · rw [if_pos x] at hm2 ⊢
      split
      · omega
      · have : m2 < m := by
          have := hm_lt key
          rw [slotOf_eq] at hsm; unfold dst at hm2; omega
        exact (hb m2 this).2
    · rw [if_neg x] at h0 hm2 ⊢
      split
      · omega
      · exact g.path j hj h0 m2 hm2
/-- After a put: the key has its value; all others are as before. -/
theorem Good.put_keys {t : List Int} (g : Good t) (key v : Int) (h1 : 1 ≤ key) (k : Int) (hk : k ≠ 0) (u : Int) :
    (∃ j, j < 8 ∧ tk (setS t (atI t key).toNat key v) j = k ∧ tv (setS t (atI t key).toNat key v) j = u) ↔ (k = key ∧ u = v) ∨ (k ≠ key ∧ ∃ j, j < 8 ∧ tk t j = k ∧ tv t j = u) := by
  obtain ⟨i, hi, ha, ho, m, hm8, hsm, hb⟩ := g.at key
  rw [ha, Int.toNat_natCast]
  have e1 := fun j => tk_setS t i j key v g.len hi
  have e2 := fun j => tv_setS t i j key v g.len hi
  have hkk : ∀ j, j < 8 → tk t j = key → j = i := by
    intro j hj hh
    have := g.found j hj (by omega)
    rw [hh, ha] at this; omega
  constructor
  · rintro ⟨j, hj, a, b⟩
    rw [e1] at a; rw [e2] at b
    by_cases x : j = i
    · rw [if_pos x] at a b; exact .inl ⟨a.symm, b.symm⟩
    · rw [if_neg x] at a b
      by_cases y : k = key
      · exact absurd (hkk j hj (by omega)) x
      · exact .inr ⟨y, j, hj, a, b⟩
  · rintro (⟨rfl, rfl⟩ | ⟨y, j, hj, a, b⟩)
    · exact ⟨i, hi, by rw [e1, if_pos rfl], by rw [e2, if_pos rfl]⟩
    · have x : j ≠ i := by
        rintro rfl
        rcases ho with h | h
        · omega
        · omega
      exact ⟨j, hj, by rw [e1, if_neg x]; exact a, by rw [e2, if_neg x]; exact b⟩
end Go.Proofs.Ytakemnpicokaiaa
