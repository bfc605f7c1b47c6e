/- Plain laws of taking a key out of a table of eight slots: the slots behind it are put again, and the table stays good. No program is named here. -/
import Derived.Test.YtakemnpicokaiaaTabPlain
namespace Go.Proofs.Ytakemnpicokaiaa
set_option linter.unusedVariables false
def stepC (T : List Int) (k : Nat) : List Int := setS (setS T k 0 0) (atI (setS T k 0 0) (tk T k)).toNat (tk T k) (tv T k)
def iterC (t : List Int) (i : Nat) : Nat → List Int
  | 0 => setS t i 0 0
  | n + 1 => stepC (iterC t i n) ((i + 1 + n) % 8)
def endFrom (t : List Int) (i : Nat) : Nat → Nat → Nat
  | 0, e => e
  | f + 1, e => if tk t ((i + e) % 8) = 0 then e else endFrom t i f (e + 1)
def endOff (t : List Int) (i : Nat) : Nat := endFrom t i 7 1
def closeF (t : List Int) (i : Nat) : List Int := iterC t i (endOff t i - 1)
theorem endFrom_spec (t : List Int) (i : Nat) : ∀ f e, e ≤ endFrom t i f e ∧ endFrom t i f e ≤ e + f ∧ (∀ o, e ≤ o → o < endFrom t i f e → tk t ((i + o) % 8) ≠ 0) ∧ (endFrom t i f e < e + f → tk t ((i + endFrom t i f e) % 8) = 0)
  | 0, e => ⟨Nat.le_refl _, Nat.le_refl _, fun _ _ _ => by simp only [endFrom] at *; omega, fun h => by simp only [endFrom] at h; omega⟩
  | f + 1, e => by
    simp only [endFrom]
    split
    · next h => exact ⟨Nat.le_refl _, by omega, fun _ _ _ => by omega, fun _ => h⟩
    · next h =>
      obtain ⟨a, b, c, d⟩ := endFrom_spec t i f (e + 1)
      refine ⟨by omega, by omega, fun o h1 h2 => ?_, fun h1 => d (by omega)⟩
      by_cases x : o = e
      · subst x; exact h
      · exact c o (by omega) h2
theorem endOff_spec {t : List Int} (g : Good t) (i : Nat) (hi : i < 8) (h0 : tk t i ≠ 0) : 1 ≤ endOff t i ∧ endOff t i ≤ 7 ∧ (∀ o, 1 ≤ o → o < endOff t i → tk t ((i + o) % 8) ≠ 0) ∧ tk t ((i + endOff t i) % 8) = 0 := by
  obtain ⟨a, b, c, d⟩ := endFrom_spec t i 7 1
  have hlt : endFrom t i 7 1 < 1 + 7 := by
    rcases Nat.lt_or_ge (endFrom t i 7 1) 8 with h | h
    · omega
    · exfalso
      obtain ⟨z, hz, hz0⟩ := g.free
      by_cases x : z = i
      · subst x; exact h0 hz0
      · refine c (dst i z) (by unfold dst; omega) (by unfold dst; omega) ?_
        rw [show (i + dst i z) % 8 = z by unfold dst; omega]; exact hz0
  exact ⟨a, by unfold endOff; omega, c, d hlt⟩
structure InvC (t : List Int) (i E n : Nat) (T : List Int) : Prop where
  len : T.length = 16
  cnt : lenT T + 1 = lenT t
  key0 : ∀ i, i < 8 → 0 ≤ tk T i
  key1 : ∀ i, i < 8 → tk T i ≤ 1000
  val0 : ∀ i, i < 8 → 0 ≤ tv T i
  val1 : ∀ i, i < 8 → tv T i ≤ 4294967295
  none : ∀ i, i < 8 → tk T i = 0 → tv T i = 0
  once : ∀ i j, i < 8 → j < 8 → tk T i = tk T j → tk T i ≠ 0 → i = j
  run : ∀ o, n < o → o < E → tk T ((i + o) % 8) ≠ 0
  stop : tk T ((i + E) % 8) = 0
  path : ∀ j, j < 8 → tk T j ≠ 0 → ∀ m, m < dst (hm (tk T j)) j → tk T (slotOf (tk T j) m) ≠ 0 ∨ (n < dst i j ∧ dst i j < E ∧ dst i (slotOf (tk T j) m) ≤ n)
  same : ∀ k, k ≠ 0 → ∀ u, (∃ j, j < 8 ∧ tk T j = k ∧ tv T j = u) ↔ k ≠ tk t i ∧ ∃ j, j < 8 ∧ tk t j = k ∧ tv t j = u
theorem invC_start {t : List Int} (g : Good t) (i : Nat) (hi : i < 8) (h0 : tk t i ≠ 0) : InvC t i (endOff t i) 0 (setS t i 0 0) := by
  obtain ⟨E1, E7, hr, hs⟩ := endOff_spec g i hi h0
  have e1 := fun j => tk_setS t i j 0 0 g.len hi
  have e2 := fun j => tv_setS t i j 0 0 g.len hi
  have hl := len_setS t i 0 0 g.len hi
  rw [if_neg h0, if_pos rfl] at hl
  refine ⟨by rw [setS_len]; exact g.len, by omega, ?_, ?_, ?_, ?_, ?_, ?_, ?_, ?_, ?_, ?_⟩
  · intro j hj; rw [e1]; split
    · omega
    · exact g.key0 j hj
  · intro j hj; rw [e1]; split
    · omega
    · exact g.key1 j hj
  · intro j hj; rw [e2]; split
    · omega
    · exact g.val0 j hj
  · intro j hj; rw [e2]; split
    · omega
    · exact g.val1 j hj
  · intro j hj; rw [e1, e2]; split
    · intro; rfl
    · exact g.none j hj
  · intro a b ha hb e h
    rw [e1] at h e; rw [e1] at e
    by_cases x : a = i
    · rw [if_pos x] at h; omega
    · rw [if_neg x] at h e
      by_cases y : b = i
      · rw [if_pos y] at e; exact absurd e h
      · rw [if_neg y] at e; exact g.once a b ha hb e h
  · intro o ho hoE; rw [e1, if_neg (by omega)]; exact hr o (by omega) hoE
  · rw [e1, if_neg (by omega)]; exact hs
  · intro j hj h m hmm
    by_cases x : j = i
    · rw [e1, if_pos x] at h; exact absurd rfl h
    have ej : tk (setS t i 0 0) j = tk t j := by rw [e1, if_neg x]
    rw [ej] at h hmm ⊢
    have hp := g.path j hj h m hmm
    by_cases y : slotOf (tk t j) m = i
    · by_cases z : dst i j < endOff t i
      · exact .inr ⟨by unfold dst; omega, z, by rw [y]; unfold dst; omega⟩
      · exfalso
        have hne : dst i j ≠ endOff t i := by
          intro q; refine h ?_; rw [← hs, ← q]; congr 1; unfold dst; omega
        refine g.path j hj h (m + endOff t i) ?_ ?_
        · have := hm_lt (tk t j); rw [slotOf_eq] at y; unfold dst at *; omega
        · rw [← hs]; congr 1; rw [slotOf_eq] at y ⊢; omega
    · rw [e1, if_neg y]; exact .inl hp
  · intro k hk u
    constructor
    · rintro ⟨j, hj, a, b⟩
      rw [e1] at a; rw [e2] at b
      by_cases x : j = i
      · rw [if_pos x] at a; omega
      · rw [if_neg x] at a b
        refine ⟨fun q => x (g.once j i hj hi (by omega) (by omega)), j, hj, a, b⟩
    · rintro ⟨q, j, hj, a, b⟩
      have x : j ≠ i := by rintro rfl; exact q a.symm
      exact ⟨j, hj, by rw [e1, if_neg x]; exact a, by rw [e2, if_neg x]; exact b⟩
theorem stepC_at {t : List Int} {i E n : Nat} {T : List Int} (v : InvC t i E n T) (hi : i < 8) (hn : n + 1 < E) (hE : E ≤ 7) :
    ∃ a, a < 8 ∧ atI (setS T ((i + 1 + n) % 8) 0 0) (tk T ((i + 1 + n) % 8)) = (a : Nat) ∧ tk (setS T ((i + 1 + n) % 8) 0 0) a = 0 ∧ dst i a ≤ n + 1 ∧
      ∃ m, m < 8 ∧ slotOf (tk T ((i + 1 + n) % 8)) m = a ∧ ∀ m', m' < m → tk (setS T ((i + 1 + n) % 8) 0 0) (slotOf (tk T ((i + 1 + n) % 8)) m') ≠ 0 := by
  have hrun := v.run (n + 1) (by omega) hn
  rw [show i + (n + 1) = i + 1 + n by omega] at hrun
  obtain ⟨k, hk⟩ : ∃ k, k = (i + 1 + n) % 8 := ⟨_, rfl⟩
  rw [← hk] at hrun ⊢
  have hk8 : k < 8 := by omega
  have e1 := fun j => tk_setS T k j 0 0 v.len hk8
  have hh := hm_lt (tk T k)
  have hM := slot_dst (tk T k) k hk8
  rcases atI_spec (setS T k 0 0) (tk T k) with ⟨m, a, b, c, d⟩ | ⟨_, b⟩
  · refine ⟨slotOf (tk T k) m, slotOf_lt _ _, b, ?_, ?_, m, a, rfl, fun m' h => ((hit_no _ _ _).1 (d m' h)).2⟩
    · rcases (hit_iff _ _ _).1 c with h | h
      · exfalso
        rw [e1] at h
        by_cases x : slotOf (tk T k) m = k
        · rw [if_pos x] at h; omega
        · rw [if_neg x] at h; exact x (v.once _ _ (slotOf_lt _ _) hk8 h (by omega))
      · exact h
    · by_cases x : slotOf (tk T k) m = k
      · rw [x]; unfold dst; omega
      · have hlt : m < dst (hm (tk T k)) k := by
          rcases Nat.lt_or_ge m (dst (hm (tk T k)) k) with h | h
          · exact h
          · exfalso
            by_cases y : m = dst (hm (tk T k)) k
            · rw [y] at x; exact x hM
            · have := d (dst (hm (tk T k)) k) (by omega)
              rw [hM, hit_no, e1, if_pos rfl] at this
              exact this.2 rfl
        rcases v.path k hk8 hrun m hlt with h | ⟨_, _, h⟩
        · exfalso
          rcases (hit_iff _ _ _).1 c with g | g
          · rw [e1, if_neg x] at g
            exact x (v.once _ _ (slotOf_lt _ _) hk8 g (by omega))
          · rw [e1, if_neg x] at g; exact h g
        · omega
  · exfalso
    have := (hit_no _ _ _).1 (b k hk8)
    rw [e1, if_pos rfl] at this
    exact this.2 rfl
theorem invC_step {t : List Int} {i E n : Nat} {T : List Int} (v : InvC t i E n T) (hi : i < 8) (hn : n + 1 < E) (hE : E ≤ 7) : InvC t i E (n + 1) (stepC T ((i + 1 + n) % 8)) := by
  obtain ⟨a, ha8, haI, ha0, had, m0, hm0, hsl, hbef⟩ := stepC_at v hi hn hE
  have hrun := v.run (n + 1) (by omega) hn
  rw [show i + (n + 1) = i + 1 + n by omega] at hrun
  unfold stepC
  rw [haI, Int.toNat_natCast]
  obtain ⟨k, hk⟩ : ∃ k, k = (i + 1 + n) % 8 := ⟨_, rfl⟩
  rw [← hk] at hrun ha0 hsl hbef ⊢
  have hk8 : k < 8 := by omega
  have hdk : dst i k = n + 1 := by unfold dst; omega
  have f1 := fun j => tk_setS T k j 0 0 v.len hk8
  have f2 := fun j => tv_setS T k j 0 0 v.len hk8
  have hlen1 : (setS T k 0 0).length = 16 := by rw [setS_len]; exact v.len
  have e1 : ∀ j, tk (setS (setS T k 0 0) a (tk T k) (tv T k)) j = if j = a then tk T k else if j = k then 0 else tk T j := fun j => by rw [tk_setS _ a j _ _ hlen1 ha8, f1]
  have e2 : ∀ j, tv (setS (setS T k 0 0) a (tk T k) (tv T k)) j = if j = a then tv T k else if j = k then 0 else tv T j := fun j => by rw [tv_setS _ a j _ _ hlen1 ha8, f2]
  have l1 := len_setS T k 0 0 v.len hk8
  have l2 := len_setS (setS T k 0 0) a (tk T k) (tv T k) hlen1 ha8
  rw [if_neg hrun, if_pos rfl] at l1
  rw [if_pos ha0, if_neg hrun] at l2
  have hak : a ≠ k → tk T a = 0 := fun x => by rw [f1, if_neg x] at ha0; exact ha0
  refine ⟨by rw [setS_len]; exact hlen1, by have := v.cnt; omega, ?_, ?_, ?_, ?_, ?_, ?_, ?_, ?_, ?_, ?_⟩
  · intro j hj; rw [e1]; split
    · exact v.key0 k hk8
    · split
      · omega
      · exact v.key0 j hj
  · intro j hj; rw [e1]; split
    · exact v.key1 k hk8
    · split
      · omega
      · exact v.key1 j hj
  · intro j hj; rw [e2]; split
    · exact v.val0 k hk8
    · split
      · omega
      · exact v.val0 j hj
  · intro j hj; rw [e2]; split
    · exact v.val1 k hk8
    · split
      · omega
      · exact v.val1 j hj
  · intro j hj; rw [e1, e2]; split
    · exact v.none k hk8
    · split
      · intro; rfl
      · exact v.none j hj
  · intro x y hx hy e h
    rw [e1] at h e; rw [e1] at e
    by_cases xa : x = a
    · by_cases ya : y = a
      · omega
      · rw [if_pos xa] at e h; rw [if_neg ya] at e
        by_cases yk : y = k
        · rw [if_pos yk] at e; exact absurd e h
        · rw [if_neg yk] at e; exact absurd (v.once _ _ hk8 hy e h).symm yk
    · rw [if_neg xa] at e h
      by_cases xk : x = k
      · rw [if_pos xk] at h; exact absurd rfl h
      · rw [if_neg xk] at e h
        by_cases ya : y = a
        · rw [if_pos ya] at e; exact absurd (v.once _ _ hx hk8 e h) xk
        · rw [if_neg ya] at e
          by_cases yk : y = k
          · rw [if_pos yk] at e; exact absurd e h
          · rw [if_neg yk] at e; exact v.once _ _ hx hy e h
  · intro o ho hoE
    have hd : dst i ((i + o) % 8) = o := by unfold dst; omega
    rw [e1, if_neg (by rintro rfl; omega), if_neg (by rintro rfl; omega)]
    exact v.run o (by omega) hoE
  · have hd : dst i ((i + E) % 8) = E := by unfold dst; omega
    rw [e1, if_neg (by rintro rfl; omega), if_neg (by rintro rfl; omega)]
    exact v.stop
  · intro j hj h m hmm
    by_cases xa : j = a
    · rw [e1 j, if_pos xa] at hmm ⊢
      have hlt : m < m0 := by
        have := hm_lt (tk T k)
        rw [slotOf_eq] at hsl; unfold dst at hmm; omega
      have hb := hbef m hlt
      rw [f1] at hb
      left
      rw [e1]
      split
      · exact hrun
      · exact hb
    · have xk : j ≠ k := by
        rintro rfl; rw [e1, if_neg xa, if_pos rfl] at h; exact h rfl
      rw [e1 j, if_neg xa, if_neg xk] at h hmm ⊢
      have hp := v.path j hj h m hmm
      obtain ⟨p, hp'⟩ : ∃ p, p = slotOf (tk T j) m := ⟨_, rfl⟩
      have hp8 : p < 8 := by rw [hp']; exact slotOf_lt _ _
      rw [← hp'] at hp ⊢
      rw [e1]
      by_cases pa : p = a
      · left; rw [if_pos pa]; exact hrun
      rw [if_neg pa]
      have hjk : dst i j ≠ n + 1 := by intro q; refine xk ?_; rw [hk]; unfold dst at q; omega
      by_cases pk : p = k
      · rw [if_pos pk]
        by_cases z : n < dst i j ∧ dst i j < E
        · right; rw [pk, hdk]; omega
        · exfalso
          have hne : dst i j ≠ E := by
            intro q; refine h ?_; rw [← v.stop, ← q]; congr 1; unfold dst; omega
          have hq := v.path j hj h (m + (E - n - 1)) (by
            have := hm_lt (tk T j); rw [slotOf_eq] at hp'; unfold dst at *; omega)
          rcases hq with hq | ⟨q1, q2, _⟩
          · refine hq ?_
            rw [← v.stop]; congr 1; rw [slotOf_eq] at hp' ⊢; omega
          · exact z ⟨q1, q2⟩
      · rw [if_neg pk]
        rcases hp with hp | ⟨q1, q2, q3⟩
        · exact .inl hp
        · exact .inr ⟨by omega, q2, by omega⟩
  · intro k' hk' u
    rw [← v.same k' hk' u]
    constructor
    · rintro ⟨j, hj, x, y⟩
      rw [e1] at x; rw [e2] at y
      by_cases ja : j = a
      · rw [if_pos ja] at x y; exact ⟨k, hk8, x, y⟩
      · rw [if_neg ja] at x y
        by_cases jk : j = k
        · rw [if_pos jk] at x; omega
        · rw [if_neg jk] at x y; exact ⟨j, hj, x, y⟩
    · rintro ⟨j, hj, x, y⟩
      by_cases jk : j = k
      · subst jk; exact ⟨a, ha8, by rw [e1, if_pos rfl]; exact x, by rw [e2, if_pos rfl]; exact y⟩
      · have ja : j ≠ a := by
          rintro rfl; have := hak jk; omega
        exact ⟨j, hj, by rw [e1, if_neg ja, if_neg jk]; exact x, by rw [e2, if_neg ja, if_neg jk]; exact y⟩
theorem invC_iter {t : List Int} (g : Good t) (i : Nat) (hi : i < 8) (h0 : tk t i ≠ 0) : ∀ n, n < endOff t i → InvC t i (endOff t i) n (iterC t i n)
  | 0, _ => invC_start g i hi h0
  | n + 1, h => invC_step (invC_iter g i hi h0 n (by omega)) hi h (endOff_spec g i hi h0).2.1
theorem closeF_inv {t : List Int} (g : Good t) (i : Nat) (hi : i < 8) (h0 : tk t i ≠ 0) : InvC t i (endOff t i) (endOff t i - 1) (closeF t i) :=
  invC_iter g i hi h0 _ (by have := (endOff_spec g i hi h0).1; omega)
theorem closeF_good {t : List Int} (g : Good t) (i : Nat) (hi : i < 8) (h0 : tk t i ≠ 0) : Good (closeF t i) := by
  have v := closeF_inv g i hi h0
  refine ⟨v.len, by have := v.cnt; have := g.few; omega, v.key0, v.key1, v.val0, v.val1, v.none, v.once, fun j hj h m hmm => ?_⟩
  rcases v.path j hj h m hmm with q | ⟨a, b, c⟩
  · exact q
  · omega
end Go.Proofs.Ytakemnpicokaiaa
