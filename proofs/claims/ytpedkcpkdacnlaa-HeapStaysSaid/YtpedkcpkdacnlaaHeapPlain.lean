/- Plain laws of binary heaps as lists of numbers. No program is named here. -/
namespace Go.Proofs.Ytpedkcpkdacnlaa
set_option linter.unusedVariables false
def hp (xs : List Int) (i : Nat) : Int := xs.getD i 0
def swp (xs : List Int) (i j : Nat) : List Int := (xs.set i (hp xs j)).set j (hp xs i)
def upF : Nat → List Int → Nat → List Int
  | 0, xs, _ => xs
  | f + 1, xs, i => if 0 < i ∧ hp xs i < hp xs ((i - 1) / 2) then upF f (swp xs i ((i - 1) / 2)) ((i - 1) / 2) else xs
def kid (xs : List Int) (i : Nat) : Nat := if 2 * i + 2 < xs.length ∧ hp xs (2 * i + 2) < hp xs (2 * i + 1) then 2 * i + 2 else 2 * i + 1
def downF : Nat → List Int → Nat → List Int
  | 0, xs, _ => xs
  | f + 1, xs, i => if xs.length ≤ kid xs i ∨ hp xs i ≤ hp xs (kid xs i) then xs else downF f (swp xs i (kid xs i)) (kid xs i)
def IsHeap (xs : List Int) : Prop := ∀ j, 0 < j → j < xs.length → hp xs ((j - 1) / 2) ≤ hp xs j
theorem swp_length (xs : List Int) (i j : Nat) : (swp xs i j).length = xs.length := by simp [swp]
theorem hp_swp (xs : List Int) (i j k : Nat) (hi : i < xs.length) (hj : j < xs.length) : hp (swp xs i j) k = if k = j then hp xs i else if k = i then hp xs j else hp xs k := by
  unfold hp swp
  rw [List.getD_eq_getElem?_getD, List.getElem?_set, List.getElem?_set]
  by_cases h : k = j
  · subst h; simp [hj, hp]
  · rw [if_neg (fun e => h e.symm), if_neg h]
    by_cases h' : k = i
    · subst h'; simp [hi, hp]
    · rw [if_neg (fun e => h' e.symm), if_neg h', List.getD_eq_getElem?_getD]
theorem swp_perm (xs : List Int) (i j : Nat) (hi : i < xs.length) (hj : j < xs.length) : (swp xs i j).Perm xs := by
  have h := Array.swap_perm (xs := xs.toArray) (i := i) (j := j) (by simpa using hi) (by simpa using hj)
  have h2 := Array.perm_iff_toList_perm.1 h
  have e : (xs.toArray.swap i j (by simpa using hi) (by simpa using hj)).toList = swp xs i j := by
    simp [Array.swap, swp, hp, List.getD_eq_getElem?_getD, hi, hj]
  rw [e] at h2
  simpa using h2
theorem upF_length (f : Nat) : ∀ (xs : List Int) (i : Nat), (upF f xs i).length = xs.length := by
  induction f with
  | zero => intro xs i; rfl
  | succ f ih => intro xs i; simp only [upF]; split; · rw [ih, swp_length]
                 · rfl
theorem downF_length (f : Nat) : ∀ (xs : List Int) (i : Nat), (downF f xs i).length = xs.length := by
  induction f with
  | zero => intro xs i; rfl
  | succ f ih => intro xs i; simp only [downF]; split; · rfl
                 · rw [ih, swp_length]
theorem upF_perm (f : Nat) : ∀ (xs : List Int) (i : Nat), i < xs.length → (upF f xs i).Perm xs := by
  induction f with
  | zero => intro xs i _; exact List.Perm.refl _
  | succ f ih =>
    intro xs i hi
    simp only [upF]
    split
    · exact (ih _ _ (by rw [swp_length]; omega)).trans (swp_perm xs i _ hi (by omega))
    · exact List.Perm.refl _
theorem downF_perm (f : Nat) : ∀ (xs : List Int) (i : Nat), i < xs.length → (downF f xs i).Perm xs := by
  induction f with
  | zero => intro xs i _; exact List.Perm.refl _
  | succ f ih =>
    intro xs i hi
    simp only [downF]
    split
    · exact List.Perm.refl _
    · rename_i h
      exact (ih _ _ (by rw [swp_length]; omega)).trans (swp_perm xs i _ hi (by omega))
/-- The parent relation holds everywhere but at i. -/
def UpInv (xs : List Int) (i : Nat) : Prop := (∀ j, 0 < j → j < xs.length → j ≠ i → hp xs ((j - 1) / 2) ≤ hp xs j) ∧ (∀ j, 0 < j → j < xs.length → (j - 1) / 2 = i → 0 < i → hp xs ((i - 1) / 2) ≤ hp xs j)
theorem upF_heap (f : Nat) : ∀ (xs : List Int) (i : Nat), i < xs.length → i ≤ f → UpInv xs i → IsHeap (upF f xs i) := by
  induction f with
  | zero =>
    intro xs i hi hf h
    obtain rfl : i = 0 := by omega
    intro j h0 hj
    exact h.1 j h0 hj (by omega)
  | succ f ih =>
    intro xs i hi hf h
    simp only [upF]
    split
    · rename_i hc
      obtain ⟨hc0, hc1⟩ := hc
      have hp' : (i - 1) / 2 < xs.length := by omega
      refine ih _ _ (by rw [swp_length]; omega) (by omega) ⟨fun j h0 hj hne => ?_, fun j h0 hj hpar hi0 => ?_⟩
      · rw [swp_length] at hj
        rw [hp_swp _ _ _ _ hi hp', hp_swp _ _ _ _ hi hp']
        have e1 : (j = (i - 1) / 2) = False := by simp; exact hne
        simp only [e1, if_false]
        by_cases hji : j = i
        · subst hji; simp only [if_true]; omega
        · simp only [hji, if_false]
          by_cases hpi : (j - 1) / 2 = (i - 1) / 2
          · simp only [hpi, if_true]; have := h.1 j h0 hj hji; rw [hpi] at this; omega
          · simp only [hpi, if_false]
            by_cases hp2 : (j - 1) / 2 = i
            · simp only [hp2, if_true]; exact h.2 j h0 hj hp2 hc0
            · simp only [hp2, if_false]; exact h.1 j h0 hj hji
      · rw [swp_length] at hj
        rw [hp_swp _ _ _ _ hi hp', hp_swp _ _ _ _ hi hp']
        have e1 : ¬ ((i - 1) / 2 - 1) / 2 = (i - 1) / 2 := by omega
        have e2 : ¬ ((i - 1) / 2 - 1) / 2 = i := by omega
        have e3 : ¬ j = (i - 1) / 2 := by omega
        simp only [e1, e2, e3, if_false]
        have hg := h.1 ((i - 1) / 2) hi0 hp' (by omega)
        by_cases hji : j = i
        · simp only [hji, if_true]; exact hg
        · simp only [hji, if_false]
          have := h.1 j h0 hj hji
          rw [hpar] at this; omega
    · rename_i hc
      intro j h0 hj
      by_cases hji : j = i
      · subst hji; omega
      · exact h.1 j h0 hj hji
/-- The parent relation holds everywhere but under i. -/
def DownInv (xs : List Int) (i : Nat) : Prop := (∀ j, 0 < j → j < xs.length → (j - 1) / 2 ≠ i → hp xs ((j - 1) / 2) ≤ hp xs j) ∧ (∀ j, 0 < j → j < xs.length → (j - 1) / 2 = i → 0 < i → hp xs ((i - 1) / 2) ≤ hp xs j)
theorem kid_cases (xs : List Int) (i : Nat) : (kid xs i = 2 * i + 1 ∨ kid xs i = 2 * i + 2) ∧ (kid xs i < xs.length → ∀ j, 0 < j → j < xs.length → (j - 1) / 2 = i → hp xs (kid xs i) ≤ hp xs j) ∧ (xs.length ≤ kid xs i → xs.length ≤ 2 * i + 1) := by
  unfold kid
  split
  · rename_i h
    refine ⟨.inr rfl, fun _ j h0 hj hp => ?_, fun _ => by omega⟩
    obtain rfl | rfl : j = 2 * i + 1 ∨ j = 2 * i + 2 := by omega
    · omega
    · omega
  · rename_i h
    refine ⟨.inl rfl, fun _ j h0 hj hp => ?_, fun _ => by omega⟩
    obtain rfl | rfl : j = 2 * i + 1 ∨ j = 2 * i + 2 := by omega
    · omega
    · omega
theorem downF_heap (f : Nat) : ∀ (xs : List Int) (i : Nat), xs.length ≤ i + f → DownInv xs i → IsHeap (downF f xs i) := by
  induction f with
  | zero =>
    intro xs i hf h j h0 hj
    simp only [downF] at *
    exact h.1 j h0 hj (by omega)
  | succ f ih =>
    intro xs i hf h
    obtain ⟨k1, k2, k3⟩ := kid_cases xs i
    simp only [downF]
    split
    · rename_i hc
      intro j h0 hj
      by_cases hji : (j - 1) / 2 = i
      · rcases hc with hc | hc
        · have := k3 hc; omega
        · rcases Nat.lt_or_ge (kid xs i) xs.length with hk | hk
          · have := k2 hk j h0 hj hji; rw [hji]; omega
          · have := k3 hk; omega
      · exact h.1 j h0 hj hji
    · rename_i hc
      have hk : kid xs i < xs.length := by omega
      have hlt : hp xs (kid xs i) < hp xs i := by omega
      have k2 := k2 hk
      generalize kid xs i = k at *
      have hi : i < xs.length := by omega
      refine ih _ _ (by rw [swp_length]; omega) ⟨fun j h0 hj hne => ?_, fun j h0 hj hpar hk0 => ?_⟩
      · rw [swp_length] at hj
        rw [hp_swp _ _ _ _ hi hk, hp_swp _ _ _ _ hi hk]
        rw [if_neg hne]
        by_cases hjk : j = k
        · subst hjk
          rw [if_pos rfl, if_pos (by omega)]; omega
        · rw [if_neg hjk]
          by_cases hji : j = i
          · subst hji
            rw [if_pos rfl, if_neg (by omega)]
            exact h.2 k (by omega) hk (by omega) (by omega)
          · rw [if_neg hji]
            by_cases hpi : (j - 1) / 2 = i
            · rw [if_pos hpi]; exact k2 j h0 hj hpi
            · rw [if_neg hpi]; exact h.1 j h0 hj hpi
      · rw [swp_length] at hj
        rw [hp_swp _ _ _ _ hi hk, hp_swp _ _ _ _ hi hk]
        rw [if_neg (by omega), if_pos (by omega), if_neg (by omega), if_neg (by omega)]
        have := h.1 j h0 hj (by omega)
        rw [hpar] at this; exact this
end Go.Proofs.Ytpedkcpkdacnlaa
