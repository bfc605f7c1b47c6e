/- What an operation with a good table does, in plain numbers: put, take and peek, and what they leave. No program is named here. -/
import Derived.Test.YtakemnpicokaiaaTabClosed
namespace Go.Proofs.Ytakemnpicokaiaa
set_option linter.unusedVariables false
def peekA (t : List Int) (k : Int) : Int × Int := if thereB t k then (1, tv t (atI t k).toNat) else (4, 0)
def doT (t : List Int) (what key value : Int) : List Int × Int × Int :=
  if what = 6 then (t, 1, lenT t)
  else if (what ≠ 1 ∧ what ≠ 2 ∧ what ≠ 5) ∨ key < 1 ∨ 1000 < key then (t, 5, 0)
  else if what = 1 then (if thereB t key = false ∧ 6 ≤ lenT t then (t, 3, 0) else (setS t (atI t key).toNat key value, 1, 0))
  else if thereB t key = false then (t, 4, 0)
  else if what = 2 then (closeF t (atI t key).toNat, 1, tv t (atI t key).toNat) else (t, 1, tv t (atI t key).toNat)
def In (t : List Int) (k u : Int) : Prop := ∃ j, j < 8 ∧ tk t j = k ∧ tv t j = u
theorem peekA_yes {t : List Int} (g : Good t) {k u : Int} (hk : k ≠ 0) (h : In t k u) : peekA t k = (1, u) := by
  obtain ⟨j, hj, rfl, rfl⟩ := h
  unfold peekA
  rw [(g.there _ hk).2 ⟨j, hj, rfl⟩, if_pos rfl, g.val j hj hk]
theorem peekA_no {t : List Int} (g : Good t) {k : Int} (hk : k ≠ 0) (h : ∀ u, ¬ In t k u) : peekA t k = (4, 0) := by
  unfold peekA
  rw [if_neg]
  intro e
  obtain ⟨j, hj, e⟩ := (g.there _ hk).1 e
  exact h _ ⟨j, hj, e, rfl⟩
theorem peekA_or {t : List Int} (g : Good t) {k : Int} (hk : k ≠ 0) : (∃ u, In t k u ∧ peekA t k = (1, u) ∧ thereB t k = true) ∨ ((∀ u, ¬ In t k u) ∧ peekA t k = (4, 0) ∧ thereB t k = false) := by
  by_cases h : ∃ u, In t k u
  · obtain ⟨u, hu⟩ := h
    refine .inl ⟨u, hu, peekA_yes g hk hu, (g.there _ hk).2 ?_⟩
    obtain ⟨j, hj, a, _⟩ := hu
    exact ⟨j, hj, a⟩
  · have h' : ∀ u, ¬ In t k u := fun u hu => h ⟨u, hu⟩
    refine .inr ⟨h', peekA_no g hk h', ?_⟩
    cases e : thereB t k
    · rfl
    · obtain ⟨j, hj, e⟩ := (g.there _ hk).1 e
      exact absurd ⟨j, hj, e, rfl⟩ (h' _)
theorem peekA_congr {t t' : List Int} (g : Good t) (g' : Good t') {k : Int} (hk : k ≠ 0) (h : ∀ u, In t k u ↔ In t' k u) : peekA t k = peekA t' k := by
  rcases peekA_or g hk with ⟨u, a, b, _⟩ | ⟨a, b, _⟩
  · rw [b, peekA_yes g' hk ((h u).1 a)]
  · rw [b, peekA_no g' hk (fun u hu => a u ((h u).2 hu))]
theorem doT_peek {t : List Int} (k v : Int) (h1 : 1 ≤ k) (h2 : k ≤ 1000) : doT t 5 k v = (t, (peekA t k).1, (peekA t k).2) := by
  unfold doT peekA
  rw [if_neg (by omega), if_neg (by omega), if_neg (by omega)]
  cases thereB t k
  · simp
  · simp
theorem put_cases {t : List Int} (g : Good t) (k v : Int) (h1 : 1 ≤ k) (h2 : k ≤ 1000) (v0 : 0 ≤ v) (v1 : v ≤ 4294967295) :
    (doT t 1 k v = (t, 3, 0) ∧ lenT t = 6 ∧ peekA t k = (4, 0)) ∨
    (∃ u, doT t 1 k v = (u, 1, 0) ∧ Good u ∧ peekA u k = (1, v) ∧ (∀ l, l ≠ 0 → l ≠ k → peekA u l = peekA t l) ∧ ((peekA t k).1 = 4 ∧ lenT u = lenT t + 1 ∨ (peekA t k).1 = 1 ∧ lenT u = lenT t)) := by
  have hk0 : k ≠ 0 := by omega
  by_cases hf : thereB t k = false ∧ 6 ≤ lenT t
  · left
    refine ⟨?_, by have := g.few; omega, ?_⟩
    · unfold doT; rw [if_neg (by omega), if_neg (by omega), if_pos rfl, if_pos hf]
    · unfold peekA; rw [hf.1]; rfl
  · right
    have gp := g.put k v h1 h2 v0 v1 (by
      cases e : thereB t k
      · right; have : ¬ 6 ≤ lenT t := fun x => hf ⟨e, x⟩; omega
      · left; rfl)
    have ks := fun l hl u => g.put_keys k v h1 l hl u
    refine ⟨setS t (atI t k).toNat k v, ?_, gp, ?_, ?_, ?_⟩
    · unfold doT; rw [if_neg (by omega), if_neg (by omega), if_pos rfl, if_neg hf]
    · exact peekA_yes gp hk0 ((ks k hk0 v).2 (.inl ⟨rfl, rfl⟩))
    · intro l hl hlk
      refine peekA_congr gp g hl fun u => ?_
      refine (ks l hl u).trans ⟨?_, fun x => .inr ⟨hlk, x⟩⟩
      rintro (⟨x, _⟩ | ⟨_, x⟩)
      · exact absurd x hlk
      · exact x
    · obtain ⟨i, hi, ha, ho, -⟩ := g.at k
      have hl := len_setS t i k v g.len hi
      rw [if_neg hk0] at hl
      rw [ha, Int.toNat_natCast]
      by_cases e : tk t i = k
      · right
        have ht : thereB t k = true := by simp [thereB, ha, e]
        rw [if_neg (by omega)] at hl
        exact ⟨by unfold peekA; rw [ht]; rfl, by omega⟩
      · left
        have e0 : tk t i = 0 := by rcases ho with h | h; exact absurd h e; exact h
        have ht : thereB t k = false := by simp [thereB, ha, e0]; omega
        rw [if_pos e0] at hl
        exact ⟨by unfold peekA; rw [ht]; rfl, by omega⟩
theorem take_cases {t : List Int} (g : Good t) (k v : Int) (h1 : 1 ≤ k) (h2 : k ≤ 1000) :
    (peekA t k = (4, 0) ∧ doT t 2 k v = (t, 4, 0)) ∨
    (∃ u x, peekA t k = (1, x) ∧ doT t 2 k v = (u, 1, x) ∧ Good u ∧ peekA u k = (4, 0) ∧ (∀ l, l ≠ 0 → l ≠ k → peekA u l = peekA t l) ∧ lenT u + 1 = lenT t) := by
  have hk0 : k ≠ 0 := by omega
  rcases peekA_or g hk0 with ⟨x, hx, hp, ht⟩ | ⟨hx, hp, ht⟩
  · right
    obtain ⟨j, hj, rfl, rfl⟩ := hx
    have ha := g.found j hj hk0
    have gi := closeF_inv g j hj hk0
    have gc := closeF_good g j hj hk0
    refine ⟨closeF t j, tv t j, hp, ?_, gc, ?_, ?_, gi.cnt⟩
    · unfold doT; rw [if_neg (by omega), if_neg (by omega), if_neg (by omega), ht, if_neg (by simp), if_pos rfl, ha]; rfl
    · exact peekA_no gc hk0 fun u hu => ((gi.same _ hk0 u).1 hu).1 rfl
    · intro l hl hlk
      exact peekA_congr gc g hl fun u => (gi.same l hl u).trans ⟨fun h => h.2, fun h => ⟨hlk, h⟩⟩
  · left
    refine ⟨hp, ?_⟩
    unfold doT; rw [if_neg (by omega), if_neg (by omega), if_neg (by omega), if_pos ht]
theorem doT_good {t : List Int} (g : Good t) (w k v : Int) (v0 : 0 ≤ v) (v1 : v ≤ 4294967295) : Good (doT t w k v).1 := by
  by_cases h6 : w = 6
  · unfold doT; rw [if_pos h6]; exact g
  by_cases hw : (w ≠ 1 ∧ w ≠ 2 ∧ w ≠ 5) ∨ k < 1 ∨ 1000 < k
  · unfold doT; rw [if_neg h6, if_pos hw]; exact g
  by_cases w1 : w = 1
  · subst w1
    rcases put_cases g k v (by omega) (by omega) v0 v1 with ⟨e, -⟩ | ⟨u, e, gu, -⟩
    · rw [e]; exact g
    · rw [e]; exact gu
  by_cases w2 : w = 2
  · subst w2
    rcases take_cases g k v (by omega) (by omega) with ⟨-, e⟩ | ⟨u, x, -, e, gu, -⟩
    · rw [e]; exact g
    · rw [e]; exact gu
  · obtain rfl : w = 5 := by omega
    rw [doT_peek k v (by omega) (by omega)]; exact g
/-- One key more, one less, or as many; and what is not Done changes nothing. -/
theorem doT_stays {t : List Int} (g : Good t) (w k v : Int) (v0 : 0 ≤ v) (v1 : v ≤ 4294967295) :
    (lenT (doT t w k v).1 : Int) - lenT t ≤ 1 ∧ -1 ≤ (lenT (doT t w k v).1 : Int) - lenT t ∧ ((doT t w k v).2.1 = 1 ∨ (doT t w k v).1 = t) := by
  by_cases h6 : w = 6
  · unfold doT; rw [if_pos h6]; exact ⟨by dsimp only; omega, by dsimp only; omega, .inl rfl⟩
  by_cases hw : (w ≠ 1 ∧ w ≠ 2 ∧ w ≠ 5) ∨ k < 1 ∨ 1000 < k
  · unfold doT; rw [if_neg h6, if_pos hw]; exact ⟨by dsimp only; omega, by dsimp only; omega, .inr rfl⟩
  by_cases w1 : w = 1
  · subst w1
    rcases put_cases g k v (by omega) (by omega) v0 v1 with ⟨e, -⟩ | ⟨u, e, gu, -, -, h⟩
    · rw [e]; exact ⟨by dsimp only; omega, by dsimp only; omega, .inr rfl⟩
    · rw [e]; exact ⟨by dsimp only; omega, by dsimp only; omega, .inl rfl⟩
  by_cases w2 : w = 2
  · subst w2
    rcases take_cases g k v (by omega) (by omega) with ⟨-, e⟩ | ⟨u, x, -, e, gu, -, -, h⟩
    · rw [e]; exact ⟨by dsimp only; omega, by dsimp only; omega, .inr rfl⟩
    · rw [e]; exact ⟨by dsimp only; omega, by dsimp only; omega, .inl rfl⟩
  · obtain rfl : w = 5 := by omega
    rw [doT_peek k v (by omega) (by omega)]; exact ⟨by dsimp only; omega, by dsimp only; omega, .inr rfl⟩
end Go.Proofs.Ytakemnpicokaiaa
