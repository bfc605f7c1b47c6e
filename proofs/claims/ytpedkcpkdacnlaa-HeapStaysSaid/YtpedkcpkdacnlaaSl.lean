/- Slices of integers as lists: a slice that reads as a list, a slice of the call's own. No program is named here; 3 is the number of the type int. -/
import Derived.Test.YtpedkcpkdacnlaaKeep
namespace Go.Proofs.Ytpedkcpkdacnlaa
open Go.RowKit
theorem block_lt' {w : World} {b o : Nat} {v : Value} (h : w.cell? ⟨b, o, none⟩ = some v) : b < w.heap.size := by
  rcases Nat.lt_or_ge b w.heap.size with h' | h'
  · exact h'
  · simp [World.cell?, Array.getElem?_eq_none h'] at h

/-- The slice value v reads as the list xs. -/
def Sl (w : World) (v : Value) (xs : List Int) : Prop :=
  ∃ a cap, v = .slice a xs.length cap ∧ xs.length ≤ cap ∧ cap ≤ 9223372036854775807 ∧
    ((xs.length = 0 ∧ (a = none → cap = 0)) ∨ ∃ b off, a = some ⟨b, off, none⟩ ∧ b < w.heap.size ∧ ∀ j, j < xs.length → w.cell? ⟨b, off + j, none⟩ = some (.int .i64 (xs.getD j 0)))
/-- The slice value v owns the list xs in a block from base on. -/
def Own (w : World) (base : Nat) (v : Value) (xs : List Int) : Prop := w.ownsRow base 3 1 v xs.length (xs.map (Value.int .i64))

theorem Sl.below {w w' : World} {v : Value} {xs : List Int} (h : Sl w v xs) (k : Below w.heap.size w w') : Sl w' v xs := by
  obtain ⟨a, cap, rfl, h1, h2, h3⟩ := h
  refine ⟨a, cap, rfl, h1, h2, ?_⟩
  rcases h3 with h3 | ⟨b, off, rfl, hb, hc⟩
  · exact .inl h3
  · exact .inr ⟨b, off, rfl, Nat.lt_of_lt_of_le hb k.size, fun j hj => by rw [k.cell (p := ⟨b, off + j, none⟩) hb]; exact hc j hj⟩
theorem Sl.kept {S : Nat → Prop} {w w' : World} {v : Value} {xs : List Int} (h : Sl w v xs) (k : Kept S w w') (hv : ∀ a n c, v = .slice (some a) n c → ¬ S a.block) : Sl w' v xs := by
  obtain ⟨a, cap, rfl, h1, h2, h3⟩ := h
  refine ⟨a, cap, rfl, h1, h2, ?_⟩
  rcases h3 with h3 | ⟨b, off, rfl, hb, hc⟩
  · exact .inl h3
  · exact .inr ⟨b, off, rfl, Nat.lt_of_lt_of_le hb k.size, fun j hj => by rw [k.cell hb (hv _ _ _ rfl)]; exact hc j hj⟩
theorem Own.sl {w : World} {base : Nat} {v : Value} {xs : List Int} (h : Own w base v xs) : Sl w v xs := by
  obtain ⟨h1, h2 | ⟨g, cap, cur, rfl, hb, hg, hl, hm, hs, ht⟩⟩ := h
  · exact ⟨none, 0, by rw [h2.1, h2.2], by omega, by omega, .inl ⟨h2.2, fun _ => rfl⟩⟩
  · unfold maxLen at hm
    refine ⟨some ⟨g, 0, none⟩, cap, rfl, hl, by omega, .inr ⟨g, 0, rfl, (Array.getElem?_eq_some_iff.1 hg).1, fun j hj => ?_⟩⟩
    simp only [World.cell?, hg, Nat.zero_add, Option.isSome_none, Bool.false_eq_true, if_false]
    have e : cur.toList[j]? = (xs.map (Value.int .i64))[j]? := by rw [← ht, List.getElem?_take, if_pos (by omega)]
    rw [← Array.getElem?_toList, e, List.getElem?_map, List.getElem?_eq_getElem hj, List.getD_eq_getElem?_getD, List.getElem?_eq_getElem hj]; rfl
theorem Own.below {w w' : World} {base : Nat} {v : Value} {xs : List Int} (h : Own w base v xs) (k : Below w.heap.size w w') : Own w' base v xs := by
  obtain ⟨h1, h2 | ⟨g, cap, cur, rfl, hb, hg, r⟩⟩ := h
  · exact ⟨h1, .inl h2⟩
  · exact ⟨h1, .inr ⟨g, cap, cur, rfl, hb, by rw [k.block g (Array.getElem?_eq_some_iff.1 hg).1]; exact hg, r⟩⟩
theorem Own.mono {w : World} {base base' : Nat} {v : Value} {xs : List Int} (h : Own w base v xs) (hb : base' ≤ base) : Own w base' v xs := by
  obtain ⟨h1, h2 | ⟨g, cap, cur, hv, hb', r⟩⟩ := h
  · exact ⟨h1, .inl h2⟩
  · exact ⟨h1, .inr ⟨g, cap, cur, hv, Nat.le_trans hb hb', r⟩⟩
theorem Own.nil (w : World) (base : Nat) : Own w base (.slice none 0 0) [] := ⟨by simp, .inl ⟨rfl, rfl⟩⟩
theorem Own.set {w : World} {base : Nat} {g n cap : Nat} {off : Nat} {xs : List Int} (h : Own w base (.slice (some ⟨g, off, none⟩) n cap) xs) (j : Nat) (x : Int) :
    Own (w.setCell ⟨g, off + j, none⟩ (.int .i64 x)) base (.slice (some ⟨g, off, none⟩) n cap) (xs.set j x) := by
  obtain ⟨h1, h2 | ⟨g', cap', cur, hv, hb, hg, hl, hm, hs, ht⟩⟩ := h
  · simp at h2
  · simp at hv
    obtain ⟨⟨rfl, rfl⟩, rfl, rfl⟩ := hv
    refine ⟨by simp, .inr ⟨g, cap, cur.setIfInBounds j (.int .i64 x), by simp, hb, ?_, by simpa using hl, hm, by simpa using hs, ?_⟩⟩
    · simp [World.setCell, Array.getElem?_modify, hg]
    · rw [Array.toList_setIfInBounds, List.length_set, List.take_set, ht, List.map_set]
theorem Own.len {w : World} {base : Nat} {a : Option Addr} {n cap : Nat} {xs : List Int} (h : Own w base (.slice a n cap) xs) : n = xs.length := by
  obtain ⟨a', cap', hv, -⟩ := h.sl
  simp at hv; exact hv.2.1
theorem Sl.slice {w : World} {v : Value} {xs : List Int} (h : Sl w v xs) : ∃ a cap, v = .slice a xs.length cap := by
  obtain ⟨a, cap, h, -⟩ := h; exact ⟨a, cap, h⟩
/-- What stands behind the first element. -/
theorem Sl.tail {w : World} {b off cap : Nat} {xs : List Int} (h : Sl w (.slice (some ⟨b, off, none⟩) xs.length cap) xs) (hx : 0 < xs.length) :
    Sl w (.slice (if cap = 1 then some ⟨b, off, none⟩ else some ⟨b, off + 1, none⟩) (xs.length - 1) (cap - 1)) xs.tail := by
  obtain ⟨a, c, he, h1, h2, h3⟩ := h
  simp at he
  obtain ⟨rfl, rfl⟩ := he
  rcases h3 with h3 | ⟨b', off', ha, hb, hc⟩
  · omega
  · simp at ha
    obtain ⟨rfl, rfl⟩ := ha
    by_cases hcap : cap = 1
    · subst hcap
      exact ⟨_, _, by rw [List.length_tail], by simp; omega, by omega, .inl ⟨by simp; omega, by simp⟩⟩
    refine ⟨_, _, by rw [List.length_tail], by simp; omega, by omega, .inr ⟨b, off + 1, if_neg hcap, hb, fun j hj => ?_⟩⟩
    have hj' : j + 1 < xs.length := by simp at hj; omega
    have := hc (j + 1) hj'
    rw [show off + 1 + j = off + (j + 1) from by omega, this, List.getD_eq_getElem?_getD, List.getD_eq_getElem?_getD, List.getElem?_tail]
/-- An owned slice that is not empty begins at the head of its block; its cells read, and none is frozen. -/
theorem Own.head {w : World} {base : Nat} {v : Value} {xs : List Int} (h : Own w base v xs) (hx : 0 < xs.length) :
    ∃ g cap, v = .slice (some ⟨g, 0, none⟩) xs.length cap ∧ base ≤ g ∧ g < w.heap.size ∧ cap ≤ 9223372036854775807 ∧ xs.length ≤ cap ∧ (∀ j, j < xs.length → w.cell? ⟨g, 0 + j, none⟩ = some (.int .i64 (xs.getD j 0))) ∧ ∀ j, w.frozen? ⟨g, j, none⟩ = false := by
  have hs := h.sl
  obtain ⟨-, h2 | ⟨g, cap, cur, rfl, hb, hg, hl, hm, r⟩⟩ := h
  · omega
  · obtain ⟨a, c, he, -, -, h3⟩ := hs
    simp at he
    obtain ⟨rfl, rfl⟩ := he
    unfold maxLen at hm
    rcases h3 with h3 | ⟨b', off', ha, hb', hc⟩
    · omega
    · simp at ha
      obtain ⟨rfl, rfl⟩ := ha
      exact ⟨g, cap, rfl, hb, hb', by omega, hl, hc, fun j => by simp [World.frozen?, hg]⟩
theorem Own.block {w : World} {base : Nat} {v : Value} {xs : List Int} (h : Own w base v xs) {k : Nat} (hk : v.ownBlock = some k) : base ≤ k := by
  obtain ⟨-, h2 | ⟨g, cap, cur, rfl, hb, r⟩⟩ := h
  · rw [h2.1] at hk; simp [Value.ownBlock] at hk
  · simp [Value.ownBlock] at hk; omega
theorem Own.kept {S : Nat → Prop} {w w' : World} {base : Nat} {v : Value} {xs : List Int} (h : Own w base v xs) (k : Kept S w w') (hn : ∀ g, v.ownBlock = some g → ¬ S g) : Own w' base v xs := by
  obtain ⟨h1, h2 | ⟨g, cap, cur, rfl, hb, hg, r⟩⟩ := h
  · exact ⟨h1, .inl h2⟩
  · exact ⟨h1, .inr ⟨g, cap, cur, rfl, hb, by rw [k.block g (Array.getElem?_eq_some_iff.1 hg).1 (hn g rfl)]; exact hg, r⟩⟩
/-- A store below the base leaves what is owned. -/
theorem Own.store {w : World} {base : Nat} {v : Value} {xs : List Int} (h : Own w base v xs) {p : Addr} (hp : p.block < base) (u : Value) : Own (w.setCell p u) base v xs :=
  ownsRow_setCell_below h hp u
theorem Sl.take {w : World} {a : Option Addr} {n cap : Nat} {ys : List Int} (h : Sl w (.slice a n cap) ys) (m : Nat) (hm : m ≤ ys.length) : Sl w (.slice a m cap) (ys.take m) := by
  obtain ⟨a', c, he, h1, h2, h3⟩ := h
  simp at he
  obtain ⟨rfl, rfl, rfl⟩ := he
  have hl : (ys.take m).length = m := by simp; omega
  refine ⟨a, cap, by rw [hl], by omega, h2, ?_⟩
  rcases h3 with h3 | ⟨b, off, rfl, hb, hc⟩
  · exact .inl ⟨by omega, h3.2⟩
  · refine .inr ⟨b, off, rfl, hb, fun j hj => ?_⟩
    rw [hc j (by omega), List.getD_eq_getElem?_getD, List.getD_eq_getElem?_getD, List.getElem?_take, if_pos (by omega)]
theorem Own.take {w : World} {base : Nat} {a : Option Addr} {n cap : Nat} {xs : List Int} (h : Own w base (.slice a n cap) xs) (hx : 0 < xs.length) (m : Nat) (hm : m ≤ xs.length) : Own w base (.slice a m cap) (xs.take m) := by
  obtain ⟨h1, h2 | ⟨g, cap', cur, hv, hb, hg, hl, hmx, hs, ht⟩⟩ := h
  · omega
  · simp at hv
    obtain ⟨rfl, rfl, rfl⟩ := hv
    have hlen : (xs.take m).length = m := by simp; omega
    refine ⟨by simp, .inr ⟨g, cap, cur, by rw [hlen], hb, hg, by omega, hmx, hs, ?_⟩⟩
    rw [hlen, List.map_take, ← ht, List.take_take]
    congr 1; omega
theorem Sl.caps {w : World} {a : Option Addr} {n cap : Nat} {ys : List Int} (h : Sl w (.slice a n cap) ys) : n = ys.length ∧ n ≤ cap ∧ cap ≤ 9223372036854775807 := by
  obtain ⟨_, _, he, h1, h2, -⟩ := h; simp at he; omega
end Go.Proofs.Ytpedkcpkdacnlaa
