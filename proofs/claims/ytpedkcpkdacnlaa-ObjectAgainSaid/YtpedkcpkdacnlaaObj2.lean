/- Laws and walks that the proof leans on, gathered: Sl, Clone, Queue, Stack, SlOps, Deque, Lists, Rev, Stable, StableOps, HeapRight, Tally, OpRight, ObjPlain, Mem, MemRow. -/
import Derived.Test.YtpedkcpkdacnlaaRows
import Derived.Deep.RegionHeld3
import Derived.Deep.RegionWith
import Derived.Deep.AppendLies
import Derived.RegionTactic
import Derived.Shelf.Spec.SlicesInsertGrow
import Derived.WalkKit
import Derived.Orders
import Derived.KernelRfl
import Derived.Deep.MidRow
import Derived.Deep.Cut
import Derived.BigQuiet
import Derived.StillTailTactics
import Derived.Maps.AppendAt
import Derived.Test.YtpedkcpkdacnlaaObj1
section
namespace Go.Proofs.Ytpedkcpkdacnlaa
open Go.RowKit
theorem block_lt' {w : World} {b o : Nat} {v : Value} (h : w.cell? ⟨b, o, none⟩ = some v) : b < w.heap.size := by
  rcases Nat.lt_or_ge b w.heap.size with h' | h'
  · exact h'
  · simp [World.cell?, Array.getElem?_eq_none h'] at h

/-- The slice value v reads as the list xs. -/
def Sl (w : World) (v : Value) (xs : List Int) : Prop :=
  ∃ a cap, v = .slice a xs.length cap ∧ xs.length ≤ cap ∧ cap ≤ 9223372036854775807 ∧
    ((xs.length = 0 ∧ (a = none → cap = 0)) ∨ ∃ b off, a = some ⟨b, off, none⟩ ∧ b < w.heap.size ∧ ∀ j, j < xs.length → w.cell? ⟨b, off + j, none⟩ = some (.int .i64 (xs.getD j 0)))
/-- The slice value v owns the list xs in a block from base on. -/
def Own (w : World) (base : Nat) (v : Value) (xs : List Int) : Prop := w.ownsRow base 3 1 v xs.length (xs.map (Value.int .i64))

theorem Sl.below {w w' : World} {v : Value} {xs : List Int} (h : Sl w v xs) (k : Below w.heap.size w w') : Sl w' v xs := by
  obtain ⟨a, cap, rfl, h1, h2, h3⟩ := h
  refine ⟨a, cap, rfl, h1, h2, ?_⟩
  rcases h3 with h3 | ⟨b, off, rfl, hb, hc⟩
  · exact .inl h3
  · exact .inr ⟨b, off, rfl, Nat.lt_of_lt_of_le hb k.size, fun j hj => by rw [k.cell (p := ⟨b, off + j, none⟩) hb]; exact hc j hj⟩
theorem Sl.kept {S : Nat → Prop} {w w' : World} {v : Value} {xs : List Int} (h : Sl w v xs) (k : Kept S w w') (hv : ∀ a n c, v = .slice (some a) n c → ¬ S a.block) : Sl w' v xs := by
  obtain ⟨a, cap, rfl, h1, h2, h3⟩ := h
  refine ⟨a, cap, rfl, h1, h2, ?_⟩
  rcases h3 with h3 | ⟨b, off, rfl, hb, hc⟩
  · exact .inl h3
  · exact .inr ⟨b, off, rfl, Nat.lt_of_lt_of_le hb k.size, fun j hj => by rw [k.cell hb (hv _ _ _ rfl)]; exact hc j hj⟩
theorem Own.sl {w : World} {base : Nat} {v : Value} {xs : List Int} (h : Own w base v xs) : Sl w v xs := by
  obtain ⟨h1, h2 | ⟨g, cap, cur, rfl, hb, hg, hl, hm, hs, ht⟩⟩ := h
  · exact ⟨none, 0, by rw [h2.1, h2.2], by omega, by omega, .inl ⟨h2.2, fun _ => rfl⟩⟩
  · unfold maxLen at hm
    refine ⟨some ⟨g, 0, none⟩, cap, rfl, hl, by omega, .inr ⟨g, 0, rfl, (Array.getElem?_eq_some_iff.1 hg).1, fun j hj => ?_⟩⟩
    simp only [World.cell?, hg, Nat.zero_add, Option.isSome_none, Bool.false_eq_true, if_false]
    have e : cur.toList[j]? = (xs.map (Value.int .i64))[j]? := by rw [← ht, List.getElem?_take, if_pos (by omega)]
    rw [← Array.getElem?_toList, e, List.getElem?_map, List.getElem?_eq_getElem hj, List.getD_eq_getElem?_getD, List.getElem?_eq_getElem hj]; rfl
theorem Own.below {w w' : World} {base : Nat} {v : Value} {xs : List Int} (h : Own w base v xs) (k : Below w.heap.size w w') : Own w' base v xs := by
  obtain ⟨h1, h2 | ⟨g, cap, cur, rfl, hb, hg, r⟩⟩ := h
  · exact ⟨h1, .inl h2⟩
  · exact ⟨h1, .inr ⟨g, cap, cur, rfl, hb, by rw [k.block g (Array.getElem?_eq_some_iff.1 hg).1]; exact hg, r⟩⟩
theorem Own.mono {w : World} {base base' : Nat} {v : Value} {xs : List Int} (h : Own w base v xs) (hb : base' ≤ base) : Own w base' v xs := by
  obtain ⟨h1, h2 | ⟨g, cap, cur, hv, hb', r⟩⟩ := h
  · exact ⟨h1, .inl h2⟩
  · exact ⟨h1, .inr ⟨g, cap, cur, hv, Nat.le_trans hb hb', r⟩⟩
theorem Own.nil (w : World) (base : Nat) : Own w base (.slice none 0 0) [] := ⟨by simp, .inl ⟨rfl, rfl⟩⟩
theorem Own.set {w : World} {base : Nat} {g n cap : Nat} {off : Nat} {xs : List Int} (h : Own w base (.slice (some ⟨g, off, none⟩) n cap) xs) (j : Nat) (x : Int) :
    Own (w.setCell ⟨g, off + j, none⟩ (.int .i64 x)) base (.slice (some ⟨g, off, none⟩) n cap) (xs.set j x) := by
  obtain ⟨h1, h2 | ⟨g', cap', cur, hv, hb, hg, hl, hm, hs, ht⟩⟩ := h
  · simp at h2
  · simp at hv
    obtain ⟨⟨rfl, rfl⟩, rfl, rfl⟩ := hv
    refine ⟨by simp, .inr ⟨g, cap, cur.setIfInBounds j (.int .i64 x), by simp, hb, ?_, by simpa using hl, hm, by simpa using hs, ?_⟩⟩
    · simp [World.setCell, Array.getElem?_modify, hg]
    · rw [Array.toList_setIfInBounds, List.length_set, List.take_set, ht, List.map_set]
theorem Own.len {w : World} {base : Nat} {a : Option Addr} {n cap : Nat} {xs : List Int} (h : Own w base (.slice a n cap) xs) : n = xs.length := by
  obtain ⟨a', cap', hv, -⟩ := h.sl
  simp at hv; exact hv.2.1
theorem Sl.slice {w : World} {v : Value} {xs : List Int} (h : Sl w v xs) : ∃ a cap, v = .slice a xs.length cap := by
  obtain ⟨a, cap, h, -⟩ := h; exact ⟨a, cap, h⟩
/-- What stands behind the first element. -/
theorem Sl.tail {w : World} {b off cap : Nat} {xs : List Int} (h : Sl w (.slice (some ⟨b, off, none⟩) xs.length cap) xs) (hx : 0 < xs.length) :
    Sl w (.slice (if cap = 1 then some ⟨b, off, none⟩ else some ⟨b, off + 1, none⟩) (xs.length - 1) (cap - 1)) xs.tail := by
  obtain ⟨a, c, he, h1, h2, h3⟩ := h
  simp at he
  obtain ⟨rfl, rfl⟩ := he
  rcases h3 with h3 | ⟨b', off', ha, hb, hc⟩
  · omega
  · simp at ha
    obtain ⟨rfl, rfl⟩ := ha
    by_cases hcap : cap = 1
    · subst hcap
      exact ⟨_, _, by rw [List.length_tail], by simp; omega, by omega, .inl ⟨by simp; omega, by simp⟩⟩
    refine ⟨_, _, by rw [List.length_tail], by simp; omega, by omega, .inr ⟨b, off + 1, if_neg hcap, hb, fun j hj => ?_⟩⟩
    have hj' : j + 1 < xs.length := by simp at hj; omega
    have := hc (j + 1) hj'
    rw [show off + 1 + j = off + (j + 1) from by omega, this, List.getD_eq_getElem?_getD, List.getD_eq_getElem?_getD, List.getElem?_tail]
/-- An owned slice that is not empty begins at the head of its block; its cells read, and none is frozen. -/
theorem Own.head {w : World} {base : Nat} {v : Value} {xs : List Int} (h : Own w base v xs) (hx : 0 < xs.length) :
    ∃ g cap, v = .slice (some ⟨g, 0, none⟩) xs.length cap ∧ base ≤ g ∧ g < w.heap.size ∧ cap ≤ 9223372036854775807 ∧ xs.length ≤ cap ∧ (∀ j, j < xs.length → w.cell? ⟨g, 0 + j, none⟩ = some (.int .i64 (xs.getD j 0))) ∧ ∀ j, w.frozen? ⟨g, j, none⟩ = false := by
  have hs := h.sl
  obtain ⟨-, h2 | ⟨g, cap, cur, rfl, hb, hg, hl, hm, r⟩⟩ := h
  · omega
  · obtain ⟨a, c, he, -, -, h3⟩ := hs
    simp at he
    obtain ⟨rfl, rfl⟩ := he
    unfold maxLen at hm
    rcases h3 with h3 | ⟨b', off', ha, hb', hc⟩
    · omega
    · simp at ha
      obtain ⟨rfl, rfl⟩ := ha
      exact ⟨g, cap, rfl, hb, hb', by omega, hl, hc, fun j => by simp [World.frozen?, hg]⟩
theorem Own.block {w : World} {base : Nat} {v : Value} {xs : List Int} (h : Own w base v xs) {k : Nat} (hk : v.ownBlock = some k) : base ≤ k := by
  obtain ⟨-, h2 | ⟨g, cap, cur, rfl, hb, r⟩⟩ := h
  · rw [h2.1] at hk; simp [Value.ownBlock] at hk
  · simp [Value.ownBlock] at hk; omega
theorem Own.kept {S : Nat → Prop} {w w' : World} {base : Nat} {v : Value} {xs : List Int} (h : Own w base v xs) (k : Kept S w w') (hn : ∀ g, v.ownBlock = some g → ¬ S g) : Own w' base v xs := by
  obtain ⟨h1, h2 | ⟨g, cap, cur, rfl, hb, hg, r⟩⟩ := h
  · exact ⟨h1, .inl h2⟩
  · exact ⟨h1, .inr ⟨g, cap, cur, rfl, hb, by rw [k.block g (Array.getElem?_eq_some_iff.1 hg).1 (hn g rfl)]; exact hg, r⟩⟩
/-- A store below the base leaves what is owned. -/
theorem Own.store {w : World} {base : Nat} {v : Value} {xs : List Int} (h : Own w base v xs) {p : Addr} (hp : p.block < base) (u : Value) : Own (w.setCell p u) base v xs :=
  ownsRow_setCell_below h hp u
theorem Sl.take {w : World} {a : Option Addr} {n cap : Nat} {ys : List Int} (h : Sl w (.slice a n cap) ys) (m : Nat) (hm : m ≤ ys.length) : Sl w (.slice a m cap) (ys.take m) := by
  obtain ⟨a', c, he, h1, h2, h3⟩ := h
  simp at he
  obtain ⟨rfl, rfl, rfl⟩ := he
  have hl : (ys.take m).length = m := by simp; omega
  refine ⟨a, cap, by rw [hl], by omega, h2, ?_⟩
  rcases h3 with h3 | ⟨b, off, rfl, hb, hc⟩
  · exact .inl ⟨by omega, h3.2⟩
  · refine .inr ⟨b, off, rfl, hb, fun j hj => ?_⟩
    rw [hc j (by omega), List.getD_eq_getElem?_getD, List.getD_eq_getElem?_getD, List.getElem?_take, if_pos (by omega)]
theorem Own.take {w : World} {base : Nat} {a : Option Addr} {n cap : Nat} {xs : List Int} (h : Own w base (.slice a n cap) xs) (hx : 0 < xs.length) (m : Nat) (hm : m ≤ xs.length) : Own w base (.slice a m cap) (xs.take m) := by
  obtain ⟨h1, h2 | ⟨g, cap', cur, hv, hb, hg, hl, hmx, hs, ht⟩⟩ := h
  · omega
  · simp at hv
    obtain ⟨rfl, rfl, rfl⟩ := hv
    have hlen : (xs.take m).length = m := by simp; omega
    refine ⟨by simp, .inr ⟨g, cap, cur, by rw [hlen], hb, hg, by omega, hmx, hs, ?_⟩⟩
    rw [hlen, List.map_take, ← ht, List.take_take]
    congr 1; omega
theorem Sl.caps {w : World} {a : Option Addr} {n cap : Nat} {ys : List Int} (h : Sl w (.slice a n cap) ys) : n = ys.length ∧ n ≤ cap ∧ cap ≤ 9223372036854775807 := by
  obtain ⟨_, _, he, h1, h2, -⟩ := h; simp at he; omega
end Go.Proofs.Ytpedkcpkdacnlaa
end
section
namespace Go.Proofs.Ytpedkcpkdacnlaa
open Go.RowKit
theorem below_drewN (w : World) (q : Nat) : Below w.heap.size w (w.drewN q) := ⟨rfl, rfl, rfl, Nat.le_refl _, fun _ _ => rfl⟩
theorem clone_any (w : World) (v : Value) (xs : List Int) (h : Sl w v xs) (hx : xs.length ≤ 1000) :
    Calls Try.prog 25 #[v] w fun e w' => ∃ v', e = .returned v' ∧ Own w' w.heap.size v' xs ∧ Below w.heap.size w w' := by
  obtain ⟨a, cap, rfl, h1, h2, h3⟩ := h
  rcases a with _ | a
  · have hx0 : xs.length = 0 := by
      rcases h3 with h3 | ⟨b, off, h, -⟩
      · exact h3.1
      · cases h
    obtain rfl : xs = [] := List.length_eq_zero_iff.1 hx0
    exact (Try.slices_Clone_int_nil _ _ w).mono fun e w' ⟨he, hw⟩ => ⟨_, he, by rw [hw]; exact Own.nil _ _, by rw [hw]; exact Below.refl _ _⟩
  · rcases h3 with ⟨hx0, -⟩ | ⟨b, off, ha, hb, hc⟩
    · obtain rfl : xs = [] := List.length_eq_zero_iff.1 hx0
      exact (Try.slices_Clone_int_zero a cap w).mono fun e w' ⟨v', he, ho, _, hbw⟩ => ⟨v', he, ho, hbw⟩
    · obtain rfl : a = ⟨b, off, none⟩ := by simpa using ha
      refine (Try.slices_Clone_int b off xs.length cap xs w (Nat.le_refl _) (by omega) hc).mono fun e w' ⟨v', he, ho, _, hbw⟩ => ⟨v', he, ?_, hbw⟩
      rwa [List.take_length] at ho
theorem equal_any (w : World) (v u : Value) (xs ys : List Int) (h : Sl w v xs) (k : Sl w u ys) (hx : xs.length ≤ 1000) (hy : ys.length ≤ 1000) :
    Calls Try.prog 21 #[v, u] w fun e w' => e = .returned (.bool (decide (xs = ys))) ∧ Below w.heap.size w w' := by
  obtain ⟨a, cap, rfl, h1, h2, h3⟩ := h
  obtain ⟨a', cap', rfl, k1, k2, k3⟩ := k
  by_cases hl : xs.length = ys.length
  · by_cases h0 : xs.length = 0
    · obtain rfl : xs = [] := List.length_eq_zero_iff.1 h0
      obtain rfl : ys = [] := List.length_eq_zero_iff.1 (by omega)
      refine (Try.slices_Equal_int_empty a a' cap _ cap' w (by simp)).mono fun e w' ⟨he, hw⟩ => ?_
      rw [hw]
      exact ⟨by rw [he]; simp, Below.refl _ _⟩
    · rcases h3 with h3 | ⟨b, off, rfl, hb, hc⟩
      · omega
      rcases k3 with k3 | ⟨b', off', rfl, hb', hc'⟩
      · omega
      refine (Try.slices_Equal_int b off _ cap b' off' _ cap' xs ys w (Nat.le_refl _) (Nat.le_refl _) (by omega) (by omega) hc hc').mono fun e w' ⟨he, q, hw⟩ => ?_
      rw [hw, he]
      refine ⟨?_, below_drewN w q⟩
      rw [List.take_length, List.take_length, Bool.beq_eq_decide_eq]
  · refine (Try.slices_Equal_int_lens _ _ _ _ _ _ w hl).mono fun e w' ⟨he, hw⟩ => ?_
    rw [hw, he]
    have : xs ≠ ys := by rintro rfl; exact hl rfl
    exact ⟨by simp [this], Below.refl _ _⟩
theorem equal_yes (w : World) (v u : Value) (xs ys : List Int) (h : Sl w v xs) (k : Sl w u ys) (e : xs = ys) (hx : xs.length ≤ 1000) :
    Calls Try.prog 21 #[v, u] w fun e w' => e = .returned (.bool true) ∧ Below w.heap.size w w' := by
  subst e
  exact (equal_any w v u xs xs h k hx hx).mono fun e w' ⟨he, hb⟩ => ⟨by rw [he]; simp, hb⟩
end Go.Proofs.Ytpedkcpkdacnlaa
end
section
namespace Go.Proofs.Ytpedkcpkdacnlaa
open Go.RowKit
theorem infoInt : (Try.prog.info? 3).map (fun i => (i.zero, i.size, i.bytes)) = some (some (.int .i64 0), 1, 8) := by kernel_rfl

set_option maxRecDepth 20000 in
set_option maxHeartbeats 1000000 in
theorem queue_put (w : World) (v : Value) (xs : List Int) (key x : Int) (h : Sl w v xs) (hx : xs.length < 6) :
    Calls Try.prog 32 #[v, .agg #[.int .i64 1, .int .i64 key, .int .i64 x]] w fun e w' =>
      ∃ v', e = .returned (.tuple #[v', .agg #[.int .i64 1, .int .i64 0]]) ∧ Own w' w.heap.size v' (xs ++ [x]) ∧ Below w.heap.size w w' := by
  obtain ⟨i0, hi0, hz0, hz1, hz2⟩ := info_parts infoInt
  obtain ⟨a, cap, rfl⟩ := h.slice
  have HS := Lib.hid h
  clear h
  go_enter Try.func32, Try.ntmps32
  go_wp2_with fail
  have B0 : Below w.heap.size w ((w.alloc (Obj.cells #[.int .i64 1, .int .i64 key, .int .i64 x] 30)).alloc (Obj.cells #[.int .i64 0, .int .i64 0] 26)) := balloc (balloc (Below.refl _ w) _) _
  have z0 : ((w.alloc (Obj.cells #[.int .i64 1, .int .i64 key, .int .i64 x] 30)).alloc (Obj.cells #[.int .i64 0, .int .i64 0] 26)).heap.size = w.heap.size + 2 := by simp
  have c2 : ((w.alloc (Obj.cells #[.int .i64 1, .int .i64 key, .int .i64 x] 30)).alloc (Obj.cells #[.int .i64 0, .int .i64 0] 26)).cell? ⟨w.heap.size, 2, none⟩ = some (.int .i64 x) := by go_simp
  have cA : Blk ((w.alloc (Obj.cells #[.int .i64 1, .int .i64 key, .int .i64 x] 30)).alloc (Obj.cells #[.int .i64 0, .int .i64 0] 26)) (w.heap.size + 1) [.int .i64 0, .int .i64 0] 26 := by
    have := Blk.new (w.alloc (Obj.cells #[.int .i64 1, .int .i64 key, .int .i64 x] 30)) [.int .i64 0, .int .i64 0] 26
    simpa using this
  have hS0 := HS.out.below B0
  generalize ((w.alloc (Obj.cells #[.int .i64 1, .int .i64 key, .int .i64 x] 30)).alloc (Obj.cells #[.int .i64 0, .int .i64 0] 26)) = w0 at *
  have HS0 := Lib.hid hS0; have HA := Lib.hid cA; have HZ := Lib.hid z0
  clear hS0 cA HS z0
  have zz : w.heap.size < w0.heap.size := by have := HZ.out; omega
  have zz1 : w.heap.size + 1 < w0.heap.size := by have := HZ.out; omega
  go_region_held3 (fun w' => w'.cell? ⟨w.heap.size, 2, none⟩ = some (.int .i64 x))
    (first | exact k3 | exact k4 | go_keep)
    (first
      | (go_at_call 25; have bw : Below w0.heap.size w0 w0.drew := (Below.refl _ _).drew; refine (clone_any _ _ xs (HS0.out.below bw) (by omega)).mono ?_; rintro e w3 ⟨v3, rfl, ho', hb3⟩; have hb03 : Below w0.heap.size w0 w3 := bcall bw hb3; have ho : Own w3 w0.heap.size v3 xs := ho'.mono bw.size; have k3 : w3.cell? ⟨w.heap.size, 2, none⟩ = some (.int .i64 x) := (hb03.cell (p := ⟨w.heap.size, 2, none⟩) zz).trans c2)
      | (go_at_call 25; have bw : Below w0.heap.size w0 (w0.alloc (Obj.cells #[.int .i64 x] 3)).drew := ((Below.refl _ _).alloc (Nat.le_refl _) _).drew; refine (clone_any _ _ xs (HS0.out.below bw) (by omega)).mono ?_; rintro e w3 ⟨v3, rfl, ho', hb3⟩; have hb03 : Below w0.heap.size w0 w3 := bcall bw hb3; have ho : Own w3 w0.heap.size v3 xs := ho'.mono bw.size; have hN : w3.heap[w0.heap.size]? = some (.cells #[.int .i64 x] 3 (0, 0)) := (hb3.block w0.heap.size (by simp)).trans (heap_alloc_new w0 _); have k3 : w3.cell? ⟨w.heap.size, 2, none⟩ = some (.int .i64 x) := (hb03.cell (p := ⟨w.heap.size, 2, none⟩) zz).trans c2)
      | (refine step_append_lies _ (by rfl) _ _ _ (by rfl) w0.heap.size 3 i0 _ 1 8 Try.underlying22 hi0 hz0 hz1 hz2 rfl (by omega) _ _ _ (by rfl) (World.ownsRow.alloc ho _) ⟨w3.heap.size, 0, none⟩ 1 1 [.int .i64 x] (by rfl) (by rfl) (World.news_of_block (cs := #[.int .i64 x]) (t := 3) (fr := (0, 0)) (heap_alloc_new w3 _)) (by simp [Value.oneCell']) (by omega) (by unfold maxLen; omega) (by omega) (by have := hb03.size; simp; omega) (w3.heap.size + 1) (by simp) ?_; intro gg cap4 w4 hown4 hgrow4 hat4 hlt4; have hb4 := (Below.refl w0.heap.size _).grown hgrow4 (by have := hb03.size; simp; omega) (fun k hk => ho.block hk); have hb04 := (hb03.alloc hb03.size (.cells #[.int .i64 x] 3)).trans hb4; have k4 : w4.cell? ⟨w.heap.size, 2, none⟩ = some (.int .i64 x) := (hb04.cell (p := ⟨w.heap.size, 2, none⟩) zz).trans c2; have HA4 := Lib.hid (HA.out.belowB hb04 zz1); have cA0 : w4.cell? ⟨w.heap.size + 1, 0, none⟩ = some (.int .i64 0) := HA4.out.cell 0; have cA1 : w4.cell? ⟨w.heap.size + 1, 1, none⟩ = some (.int .i64 0) := HA4.out.cell 1; have fA0 := HA4.out.frozen 0; have fA1 := HA4.out.frozen 1)
      | (refine step_append_lies _ (by rfl) _ _ _ (by rfl) w0.heap.size 3 i0 _ 1 8 Try.underlying22 hi0 hz0 hz1 hz2 rfl (by omega) _ _ _ (by rfl) ho ⟨w0.heap.size, 0, none⟩ 1 1 [.int .i64 x] (by rfl) (by rfl) (World.news_of_block (cs := #[.int .i64 x]) (t := 3) (fr := (0, 0)) hN) (by simp [Value.oneCell']) (by omega) (by unfold maxLen; omega) (by omega) hb03.size w3.heap.size (by rfl) ?_; intro gg cap4 w4 hown4 hgrow4 hat4 hlt4; have hb4 := (Below.refl w0.heap.size _).grown hgrow4 hb03.size (fun k hk => ho.block hk); have hb04 := hb03.trans hb4; have k4 : w4.cell? ⟨w.heap.size, 2, none⟩ = some (.int .i64 x) := (hb04.cell (p := ⟨w.heap.size, 2, none⟩) zz).trans c2; have HA4 := Lib.hid (HA.out.belowB hb04 zz1); have cA0 : w4.cell? ⟨w.heap.size + 1, 0, none⟩ = some (.int .i64 0) := HA4.out.cell 0; have cA1 : w4.cell? ⟨w.heap.size + 1, 1, none⟩ = some (.int .i64 0) := HA4.out.cell 1; have fA0 := HA4.out.frozen 0; have fA1 := HA4.out.frozen 1))
  all_goals
    have ho5 : Own w4 w0.heap.size (.slice (some ⟨gg, 0, none⟩) (xs.length + 1) cap4) (xs ++ [x]) := by
      unfold Own; rw [List.length_append, List.map_append]; exact hown4
    have ho6 := ((ho5.store (p := ⟨w.heap.size + 1, 0, none⟩) zz1 (.int .i64 1)).store (p := ⟨w.heap.size + 1, 1, none⟩) zz1 (.int .i64 0)).mono B0.size
    have hb6 := bstore (bstore (B0.trans (hb04.mono B0.size)) (p := ⟨w.heap.size + 1, 0, none⟩) (Nat.le_succ _) (.int .i64 1)) (p := ⟨w.heap.size + 1, 1, none⟩) (Nat.le_succ _) (.int .i64 0)
    have HA6 := HA4.out.pair (u := .int .i64 1) (v := .int .i64 0)
    generalize (w4.setCell ⟨w.heap.size + 1, 0, none⟩ (.int .i64 1)).setCell ⟨w.heap.size + 1, 1, none⟩ (.int .i64 0) = w6 at *
    have d0 : w6.cell? ⟨w.heap.size + 1, 0, none⟩ = some (.int .i64 1) := HA6.cell 0
    have d1 : w6.cell? ⟨w.heap.size + 1, 1, none⟩ = some (.int .i64 0) := HA6.cell 1
    clear cA0 cA1 fA0 fA1 HA6
    go_wp2_with fail
    exact bodyPost_ret (v := .tuple #[.slice (some ⟨gg, 0, none⟩) (xs.length + 1) cap4, .agg #[.int .i64 1, .int .i64 0]]) (by simp [results, Try.results32, go_sem, d0, d1]) rfl ⟨_, rfl, ho6, hb6⟩
set_option maxRecDepth 20000 in
set_option maxHeartbeats 1000000 in
theorem queue_put_full (w : World) (v : Value) (xs : List Int) (key x : Int) (h : Sl w v xs) (hx : 6 ≤ xs.length) (hx2 : xs.length ≤ 1000) :
    Calls Try.prog 32 #[v, .agg #[.int .i64 1, .int .i64 key, .int .i64 x]] w fun e w' =>
      ∃ v', e = .returned (.tuple #[v', .agg #[.int .i64 3, .int .i64 0]]) ∧ Own w' w.heap.size v' (xs) ∧ Below w.heap.size w w' := by
  obtain ⟨a, cap, rfl⟩ := h.slice
  have HS := Lib.hid h
  clear h
  go_enter Try.func32, Try.ntmps32
  go_wp2_with fail
  have B0 : Below w.heap.size w ((w.alloc (Obj.cells #[.int .i64 1, .int .i64 key, .int .i64 x] 30)).alloc (Obj.cells #[.int .i64 0, .int .i64 0] 26)) := balloc (balloc (Below.refl _ w) _) _
  have z0 : ((w.alloc (Obj.cells #[.int .i64 1, .int .i64 key, .int .i64 x] 30)).alloc (Obj.cells #[.int .i64 0, .int .i64 0] 26)).heap.size = w.heap.size + 2 := by simp
  have c0 : ((w.alloc (Obj.cells #[.int .i64 1, .int .i64 key, .int .i64 x] 30)).alloc (Obj.cells #[.int .i64 0, .int .i64 0] 26)).cell? ⟨w.heap.size, 0, none⟩ = some (.int .i64 1) := by go_simp
  have cA : Blk ((w.alloc (Obj.cells #[.int .i64 1, .int .i64 key, .int .i64 x] 30)).alloc (Obj.cells #[.int .i64 0, .int .i64 0] 26)) (w.heap.size + 1) [.int .i64 0, .int .i64 0] 26 := by
    have := Blk.new (w.alloc (Obj.cells #[.int .i64 1, .int .i64 key, .int .i64 x] 30)) [.int .i64 0, .int .i64 0] 26
    simpa using this
  have hS0 := HS.out.below B0
  generalize ((w.alloc (Obj.cells #[.int .i64 1, .int .i64 key, .int .i64 x] 30)).alloc (Obj.cells #[.int .i64 0, .int .i64 0] 26)) = w0 at *
  have HS0 := Lib.hid hS0; have HA := Lib.hid cA; have HZ := Lib.hid z0
  clear hS0 cA HS z0
  have zz : w.heap.size < w0.heap.size := by have := HZ.out; omega
  have zz1 : w.heap.size + 1 < w0.heap.size := by have := HZ.out; omega
  refine (clone_any _ _ xs HS0.out (by omega)).mono ?_
  rintro e w3 ⟨v3, rfl, ho', hb3⟩
  have ho : Own w3 w0.heap.size v3 xs := ho'
  have hb03 : Below w0.heap.size w0 w3 := hb3
  have HA3 := HA.out.belowB hb03 zz1
  have cA0 : w3.cell? ⟨w.heap.size + 1, 0, none⟩ = some (.int .i64 0) := HA3.cell 0
  have cA1 : w3.cell? ⟨w.heap.size + 1, 1, none⟩ = some (.int .i64 0) := HA3.cell 1
  have fA0 := HA3.frozen 0
  have fA1 := HA3.frozen 1
  go_wp2_with fail
  have ho6 := ((ho.store (p := ⟨w.heap.size + 1, 0, none⟩) zz1 (.int .i64 3)).store (p := ⟨w.heap.size + 1, 1, none⟩) zz1 (.int .i64 0)).mono B0.size
  have hb6 := bstore (bstore (B0.trans (hb03.mono B0.size)) (p := ⟨w.heap.size + 1, 0, none⟩) (Nat.le_succ _) (.int .i64 3)) (p := ⟨w.heap.size + 1, 1, none⟩) (Nat.le_succ _) (.int .i64 0)
  have HA6 := HA3.pair (u := .int .i64 3) (v := .int .i64 0)
  generalize (w3.setCell ⟨w.heap.size + 1, 0, none⟩ (.int .i64 3)).setCell ⟨w.heap.size + 1, 1, none⟩ (.int .i64 0) = w6 at *
  have d0 : w6.cell? ⟨w.heap.size + 1, 0, none⟩ = some (.int .i64 3) := HA6.cell 0
  have d1 : w6.cell? ⟨w.heap.size + 1, 1, none⟩ = some (.int .i64 0) := HA6.cell 1
  clear cA0 cA1 fA0 fA1 HA6 HA3
  go_wp2_with fail
  exact bodyPost_ret (v := .tuple #[v3, .agg #[.int .i64 3, .int .i64 0]]) (by simp [results, Try.results32, go_sem, d0, d1]) rfl ⟨_, rfl, ho6, hb6⟩
set_option maxRecDepth 20000 in
set_option maxHeartbeats 1000000 in
theorem queue_count (w : World) (v : Value) (xs : List Int) (key x : Int) (h : Sl w v xs) (hx2 : xs.length ≤ 1000) :
    Calls Try.prog 32 #[v, .agg #[.int .i64 6, .int .i64 key, .int .i64 x]] w fun e w' =>
      ∃ v', e = .returned (.tuple #[v', .agg #[.int .i64 1, .int .i64 xs.length]]) ∧ Own w' w.heap.size v' (xs) ∧ Below w.heap.size w w' := by
  obtain ⟨a, cap, rfl⟩ := h.slice
  have HS := Lib.hid h
  clear h
  go_enter Try.func32, Try.ntmps32
  go_wp2_with fail
  have B0 : Below w.heap.size w ((w.alloc (Obj.cells #[.int .i64 6, .int .i64 key, .int .i64 x] 30)).alloc (Obj.cells #[.int .i64 0, .int .i64 0] 26)) := balloc (balloc (Below.refl _ w) _) _
  have z0 : ((w.alloc (Obj.cells #[.int .i64 6, .int .i64 key, .int .i64 x] 30)).alloc (Obj.cells #[.int .i64 0, .int .i64 0] 26)).heap.size = w.heap.size + 2 := by simp
  have c0 : ((w.alloc (Obj.cells #[.int .i64 6, .int .i64 key, .int .i64 x] 30)).alloc (Obj.cells #[.int .i64 0, .int .i64 0] 26)).cell? ⟨w.heap.size, 0, none⟩ = some (.int .i64 6) := by go_simp
  have cA : Blk ((w.alloc (Obj.cells #[.int .i64 6, .int .i64 key, .int .i64 x] 30)).alloc (Obj.cells #[.int .i64 0, .int .i64 0] 26)) (w.heap.size + 1) [.int .i64 0, .int .i64 0] 26 := by
    have := Blk.new (w.alloc (Obj.cells #[.int .i64 6, .int .i64 key, .int .i64 x] 30)) [.int .i64 0, .int .i64 0] 26
    simpa using this
  have hS0 := HS.out.below B0
  generalize ((w.alloc (Obj.cells #[.int .i64 6, .int .i64 key, .int .i64 x] 30)).alloc (Obj.cells #[.int .i64 0, .int .i64 0] 26)) = w0 at *
  have HS0 := Lib.hid hS0; have HA := Lib.hid cA; have HZ := Lib.hid z0
  clear hS0 cA HS z0
  have zz : w.heap.size < w0.heap.size := by have := HZ.out; omega
  have zz1 : w.heap.size + 1 < w0.heap.size := by have := HZ.out; omega
  refine (clone_any _ _ xs HS0.out (by omega)).mono ?_
  rintro e w3 ⟨v3, rfl, ho', hb3⟩
  have ho : Own w3 w0.heap.size v3 xs := ho'
  have hb03 : Below w0.heap.size w0 w3 := hb3
  have HA3 := HA.out.belowB hb03 zz1
  have cA0 : w3.cell? ⟨w.heap.size + 1, 0, none⟩ = some (.int .i64 0) := HA3.cell 0
  have cA1 : w3.cell? ⟨w.heap.size + 1, 1, none⟩ = some (.int .i64 0) := HA3.cell 1
  have fA0 := HA3.frozen 0
  have fA1 := HA3.frozen 1
  go_wp2_with fail
  have ho6 := ((ho.store (p := ⟨w.heap.size + 1, 0, none⟩) zz1 (.int .i64 1)).store (p := ⟨w.heap.size + 1, 1, none⟩) zz1 (.int .i64 xs.length)).mono B0.size
  have hb6 := bstore (bstore (B0.trans (hb03.mono B0.size)) (p := ⟨w.heap.size + 1, 0, none⟩) (Nat.le_succ _) (.int .i64 1)) (p := ⟨w.heap.size + 1, 1, none⟩) (Nat.le_succ _) (.int .i64 xs.length)
  have HA6 := HA3.pair (u := .int .i64 1) (v := .int .i64 xs.length)
  generalize (w3.setCell ⟨w.heap.size + 1, 0, none⟩ (.int .i64 1)).setCell ⟨w.heap.size + 1, 1, none⟩ (.int .i64 xs.length) = w6 at *
  have d0 : w6.cell? ⟨w.heap.size + 1, 0, none⟩ = some (.int .i64 1) := HA6.cell 0
  have d1 : w6.cell? ⟨w.heap.size + 1, 1, none⟩ = some (.int .i64 xs.length) := HA6.cell 1
  clear cA0 cA1 fA0 fA1 HA6 HA3
  go_wp2_with fail
  exact bodyPost_ret (v := .tuple #[v3, .agg #[.int .i64 1, .int .i64 xs.length]]) (by simp [results, Try.results32, go_sem, d0, d1]) rfl ⟨_, rfl, ho6, hb6⟩
set_option maxRecDepth 20000 in
set_option maxHeartbeats 1000000 in
theorem queue_wrong (w : World) (v : Value) (xs : List Int) (k key x : Int) (h : Sl w v xs) (k1 : k ≠ 1) (k2 : k ≠ 2) (k5 : k ≠ 5) (k6 : k ≠ 6) (hx2 : xs.length ≤ 1000) :
    Calls Try.prog 32 #[v, .agg #[.int .i64 k, .int .i64 key, .int .i64 x]] w fun e w' =>
      ∃ v', e = .returned (.tuple #[v', .agg #[.int .i64 5, .int .i64 0]]) ∧ Own w' w.heap.size v' (xs) ∧ Below w.heap.size w w' := by
  obtain ⟨a, cap, rfl⟩ := h.slice
  have q1 : (k == 1) = false := by simpa using k1
  have q2 : (k == 2) = false := by simpa using k2
  have q5 : (k == 5) = false := by simpa using k5
  have q6 : (k == 6) = false := by simpa using k6
  clear k1 k2 k5 k6
  have HS := Lib.hid h
  clear h
  go_enter Try.func32, Try.ntmps32
  go_wp2_with fail
  have B0 : Below w.heap.size w ((w.alloc (Obj.cells #[.int .i64 k, .int .i64 key, .int .i64 x] 30)).alloc (Obj.cells #[.int .i64 0, .int .i64 0] 26)) := balloc (balloc (Below.refl _ w) _) _
  have z0 : ((w.alloc (Obj.cells #[.int .i64 k, .int .i64 key, .int .i64 x] 30)).alloc (Obj.cells #[.int .i64 0, .int .i64 0] 26)).heap.size = w.heap.size + 2 := by simp
  have c0 : ((w.alloc (Obj.cells #[.int .i64 k, .int .i64 key, .int .i64 x] 30)).alloc (Obj.cells #[.int .i64 0, .int .i64 0] 26)).cell? ⟨w.heap.size, 0, none⟩ = some (.int .i64 k) := by go_simp
  have cA : Blk ((w.alloc (Obj.cells #[.int .i64 k, .int .i64 key, .int .i64 x] 30)).alloc (Obj.cells #[.int .i64 0, .int .i64 0] 26)) (w.heap.size + 1) [.int .i64 0, .int .i64 0] 26 := by
    have := Blk.new (w.alloc (Obj.cells #[.int .i64 k, .int .i64 key, .int .i64 x] 30)) [.int .i64 0, .int .i64 0] 26
    simpa using this
  have hS0 := HS.out.below B0
  generalize ((w.alloc (Obj.cells #[.int .i64 k, .int .i64 key, .int .i64 x] 30)).alloc (Obj.cells #[.int .i64 0, .int .i64 0] 26)) = w0 at *
  have HS0 := Lib.hid hS0; have HA := Lib.hid cA; have HZ := Lib.hid z0
  clear hS0 cA HS z0
  have zz : w.heap.size < w0.heap.size := by have := HZ.out; omega
  have zz1 : w.heap.size + 1 < w0.heap.size := by have := HZ.out; omega
  refine (clone_any _ _ xs HS0.out (by omega)).mono ?_
  rintro e w3 ⟨v3, rfl, ho', hb3⟩
  have ho : Own w3 w0.heap.size v3 xs := ho'
  have hb03 : Below w0.heap.size w0 w3 := hb3
  have HA3 := HA.out.belowB hb03 zz1
  have cA0 : w3.cell? ⟨w.heap.size + 1, 0, none⟩ = some (.int .i64 0) := HA3.cell 0
  have cA1 : w3.cell? ⟨w.heap.size + 1, 1, none⟩ = some (.int .i64 0) := HA3.cell 1
  have fA0 := HA3.frozen 0
  have fA1 := HA3.frozen 1
  go_wp2_with fail
  have ho6 := ((ho.store (p := ⟨w.heap.size + 1, 0, none⟩) zz1 (.int .i64 5)).store (p := ⟨w.heap.size + 1, 1, none⟩) zz1 (.int .i64 0)).mono B0.size
  have hb6 := bstore (bstore (B0.trans (hb03.mono B0.size)) (p := ⟨w.heap.size + 1, 0, none⟩) (Nat.le_succ _) (.int .i64 5)) (p := ⟨w.heap.size + 1, 1, none⟩) (Nat.le_succ _) (.int .i64 0)
  have HA6 := HA3.pair (u := .int .i64 5) (v := .int .i64 0)
  generalize (w3.setCell ⟨w.heap.size + 1, 0, none⟩ (.int .i64 5)).setCell ⟨w.heap.size + 1, 1, none⟩ (.int .i64 0) = w6 at *
  have d0 : w6.cell? ⟨w.heap.size + 1, 0, none⟩ = some (.int .i64 5) := HA6.cell 0
  have d1 : w6.cell? ⟨w.heap.size + 1, 1, none⟩ = some (.int .i64 0) := HA6.cell 1
  clear cA0 cA1 fA0 fA1 HA6 HA3
  go_wp2_with fail
  exact bodyPost_ret (v := .tuple #[v3, .agg #[.int .i64 5, .int .i64 0]]) (by simp [results, Try.results32, go_sem, d0, d1]) rfl ⟨_, rfl, ho6, hb6⟩
set_option maxRecDepth 20000 in
set_option maxHeartbeats 1000000 in
theorem queue_take_nil (w : World) (v : Value) (xs : List Int) (key x : Int) (h : Sl w v xs) (hx : xs = []) :
    Calls Try.prog 32 #[v, .agg #[.int .i64 2, .int .i64 key, .int .i64 x]] w fun e w' =>
      ∃ v', e = .returned (.tuple #[v', .agg #[.int .i64 2, .int .i64 0]]) ∧ Own w' w.heap.size v' ([]) ∧ Below w.heap.size w w' := by
  obtain ⟨a, cap, rfl⟩ := h.slice
  have hl : xs.length = 0 := by rw [hx]; rfl
  clear hx
  have HS := Lib.hid h
  clear h
  have hl0 : ((xs.length : Int) == 0) = true := by simp [hl]
  clear hl
  go_enter Try.func32, Try.ntmps32
  go_wp2_with fail
  exact bodyPost_ret (v := .tuple #[.slice none 0 0, .agg #[.int .i64 2, .int .i64 0]]) (by simp [results, Try.results32, go_sem]) rfl ⟨_, rfl, Own.nil _ _, balloc (balloc (Below.refl _ w) _) _⟩
set_option maxRecDepth 20000 in
set_option maxHeartbeats 1000000 in
theorem queue_peek_nil (w : World) (v : Value) (xs : List Int) (key x : Int) (h : Sl w v xs) (hx : xs = []) :
    Calls Try.prog 32 #[v, .agg #[.int .i64 5, .int .i64 key, .int .i64 x]] w fun e w' =>
      ∃ v', e = .returned (.tuple #[v', .agg #[.int .i64 2, .int .i64 0]]) ∧ Own w' w.heap.size v' ([]) ∧ Below w.heap.size w w' := by
  obtain ⟨a, cap, rfl⟩ := h.slice
  have hl : xs.length = 0 := by rw [hx]; rfl
  clear hx
  have HS := Lib.hid h
  clear h
  have hl0 : ((xs.length : Int) == 0) = true := by simp [hl]
  clear hl
  go_enter Try.func32, Try.ntmps32
  go_wp2_with fail
  exact bodyPost_ret (v := .tuple #[.slice none 0 0, .agg #[.int .i64 2, .int .i64 0]]) (by simp [results, Try.results32, go_sem]) rfl ⟨_, rfl, Own.nil _ _, balloc (balloc (Below.refl _ w) _) _⟩
set_option maxRecDepth 20000 in
set_option maxHeartbeats 1000000 in
theorem queue_peek (w : World) (v : Value) (xs : List Int) (key x : Int) (h : Sl w v xs) (hx : 0 < xs.length) (hx2 : xs.length ≤ 1000) :
    Calls Try.prog 32 #[v, .agg #[.int .i64 5, .int .i64 key, .int .i64 x]] w fun e w' =>
      ∃ v', e = .returned (.tuple #[v', .agg #[.int .i64 1, .int .i64 (xs.getD 0 0)]]) ∧ Own w' w.heap.size v' (xs) ∧ Below w.heap.size w w' := by
  obtain ⟨a, cap, rfl⟩ := h.slice
  have hcap : xs.length ≤ cap ∧ cap ≤ 9223372036854775807 := by obtain ⟨_, _, he, h1, h2, -⟩ := h; simp at he; omega
  obtain ⟨hcap1, hcap2⟩ := hcap
  obtain ⟨b, off, rfl, hb, hc⟩ : ∃ b off, a = some ⟨b, off, none⟩ ∧ b < w.heap.size ∧ w.cell? ⟨b, off, none⟩ = some (.int .i64 (xs.getD 0 0)) := by
    obtain ⟨a', cap', he, h1, h2, h3⟩ := h
    simp at he
    obtain ⟨rfl, rfl⟩ := he
    rcases h3 with h3 | ⟨b, off, rfl, hb, hc⟩
    · omega
    · exact ⟨b, off, rfl, hb, hc 0 hx⟩
  have HS := Lib.hid h
  clear h
  have hl0 : ((xs.length : Int) == 0) = false := beq_eq_false_iff_ne.2 (by omega)
  go_enter Try.func32, Try.ntmps32
  go_wp2_with fail
  have B0 : Below w.heap.size w ((w.alloc (Obj.cells #[.int .i64 5, .int .i64 key, .int .i64 x] 30)).alloc (Obj.cells #[.int .i64 0, .int .i64 0] 26)) := balloc (balloc (Below.refl _ w) _) _
  have z0 : ((w.alloc (Obj.cells #[.int .i64 5, .int .i64 key, .int .i64 x] 30)).alloc (Obj.cells #[.int .i64 0, .int .i64 0] 26)).heap.size = w.heap.size + 2 := by simp
  have c0 : ((w.alloc (Obj.cells #[.int .i64 5, .int .i64 key, .int .i64 x] 30)).alloc (Obj.cells #[.int .i64 0, .int .i64 0] 26)).cell? ⟨w.heap.size, 0, none⟩ = some (.int .i64 5) := by go_simp
  have cA : Blk ((w.alloc (Obj.cells #[.int .i64 5, .int .i64 key, .int .i64 x] 30)).alloc (Obj.cells #[.int .i64 0, .int .i64 0] 26)) (w.heap.size + 1) [.int .i64 0, .int .i64 0] 26 := by
    have := Blk.new (w.alloc (Obj.cells #[.int .i64 5, .int .i64 key, .int .i64 x] 30)) [.int .i64 0, .int .i64 0] 26
    simpa using this
  have hS0 := HS.out.below B0
  have cx := (B0.cell (p := ⟨b, off, none⟩) hb).trans hc
  generalize ((w.alloc (Obj.cells #[.int .i64 5, .int .i64 key, .int .i64 x] 30)).alloc (Obj.cells #[.int .i64 0, .int .i64 0] 26)) = w0 at *
  have HS0 := Lib.hid hS0; have HA := Lib.hid cA; have HZ := Lib.hid z0
  clear hS0 cA HS z0
  have zz : w.heap.size < w0.heap.size := by have := HZ.out; omega
  have zz1 : w.heap.size + 1 < w0.heap.size := by have := HZ.out; omega
  clear hc
  have hbn : b ≠ w.heap.size + 1 := by omega
  generalize hx0 : xs.getD 0 0 = x0 at *
  have HX := Lib.hid hx0
  clear hx0
  go_region_held3 (fun w' => w'.cell? ⟨b, off, none⟩ = some (.int .i64 x0))
    (first | exact k3 | exact k6 _ _ | go_keep)
    (first
      | (go_at_call 25; have bw : Below w0.heap.size w0 w0.drew := (Below.refl _ _).drew; refine (clone_any _ _ xs (HS0.out.below bw) hx2).mono ?_; rintro e w3 ⟨v3, rfl, ho, hb3⟩; have hb03 : Below w0.heap.size w0 w3 := bcall bw hb3; have k3 : w3.cell? ⟨b, off, none⟩ = some (.int .i64 x0) := (hb03.cell (p := ⟨b, off, none⟩) (block_lt' cx)).trans cx; have k6 : ∀ y z, ((w3.setCell ⟨w.heap.size + 1, 0, none⟩ y).setCell ⟨w.heap.size + 1, 1, none⟩ z).cell? ⟨b, off, none⟩ = some (.int .i64 x0) := (fun y z => (cell_setCell_ne _ hbn _).trans ((cell_setCell_ne _ hbn _).trans k3)); have HA3 := HA.out.belowB hb03 zz1; have cA0 : w3.cell? ⟨w.heap.size + 1, 0, none⟩ = some (.int .i64 0) := HA3.cell 0; have cA1 : w3.cell? ⟨w.heap.size + 1, 1, none⟩ = some (.int .i64 0) := HA3.cell 1; have fA0 := HA3.frozen 0; have fA1 := HA3.frozen 1))
  all_goals
    clear k6
    have ho6 := ((ho.store (p := ⟨w.heap.size + 1, 0, none⟩) zz1 (.int .i64 1)).store (p := ⟨w.heap.size + 1, 1, none⟩) zz1 (.int .i64 x0)).mono B0.size
    have hb6 := bstore (bstore (B0.trans (hb03.mono B0.size)) (p := ⟨w.heap.size + 1, 0, none⟩) (Nat.le_succ _) (.int .i64 1)) (p := ⟨w.heap.size + 1, 1, none⟩) (Nat.le_succ _) (.int .i64 x0)
    have HA6 := HA3.pair (u := .int .i64 1) (v := .int .i64 x0)
    generalize (w3.setCell ⟨w.heap.size + 1, 0, none⟩ (.int .i64 1)).setCell ⟨w.heap.size + 1, 1, none⟩ (.int .i64 x0) = w6 at *
    have d0 : w6.cell? ⟨w.heap.size + 1, 0, none⟩ = some (.int .i64 1) := HA6.cell 0
    have d1 : w6.cell? ⟨w.heap.size + 1, 1, none⟩ = some (.int .i64 x0) := HA6.cell 1
    clear cA0 cA1 fA0 fA1 HA6 HA3
    go_wp2_with fail
    exact bodyPost_ret (v := .tuple #[v3, .agg #[.int .i64 1, .int .i64 x0]]) (by simp [results, Try.results32, go_sem, d0, d1]) rfl ⟨v3, by rw [HX.out], ho6, hb6⟩
set_option maxRecDepth 20000 in
set_option maxHeartbeats 1000000 in
theorem queue_take (w : World) (v : Value) (xs : List Int) (key x : Int) (h : Sl w v xs) (hx : 0 < xs.length) (hx2 : xs.length ≤ 1000) :
    Calls Try.prog 32 #[v, .agg #[.int .i64 2, .int .i64 key, .int .i64 x]] w fun e w' =>
      ∃ v', e = .returned (.tuple #[v', .agg #[.int .i64 1, .int .i64 (xs.getD 0 0)]]) ∧ Own w' w.heap.size v' (xs.tail) ∧ Below w.heap.size w w' := by
  obtain ⟨a, cap, rfl⟩ := h.slice
  have hcap : xs.length ≤ cap ∧ cap ≤ 9223372036854775807 := by obtain ⟨_, _, he, h1, h2, -⟩ := h; simp at he; omega
  obtain ⟨hcap1, hcap2⟩ := hcap
  obtain ⟨b, off, rfl, hb, hc⟩ : ∃ b off, a = some ⟨b, off, none⟩ ∧ b < w.heap.size ∧ w.cell? ⟨b, off, none⟩ = some (.int .i64 (xs.getD 0 0)) := by
    obtain ⟨a', cap', he, h1, h2, h3⟩ := h
    simp at he
    obtain ⟨rfl, rfl⟩ := he
    rcases h3 with h3 | ⟨b, off, rfl, hb, hc⟩
    · omega
    · exact ⟨b, off, rfl, hb, hc 0 hx⟩
  have HS := Lib.hid h
  clear h
  have hl0 : ((xs.length : Int) == 0) = false := beq_eq_false_iff_ne.2 (by omega)
  have hl1 : (1 : Int) ≤ xs.length := by omega
  go_enter Try.func32, Try.ntmps32
  go_wp2_with fail
  have B0 : Below w.heap.size w ((w.alloc (Obj.cells #[.int .i64 2, .int .i64 key, .int .i64 x] 30)).alloc (Obj.cells #[.int .i64 0, .int .i64 0] 26)) := balloc (balloc (Below.refl _ w) _) _
  have z0 : ((w.alloc (Obj.cells #[.int .i64 2, .int .i64 key, .int .i64 x] 30)).alloc (Obj.cells #[.int .i64 0, .int .i64 0] 26)).heap.size = w.heap.size + 2 := by simp
  have c0 : ((w.alloc (Obj.cells #[.int .i64 2, .int .i64 key, .int .i64 x] 30)).alloc (Obj.cells #[.int .i64 0, .int .i64 0] 26)).cell? ⟨w.heap.size, 0, none⟩ = some (.int .i64 2) := by go_simp
  have cA : Blk ((w.alloc (Obj.cells #[.int .i64 2, .int .i64 key, .int .i64 x] 30)).alloc (Obj.cells #[.int .i64 0, .int .i64 0] 26)) (w.heap.size + 1) [.int .i64 0, .int .i64 0] 26 := by
    have := Blk.new (w.alloc (Obj.cells #[.int .i64 2, .int .i64 key, .int .i64 x] 30)) [.int .i64 0, .int .i64 0] 26
    simpa using this
  have hS0 := HS.out.below B0
  have cx := (B0.cell (p := ⟨b, off, none⟩) hb).trans hc
  generalize ((w.alloc (Obj.cells #[.int .i64 2, .int .i64 key, .int .i64 x] 30)).alloc (Obj.cells #[.int .i64 0, .int .i64 0] 26)) = w0 at *
  have HS0 := Lib.hid hS0; have HA := Lib.hid cA; have HZ := Lib.hid z0
  clear hS0 cA HS z0
  have zz : w.heap.size < w0.heap.size := by have := HZ.out; omega
  have zz1 : w.heap.size + 1 < w0.heap.size := by have := HZ.out; omega
  have hT := HS0.out.tail hx
  generalize hp1 : (if cap = 1 then some (⟨b, off, none⟩ : Addr) else some ⟨b, off + 1, none⟩) = p1 at *
  have HT := Lib.hid hT
  clear hT
  clear hc
  have hbn : b ≠ w.heap.size + 1 := by omega
  generalize hx0 : xs.getD 0 0 = x0 at *
  have HX := Lib.hid hx0
  clear hx0
  go_region_held3 (fun w' => w'.cell? ⟨b, off, none⟩ = some (.int .i64 x0))
    (first | exact k3 | exact k6 _ _ | go_keep)
    (first
      | (go_at_call 25; have bw : Below w0.heap.size w0 w0.drew := (Below.refl _ _).drew; refine (clone_any _ _ xs.tail (HT.out.below bw) (by simp; omega)).mono ?_; rintro e w3 ⟨v3, rfl, ho, hb3⟩; have hb03 : Below w0.heap.size w0 w3 := bcall bw hb3; have k3 : w3.cell? ⟨b, off, none⟩ = some (.int .i64 x0) := (hb03.cell (p := ⟨b, off, none⟩) (block_lt' cx)).trans cx; have k6 : ∀ y z, ((w3.setCell ⟨w.heap.size + 1, 0, none⟩ y).setCell ⟨w.heap.size + 1, 1, none⟩ z).cell? ⟨b, off, none⟩ = some (.int .i64 x0) := (fun y z => (cell_setCell_ne _ hbn _).trans ((cell_setCell_ne _ hbn _).trans k3)); have HA3 := HA.out.belowB hb03 zz1; have cA0 : w3.cell? ⟨w.heap.size + 1, 0, none⟩ = some (.int .i64 0) := HA3.cell 0; have cA1 : w3.cell? ⟨w.heap.size + 1, 1, none⟩ = some (.int .i64 0) := HA3.cell 1; have fA0 := HA3.frozen 0; have fA1 := HA3.frozen 1))
  all_goals
    clear k6
    have ho6 := ((ho.store (p := ⟨w.heap.size + 1, 0, none⟩) zz1 (.int .i64 1)).store (p := ⟨w.heap.size + 1, 1, none⟩) zz1 (.int .i64 x0)).mono B0.size
    have hb6 := bstore (bstore (B0.trans (hb03.mono B0.size)) (p := ⟨w.heap.size + 1, 0, none⟩) (Nat.le_succ _) (.int .i64 1)) (p := ⟨w.heap.size + 1, 1, none⟩) (Nat.le_succ _) (.int .i64 x0)
    have HA6 := HA3.pair (u := .int .i64 1) (v := .int .i64 x0)
    generalize (w3.setCell ⟨w.heap.size + 1, 0, none⟩ (.int .i64 1)).setCell ⟨w.heap.size + 1, 1, none⟩ (.int .i64 x0) = w6 at *
    have d0 : w6.cell? ⟨w.heap.size + 1, 0, none⟩ = some (.int .i64 1) := HA6.cell 0
    have d1 : w6.cell? ⟨w.heap.size + 1, 1, none⟩ = some (.int .i64 x0) := HA6.cell 1
    clear cA0 cA1 fA0 fA1 HA6 HA3
    go_wp2_with fail
    exact bodyPost_ret (v := .tuple #[v3, .agg #[.int .i64 1, .int .i64 x0]]) (by simp [results, Try.results32, go_sem, d0, d1]) rfl ⟨v3, by rw [HX.out], ho6, hb6⟩
end Go.Proofs.Ytpedkcpkdacnlaa
end
section
namespace Go.Proofs.Ytpedkcpkdacnlaa
open Go.RowKit
set_option maxRecDepth 20000 in
set_option maxHeartbeats 1000000 in
theorem stack_put_full (w : World) (v : Value) (xs : List Int) (key x : Int) (h : Sl w v xs) (hx : 6 ≤ xs.length) (hx2 : xs.length ≤ 1000) :
    Calls Try.prog 30 #[v, .agg #[.int .i64 1, .int .i64 key, .int .i64 x]] w fun e w' =>
      ∃ v', e = .returned (.tuple #[v', .agg #[.int .i64 3, .int .i64 0]]) ∧ Own w' w.heap.size v' (xs) ∧ Below w.heap.size w w' := by
  obtain ⟨a, cap, rfl⟩ := h.slice
  have HS := Lib.hid h
  clear h
  go_enter Try.func30, Try.ntmps30
  go_wp2_with fail
  have B0 : Below w.heap.size w ((w.alloc (Obj.cells #[.int .i64 1, .int .i64 key, .int .i64 x] 30)).alloc (Obj.cells #[.int .i64 0, .int .i64 0] 26)) := balloc (balloc (Below.refl _ w) _) _
  have z0 : ((w.alloc (Obj.cells #[.int .i64 1, .int .i64 key, .int .i64 x] 30)).alloc (Obj.cells #[.int .i64 0, .int .i64 0] 26)).heap.size = w.heap.size + 2 := by simp
  have cO : Blk ((w.alloc (Obj.cells #[.int .i64 1, .int .i64 key, .int .i64 x] 30)).alloc (Obj.cells #[.int .i64 0, .int .i64 0] 26)) w.heap.size [.int .i64 1, .int .i64 key, .int .i64 x] 30 := (Blk.new w [.int .i64 1, .int .i64 key, .int .i64 x] 30).alloc _
  have cA : Blk ((w.alloc (Obj.cells #[.int .i64 1, .int .i64 key, .int .i64 x] 30)).alloc (Obj.cells #[.int .i64 0, .int .i64 0] 26)) (w.heap.size + 1) [.int .i64 0, .int .i64 0] 26 := by
    have := Blk.new (w.alloc (Obj.cells #[.int .i64 1, .int .i64 key, .int .i64 x] 30)) [.int .i64 0, .int .i64 0] 26
    simpa using this
  have hS0 := HS.out.below B0
  generalize ((w.alloc (Obj.cells #[.int .i64 1, .int .i64 key, .int .i64 x] 30)).alloc (Obj.cells #[.int .i64 0, .int .i64 0] 26)) = w0 at *
  have HZ := Lib.hid z0
  have zz : w.heap.size < w0.heap.size := by have := HZ.out; omega
  have zz1 : w.heap.size + 1 < w0.heap.size := by have := HZ.out; omega
  refine (clone_any _ _ xs hS0 (by omega)).mono ?_
  rintro e w3 ⟨v3, rfl, ho, hb3⟩
  obtain ⟨p3, c3, rfl⟩ := ho.sl.slice
  have HO := Lib.hid ho
  have HO3 := Lib.hid (cO.belowB hb3 zz)
  have HA3 := Lib.hid (cA.belowB hb3 zz1)
  have HB3 : Hid (Below w.heap.size w w3) := B0.trans (hb3.mono B0.size)
  have cO0 : w3.cell? ⟨w.heap.size, 0, none⟩ = some (.int .i64 1) := HO3.out.cell 0
  have cO2 : w3.cell? ⟨w.heap.size, 2, none⟩ = some (.int .i64 x) := HO3.out.cell 2
  have cA0 : w3.cell? ⟨w.heap.size + 1, 0, none⟩ = some (.int .i64 0) := HA3.out.cell 0
  have cA1 : w3.cell? ⟨w.heap.size + 1, 1, none⟩ = some (.int .i64 0) := HA3.out.cell 1
  have fA0 := HA3.out.frozen 0
  have fA1 := HA3.out.frozen 1
  have zw : w.heap.size < w3.heap.size := HO3.out.lt
  have zB3 : w0.heap.size ≤ w3.heap.size := hb3.size
  have zw1 : w.heap.size + 1 < w3.heap.size := HA3.out.lt
  clear hS0 HS z0 cO cA ho hb3
  go_wp2_with fail
  have ho6 := (HO.out.store (p := ⟨w.heap.size + 1, 0, none⟩) zz1 (.int .i64 3)).store (p := ⟨w.heap.size + 1, 1, none⟩) zz1 (.int .i64 0)
  have ho7 := ho6.mono (Nat.le_of_lt zz)
  have hb6 := bstore (bstore HB3.out (p := ⟨w.heap.size + 1, 0, none⟩) (Nat.le_succ _) (.int .i64 3)) (p := ⟨w.heap.size + 1, 1, none⟩) (Nat.le_succ _) (.int .i64 0)
  have HA6 := HA3.out.pair (u := .int .i64 3) (v := .int .i64 0)
  generalize (w3.setCell ⟨w.heap.size + 1, 0, none⟩ (.int .i64 3)).setCell ⟨w.heap.size + 1, 1, none⟩ (.int .i64 0) = w6 at *
  have d0 : w6.cell? ⟨w.heap.size + 1, 0, none⟩ = some (.int .i64 3) := HA6.cell 0
  have d1 : w6.cell? ⟨w.heap.size + 1, 1, none⟩ = some (.int .i64 0) := HA6.cell 1
  clear HA6
  go_wp2_with fail
  exact bodyPost_ret (v := .tuple #[.slice p3 xs.length c3, .agg #[.int .i64 3, .int .i64 0]]) (by simp [results, Try.results30, go_sem, d0, d1]) rfl ⟨_, rfl, ho7, hb6⟩
set_option maxRecDepth 20000 in
set_option maxHeartbeats 1000000 in
theorem stack_count (w : World) (v : Value) (xs : List Int) (key x : Int) (h : Sl w v xs) (hx2 : xs.length ≤ 1000) :
    Calls Try.prog 30 #[v, .agg #[.int .i64 6, .int .i64 key, .int .i64 x]] w fun e w' =>
      ∃ v', e = .returned (.tuple #[v', .agg #[.int .i64 1, .int .i64 xs.length]]) ∧ Own w' w.heap.size v' (xs) ∧ Below w.heap.size w w' := by
  obtain ⟨a, cap, rfl⟩ := h.slice
  have HS := Lib.hid h
  clear h
  go_enter Try.func30, Try.ntmps30
  go_wp2_with fail
  have B0 : Below w.heap.size w ((w.alloc (Obj.cells #[.int .i64 6, .int .i64 key, .int .i64 x] 30)).alloc (Obj.cells #[.int .i64 0, .int .i64 0] 26)) := balloc (balloc (Below.refl _ w) _) _
  have z0 : ((w.alloc (Obj.cells #[.int .i64 6, .int .i64 key, .int .i64 x] 30)).alloc (Obj.cells #[.int .i64 0, .int .i64 0] 26)).heap.size = w.heap.size + 2 := by simp
  have cO : Blk ((w.alloc (Obj.cells #[.int .i64 6, .int .i64 key, .int .i64 x] 30)).alloc (Obj.cells #[.int .i64 0, .int .i64 0] 26)) w.heap.size [.int .i64 6, .int .i64 key, .int .i64 x] 30 := (Blk.new w [.int .i64 6, .int .i64 key, .int .i64 x] 30).alloc _
  have cA : Blk ((w.alloc (Obj.cells #[.int .i64 6, .int .i64 key, .int .i64 x] 30)).alloc (Obj.cells #[.int .i64 0, .int .i64 0] 26)) (w.heap.size + 1) [.int .i64 0, .int .i64 0] 26 := by
    have := Blk.new (w.alloc (Obj.cells #[.int .i64 6, .int .i64 key, .int .i64 x] 30)) [.int .i64 0, .int .i64 0] 26
    simpa using this
  have hS0 := HS.out.below B0
  generalize ((w.alloc (Obj.cells #[.int .i64 6, .int .i64 key, .int .i64 x] 30)).alloc (Obj.cells #[.int .i64 0, .int .i64 0] 26)) = w0 at *
  have HZ := Lib.hid z0
  have zz : w.heap.size < w0.heap.size := by have := HZ.out; omega
  have zz1 : w.heap.size + 1 < w0.heap.size := by have := HZ.out; omega
  refine (clone_any _ _ xs hS0 (by omega)).mono ?_
  rintro e w3 ⟨v3, rfl, ho, hb3⟩
  obtain ⟨p3, c3, rfl⟩ := ho.sl.slice
  have HO := Lib.hid ho
  have HO3 := Lib.hid (cO.belowB hb3 zz)
  have HA3 := Lib.hid (cA.belowB hb3 zz1)
  have HB3 : Hid (Below w.heap.size w w3) := B0.trans (hb3.mono B0.size)
  have cO0 : w3.cell? ⟨w.heap.size, 0, none⟩ = some (.int .i64 6) := HO3.out.cell 0
  have cO2 : w3.cell? ⟨w.heap.size, 2, none⟩ = some (.int .i64 x) := HO3.out.cell 2
  have cA0 : w3.cell? ⟨w.heap.size + 1, 0, none⟩ = some (.int .i64 0) := HA3.out.cell 0
  have cA1 : w3.cell? ⟨w.heap.size + 1, 1, none⟩ = some (.int .i64 0) := HA3.out.cell 1
  have fA0 := HA3.out.frozen 0
  have fA1 := HA3.out.frozen 1
  have zw : w.heap.size < w3.heap.size := HO3.out.lt
  have zB3 : w0.heap.size ≤ w3.heap.size := hb3.size
  have zw1 : w.heap.size + 1 < w3.heap.size := HA3.out.lt
  clear hS0 HS z0 cO cA ho hb3
  go_wp2_with fail
  have ho6 := (HO.out.store (p := ⟨w.heap.size + 1, 0, none⟩) zz1 (.int .i64 1)).store (p := ⟨w.heap.size + 1, 1, none⟩) zz1 (.int .i64 xs.length)
  have ho7 := ho6.mono (Nat.le_of_lt zz)
  have hb6 := bstore (bstore HB3.out (p := ⟨w.heap.size + 1, 0, none⟩) (Nat.le_succ _) (.int .i64 1)) (p := ⟨w.heap.size + 1, 1, none⟩) (Nat.le_succ _) (.int .i64 xs.length)
  have HA6 := HA3.out.pair (u := .int .i64 1) (v := .int .i64 xs.length)
  generalize (w3.setCell ⟨w.heap.size + 1, 0, none⟩ (.int .i64 1)).setCell ⟨w.heap.size + 1, 1, none⟩ (.int .i64 xs.length) = w6 at *
  have d0 : w6.cell? ⟨w.heap.size + 1, 0, none⟩ = some (.int .i64 1) := HA6.cell 0
  have d1 : w6.cell? ⟨w.heap.size + 1, 1, none⟩ = some (.int .i64 xs.length) := HA6.cell 1
  clear HA6
  go_wp2_with fail
  exact bodyPost_ret (v := .tuple #[.slice p3 xs.length c3, .agg #[.int .i64 1, .int .i64 xs.length]]) (by simp [results, Try.results30, go_sem, d0, d1]) rfl ⟨_, rfl, ho7, hb6⟩
set_option maxRecDepth 20000 in
set_option maxHeartbeats 1000000 in
theorem stack_wrong (w : World) (v : Value) (xs : List Int) (k key x : Int) (h : Sl w v xs) (k1 : k ≠ 1) (k2 : k ≠ 2) (k5 : k ≠ 5) (k6 : k ≠ 6) (hx2 : xs.length ≤ 1000) :
    Calls Try.prog 30 #[v, .agg #[.int .i64 k, .int .i64 key, .int .i64 x]] w fun e w' =>
      ∃ v', e = .returned (.tuple #[v', .agg #[.int .i64 5, .int .i64 0]]) ∧ Own w' w.heap.size v' (xs) ∧ Below w.heap.size w w' := by
  obtain ⟨a, cap, rfl⟩ := h.slice
  have q1 : (k == 1) = false := by simpa using k1
  have q2 : (k == 2) = false := by simpa using k2
  have q5 : (k == 5) = false := by simpa using k5
  have q6 : (k == 6) = false := by simpa using k6
  have r2 : (k != 2) = true := by simpa using k2
  have r5 : (k != 5) = true := by simpa using k5
  clear k1 k2 k5 k6
  have HS := Lib.hid h
  clear h
  go_enter Try.func30, Try.ntmps30
  go_wp2_with fail
  have B0 : Below w.heap.size w ((w.alloc (Obj.cells #[.int .i64 k, .int .i64 key, .int .i64 x] 30)).alloc (Obj.cells #[.int .i64 0, .int .i64 0] 26)) := balloc (balloc (Below.refl _ w) _) _
  have z0 : ((w.alloc (Obj.cells #[.int .i64 k, .int .i64 key, .int .i64 x] 30)).alloc (Obj.cells #[.int .i64 0, .int .i64 0] 26)).heap.size = w.heap.size + 2 := by simp
  have cO : Blk ((w.alloc (Obj.cells #[.int .i64 k, .int .i64 key, .int .i64 x] 30)).alloc (Obj.cells #[.int .i64 0, .int .i64 0] 26)) w.heap.size [.int .i64 k, .int .i64 key, .int .i64 x] 30 := (Blk.new w [.int .i64 k, .int .i64 key, .int .i64 x] 30).alloc _
  have cA : Blk ((w.alloc (Obj.cells #[.int .i64 k, .int .i64 key, .int .i64 x] 30)).alloc (Obj.cells #[.int .i64 0, .int .i64 0] 26)) (w.heap.size + 1) [.int .i64 0, .int .i64 0] 26 := by
    have := Blk.new (w.alloc (Obj.cells #[.int .i64 k, .int .i64 key, .int .i64 x] 30)) [.int .i64 0, .int .i64 0] 26
    simpa using this
  have hS0 := HS.out.below B0
  generalize ((w.alloc (Obj.cells #[.int .i64 k, .int .i64 key, .int .i64 x] 30)).alloc (Obj.cells #[.int .i64 0, .int .i64 0] 26)) = w0 at *
  have HZ := Lib.hid z0
  have zz : w.heap.size < w0.heap.size := by have := HZ.out; omega
  have zz1 : w.heap.size + 1 < w0.heap.size := by have := HZ.out; omega
  refine (clone_any _ _ xs hS0 (by omega)).mono ?_
  rintro e w3 ⟨v3, rfl, ho, hb3⟩
  obtain ⟨p3, c3, rfl⟩ := ho.sl.slice
  have HO := Lib.hid ho
  have HO3 := Lib.hid (cO.belowB hb3 zz)
  have HA3 := Lib.hid (cA.belowB hb3 zz1)
  have HB3 : Hid (Below w.heap.size w w3) := B0.trans (hb3.mono B0.size)
  have cO0 : w3.cell? ⟨w.heap.size, 0, none⟩ = some (.int .i64 k) := HO3.out.cell 0
  have cO2 : w3.cell? ⟨w.heap.size, 2, none⟩ = some (.int .i64 x) := HO3.out.cell 2
  have cA0 : w3.cell? ⟨w.heap.size + 1, 0, none⟩ = some (.int .i64 0) := HA3.out.cell 0
  have cA1 : w3.cell? ⟨w.heap.size + 1, 1, none⟩ = some (.int .i64 0) := HA3.out.cell 1
  have fA0 := HA3.out.frozen 0
  have fA1 := HA3.out.frozen 1
  have zw : w.heap.size < w3.heap.size := HO3.out.lt
  have zB3 : w0.heap.size ≤ w3.heap.size := hb3.size
  have zw1 : w.heap.size + 1 < w3.heap.size := HA3.out.lt
  clear hS0 HS z0 cO cA ho hb3
  go_wp2_with fail
  have ho6 := (HO.out.store (p := ⟨w.heap.size + 1, 0, none⟩) zz1 (.int .i64 5)).store (p := ⟨w.heap.size + 1, 1, none⟩) zz1 (.int .i64 0)
  have ho7 := ho6.mono (Nat.le_of_lt zz)
  have hb6 := bstore (bstore HB3.out (p := ⟨w.heap.size + 1, 0, none⟩) (Nat.le_succ _) (.int .i64 5)) (p := ⟨w.heap.size + 1, 1, none⟩) (Nat.le_succ _) (.int .i64 0)
  have HA6 := HA3.out.pair (u := .int .i64 5) (v := .int .i64 0)
  generalize (w3.setCell ⟨w.heap.size + 1, 0, none⟩ (.int .i64 5)).setCell ⟨w.heap.size + 1, 1, none⟩ (.int .i64 0) = w6 at *
  have d0 : w6.cell? ⟨w.heap.size + 1, 0, none⟩ = some (.int .i64 5) := HA6.cell 0
  have d1 : w6.cell? ⟨w.heap.size + 1, 1, none⟩ = some (.int .i64 0) := HA6.cell 1
  clear HA6
  go_wp2_with fail
  exact bodyPost_ret (v := .tuple #[.slice p3 xs.length c3, .agg #[.int .i64 5, .int .i64 0]]) (by simp [results, Try.results30, go_sem, d0, d1]) rfl ⟨_, rfl, ho7, hb6⟩
set_option maxRecDepth 20000 in
set_option maxHeartbeats 1000000 in
theorem stack_nil (w : World) (v : Value) (xs : List Int) (k key x : Int) (h : Sl w v xs) (hx : xs.length = 0) (hk : k = 2 ∨ k = 5) :
    Calls Try.prog 30 #[v, .agg #[.int .i64 k, .int .i64 key, .int .i64 x]] w fun e w' =>
      ∃ v', e = .returned (.tuple #[v', .agg #[.int .i64 2, .int .i64 0]]) ∧ Own w' w.heap.size v' (xs) ∧ Below w.heap.size w w' := by
  obtain ⟨a, cap, rfl⟩ := h.slice
  obtain ⟨q1, q6, r⟩ : (k == 1) = false ∧ (k == 6) = false ∧ (((k != 2) = false) ∨ ((k != 2) = true ∧ (k != 5) = false)) := by
    rcases hk with rfl | rfl
    · exact ⟨rfl, rfl, .inl rfl⟩
    · exact ⟨rfl, rfl, .inr ⟨rfl, rfl⟩⟩
  have HR := Lib.hid r
  clear r hk
  obtain rfl : xs = [] := List.length_eq_zero_iff.1 hx
  clear hx
  have HS := Lib.hid h
  clear h
  go_enter Try.func30, Try.ntmps30
  go_wp2_with fail
  have B0 : Below w.heap.size w ((w.alloc (Obj.cells #[.int .i64 k, .int .i64 key, .int .i64 x] 30)).alloc (Obj.cells #[.int .i64 0, .int .i64 0] 26)) := balloc (balloc (Below.refl _ w) _) _
  have z0 : ((w.alloc (Obj.cells #[.int .i64 k, .int .i64 key, .int .i64 x] 30)).alloc (Obj.cells #[.int .i64 0, .int .i64 0] 26)).heap.size = w.heap.size + 2 := by simp
  have cO : Blk ((w.alloc (Obj.cells #[.int .i64 k, .int .i64 key, .int .i64 x] 30)).alloc (Obj.cells #[.int .i64 0, .int .i64 0] 26)) w.heap.size [.int .i64 k, .int .i64 key, .int .i64 x] 30 := (Blk.new w [.int .i64 k, .int .i64 key, .int .i64 x] 30).alloc _
  have cA : Blk ((w.alloc (Obj.cells #[.int .i64 k, .int .i64 key, .int .i64 x] 30)).alloc (Obj.cells #[.int .i64 0, .int .i64 0] 26)) (w.heap.size + 1) [.int .i64 0, .int .i64 0] 26 := by
    have := Blk.new (w.alloc (Obj.cells #[.int .i64 k, .int .i64 key, .int .i64 x] 30)) [.int .i64 0, .int .i64 0] 26
    simpa using this
  have hS0 := HS.out.below B0
  generalize ((w.alloc (Obj.cells #[.int .i64 k, .int .i64 key, .int .i64 x] 30)).alloc (Obj.cells #[.int .i64 0, .int .i64 0] 26)) = w0 at *
  have HZ := Lib.hid z0
  have zz : w.heap.size < w0.heap.size := by have := HZ.out; omega
  have zz1 : w.heap.size + 1 < w0.heap.size := by have := HZ.out; omega
  refine (clone_any _ _ [] hS0 (by simp)).mono ?_
  rintro e w3 ⟨v3, rfl, ho, hb3⟩
  obtain ⟨p3, c3, rfl⟩ := ho.sl.slice
  have HO := Lib.hid ho
  have HO3 := Lib.hid (cO.belowB hb3 zz)
  have HA3 := Lib.hid (cA.belowB hb3 zz1)
  have HB3 : Hid (Below w.heap.size w w3) := B0.trans (hb3.mono B0.size)
  have cO0 : w3.cell? ⟨w.heap.size, 0, none⟩ = some (.int .i64 k) := HO3.out.cell 0
  have cO2 : w3.cell? ⟨w.heap.size, 2, none⟩ = some (.int .i64 x) := HO3.out.cell 2
  have cA0 : w3.cell? ⟨w.heap.size + 1, 0, none⟩ = some (.int .i64 0) := HA3.out.cell 0
  have cA1 : w3.cell? ⟨w.heap.size + 1, 1, none⟩ = some (.int .i64 0) := HA3.out.cell 1
  have fA0 := HA3.out.frozen 0
  have fA1 := HA3.out.frozen 1
  have zw : w.heap.size < w3.heap.size := HO3.out.lt
  have zB3 : w0.heap.size ≤ w3.heap.size := hb3.size
  have zw1 : w.heap.size + 1 < w3.heap.size := HA3.out.lt
  clear hS0 HS z0 cO cA ho hb3
  rcases HR.out with r | ⟨r, r'⟩
  · go_wp2_with fail
    have ho6 := (HO.out.store (p := ⟨w.heap.size + 1, 0, none⟩) zz1 (.int .i64 2)).store (p := ⟨w.heap.size + 1, 1, none⟩) zz1 (.int .i64 0)
    have ho7 := ho6.mono (Nat.le_of_lt zz)
    have hb6 := bstore (bstore HB3.out (p := ⟨w.heap.size + 1, 0, none⟩) (Nat.le_succ _) (.int .i64 2)) (p := ⟨w.heap.size + 1, 1, none⟩) (Nat.le_succ _) (.int .i64 0)
    have HA6 := HA3.out.pair (u := .int .i64 2) (v := .int .i64 0)
    generalize (w3.setCell ⟨w.heap.size + 1, 0, none⟩ (.int .i64 2)).setCell ⟨w.heap.size + 1, 1, none⟩ (.int .i64 0) = w6 at *
    have d0 : w6.cell? ⟨w.heap.size + 1, 0, none⟩ = some (.int .i64 2) := HA6.cell 0
    have d1 : w6.cell? ⟨w.heap.size + 1, 1, none⟩ = some (.int .i64 0) := HA6.cell 1
    clear HA6
    go_wp2_with fail
    exact bodyPost_ret (v := .tuple #[.slice p3 0 c3, .agg #[.int .i64 2, .int .i64 0]]) (by simp [results, Try.results30, go_sem, d0, d1]) rfl ⟨_, rfl, ho7, hb6⟩
  · go_wp2_with fail
    have ho6 := (HO.out.store (p := ⟨w.heap.size + 1, 0, none⟩) zz1 (.int .i64 2)).store (p := ⟨w.heap.size + 1, 1, none⟩) zz1 (.int .i64 0)
    have ho7 := ho6.mono (Nat.le_of_lt zz)
    have hb6 := bstore (bstore HB3.out (p := ⟨w.heap.size + 1, 0, none⟩) (Nat.le_succ _) (.int .i64 2)) (p := ⟨w.heap.size + 1, 1, none⟩) (Nat.le_succ _) (.int .i64 0)
    have HA6 := HA3.out.pair (u := .int .i64 2) (v := .int .i64 0)
    generalize (w3.setCell ⟨w.heap.size + 1, 0, none⟩ (.int .i64 2)).setCell ⟨w.heap.size + 1, 1, none⟩ (.int .i64 0) = w6 at *
    have d0 : w6.cell? ⟨w.heap.size + 1, 0, none⟩ = some (.int .i64 2) := HA6.cell 0
    have d1 : w6.cell? ⟨w.heap.size + 1, 1, none⟩ = some (.int .i64 0) := HA6.cell 1
    clear HA6
    go_wp2_with fail
    exact bodyPost_ret (v := .tuple #[.slice p3 0 c3, .agg #[.int .i64 2, .int .i64 0]]) (by simp [results, Try.results30, go_sem, d0, d1]) rfl ⟨_, rfl, ho7, hb6⟩
set_option maxRecDepth 20000 in
set_option maxHeartbeats 1000000 in
theorem stack_put (w : World) (v : Value) (xs : List Int) (key x : Int) (h : Sl w v xs) (hx : xs.length < 6) :
    Calls Try.prog 30 #[v, .agg #[.int .i64 1, .int .i64 key, .int .i64 x]] w fun e w' =>
      ∃ v', e = .returned (.tuple #[v', .agg #[.int .i64 1, .int .i64 0]]) ∧ Own w' w.heap.size v' (xs ++ [x]) ∧ Below w.heap.size w w' := by
  obtain ⟨a, cap, rfl⟩ := h.slice
  obtain ⟨i0, hi0, hz0, hz1, hz2⟩ := info_parts infoInt
  have HS := Lib.hid h
  clear h
  go_enter Try.func30, Try.ntmps30
  go_wp2_with fail
  have B0 : Below w.heap.size w ((w.alloc (Obj.cells #[.int .i64 1, .int .i64 key, .int .i64 x] 30)).alloc (Obj.cells #[.int .i64 0, .int .i64 0] 26)) := balloc (balloc (Below.refl _ w) _) _
  have z0 : ((w.alloc (Obj.cells #[.int .i64 1, .int .i64 key, .int .i64 x] 30)).alloc (Obj.cells #[.int .i64 0, .int .i64 0] 26)).heap.size = w.heap.size + 2 := by simp
  have cO : Blk ((w.alloc (Obj.cells #[.int .i64 1, .int .i64 key, .int .i64 x] 30)).alloc (Obj.cells #[.int .i64 0, .int .i64 0] 26)) w.heap.size [.int .i64 1, .int .i64 key, .int .i64 x] 30 := (Blk.new w [.int .i64 1, .int .i64 key, .int .i64 x] 30).alloc _
  have cA : Blk ((w.alloc (Obj.cells #[.int .i64 1, .int .i64 key, .int .i64 x] 30)).alloc (Obj.cells #[.int .i64 0, .int .i64 0] 26)) (w.heap.size + 1) [.int .i64 0, .int .i64 0] 26 := by
    have := Blk.new (w.alloc (Obj.cells #[.int .i64 1, .int .i64 key, .int .i64 x] 30)) [.int .i64 0, .int .i64 0] 26
    simpa using this
  have hS0 := HS.out.below B0
  generalize ((w.alloc (Obj.cells #[.int .i64 1, .int .i64 key, .int .i64 x] 30)).alloc (Obj.cells #[.int .i64 0, .int .i64 0] 26)) = w0 at *
  have HZ := Lib.hid z0
  have zz : w.heap.size < w0.heap.size := by have := HZ.out; omega
  have zz1 : w.heap.size + 1 < w0.heap.size := by have := HZ.out; omega
  refine (clone_any _ _ xs hS0 (by omega)).mono ?_
  rintro e w3 ⟨v3, rfl, ho, hb3⟩
  obtain ⟨p3, c3, rfl⟩ := ho.sl.slice
  have HO := Lib.hid ho
  have HO3 := Lib.hid (cO.belowB hb3 zz)
  have HA3 := Lib.hid (cA.belowB hb3 zz1)
  have HB3 : Hid (Below w.heap.size w w3) := B0.trans (hb3.mono B0.size)
  have cO0 : w3.cell? ⟨w.heap.size, 0, none⟩ = some (.int .i64 1) := HO3.out.cell 0
  have cO2 : w3.cell? ⟨w.heap.size, 2, none⟩ = some (.int .i64 x) := HO3.out.cell 2
  have cA0 : w3.cell? ⟨w.heap.size + 1, 0, none⟩ = some (.int .i64 0) := HA3.out.cell 0
  have cA1 : w3.cell? ⟨w.heap.size + 1, 1, none⟩ = some (.int .i64 0) := HA3.out.cell 1
  have fA0 := HA3.out.frozen 0
  have fA1 := HA3.out.frozen 1
  have zw : w.heap.size < w3.heap.size := HO3.out.lt
  have zB3 : w0.heap.size ≤ w3.heap.size := hb3.size
  have zw1 : w.heap.size + 1 < w3.heap.size := HA3.out.lt
  clear hS0 HS z0 cO cA ho hb3
  have hbase : w0.heap.size ≤ (w3.alloc (Obj.cells #[.int .i64 x] 3)).heap.size := by have := zB3; simp; omega
  go_wp2_with (at_builtin; (refine wpList_append_own _ rfl _ _ 22 rfl w0.heap.size 3 i0 (.int .i64 0) 1 8 Try.underlying22 hi0 hz0 hz1 hz2 rfl (by decide) _ _ _ rfl (World.ownsRow.alloc HO.out _) ⟨w3.heap.size, 0, none⟩ 1 1 [.int .i64 x] rfl rfl (World.news_of_block (cs := #[.int .i64 x]) (t := 3) (fr := (0, 0)) (heap_alloc_new w3 _)) (by simp [Value.oneCell']) (by unfold maxLen; omega) (by omega) hbase ?_); intro v4 w4 hown4 hgrow4 _; have hb4 := (Below.refl w0.heap.size _).grown hgrow4 hbase (fun k hk => HO.out.block hk); have HB4 : Hid (Below w.heap.size w w4) := (balloc HB3.out _).trans (hb4.mono B0.size); have HA4 : Hid (Blk w4 (w.heap.size + 1) [.int .i64 0, .int .i64 0] 26) := (HA3.out.alloc _).belowB hb4 zz1; have eA0 : w4.cell? ⟨w.heap.size + 1, 0, none⟩ = some (.int .i64 0) := HA4.out.cell 0; have eA1 : w4.cell? ⟨w.heap.size + 1, 1, none⟩ = some (.int .i64 0) := HA4.out.cell 1; have gA0 := HA4.out.frozen 0; have gA1 := HA4.out.frozen 1; have HO4 : Hid (Own w4 w0.heap.size v4 (xs ++ [x])) := by unfold Hid Own; rw [List.length_append, List.map_append]; exact hown4)
  have ho6 := (HO4.out.store (p := ⟨w.heap.size + 1, 0, none⟩) zz1 (.int .i64 1)).store (p := ⟨w.heap.size + 1, 1, none⟩) zz1 (.int .i64 0)
  have ho7 := ho6.mono (Nat.le_of_lt zz)
  have hb6 := bstore (bstore HB4.out (p := ⟨w.heap.size + 1, 0, none⟩) (Nat.le_succ _) (.int .i64 1)) (p := ⟨w.heap.size + 1, 1, none⟩) (Nat.le_succ _) (.int .i64 0)
  have HA6 := HA4.out.pair (u := .int .i64 1) (v := .int .i64 0)
  generalize (w4.setCell ⟨w.heap.size + 1, 0, none⟩ (.int .i64 1)).setCell ⟨w.heap.size + 1, 1, none⟩ (.int .i64 0) = w6 at *
  have d0 : w6.cell? ⟨w.heap.size + 1, 0, none⟩ = some (.int .i64 1) := HA6.cell 0
  have d1 : w6.cell? ⟨w.heap.size + 1, 1, none⟩ = some (.int .i64 0) := HA6.cell 1
  clear HA6
  go_wp2_with fail
  exact bodyPost_ret (v := .tuple #[v4, .agg #[.int .i64 1, .int .i64 0]]) (by simp [results, Try.results30, go_sem, d0, d1]) rfl ⟨_, rfl, ho7, hb6⟩
set_option maxRecDepth 20000 in
set_option maxHeartbeats 1000000 in
theorem stack_peek (w : World) (v : Value) (xs : List Int) (key x : Int) (h : Sl w v xs) (hx : 0 < xs.length) (hx2 : xs.length ≤ 1000) :
    Calls Try.prog 30 #[v, .agg #[.int .i64 5, .int .i64 key, .int .i64 x]] w fun e w' =>
      ∃ v', e = .returned (.tuple #[v', .agg #[.int .i64 1, .int .i64 (xs.getD (xs.length - 1) 0)]]) ∧ Own w' w.heap.size v' (xs) ∧ Below w.heap.size w w' := by
  obtain ⟨a, cap, rfl⟩ := h.slice
  have HS := Lib.hid h
  clear h
  go_enter Try.func30, Try.ntmps30
  go_wp2_with fail
  have B0 : Below w.heap.size w ((w.alloc (Obj.cells #[.int .i64 5, .int .i64 key, .int .i64 x] 30)).alloc (Obj.cells #[.int .i64 0, .int .i64 0] 26)) := balloc (balloc (Below.refl _ w) _) _
  have z0 : ((w.alloc (Obj.cells #[.int .i64 5, .int .i64 key, .int .i64 x] 30)).alloc (Obj.cells #[.int .i64 0, .int .i64 0] 26)).heap.size = w.heap.size + 2 := by simp
  have cO : Blk ((w.alloc (Obj.cells #[.int .i64 5, .int .i64 key, .int .i64 x] 30)).alloc (Obj.cells #[.int .i64 0, .int .i64 0] 26)) w.heap.size [.int .i64 5, .int .i64 key, .int .i64 x] 30 := (Blk.new w [.int .i64 5, .int .i64 key, .int .i64 x] 30).alloc _
  have cA : Blk ((w.alloc (Obj.cells #[.int .i64 5, .int .i64 key, .int .i64 x] 30)).alloc (Obj.cells #[.int .i64 0, .int .i64 0] 26)) (w.heap.size + 1) [.int .i64 0, .int .i64 0] 26 := by
    have := Blk.new (w.alloc (Obj.cells #[.int .i64 5, .int .i64 key, .int .i64 x] 30)) [.int .i64 0, .int .i64 0] 26
    simpa using this
  have hS0 := HS.out.below B0
  generalize ((w.alloc (Obj.cells #[.int .i64 5, .int .i64 key, .int .i64 x] 30)).alloc (Obj.cells #[.int .i64 0, .int .i64 0] 26)) = w0 at *
  have HZ := Lib.hid z0
  have zz : w.heap.size < w0.heap.size := by have := HZ.out; omega
  have zz1 : w.heap.size + 1 < w0.heap.size := by have := HZ.out; omega
  refine (clone_any _ _ xs hS0 (by omega)).mono ?_
  rintro e w3 ⟨v3, rfl, ho, hb3⟩
  obtain ⟨p3, c3, rfl⟩ := ho.sl.slice
  have HO := Lib.hid ho
  have HO3 := Lib.hid (cO.belowB hb3 zz)
  have HA3 := Lib.hid (cA.belowB hb3 zz1)
  have HB3 : Hid (Below w.heap.size w w3) := B0.trans (hb3.mono B0.size)
  have cO0 : w3.cell? ⟨w.heap.size, 0, none⟩ = some (.int .i64 5) := HO3.out.cell 0
  have cO2 : w3.cell? ⟨w.heap.size, 2, none⟩ = some (.int .i64 x) := HO3.out.cell 2
  have cA0 : w3.cell? ⟨w.heap.size + 1, 0, none⟩ = some (.int .i64 0) := HA3.out.cell 0
  have cA1 : w3.cell? ⟨w.heap.size + 1, 1, none⟩ = some (.int .i64 0) := HA3.out.cell 1
  have fA0 := HA3.out.frozen 0
  have fA1 := HA3.out.frozen 1
  have zw : w.heap.size < w3.heap.size := HO3.out.lt
  have zB3 : w0.heap.size ≤ w3.heap.size := hb3.size
  have zw1 : w.heap.size + 1 < w3.heap.size := HA3.out.lt
  clear hS0 HS z0 cO cA ho hb3
  obtain ⟨g, c3', he, hg1, hg2, hg3, hg4, hc, hf⟩ := HO.out.head hx
  simp only [Value.slice.injEq] at he
  obtain ⟨rfl, -, rfl⟩ := he
  have cx := hc (xs.length - 1) (by omega)
  simp only [Nat.zero_add] at cx
  generalize hx0 : xs.getD (xs.length - 1) 0 = x0 at *
  have HX := Lib.hid hx0
  have HOT := Lib.hid (HO.out.take hx (xs.length - 1) (by omega))
  have hn1 : (0 : Int) ≤ (xs.length : Int) - 1 := by omega
  have hgne : g ≠ w.heap.size + 1 := by omega
  have hct : (xs.length : Int) - 1 ≤ (c3 : Int) := by omega
  have hcn : xs.length - 1 ≤ c3 := by omega
  clear hx0 hc hf
  go_wp2_with fail
  go_region
  have ho6 : Own ((w3.setCell ⟨w.heap.size + 1, 0, none⟩ (.int .i64 1)).setCell ⟨w.heap.size + 1, 1, none⟩ (.int .i64 x0)).drew w0.heap.size (.slice (some ⟨g, 0, none⟩) xs.length c3) (xs) := (HO.out.store (p := ⟨w.heap.size + 1, 0, none⟩) zz1 (.int .i64 1)).store (p := ⟨w.heap.size + 1, 1, none⟩) zz1 (.int .i64 x0)
  have ho7 := ho6.mono (Nat.le_of_lt zz)
  have hb6 : Below w.heap.size w ((w3.setCell ⟨w.heap.size + 1, 0, none⟩ (.int .i64 1)).setCell ⟨w.heap.size + 1, 1, none⟩ (.int .i64 x0)).drew := (bstore (bstore HB3.out (p := ⟨w.heap.size + 1, 0, none⟩) (Nat.le_succ _) (.int .i64 1)) (p := ⟨w.heap.size + 1, 1, none⟩) (Nat.le_succ _) (.int .i64 x0)).drew
  have HA6 : Blk ((w3.setCell ⟨w.heap.size + 1, 0, none⟩ (.int .i64 1)).setCell ⟨w.heap.size + 1, 1, none⟩ (.int .i64 x0)).drew (w.heap.size + 1) [.int .i64 1, .int .i64 x0] 26 := HA3.out.pair
  generalize ((w3.setCell ⟨w.heap.size + 1, 0, none⟩ (.int .i64 1)).setCell ⟨w.heap.size + 1, 1, none⟩ (.int .i64 x0)).drew = w6 at *
  have d0 : w6.cell? ⟨w.heap.size + 1, 0, none⟩ = some (.int .i64 1) := HA6.cell 0
  have d1 : w6.cell? ⟨w.heap.size + 1, 1, none⟩ = some (.int .i64 x0) := HA6.cell 1
  clear HA6
  go_wp2_with fail
  exact bodyPost_ret (v := .tuple #[(.slice (some ⟨g, 0, none⟩) xs.length c3), .agg #[.int .i64 1, .int .i64 x0]]) (by simp [results, Try.results30, go_sem, d0, d1]) rfl ⟨_, by rw [HX.out], ho7, hb6⟩
set_option maxRecDepth 20000 in
set_option maxHeartbeats 1000000 in
theorem stack_take (w : World) (v : Value) (xs : List Int) (key x : Int) (h : Sl w v xs) (hx : 0 < xs.length) (hx2 : xs.length ≤ 1000) :
    Calls Try.prog 30 #[v, .agg #[.int .i64 2, .int .i64 key, .int .i64 x]] w fun e w' =>
      ∃ v', e = .returned (.tuple #[v', .agg #[.int .i64 1, .int .i64 (xs.getD (xs.length - 1) 0)]]) ∧ Own w' w.heap.size v' (xs.take (xs.length - 1)) ∧ Below w.heap.size w w' := by
  obtain ⟨a, cap, rfl⟩ := h.slice
  have HS := Lib.hid h
  clear h
  go_enter Try.func30, Try.ntmps30
  go_wp2_with fail
  have B0 : Below w.heap.size w ((w.alloc (Obj.cells #[.int .i64 2, .int .i64 key, .int .i64 x] 30)).alloc (Obj.cells #[.int .i64 0, .int .i64 0] 26)) := balloc (balloc (Below.refl _ w) _) _
  have z0 : ((w.alloc (Obj.cells #[.int .i64 2, .int .i64 key, .int .i64 x] 30)).alloc (Obj.cells #[.int .i64 0, .int .i64 0] 26)).heap.size = w.heap.size + 2 := by simp
  have cO : Blk ((w.alloc (Obj.cells #[.int .i64 2, .int .i64 key, .int .i64 x] 30)).alloc (Obj.cells #[.int .i64 0, .int .i64 0] 26)) w.heap.size [.int .i64 2, .int .i64 key, .int .i64 x] 30 := (Blk.new w [.int .i64 2, .int .i64 key, .int .i64 x] 30).alloc _
  have cA : Blk ((w.alloc (Obj.cells #[.int .i64 2, .int .i64 key, .int .i64 x] 30)).alloc (Obj.cells #[.int .i64 0, .int .i64 0] 26)) (w.heap.size + 1) [.int .i64 0, .int .i64 0] 26 := by
    have := Blk.new (w.alloc (Obj.cells #[.int .i64 2, .int .i64 key, .int .i64 x] 30)) [.int .i64 0, .int .i64 0] 26
    simpa using this
  have hS0 := HS.out.below B0
  generalize ((w.alloc (Obj.cells #[.int .i64 2, .int .i64 key, .int .i64 x] 30)).alloc (Obj.cells #[.int .i64 0, .int .i64 0] 26)) = w0 at *
  have HZ := Lib.hid z0
  have zz : w.heap.size < w0.heap.size := by have := HZ.out; omega
  have zz1 : w.heap.size + 1 < w0.heap.size := by have := HZ.out; omega
  refine (clone_any _ _ xs hS0 (by omega)).mono ?_
  rintro e w3 ⟨v3, rfl, ho, hb3⟩
  obtain ⟨p3, c3, rfl⟩ := ho.sl.slice
  have HO := Lib.hid ho
  have HO3 := Lib.hid (cO.belowB hb3 zz)
  have HA3 := Lib.hid (cA.belowB hb3 zz1)
  have HB3 : Hid (Below w.heap.size w w3) := B0.trans (hb3.mono B0.size)
  have cO0 : w3.cell? ⟨w.heap.size, 0, none⟩ = some (.int .i64 2) := HO3.out.cell 0
  have cO2 : w3.cell? ⟨w.heap.size, 2, none⟩ = some (.int .i64 x) := HO3.out.cell 2
  have cA0 : w3.cell? ⟨w.heap.size + 1, 0, none⟩ = some (.int .i64 0) := HA3.out.cell 0
  have cA1 : w3.cell? ⟨w.heap.size + 1, 1, none⟩ = some (.int .i64 0) := HA3.out.cell 1
  have fA0 := HA3.out.frozen 0
  have fA1 := HA3.out.frozen 1
  have zw : w.heap.size < w3.heap.size := HO3.out.lt
  have zB3 : w0.heap.size ≤ w3.heap.size := hb3.size
  have zw1 : w.heap.size + 1 < w3.heap.size := HA3.out.lt
  clear hS0 HS z0 cO cA ho hb3
  obtain ⟨g, c3', he, hg1, hg2, hg3, hg4, hc, hf⟩ := HO.out.head hx
  simp only [Value.slice.injEq] at he
  obtain ⟨rfl, -, rfl⟩ := he
  have cx := hc (xs.length - 1) (by omega)
  simp only [Nat.zero_add] at cx
  generalize hx0 : xs.getD (xs.length - 1) 0 = x0 at *
  have HX := Lib.hid hx0
  have HOT := Lib.hid (HO.out.take hx (xs.length - 1) (by omega))
  have hn1 : (0 : Int) ≤ (xs.length : Int) - 1 := by omega
  have hgne : g ≠ w.heap.size + 1 := by omega
  have hct : (xs.length : Int) - 1 ≤ (c3 : Int) := by omega
  have hcn : xs.length - 1 ≤ c3 := by omega
  clear hx0 hc hf
  go_wp2_with fail
  go_region
  have ho6 : Own ((w3.setCell ⟨w.heap.size + 1, 0, none⟩ (.int .i64 1)).setCell ⟨w.heap.size + 1, 1, none⟩ (.int .i64 x0)).drew w0.heap.size (.slice (some ⟨g, 0, none⟩) (xs.length - 1) c3) (xs.take (xs.length - 1)) := (HOT.out.store (p := ⟨w.heap.size + 1, 0, none⟩) zz1 (.int .i64 1)).store (p := ⟨w.heap.size + 1, 1, none⟩) zz1 (.int .i64 x0)
  have ho7 := ho6.mono (Nat.le_of_lt zz)
  have hb6 : Below w.heap.size w ((w3.setCell ⟨w.heap.size + 1, 0, none⟩ (.int .i64 1)).setCell ⟨w.heap.size + 1, 1, none⟩ (.int .i64 x0)).drew := (bstore (bstore HB3.out (p := ⟨w.heap.size + 1, 0, none⟩) (Nat.le_succ _) (.int .i64 1)) (p := ⟨w.heap.size + 1, 1, none⟩) (Nat.le_succ _) (.int .i64 x0)).drew
  have HA6 : Blk ((w3.setCell ⟨w.heap.size + 1, 0, none⟩ (.int .i64 1)).setCell ⟨w.heap.size + 1, 1, none⟩ (.int .i64 x0)).drew (w.heap.size + 1) [.int .i64 1, .int .i64 x0] 26 := HA3.out.pair
  generalize ((w3.setCell ⟨w.heap.size + 1, 0, none⟩ (.int .i64 1)).setCell ⟨w.heap.size + 1, 1, none⟩ (.int .i64 x0)).drew = w6 at *
  have d0 : w6.cell? ⟨w.heap.size + 1, 0, none⟩ = some (.int .i64 1) := HA6.cell 0
  have d1 : w6.cell? ⟨w.heap.size + 1, 1, none⟩ = some (.int .i64 x0) := HA6.cell 1
  clear HA6
  go_wp2_with fail
  exact bodyPost_ret (v := .tuple #[(.slice (some ⟨g, 0, none⟩) (xs.length - 1) c3), .agg #[.int .i64 1, .int .i64 x0]]) (by simp [results, Try.results30, go_sem, d0, d1]) rfl ⟨_, by rw [HX.out], ho7, hb6⟩
end Go.Proofs.Ytpedkcpkdacnlaa
end
section
namespace Go.Proofs.Ytpedkcpkdacnlaa
open Go.RowKit Go.Lib
set_option linter.unusedVariables false
theorem Own.opened {w : World} {base : Nat} {v : Value} {xs : List Int} (h : Own w base v xs) : (v = .slice none 0 0 ∧ xs = []) ∨
    ∃ g cap C, v = .slice (some ⟨g, 0, none⟩) xs.length cap ∧ base ≤ g ∧ Blk w g C 3 ∧ C.length = cap ∧ xs.length ≤ cap ∧ cap ≤ 9223372036854775807 ∧ C.take xs.length = xs.map (Value.int .i64) := by
  obtain ⟨h1, h2 | ⟨g, cap, cur, hv, hb, hg, hl, hm, hs, ht⟩⟩ := h
  · exact .inl ⟨h2.1, List.length_eq_zero_iff.1 h2.2⟩
  · unfold maxLen at hm
    exact .inr ⟨g, cap, cur.toList, hv, hb, by unfold Blk; rw [hg], by simpa using hs, hl, by omega, by simpa using ht⟩
theorem Own.made {w : World} {base g cap : Nat} {C : List Value} {xs : List Int} (hb : base ≤ g) (hB : Blk w g C 3) (hc : C.length = cap) (hl : xs.length ≤ cap) (hm : cap ≤ 9223372036854775807)
    (ht : C.take xs.length = xs.map (Value.int .i64)) : Own w base (.slice (some ⟨g, 0, none⟩) xs.length cap) xs :=
  ⟨by simp, .inr ⟨g, cap, C.toArray, rfl, hb, hB, hl, by unfold maxLen; omega, by simpa using hc, by simpa using ht⟩⟩
theorem spl_take (C vs : List Value) (n : Nat) (h : vs.length = n) : (spl C 0 vs).take n = vs := by
  subst h; simp [spl]
theorem Blk.take_cell {w : World} {g : Nat} {C : List Value} {t : TypeId} {xs : List Int} (hB : Blk w g C t) (ht : C.take xs.length = xs.map (Value.int .i64)) (j : Nat) (hj : j < xs.length) : w.cell? ⟨g, 0 + j, none⟩ = some (.int .i64 (xs.getD j 0)) := by
  rw [Nat.zero_add, hB.cell]
  have e : (C.take xs.length)[j]? = (xs.map (Value.int .i64))[j]? := by rw [ht]
  rw [List.getElem?_take, if_pos hj, List.getElem?_map, List.getElem?_eq_getElem hj] at e
  rw [e, List.getD_eq_getElem?_getD, List.getElem?_eq_getElem hj]; rfl
def insRen : Go.Shelf.Ren := ⟨fun | 21 => 48 | 27 => 58 | 28 => 59 | 35 => 75 | 39 => 26 | n => n, fun | 22 => 22 | 3 => 3 | 4 => 4 | 0 => 0 | n => n, fun | n => n⟩
theorem insLays : Go.Proofs.Lays2.n21 Try.prog insRen := {
  mixed := by kernel_rfl
  f21 := Try.func48.trans (congrArg some (by kernel_rfl))
  f27 := Try.func58.trans (congrArg some (by kernel_rfl))
  f28 := Try.func59.trans (congrArg some (by kernel_rfl))
  f35 := Try.func75.trans (congrArg some (by kernel_rfl))
  f39 := Try.func26.trans (congrArg some (by kernel_rfl))
  t0 := Try.underlying0
  a0 := Try.isAgg0
  z0 := Try.sizeOf0
  v0 := Try.zeroValue0
  t3 := Try.underlying3
  a3 := Try.isAgg3
  z3 := Try.sizeOf3
  v3 := Try.zeroValue3
  t4 := Try.underlying4
  a4 := Try.isAgg4
  z4 := Try.sizeOf4
  v4 := Try.zeroValue4
  t22 := Try.underlying22
  a22 := Try.isAgg22
  z22 := Try.sizeOf22
  v22 := Try.zeroValue22
  i3 := by kernel_rfl }
theorem Blk.newA (w : World) (A : Array Value) (t : TypeId) : Blk (w.alloc (.cells A t)) w.heap.size A.toList t := by
  have := Blk.new w A.toList t
  simpa using this
theorem Blk.drewn {w : World} {b : Nat} {C : List Value} {t : TypeId} (h : Blk w b C t) : Blk w.drew b C t := h
theorem ints_one (xs : List Int) : ∀ v ∈ xs.map (Value.int .i64), v.oneCell' = true := by
  intro v hv
  obtain ⟨z, -, rfl⟩ := List.mem_map.1 hv
  rfl
/-- slices.Insert(s, 0, x): the slice is owned from 'base' on, the new element lies in a block of its own. -/
theorem insert_any (w : World) (base : Nat) (v : Value) (xs : List Int) (x : Int) (vb : Nat) (h : Own w base v xs) (hx : xs.length ≤ 1000) (hb : base ≤ w.heap.size) (hv : Blk w vb [.int .i64 x] 3) (hne : ∀ a n c, v = .slice (some a) n c → vb ≠ a.block) :
    Calls Try.prog 48 #[v, .int .i64 0, .slice (some ⟨vb, 0, none⟩) 1 1] w fun e w' => ∃ v', e = .returned v' ∧ Own w' base v' (x :: xs) ∧ Below base w w' := by
  have hvs : ∀ j v, ([.int .i64 x] : List Value)[j]? = some v → w.cell? ⟨vb, 0 + j, none⟩ = some v := fun j v h => by rw [Nat.zero_add, hv.cell]; exact h
  have h1v : ∀ v ∈ ([.int .i64 x] : List Value), v.oneCell' = true := by intro v h; simp at h; subst h; rfl
  have grown : ∀ (d : Nat) (C : List Value) (cap : Nat), C.length = cap → 1 + xs.length ≤ cap → cap ≤ 9223372036854775807 → C.take (1 + xs.length) = (x :: xs).map (Value.int .i64) → ∀ w1 : World, Blk w1 d C 3 → base ≤ d → Own w1 base (.slice (some ⟨d, 0, none⟩) (xs.length + 1) cap) (x :: xs) := by
    intro d C cap hC hl hm ht w1 hB hd
    exact Own.made (xs := x :: xs) hd hB hC (by simp; omega) hm (by rw [List.length_cons, Nat.add_comm]; exact ht)
  rcases h.opened with ⟨rfl, rfl⟩ | ⟨g, cap, C, rfl, hg, hB, hC, hl, hm, ht⟩
  · refine (Any2.slices_Insert_int_end_grow insLays none 0 0 vb 0 1 1 [] [.int .i64 x] w (by decide) (by decide) (by decide) (by decide) rfl rfl (fun _ => rfl) (fun a h => by cases h) hvs h1v).mono fun e w' ⟨he, hw⟩ => ⟨_, he, ?_, ?_⟩
    · rw [hw]
      generalize hG : grownCap w (0 + 1) 0 (insRen.t 3) = G
      have hG1 : 1 ≤ G := by rw [← hG]; exact grownCap_ge _ _ _ _
      have hG2 : G ≤ 9223372036854775807 := by rw [← hG]; have := grownCap_le_maxLen w (0 + 1) 0 (insRen.t 3) (by unfold maxLen; omega); unfold maxLen at this; omega
      exact grown _ _ _ (by simp [size_zeroCells, Value.cells]; omega) (by simpa using hG1) hG2 (by simp) _ (Blk.newA w.drew _ _) hb
    · rw [hw]; exact ((Below.refl _ _).drew).alloc hb _
  · have h63 : cap ≤ maxLen := by unfold maxLen; omega
    have hcs : ∀ j v, (xs.map (Value.int .i64))[j]? = some v → w.cell? ⟨g, 0 + j, none⟩ = some v := fun j v h => by
      rw [List.getElem?_map] at h
      have hj : j < xs.length := by
        rcases Nat.lt_or_ge j xs.length with h' | h'
        · exact h'
        · rw [List.getElem?_eq_none h'] at h; simp at h
      rw [List.getElem?_eq_getElem hj] at h
      rw [hB.take_cell ht j hj, ← h, List.getD_eq_getElem?_getD, List.getElem?_eq_getElem hj]; rfl
    by_cases hroom : xs.length + 1 ≤ cap
    · by_cases h0 : xs.length = 0
      · obtain rfl : xs = [] := List.length_eq_zero_iff.1 h0
        refine (Any2.slices_Insert_int_end_room insLays g 0 0 cap vb 0 1 1 [.int .i64 x] w (by decide) (by simpa using hroom) hm rfl (fun j hj => by
          obtain rfl : j = 0 := by omega
          rw [hB.cell, List.getElem?_eq_getElem (by simp at hroom; omega)]; rfl) (fun j _ => hB.frozen _) hvs h1v).mono fun e w' ⟨he, hw⟩ => ⟨_, he, ?_, ?_⟩
        · rw [hw]
          have hB2 := Blk.setCells [Value.int .i64 x] 0 w C hB (by simp at hroom ⊢; omega)
          exact grown g _ cap (by rw [spl_length _ _ _ (by simp at hroom ⊢; omega)]; exact hC) (by simpa using hroom) hm (by simp [spl]) _ hB2 hg
        · rw [hw]; exact (setCells_kept g _ _ w).below hb (fun k hk => by rw [hk]; exact hg)
      · have hn : 0 < xs.length := by omega
        have hsh : ∀ (b : Nat) (D : List Value), Blk w b D 3 → w.shape? b = some (3, D.length) := fun b D h => by unfold Blk at h; simp [World.shape?, h]
        refine (Any2.slices_Insert_int_shift insLays g 0 xs.length cap 0 vb 0 1 1 (xs.map (Value.int .i64)) [.int .i64 x] w hn (by decide) hroom hm (hne _ _ _ rfl) (List.length_map _) rfl hcs (fun j hj => by
          rw [Nat.zero_add, hB.cell, List.getElem?_eq_getElem (by omega)]; rfl) (fun j _ => hB.frozen _) hvs (ints_one xs) h1v 3 3 1 cap (hsh _ _ hv) (by rw [hsh _ _ hB, hC]) (by omega) (hv.frozen _) (hv.frozen _)).mono fun e w' ⟨he, hw⟩ => ⟨_, he, ?_, ?_⟩
        · rw [hw]
          have hB1 := Blk.setCells (xs.map (Value.int .i64)) 1 w.drew C hB.drewn (by simp; omega)
          have hl1 : (spl C 1 (xs.map (Value.int .i64))).length = cap := by rw [spl_length _ _ _ (by simp; omega)]; exact hC
          have hB2 := Blk.setCells [Value.int .i64 x] 0 _ _ hB1 (by rw [hl1]; simp; omega)
          refine grown g _ cap (by rw [spl_length _ _ _ (by rw [hl1]; simp; omega)]; exact hl1) (by omega) hm ?_ _ hB2 hg
          have hC1 : (C.take 1).length = 1 := by simp; omega
          simp only [spl, List.take_zero, List.nil_append, List.length_singleton, Nat.zero_add]
          rw [List.append_assoc, List.drop_append_of_le_length (by omega), List.drop_of_length_le (by omega : (C.take 1).length ≤ 1), List.nil_append, Nat.add_comm 1, List.singleton_append, List.take_succ_cons, List.map_cons, List.take_append_of_le_length (by simp), List.take_of_length_le (by simp)]
        · rw [hw]
          exact (((Kept.refl _ w).drew.trans (setCells_kept g _ _ w.drew)).trans (setCells_kept g _ _ _)).below hb (fun k hk => by rw [hk]; exact hg)
    · have hroom' : cap < xs.length + 1 := by omega
      have h63b : maxLen = 9223372036854775807 := rfl
      by_cases h0 : xs.length = 0
      · obtain rfl : xs = [] := List.length_eq_zero_iff.1 h0
        refine (Any2.slices_Insert_int_end_grow insLays (some ⟨g, 0, none⟩) 0 cap vb 0 1 1 [] [.int .i64 x] w (by decide) (by omega) (by simpa using hroom') (by decide) rfl rfl (fun h => by cases h) (fun a h j v hv => by simp at hv) hvs h1v).mono fun e w' ⟨he, hw⟩ => ⟨_, he, ?_, ?_⟩
        · rw [hw]
          generalize hG : grownCap w (0 + 1) cap (insRen.t 3) = G
          have hG1 : 1 ≤ G := by rw [← hG]; exact grownCap_ge _ _ _ _
          have hG2 : G ≤ 9223372036854775807 := by rw [← hG]; have := grownCap_le_maxLen w (0 + 1) cap (insRen.t 3) (by unfold maxLen; omega); omega
          exact grown _ _ _ (by simp [size_zeroCells, Value.cells]; omega) (by simpa using hG1) hG2 (by simp) _ (Blk.newA w.drew _ _) hb
        · rw [hw]; exact ((Below.refl _ _).drew).alloc hb _
      · have hn : 0 < xs.length := by omega
        refine (Any2.slices_Insert_int_grow insLays g 0 xs.length cap 0 vb 0 1 1 (xs.map (Value.int .i64)) [.int .i64 x] w hn (by decide) hl hroom' (by omega) (List.length_map _) rfl hcs hvs (ints_one xs) h1v).mono fun e w' ⟨he, hw⟩ => ⟨_, he, ?_, ?_⟩
        · rw [hw]
          generalize hG : grownCap w (xs.length + 1) cap (insRen.t 3) = G
          have hG1 : xs.length + 1 ≤ G := by rw [← hG]; exact grownCap_ge _ _ _ _
          have hG2 : G ≤ 9223372036854775807 := by rw [← hG]; have := grownCap_le_maxLen w (xs.length + 1) cap (insRen.t 3) (by unfold maxLen; omega); omega
          have hN := Blk.newA w (((xs.map (Value.int .i64)).take 0).toArray ++ Builtin.zeroCells (Value.int .i64 0).cells (xs.length + 1 - 0) ++ Builtin.zeroCells (Value.int .i64 0).cells (G - (xs.length + 1))) (insRen.t 3)
          have hL : (((xs.map (Value.int .i64)).take 0).toArray ++ Builtin.zeroCells (Value.int .i64 0).cells (xs.length + 1 - 0) ++ Builtin.zeroCells (Value.int .i64 0).cells (G - (xs.length + 1))).toList.length = G := by
            simp [size_zeroCells, Value.cells]; omega
          generalize (((xs.map (Value.int .i64)).take 0).toArray ++ Builtin.zeroCells (Value.int .i64 0).cells (xs.length + 1 - 0) ++ Builtin.zeroCells (Value.int .i64 0).cells (G - (xs.length + 1))) = A at *
          generalize A.toList = D at *
          have hB1 := Blk.setCells [Value.int .i64 x] 0 _ D hN.drewn (by simp; omega)
          have hl1 : (spl D 0 [Value.int .i64 x]).length = G := by rw [spl_length _ _ _ (by simp; omega)]; exact hL
          have hB2 := Blk.setCells (xs.map (Value.int .i64)) (0 + 1) _ _ hB1.drewn (by rw [hl1]; simp; omega)
          refine grown _ _ G (by rw [spl_length _ _ _ (by rw [hl1]; simp; omega)]; exact hl1) (by omega) hG2 ?_ _ hB2 hb
          rw [Nat.add_comm 1 xs.length]
          simp [spl]
        · rw [hw]
          have h1 : Below base w ((w.alloc (.cells (((xs.map (Value.int .i64)).take 0).toArray ++ Builtin.zeroCells (Value.int .i64 0).cells (xs.length + 1 - 0) ++ Builtin.zeroCells (Value.int .i64 0).cells (grownCap w (xs.length + 1) cap (insRen.t 3) - (xs.length + 1))) (insRen.t 3))).drew) := ((Below.refl _ _).alloc hb _).drew
          refine h1.trans ?_
          refine (((setCells_kept w.heap.size _ _ _).drew).trans (setCells_kept w.heap.size _ _ _)).below ?_ (fun k hk => by rw [hk]; exact hb)
          show base ≤ (w.alloc _).heap.size
          rw [World.size_alloc]; omega
/-- slices.Delete(s, i, i + 1). -/
theorem delete_any (w : World) (base : Nat) (v : Value) (xs : List Int) (i : Nat) (h : Own w base v xs) (hi : i < xs.length) (hb : base ≤ w.heap.size) :
    Calls Try.prog 45 #[v, .int .i64 i, .int .i64 ((i + 1 : Nat) : Int)] w fun e w' => ∃ v', e = .returned v' ∧ Own w' base v' (xs.eraseIdx i) ∧ Below base w w' := by
  rcases h.opened with ⟨rfl, rfl⟩ | ⟨g, cap, C, rfl, hg, hB, hC, hl, hm, ht⟩
  · simp at hi
  · refine (Try.slices_Delete_int_cells g 0 xs.length cap i (i + 1) xs w (Nat.le_refl _) hl hm (by omega) (by omega) (hB.take_cell ht) (fun j _ => hB.frozen _)).mono fun e w' ⟨he, q, hw⟩ => ⟨_, he, ?_, ?_⟩
    · have hE : xs.eraseIdx i = xs.take i ++ xs.drop (i + 1) := List.eraseIdx_eq_take_drop_succ xs i
      have hlen : (xs.eraseIdx i).length = xs.length - 1 := by rw [List.length_eraseIdx]; simp [hi]
      rw [hw, show xs.length - (i + 1 - i) = (xs.eraseIdx i).length by rw [hlen]; omega]
      rw [List.take_of_length_le (Nat.le_refl xs.length), ← hE, show i + 1 - i = 1 by omega]
      have hlz : ((xs.eraseIdx i ++ List.replicate 1 (0 : Int)).map (Value.int .i64)).length = xs.length := by simp only [List.length_map, List.length_append, List.length_replicate, hlen]; omega
      have hB1 := Blk.setCells ((xs.eraseIdx i ++ List.replicate 1 (0 : Int)).map (Value.int .i64)) 0 (w.drewN q) C hB (by rw [hlz]; omega)
      refine Own.made hg hB1 (by rw [spl_length _ _ _ (by rw [hlz]; omega)]; exact hC) (by omega) hm ?_
      simp only [spl, List.take_zero, List.nil_append, List.map_append]
      rw [List.append_assoc, List.take_append_of_le_length (by simp), List.take_of_length_le (by simp)]
    · rw [hw]
      exact ((Below.mono (below_drewN w q) hb).trans ((setCells_kept g _ _ _).below (show base ≤ (w.drewN q).heap.size from hb) (fun k hk => by rw [hk]; exact hg)))
/-- slices.Reverse. -/
theorem reverse_any (w : World) (base : Nat) (v : Value) (xs : List Int) (h : Own w base v xs) (hb : base ≤ w.heap.size) :
    Calls Try.prog 26 #[v] w fun e w' => e = .returned (.tuple #[]) ∧ Own w' base v xs.reverse ∧ Below base w w' := by
  rcases h.opened with ⟨rfl, rfl⟩ | ⟨g, cap, C, rfl, hg, hB, hC, hl, hm, ht⟩
  · exact (Try.slices_Reverse_int_empty none 0 w).mono fun e w' ⟨he, hw⟩ => ⟨he, by rw [hw]; exact h, by rw [hw]; exact Below.refl _ _⟩
  · refine (Try.slices_Reverse_int_cells g 0 xs.length cap xs w (Nat.le_refl _) (by omega) (hB.take_cell ht) (fun j _ => hB.frozen _)).mono fun e w' ⟨he, q, hw⟩ => ⟨he, ?_, ?_⟩
    · rw [hw, List.take_of_length_le (Nat.le_refl xs.length)]
      have hlz : (xs.reverse.map (Value.int .i64)).length = xs.length := by simp
      have hB1 := Blk.setCells (xs.reverse.map (Value.int .i64)) 0 (w.drewN q) C hB (by rw [hlz]; omega)
      have := Own.made (xs := xs.reverse) hg hB1 (by rw [spl_length _ _ _ (by rw [hlz]; omega)]; exact hC) (by simp; omega) hm (spl_take _ _ _ (by simp))
      rwa [List.length_reverse] at this
    · rw [hw]
      exact ((Below.mono (below_drewN w q) hb).trans ((setCells_kept g _ _ _).below (show base ≤ (w.drewN q).heap.size from hb) (fun k hk => by rw [hk]; exact hg)))
end Go.Proofs.Ytpedkcpkdacnlaa
end
section
namespace Go.Proofs.Ytpedkcpkdacnlaa
open Go.RowKit
set_option linter.unusedVariables false
theorem Own.lt {w : World} {base : Nat} {v : Value} {xs : List Int} (h : Own w base v xs) (a : Addr) (n c : Nat) (hv : v = .slice (some a) n c) : a.block < w.heap.size := by
  rcases h.opened with ⟨rfl, -⟩ | ⟨g, cap, C, rfl, hg, hB, -⟩
  · cases hv
  · simp at hv; obtain ⟨rfl, -, -⟩ := hv; exact hB.lt
theorem delete_at (w : World) (base : Nat) (v : Value) (xs : List Int) (n : Nat) (i j : Int) (ei : i = n) (ej : j = n + 1) (h : Own w base v xs) (hi : n < xs.length) (hb : base ≤ w.heap.size) :
    Calls Try.prog 45 #[v, .int .i64 i, .int .i64 j] w fun e w' => ∃ v', e = .returned v' ∧ Own w' base v' (xs.eraseIdx n) ∧ Below base w w' := by
  subst ei; subst ej
  exact delete_any w base v xs n h hi hb
set_option maxRecDepth 20000 in
set_option maxHeartbeats 1000000 in
theorem deque_put_full (w : World) (v : Value) (xs : List Int) (key x : Int) (h : Sl w v xs) (hx : 6 ≤ xs.length) (hx2 : xs.length ≤ 1000) :
    Calls Try.prog 27 #[v, .agg #[.int .i64 1, .int .i64 key, .int .i64 x]] w fun e w' =>
      ∃ v', e = .returned (.tuple #[v', .agg #[.int .i64 3, .int .i64 0]]) ∧ Own w' w.heap.size v' (xs) ∧ Below w.heap.size w w' := by
  obtain ⟨a, cap, rfl⟩ := h.slice
  have HS := Lib.hid h
  clear h
  go_enter Try.func27, Try.ntmps27
  go_wp2_with fail
  have B0 : Below w.heap.size w ((w.alloc (Obj.cells #[.int .i64 1, .int .i64 key, .int .i64 x] 30)).alloc (Obj.cells #[.int .i64 0, .int .i64 0] 26)) := balloc (balloc (Below.refl _ w) _) _
  have z0 : ((w.alloc (Obj.cells #[.int .i64 1, .int .i64 key, .int .i64 x] 30)).alloc (Obj.cells #[.int .i64 0, .int .i64 0] 26)).heap.size = w.heap.size + 2 := by simp
  have cO : Blk ((w.alloc (Obj.cells #[.int .i64 1, .int .i64 key, .int .i64 x] 30)).alloc (Obj.cells #[.int .i64 0, .int .i64 0] 26)) w.heap.size [.int .i64 1, .int .i64 key, .int .i64 x] 30 := (Blk.new w [.int .i64 1, .int .i64 key, .int .i64 x] 30).alloc _
  have cA : Blk ((w.alloc (Obj.cells #[.int .i64 1, .int .i64 key, .int .i64 x] 30)).alloc (Obj.cells #[.int .i64 0, .int .i64 0] 26)) (w.heap.size + 1) [.int .i64 0, .int .i64 0] 26 := by
    have := Blk.new (w.alloc (Obj.cells #[.int .i64 1, .int .i64 key, .int .i64 x] 30)) [.int .i64 0, .int .i64 0] 26
    simpa using this
  have hS0 := HS.out.below B0
  generalize ((w.alloc (Obj.cells #[.int .i64 1, .int .i64 key, .int .i64 x] 30)).alloc (Obj.cells #[.int .i64 0, .int .i64 0] 26)) = w0 at *
  have HZ := Lib.hid z0
  have zz : w.heap.size < w0.heap.size := by have := HZ.out; omega
  have zz1 : w.heap.size + 1 < w0.heap.size := by have := HZ.out; omega
  refine (clone_any _ _ xs hS0 (by omega)).mono ?_
  rintro e w3 ⟨v3, rfl, ho, hb3⟩
  obtain ⟨p3, c3, rfl⟩ := ho.sl.slice
  have HO := Lib.hid ho
  have HO3 := Lib.hid (cO.belowB hb3 zz)
  have HA3 := Lib.hid (cA.belowB hb3 zz1)
  have HB3 : Hid (Below w.heap.size w w3) := B0.trans (hb3.mono B0.size)
  have cO0 : w3.cell? ⟨w.heap.size, 0, none⟩ = some (.int .i64 1) := HO3.out.cell 0
  have cO2 : w3.cell? ⟨w.heap.size, 2, none⟩ = some (.int .i64 x) := HO3.out.cell 2
  have cA0 : w3.cell? ⟨w.heap.size + 1, 0, none⟩ = some (.int .i64 0) := HA3.out.cell 0
  have cA1 : w3.cell? ⟨w.heap.size + 1, 1, none⟩ = some (.int .i64 0) := HA3.out.cell 1
  have fA0 := HA3.out.frozen 0
  have fA1 := HA3.out.frozen 1
  have zw : w.heap.size < w3.heap.size := HO3.out.lt
  have zB3 : w0.heap.size ≤ w3.heap.size := hb3.size
  have zw1 : w.heap.size + 1 < w3.heap.size := HA3.out.lt
  clear hS0 HS z0 cO cA ho hb3
  go_wp2_with fail
  have ho6 := (HO.out.store (p := ⟨w.heap.size + 1, 0, none⟩) zz1 (.int .i64 3)).store (p := ⟨w.heap.size + 1, 1, none⟩) zz1 (.int .i64 0)
  have ho7 := ho6.mono (Nat.le_of_lt zz)
  have hb6 := bstore (bstore HB3.out (p := ⟨w.heap.size + 1, 0, none⟩) (Nat.le_succ _) (.int .i64 3)) (p := ⟨w.heap.size + 1, 1, none⟩) (Nat.le_succ _) (.int .i64 0)
  have HA6 := HA3.out.pair (u := .int .i64 3) (v := .int .i64 0)
  generalize (w3.setCell ⟨w.heap.size + 1, 0, none⟩ (.int .i64 3)).setCell ⟨w.heap.size + 1, 1, none⟩ (.int .i64 0) = w6 at *
  have d0 : w6.cell? ⟨w.heap.size + 1, 0, none⟩ = some (.int .i64 3) := HA6.cell 0
  have d1 : w6.cell? ⟨w.heap.size + 1, 1, none⟩ = some (.int .i64 0) := HA6.cell 1
  clear HA6
  go_wp2_with fail
  exact bodyPost_ret (v := .tuple #[.slice p3 xs.length c3, .agg #[.int .i64 3, .int .i64 0]]) (by simp [results, Try.results27, go_sem, d0, d1]) rfl ⟨_, rfl, ho7, hb6⟩
set_option maxRecDepth 20000 in
set_option maxHeartbeats 1000000 in
theorem deque_front_full (w : World) (v : Value) (xs : List Int) (key x : Int) (h : Sl w v xs) (hx : 6 ≤ xs.length) (hx2 : xs.length ≤ 1000) :
    Calls Try.prog 27 #[v, .agg #[.int .i64 3, .int .i64 key, .int .i64 x]] w fun e w' =>
      ∃ v', e = .returned (.tuple #[v', .agg #[.int .i64 3, .int .i64 0]]) ∧ Own w' w.heap.size v' (xs) ∧ Below w.heap.size w w' := by
  obtain ⟨a, cap, rfl⟩ := h.slice
  have HS := Lib.hid h
  clear h
  go_enter Try.func27, Try.ntmps27
  go_wp2_with fail
  have B0 : Below w.heap.size w ((w.alloc (Obj.cells #[.int .i64 3, .int .i64 key, .int .i64 x] 30)).alloc (Obj.cells #[.int .i64 0, .int .i64 0] 26)) := balloc (balloc (Below.refl _ w) _) _
  have z0 : ((w.alloc (Obj.cells #[.int .i64 3, .int .i64 key, .int .i64 x] 30)).alloc (Obj.cells #[.int .i64 0, .int .i64 0] 26)).heap.size = w.heap.size + 2 := by simp
  have cO : Blk ((w.alloc (Obj.cells #[.int .i64 3, .int .i64 key, .int .i64 x] 30)).alloc (Obj.cells #[.int .i64 0, .int .i64 0] 26)) w.heap.size [.int .i64 3, .int .i64 key, .int .i64 x] 30 := (Blk.new w [.int .i64 3, .int .i64 key, .int .i64 x] 30).alloc _
  have cA : Blk ((w.alloc (Obj.cells #[.int .i64 3, .int .i64 key, .int .i64 x] 30)).alloc (Obj.cells #[.int .i64 0, .int .i64 0] 26)) (w.heap.size + 1) [.int .i64 0, .int .i64 0] 26 := by
    have := Blk.new (w.alloc (Obj.cells #[.int .i64 3, .int .i64 key, .int .i64 x] 30)) [.int .i64 0, .int .i64 0] 26
    simpa using this
  have hS0 := HS.out.below B0
  generalize ((w.alloc (Obj.cells #[.int .i64 3, .int .i64 key, .int .i64 x] 30)).alloc (Obj.cells #[.int .i64 0, .int .i64 0] 26)) = w0 at *
  have HZ := Lib.hid z0
  have zz : w.heap.size < w0.heap.size := by have := HZ.out; omega
  have zz1 : w.heap.size + 1 < w0.heap.size := by have := HZ.out; omega
  refine (clone_any _ _ xs hS0 (by omega)).mono ?_
  rintro e w3 ⟨v3, rfl, ho, hb3⟩
  obtain ⟨p3, c3, rfl⟩ := ho.sl.slice
  have HO := Lib.hid ho
  have HO3 := Lib.hid (cO.belowB hb3 zz)
  have HA3 := Lib.hid (cA.belowB hb3 zz1)
  have HB3 : Hid (Below w.heap.size w w3) := B0.trans (hb3.mono B0.size)
  have cO0 : w3.cell? ⟨w.heap.size, 0, none⟩ = some (.int .i64 3) := HO3.out.cell 0
  have cO2 : w3.cell? ⟨w.heap.size, 2, none⟩ = some (.int .i64 x) := HO3.out.cell 2
  have cA0 : w3.cell? ⟨w.heap.size + 1, 0, none⟩ = some (.int .i64 0) := HA3.out.cell 0
  have cA1 : w3.cell? ⟨w.heap.size + 1, 1, none⟩ = some (.int .i64 0) := HA3.out.cell 1
  have fA0 := HA3.out.frozen 0
  have fA1 := HA3.out.frozen 1
  have zw : w.heap.size < w3.heap.size := HO3.out.lt
  have zB3 : w0.heap.size ≤ w3.heap.size := hb3.size
  have zw1 : w.heap.size + 1 < w3.heap.size := HA3.out.lt
  clear hS0 HS z0 cO cA ho hb3
  go_wp2_with fail
  have ho6 := (HO.out.store (p := ⟨w.heap.size + 1, 0, none⟩) zz1 (.int .i64 3)).store (p := ⟨w.heap.size + 1, 1, none⟩) zz1 (.int .i64 0)
  have ho7 := ho6.mono (Nat.le_of_lt zz)
  have hb6 := bstore (bstore HB3.out (p := ⟨w.heap.size + 1, 0, none⟩) (Nat.le_succ _) (.int .i64 3)) (p := ⟨w.heap.size + 1, 1, none⟩) (Nat.le_succ _) (.int .i64 0)
  have HA6 := HA3.out.pair (u := .int .i64 3) (v := .int .i64 0)
  generalize (w3.setCell ⟨w.heap.size + 1, 0, none⟩ (.int .i64 3)).setCell ⟨w.heap.size + 1, 1, none⟩ (.int .i64 0) = w6 at *
  have d0 : w6.cell? ⟨w.heap.size + 1, 0, none⟩ = some (.int .i64 3) := HA6.cell 0
  have d1 : w6.cell? ⟨w.heap.size + 1, 1, none⟩ = some (.int .i64 0) := HA6.cell 1
  clear HA6
  go_wp2_with fail
  exact bodyPost_ret (v := .tuple #[.slice p3 xs.length c3, .agg #[.int .i64 3, .int .i64 0]]) (by simp [results, Try.results27, go_sem, d0, d1]) rfl ⟨_, rfl, ho7, hb6⟩
set_option maxRecDepth 20000 in
set_option maxHeartbeats 1000000 in
theorem deque_count (w : World) (v : Value) (xs : List Int) (key x : Int) (h : Sl w v xs) (hx2 : xs.length ≤ 1000) :
    Calls Try.prog 27 #[v, .agg #[.int .i64 6, .int .i64 key, .int .i64 x]] w fun e w' =>
      ∃ v', e = .returned (.tuple #[v', .agg #[.int .i64 1, .int .i64 xs.length]]) ∧ Own w' w.heap.size v' (xs) ∧ Below w.heap.size w w' := by
  obtain ⟨a, cap, rfl⟩ := h.slice
  have HS := Lib.hid h
  clear h
  go_enter Try.func27, Try.ntmps27
  go_wp2_with fail
  have B0 : Below w.heap.size w ((w.alloc (Obj.cells #[.int .i64 6, .int .i64 key, .int .i64 x] 30)).alloc (Obj.cells #[.int .i64 0, .int .i64 0] 26)) := balloc (balloc (Below.refl _ w) _) _
  have z0 : ((w.alloc (Obj.cells #[.int .i64 6, .int .i64 key, .int .i64 x] 30)).alloc (Obj.cells #[.int .i64 0, .int .i64 0] 26)).heap.size = w.heap.size + 2 := by simp
  have cO : Blk ((w.alloc (Obj.cells #[.int .i64 6, .int .i64 key, .int .i64 x] 30)).alloc (Obj.cells #[.int .i64 0, .int .i64 0] 26)) w.heap.size [.int .i64 6, .int .i64 key, .int .i64 x] 30 := (Blk.new w [.int .i64 6, .int .i64 key, .int .i64 x] 30).alloc _
  have cA : Blk ((w.alloc (Obj.cells #[.int .i64 6, .int .i64 key, .int .i64 x] 30)).alloc (Obj.cells #[.int .i64 0, .int .i64 0] 26)) (w.heap.size + 1) [.int .i64 0, .int .i64 0] 26 := by
    have := Blk.new (w.alloc (Obj.cells #[.int .i64 6, .int .i64 key, .int .i64 x] 30)) [.int .i64 0, .int .i64 0] 26
    simpa using this
  have hS0 := HS.out.below B0
  generalize ((w.alloc (Obj.cells #[.int .i64 6, .int .i64 key, .int .i64 x] 30)).alloc (Obj.cells #[.int .i64 0, .int .i64 0] 26)) = w0 at *
  have HZ := Lib.hid z0
  have zz : w.heap.size < w0.heap.size := by have := HZ.out; omega
  have zz1 : w.heap.size + 1 < w0.heap.size := by have := HZ.out; omega
  refine (clone_any _ _ xs hS0 (by omega)).mono ?_
  rintro e w3 ⟨v3, rfl, ho, hb3⟩
  obtain ⟨p3, c3, rfl⟩ := ho.sl.slice
  have HO := Lib.hid ho
  have HO3 := Lib.hid (cO.belowB hb3 zz)
  have HA3 := Lib.hid (cA.belowB hb3 zz1)
  have HB3 : Hid (Below w.heap.size w w3) := B0.trans (hb3.mono B0.size)
  have cO0 : w3.cell? ⟨w.heap.size, 0, none⟩ = some (.int .i64 6) := HO3.out.cell 0
  have cO2 : w3.cell? ⟨w.heap.size, 2, none⟩ = some (.int .i64 x) := HO3.out.cell 2
  have cA0 : w3.cell? ⟨w.heap.size + 1, 0, none⟩ = some (.int .i64 0) := HA3.out.cell 0
  have cA1 : w3.cell? ⟨w.heap.size + 1, 1, none⟩ = some (.int .i64 0) := HA3.out.cell 1
  have fA0 := HA3.out.frozen 0
  have fA1 := HA3.out.frozen 1
  have zw : w.heap.size < w3.heap.size := HO3.out.lt
  have zB3 : w0.heap.size ≤ w3.heap.size := hb3.size
  have zw1 : w.heap.size + 1 < w3.heap.size := HA3.out.lt
  clear hS0 HS z0 cO cA ho hb3
  go_wp2_with fail
  have ho6 := (HO.out.store (p := ⟨w.heap.size + 1, 0, none⟩) zz1 (.int .i64 1)).store (p := ⟨w.heap.size + 1, 1, none⟩) zz1 (.int .i64 xs.length)
  have ho7 := ho6.mono (Nat.le_of_lt zz)
  have hb6 := bstore (bstore HB3.out (p := ⟨w.heap.size + 1, 0, none⟩) (Nat.le_succ _) (.int .i64 1)) (p := ⟨w.heap.size + 1, 1, none⟩) (Nat.le_succ _) (.int .i64 xs.length)
  have HA6 := HA3.out.pair (u := .int .i64 1) (v := .int .i64 xs.length)
  generalize (w3.setCell ⟨w.heap.size + 1, 0, none⟩ (.int .i64 1)).setCell ⟨w.heap.size + 1, 1, none⟩ (.int .i64 xs.length) = w6 at *
  have d0 : w6.cell? ⟨w.heap.size + 1, 0, none⟩ = some (.int .i64 1) := HA6.cell 0
  have d1 : w6.cell? ⟨w.heap.size + 1, 1, none⟩ = some (.int .i64 xs.length) := HA6.cell 1
  clear HA6
  go_wp2_with fail
  exact bodyPost_ret (v := .tuple #[.slice p3 xs.length c3, .agg #[.int .i64 1, .int .i64 xs.length]]) (by simp [results, Try.results27, go_sem, d0, d1]) rfl ⟨_, rfl, ho7, hb6⟩
set_option maxRecDepth 20000 in
set_option maxHeartbeats 1000000 in
theorem deque_wrong (w : World) (v : Value) (xs : List Int) (k key x : Int) (h : Sl w v xs) (k1 : k ≠ 1) (k2 : k ≠ 2) (k3 : k ≠ 3) (k4 : k ≠ 4) (k5 : k ≠ 5) (k6 : k ≠ 6) (hx2 : xs.length ≤ 1000) :
    Calls Try.prog 27 #[v, .agg #[.int .i64 k, .int .i64 key, .int .i64 x]] w fun e w' =>
      ∃ v', e = .returned (.tuple #[v', .agg #[.int .i64 5, .int .i64 0]]) ∧ Own w' w.heap.size v' (xs) ∧ Below w.heap.size w w' := by
  obtain ⟨a, cap, rfl⟩ := h.slice
  have q1 : (k == 1) = false := by simpa using k1
  have q2 : (k == 2) = false := by simpa using k2
  have q3 : (k == 3) = false := by simpa using k3
  have q4 : (k == 4) = false := by simpa using k4
  have q5 : (k == 5) = false := by simpa using k5
  have q6 : (k == 6) = false := by simpa using k6
  clear k1 k2 k3 k4 k5 k6
  have HS := Lib.hid h
  clear h
  go_enter Try.func27, Try.ntmps27
  go_wp2_with fail
  have B0 : Below w.heap.size w ((w.alloc (Obj.cells #[.int .i64 k, .int .i64 key, .int .i64 x] 30)).alloc (Obj.cells #[.int .i64 0, .int .i64 0] 26)) := balloc (balloc (Below.refl _ w) _) _
  have z0 : ((w.alloc (Obj.cells #[.int .i64 k, .int .i64 key, .int .i64 x] 30)).alloc (Obj.cells #[.int .i64 0, .int .i64 0] 26)).heap.size = w.heap.size + 2 := by simp
  have cO : Blk ((w.alloc (Obj.cells #[.int .i64 k, .int .i64 key, .int .i64 x] 30)).alloc (Obj.cells #[.int .i64 0, .int .i64 0] 26)) w.heap.size [.int .i64 k, .int .i64 key, .int .i64 x] 30 := (Blk.new w [.int .i64 k, .int .i64 key, .int .i64 x] 30).alloc _
  have cA : Blk ((w.alloc (Obj.cells #[.int .i64 k, .int .i64 key, .int .i64 x] 30)).alloc (Obj.cells #[.int .i64 0, .int .i64 0] 26)) (w.heap.size + 1) [.int .i64 0, .int .i64 0] 26 := by
    have := Blk.new (w.alloc (Obj.cells #[.int .i64 k, .int .i64 key, .int .i64 x] 30)) [.int .i64 0, .int .i64 0] 26
    simpa using this
  have hS0 := HS.out.below B0
  generalize ((w.alloc (Obj.cells #[.int .i64 k, .int .i64 key, .int .i64 x] 30)).alloc (Obj.cells #[.int .i64 0, .int .i64 0] 26)) = w0 at *
  have HZ := Lib.hid z0
  have zz : w.heap.size < w0.heap.size := by have := HZ.out; omega
  have zz1 : w.heap.size + 1 < w0.heap.size := by have := HZ.out; omega
  refine (clone_any _ _ xs hS0 (by omega)).mono ?_
  rintro e w3 ⟨v3, rfl, ho, hb3⟩
  obtain ⟨p3, c3, rfl⟩ := ho.sl.slice
  have HO := Lib.hid ho
  have HO3 := Lib.hid (cO.belowB hb3 zz)
  have HA3 := Lib.hid (cA.belowB hb3 zz1)
  have HB3 : Hid (Below w.heap.size w w3) := B0.trans (hb3.mono B0.size)
  have cO0 : w3.cell? ⟨w.heap.size, 0, none⟩ = some (.int .i64 k) := HO3.out.cell 0
  have cO2 : w3.cell? ⟨w.heap.size, 2, none⟩ = some (.int .i64 x) := HO3.out.cell 2
  have cA0 : w3.cell? ⟨w.heap.size + 1, 0, none⟩ = some (.int .i64 0) := HA3.out.cell 0
  have cA1 : w3.cell? ⟨w.heap.size + 1, 1, none⟩ = some (.int .i64 0) := HA3.out.cell 1
  have fA0 := HA3.out.frozen 0
  have fA1 := HA3.out.frozen 1
  have zw : w.heap.size < w3.heap.size := HO3.out.lt
  have zB3 : w0.heap.size ≤ w3.heap.size := hb3.size
  have zw1 : w.heap.size + 1 < w3.heap.size := HA3.out.lt
  clear hS0 HS z0 cO cA ho hb3
  go_wp2_with fail
  have ho6 := (HO.out.store (p := ⟨w.heap.size + 1, 0, none⟩) zz1 (.int .i64 5)).store (p := ⟨w.heap.size + 1, 1, none⟩) zz1 (.int .i64 0)
  have ho7 := ho6.mono (Nat.le_of_lt zz)
  have hb6 := bstore (bstore HB3.out (p := ⟨w.heap.size + 1, 0, none⟩) (Nat.le_succ _) (.int .i64 5)) (p := ⟨w.heap.size + 1, 1, none⟩) (Nat.le_succ _) (.int .i64 0)
  have HA6 := HA3.out.pair (u := .int .i64 5) (v := .int .i64 0)
  generalize (w3.setCell ⟨w.heap.size + 1, 0, none⟩ (.int .i64 5)).setCell ⟨w.heap.size + 1, 1, none⟩ (.int .i64 0) = w6 at *
  have d0 : w6.cell? ⟨w.heap.size + 1, 0, none⟩ = some (.int .i64 5) := HA6.cell 0
  have d1 : w6.cell? ⟨w.heap.size + 1, 1, none⟩ = some (.int .i64 0) := HA6.cell 1
  clear HA6
  go_wp2_with fail
  exact bodyPost_ret (v := .tuple #[.slice p3 xs.length c3, .agg #[.int .i64 5, .int .i64 0]]) (by simp [results, Try.results27, go_sem, d0, d1]) rfl ⟨_, rfl, ho7, hb6⟩
set_option maxRecDepth 20000 in
set_option maxHeartbeats 1000000 in
theorem deque_nil2 (w : World) (v : Value) (xs : List Int) (key x : Int) (h : Sl w v xs) (hx : xs.length = 0) :
    Calls Try.prog 27 #[v, .agg #[.int .i64 2, .int .i64 key, .int .i64 x]] w fun e w' =>
      ∃ v', e = .returned (.tuple #[v', .agg #[.int .i64 2, .int .i64 0]]) ∧ Own w' w.heap.size v' (xs) ∧ Below w.heap.size w w' := by
  obtain ⟨a, cap, rfl⟩ := h.slice
  obtain rfl : xs = [] := List.length_eq_zero_iff.1 hx
  clear hx
  have HS := Lib.hid h
  clear h
  go_enter Try.func27, Try.ntmps27
  go_wp2_with fail
  have B0 : Below w.heap.size w ((w.alloc (Obj.cells #[.int .i64 2, .int .i64 key, .int .i64 x] 30)).alloc (Obj.cells #[.int .i64 0, .int .i64 0] 26)) := balloc (balloc (Below.refl _ w) _) _
  have z0 : ((w.alloc (Obj.cells #[.int .i64 2, .int .i64 key, .int .i64 x] 30)).alloc (Obj.cells #[.int .i64 0, .int .i64 0] 26)).heap.size = w.heap.size + 2 := by simp
  have cO : Blk ((w.alloc (Obj.cells #[.int .i64 2, .int .i64 key, .int .i64 x] 30)).alloc (Obj.cells #[.int .i64 0, .int .i64 0] 26)) w.heap.size [.int .i64 2, .int .i64 key, .int .i64 x] 30 := (Blk.new w [.int .i64 2, .int .i64 key, .int .i64 x] 30).alloc _
  have cA : Blk ((w.alloc (Obj.cells #[.int .i64 2, .int .i64 key, .int .i64 x] 30)).alloc (Obj.cells #[.int .i64 0, .int .i64 0] 26)) (w.heap.size + 1) [.int .i64 0, .int .i64 0] 26 := by
    have := Blk.new (w.alloc (Obj.cells #[.int .i64 2, .int .i64 key, .int .i64 x] 30)) [.int .i64 0, .int .i64 0] 26
    simpa using this
  have hS0 := HS.out.below B0
  generalize ((w.alloc (Obj.cells #[.int .i64 2, .int .i64 key, .int .i64 x] 30)).alloc (Obj.cells #[.int .i64 0, .int .i64 0] 26)) = w0 at *
  have HZ := Lib.hid z0
  have zz : w.heap.size < w0.heap.size := by have := HZ.out; omega
  have zz1 : w.heap.size + 1 < w0.heap.size := by have := HZ.out; omega
  refine (clone_any _ _ [] hS0 (by simp)).mono ?_
  rintro e w3 ⟨v3, rfl, ho, hb3⟩
  obtain ⟨p3, c3, rfl⟩ := ho.sl.slice
  have HO := Lib.hid ho
  have HO3 := Lib.hid (cO.belowB hb3 zz)
  have HA3 := Lib.hid (cA.belowB hb3 zz1)
  have HB3 : Hid (Below w.heap.size w w3) := B0.trans (hb3.mono B0.size)
  have cO0 : w3.cell? ⟨w.heap.size, 0, none⟩ = some (.int .i64 2) := HO3.out.cell 0
  have cO2 : w3.cell? ⟨w.heap.size, 2, none⟩ = some (.int .i64 x) := HO3.out.cell 2
  have cA0 : w3.cell? ⟨w.heap.size + 1, 0, none⟩ = some (.int .i64 0) := HA3.out.cell 0
  have cA1 : w3.cell? ⟨w.heap.size + 1, 1, none⟩ = some (.int .i64 0) := HA3.out.cell 1
  have fA0 := HA3.out.frozen 0
  have fA1 := HA3.out.frozen 1
  have zw : w.heap.size < w3.heap.size := HO3.out.lt
  have zB3 : w0.heap.size ≤ w3.heap.size := hb3.size
  have zw1 : w.heap.size + 1 < w3.heap.size := HA3.out.lt
  clear hS0 HS z0 cO cA ho hb3
  go_wp2_with fail
  have ho6 := (HO.out.store (p := ⟨w.heap.size + 1, 0, none⟩) zz1 (.int .i64 2)).store (p := ⟨w.heap.size + 1, 1, none⟩) zz1 (.int .i64 0)
  have ho7 := ho6.mono (Nat.le_of_lt zz)
  have hb6 := bstore (bstore HB3.out (p := ⟨w.heap.size + 1, 0, none⟩) (Nat.le_succ _) (.int .i64 2)) (p := ⟨w.heap.size + 1, 1, none⟩) (Nat.le_succ _) (.int .i64 0)
  have HA6 := HA3.out.pair (u := .int .i64 2) (v := .int .i64 0)
  generalize (w3.setCell ⟨w.heap.size + 1, 0, none⟩ (.int .i64 2)).setCell ⟨w.heap.size + 1, 1, none⟩ (.int .i64 0) = w6 at *
  have d0 : w6.cell? ⟨w.heap.size + 1, 0, none⟩ = some (.int .i64 2) := HA6.cell 0
  have d1 : w6.cell? ⟨w.heap.size + 1, 1, none⟩ = some (.int .i64 0) := HA6.cell 1
  clear HA6
  go_wp2_with fail
  exact bodyPost_ret (v := .tuple #[.slice p3 0 c3, .agg #[.int .i64 2, .int .i64 0]]) (by simp [results, Try.results27, go_sem, d0, d1]) rfl ⟨_, rfl, ho7, hb6⟩
set_option maxRecDepth 20000 in
set_option maxHeartbeats 1000000 in
theorem deque_nil4 (w : World) (v : Value) (xs : List Int) (key x : Int) (h : Sl w v xs) (hx : xs.length = 0) :
    Calls Try.prog 27 #[v, .agg #[.int .i64 4, .int .i64 key, .int .i64 x]] w fun e w' =>
      ∃ v', e = .returned (.tuple #[v', .agg #[.int .i64 2, .int .i64 0]]) ∧ Own w' w.heap.size v' (xs) ∧ Below w.heap.size w w' := by
  obtain ⟨a, cap, rfl⟩ := h.slice
  obtain rfl : xs = [] := List.length_eq_zero_iff.1 hx
  clear hx
  have HS := Lib.hid h
  clear h
  go_enter Try.func27, Try.ntmps27
  go_wp2_with fail
  have B0 : Below w.heap.size w ((w.alloc (Obj.cells #[.int .i64 4, .int .i64 key, .int .i64 x] 30)).alloc (Obj.cells #[.int .i64 0, .int .i64 0] 26)) := balloc (balloc (Below.refl _ w) _) _
  have z0 : ((w.alloc (Obj.cells #[.int .i64 4, .int .i64 key, .int .i64 x] 30)).alloc (Obj.cells #[.int .i64 0, .int .i64 0] 26)).heap.size = w.heap.size + 2 := by simp
  have cO : Blk ((w.alloc (Obj.cells #[.int .i64 4, .int .i64 key, .int .i64 x] 30)).alloc (Obj.cells #[.int .i64 0, .int .i64 0] 26)) w.heap.size [.int .i64 4, .int .i64 key, .int .i64 x] 30 := (Blk.new w [.int .i64 4, .int .i64 key, .int .i64 x] 30).alloc _
  have cA : Blk ((w.alloc (Obj.cells #[.int .i64 4, .int .i64 key, .int .i64 x] 30)).alloc (Obj.cells #[.int .i64 0, .int .i64 0] 26)) (w.heap.size + 1) [.int .i64 0, .int .i64 0] 26 := by
    have := Blk.new (w.alloc (Obj.cells #[.int .i64 4, .int .i64 key, .int .i64 x] 30)) [.int .i64 0, .int .i64 0] 26
    simpa using this
  have hS0 := HS.out.below B0
  generalize ((w.alloc (Obj.cells #[.int .i64 4, .int .i64 key, .int .i64 x] 30)).alloc (Obj.cells #[.int .i64 0, .int .i64 0] 26)) = w0 at *
  have HZ := Lib.hid z0
  have zz : w.heap.size < w0.heap.size := by have := HZ.out; omega
  have zz1 : w.heap.size + 1 < w0.heap.size := by have := HZ.out; omega
  refine (clone_any _ _ [] hS0 (by simp)).mono ?_
  rintro e w3 ⟨v3, rfl, ho, hb3⟩
  obtain ⟨p3, c3, rfl⟩ := ho.sl.slice
  have HO := Lib.hid ho
  have HO3 := Lib.hid (cO.belowB hb3 zz)
  have HA3 := Lib.hid (cA.belowB hb3 zz1)
  have HB3 : Hid (Below w.heap.size w w3) := B0.trans (hb3.mono B0.size)
  have cO0 : w3.cell? ⟨w.heap.size, 0, none⟩ = some (.int .i64 4) := HO3.out.cell 0
  have cO2 : w3.cell? ⟨w.heap.size, 2, none⟩ = some (.int .i64 x) := HO3.out.cell 2
  have cA0 : w3.cell? ⟨w.heap.size + 1, 0, none⟩ = some (.int .i64 0) := HA3.out.cell 0
  have cA1 : w3.cell? ⟨w.heap.size + 1, 1, none⟩ = some (.int .i64 0) := HA3.out.cell 1
  have fA0 := HA3.out.frozen 0
  have fA1 := HA3.out.frozen 1
  have zw : w.heap.size < w3.heap.size := HO3.out.lt
  have zB3 : w0.heap.size ≤ w3.heap.size := hb3.size
  have zw1 : w.heap.size + 1 < w3.heap.size := HA3.out.lt
  clear hS0 HS z0 cO cA ho hb3
  go_wp2_with fail
  have ho6 := (HO.out.store (p := ⟨w.heap.size + 1, 0, none⟩) zz1 (.int .i64 2)).store (p := ⟨w.heap.size + 1, 1, none⟩) zz1 (.int .i64 0)
  have ho7 := ho6.mono (Nat.le_of_lt zz)
  have hb6 := bstore (bstore HB3.out (p := ⟨w.heap.size + 1, 0, none⟩) (Nat.le_succ _) (.int .i64 2)) (p := ⟨w.heap.size + 1, 1, none⟩) (Nat.le_succ _) (.int .i64 0)
  have HA6 := HA3.out.pair (u := .int .i64 2) (v := .int .i64 0)
  generalize (w3.setCell ⟨w.heap.size + 1, 0, none⟩ (.int .i64 2)).setCell ⟨w.heap.size + 1, 1, none⟩ (.int .i64 0) = w6 at *
  have d0 : w6.cell? ⟨w.heap.size + 1, 0, none⟩ = some (.int .i64 2) := HA6.cell 0
  have d1 : w6.cell? ⟨w.heap.size + 1, 1, none⟩ = some (.int .i64 0) := HA6.cell 1
  clear HA6
  go_wp2_with fail
  exact bodyPost_ret (v := .tuple #[.slice p3 0 c3, .agg #[.int .i64 2, .int .i64 0]]) (by simp [results, Try.results27, go_sem, d0, d1]) rfl ⟨_, rfl, ho7, hb6⟩
set_option maxRecDepth 20000 in
set_option maxHeartbeats 1000000 in
theorem deque_nil5 (w : World) (v : Value) (xs : List Int) (key x : Int) (h : Sl w v xs) (hx : xs.length = 0) :
    Calls Try.prog 27 #[v, .agg #[.int .i64 5, .int .i64 key, .int .i64 x]] w fun e w' =>
      ∃ v', e = .returned (.tuple #[v', .agg #[.int .i64 2, .int .i64 0]]) ∧ Own w' w.heap.size v' (xs) ∧ Below w.heap.size w w' := by
  obtain ⟨a, cap, rfl⟩ := h.slice
  obtain rfl : xs = [] := List.length_eq_zero_iff.1 hx
  clear hx
  have HS := Lib.hid h
  clear h
  go_enter Try.func27, Try.ntmps27
  go_wp2_with fail
  have B0 : Below w.heap.size w ((w.alloc (Obj.cells #[.int .i64 5, .int .i64 key, .int .i64 x] 30)).alloc (Obj.cells #[.int .i64 0, .int .i64 0] 26)) := balloc (balloc (Below.refl _ w) _) _
  have z0 : ((w.alloc (Obj.cells #[.int .i64 5, .int .i64 key, .int .i64 x] 30)).alloc (Obj.cells #[.int .i64 0, .int .i64 0] 26)).heap.size = w.heap.size + 2 := by simp
  have cO : Blk ((w.alloc (Obj.cells #[.int .i64 5, .int .i64 key, .int .i64 x] 30)).alloc (Obj.cells #[.int .i64 0, .int .i64 0] 26)) w.heap.size [.int .i64 5, .int .i64 key, .int .i64 x] 30 := (Blk.new w [.int .i64 5, .int .i64 key, .int .i64 x] 30).alloc _
  have cA : Blk ((w.alloc (Obj.cells #[.int .i64 5, .int .i64 key, .int .i64 x] 30)).alloc (Obj.cells #[.int .i64 0, .int .i64 0] 26)) (w.heap.size + 1) [.int .i64 0, .int .i64 0] 26 := by
    have := Blk.new (w.alloc (Obj.cells #[.int .i64 5, .int .i64 key, .int .i64 x] 30)) [.int .i64 0, .int .i64 0] 26
    simpa using this
  have hS0 := HS.out.below B0
  generalize ((w.alloc (Obj.cells #[.int .i64 5, .int .i64 key, .int .i64 x] 30)).alloc (Obj.cells #[.int .i64 0, .int .i64 0] 26)) = w0 at *
  have HZ := Lib.hid z0
  have zz : w.heap.size < w0.heap.size := by have := HZ.out; omega
  have zz1 : w.heap.size + 1 < w0.heap.size := by have := HZ.out; omega
  refine (clone_any _ _ [] hS0 (by simp)).mono ?_
  rintro e w3 ⟨v3, rfl, ho, hb3⟩
  obtain ⟨p3, c3, rfl⟩ := ho.sl.slice
  have HO := Lib.hid ho
  have HO3 := Lib.hid (cO.belowB hb3 zz)
  have HA3 := Lib.hid (cA.belowB hb3 zz1)
  have HB3 : Hid (Below w.heap.size w w3) := B0.trans (hb3.mono B0.size)
  have cO0 : w3.cell? ⟨w.heap.size, 0, none⟩ = some (.int .i64 5) := HO3.out.cell 0
  have cO2 : w3.cell? ⟨w.heap.size, 2, none⟩ = some (.int .i64 x) := HO3.out.cell 2
  have cA0 : w3.cell? ⟨w.heap.size + 1, 0, none⟩ = some (.int .i64 0) := HA3.out.cell 0
  have cA1 : w3.cell? ⟨w.heap.size + 1, 1, none⟩ = some (.int .i64 0) := HA3.out.cell 1
  have fA0 := HA3.out.frozen 0
  have fA1 := HA3.out.frozen 1
  have zw : w.heap.size < w3.heap.size := HO3.out.lt
  have zB3 : w0.heap.size ≤ w3.heap.size := hb3.size
  have zw1 : w.heap.size + 1 < w3.heap.size := HA3.out.lt
  clear hS0 HS z0 cO cA ho hb3
  go_wp2_with fail
  have ho6 := (HO.out.store (p := ⟨w.heap.size + 1, 0, none⟩) zz1 (.int .i64 2)).store (p := ⟨w.heap.size + 1, 1, none⟩) zz1 (.int .i64 0)
  have ho7 := ho6.mono (Nat.le_of_lt zz)
  have hb6 := bstore (bstore HB3.out (p := ⟨w.heap.size + 1, 0, none⟩) (Nat.le_succ _) (.int .i64 2)) (p := ⟨w.heap.size + 1, 1, none⟩) (Nat.le_succ _) (.int .i64 0)
  have HA6 := HA3.out.pair (u := .int .i64 2) (v := .int .i64 0)
  generalize (w3.setCell ⟨w.heap.size + 1, 0, none⟩ (.int .i64 2)).setCell ⟨w.heap.size + 1, 1, none⟩ (.int .i64 0) = w6 at *
  have d0 : w6.cell? ⟨w.heap.size + 1, 0, none⟩ = some (.int .i64 2) := HA6.cell 0
  have d1 : w6.cell? ⟨w.heap.size + 1, 1, none⟩ = some (.int .i64 0) := HA6.cell 1
  clear HA6
  go_wp2_with fail
  exact bodyPost_ret (v := .tuple #[.slice p3 0 c3, .agg #[.int .i64 2, .int .i64 0]]) (by simp [results, Try.results27, go_sem, d0, d1]) rfl ⟨_, rfl, ho7, hb6⟩
set_option maxRecDepth 20000 in
set_option maxHeartbeats 1000000 in
theorem deque_put (w : World) (v : Value) (xs : List Int) (key x : Int) (h : Sl w v xs) (hx : xs.length < 6) :
    Calls Try.prog 27 #[v, .agg #[.int .i64 1, .int .i64 key, .int .i64 x]] w fun e w' =>
      ∃ v', e = .returned (.tuple #[v', .agg #[.int .i64 1, .int .i64 0]]) ∧ Own w' w.heap.size v' (xs ++ [x]) ∧ Below w.heap.size w w' := by
  obtain ⟨a, cap, rfl⟩ := h.slice
  obtain ⟨i0, hi0, hz0, hz1, hz2⟩ := info_parts infoInt
  have HS := Lib.hid h
  clear h
  go_enter Try.func27, Try.ntmps27
  go_wp2_with fail
  have B0 : Below w.heap.size w ((w.alloc (Obj.cells #[.int .i64 1, .int .i64 key, .int .i64 x] 30)).alloc (Obj.cells #[.int .i64 0, .int .i64 0] 26)) := balloc (balloc (Below.refl _ w) _) _
  have z0 : ((w.alloc (Obj.cells #[.int .i64 1, .int .i64 key, .int .i64 x] 30)).alloc (Obj.cells #[.int .i64 0, .int .i64 0] 26)).heap.size = w.heap.size + 2 := by simp
  have cO : Blk ((w.alloc (Obj.cells #[.int .i64 1, .int .i64 key, .int .i64 x] 30)).alloc (Obj.cells #[.int .i64 0, .int .i64 0] 26)) w.heap.size [.int .i64 1, .int .i64 key, .int .i64 x] 30 := (Blk.new w [.int .i64 1, .int .i64 key, .int .i64 x] 30).alloc _
  have cA : Blk ((w.alloc (Obj.cells #[.int .i64 1, .int .i64 key, .int .i64 x] 30)).alloc (Obj.cells #[.int .i64 0, .int .i64 0] 26)) (w.heap.size + 1) [.int .i64 0, .int .i64 0] 26 := by
    have := Blk.new (w.alloc (Obj.cells #[.int .i64 1, .int .i64 key, .int .i64 x] 30)) [.int .i64 0, .int .i64 0] 26
    simpa using this
  have hS0 := HS.out.below B0
  generalize ((w.alloc (Obj.cells #[.int .i64 1, .int .i64 key, .int .i64 x] 30)).alloc (Obj.cells #[.int .i64 0, .int .i64 0] 26)) = w0 at *
  have HZ := Lib.hid z0
  have zz : w.heap.size < w0.heap.size := by have := HZ.out; omega
  have zz1 : w.heap.size + 1 < w0.heap.size := by have := HZ.out; omega
  refine (clone_any _ _ xs hS0 (by omega)).mono ?_
  rintro e w3 ⟨v3, rfl, ho, hb3⟩
  obtain ⟨p3, c3, rfl⟩ := ho.sl.slice
  have HO := Lib.hid ho
  have HO3 := Lib.hid (cO.belowB hb3 zz)
  have HA3 := Lib.hid (cA.belowB hb3 zz1)
  have HB3 : Hid (Below w.heap.size w w3) := B0.trans (hb3.mono B0.size)
  have cO0 : w3.cell? ⟨w.heap.size, 0, none⟩ = some (.int .i64 1) := HO3.out.cell 0
  have cO2 : w3.cell? ⟨w.heap.size, 2, none⟩ = some (.int .i64 x) := HO3.out.cell 2
  have cA0 : w3.cell? ⟨w.heap.size + 1, 0, none⟩ = some (.int .i64 0) := HA3.out.cell 0
  have cA1 : w3.cell? ⟨w.heap.size + 1, 1, none⟩ = some (.int .i64 0) := HA3.out.cell 1
  have fA0 := HA3.out.frozen 0
  have fA1 := HA3.out.frozen 1
  have zw : w.heap.size < w3.heap.size := HO3.out.lt
  have zB3 : w0.heap.size ≤ w3.heap.size := hb3.size
  have zw1 : w.heap.size + 1 < w3.heap.size := HA3.out.lt
  clear hS0 HS z0 cO cA ho hb3
  have hbase : w0.heap.size ≤ (w3.alloc (Obj.cells #[.int .i64 x] 3)).heap.size := by have := zB3; simp; omega
  go_wp2_with (at_builtin; (refine wpList_append_own _ rfl _ _ 22 rfl w0.heap.size 3 i0 (.int .i64 0) 1 8 Try.underlying22 hi0 hz0 hz1 hz2 rfl (by decide) _ _ _ rfl (World.ownsRow.alloc HO.out _) ⟨w3.heap.size, 0, none⟩ 1 1 [.int .i64 x] rfl rfl (World.news_of_block (cs := #[.int .i64 x]) (t := 3) (fr := (0, 0)) (heap_alloc_new w3 _)) (by simp [Value.oneCell']) (by unfold maxLen; omega) (by omega) hbase ?_); intro v4 w4 hown4 hgrow4 _; have hb4 := (Below.refl w0.heap.size _).grown hgrow4 hbase (fun k hk => HO.out.block hk); have HB4 : Hid (Below w.heap.size w w4) := (balloc HB3.out _).trans (hb4.mono B0.size); have HA4 : Hid (Blk w4 (w.heap.size + 1) [.int .i64 0, .int .i64 0] 26) := (HA3.out.alloc _).belowB hb4 zz1; have eA0 : w4.cell? ⟨w.heap.size + 1, 0, none⟩ = some (.int .i64 0) := HA4.out.cell 0; have eA1 : w4.cell? ⟨w.heap.size + 1, 1, none⟩ = some (.int .i64 0) := HA4.out.cell 1; have gA0 := HA4.out.frozen 0; have gA1 := HA4.out.frozen 1; have HO4 : Hid (Own w4 w0.heap.size v4 (xs ++ [x])) := by unfold Hid Own; rw [List.length_append, List.map_append]; exact hown4)
  have ho6 := (HO4.out.store (p := ⟨w.heap.size + 1, 0, none⟩) zz1 (.int .i64 1)).store (p := ⟨w.heap.size + 1, 1, none⟩) zz1 (.int .i64 0)
  have ho7 := ho6.mono (Nat.le_of_lt zz)
  have hb6 := bstore (bstore HB4.out (p := ⟨w.heap.size + 1, 0, none⟩) (Nat.le_succ _) (.int .i64 1)) (p := ⟨w.heap.size + 1, 1, none⟩) (Nat.le_succ _) (.int .i64 0)
  have HA6 := HA4.out.pair (u := .int .i64 1) (v := .int .i64 0)
  generalize (w4.setCell ⟨w.heap.size + 1, 0, none⟩ (.int .i64 1)).setCell ⟨w.heap.size + 1, 1, none⟩ (.int .i64 0) = w6 at *
  have d0 : w6.cell? ⟨w.heap.size + 1, 0, none⟩ = some (.int .i64 1) := HA6.cell 0
  have d1 : w6.cell? ⟨w.heap.size + 1, 1, none⟩ = some (.int .i64 0) := HA6.cell 1
  clear HA6
  go_wp2_with fail
  exact bodyPost_ret (v := .tuple #[v4, .agg #[.int .i64 1, .int .i64 0]]) (by simp [results, Try.results27, go_sem, d0, d1]) rfl ⟨_, rfl, ho7, hb6⟩
set_option maxRecDepth 20000 in
set_option maxHeartbeats 1000000 in
theorem deque_front (w : World) (v : Value) (xs : List Int) (key x : Int) (h : Sl w v xs) (hx : xs.length < 6) :
    Calls Try.prog 27 #[v, .agg #[.int .i64 3, .int .i64 key, .int .i64 x]] w fun e w' =>
      ∃ v', e = .returned (.tuple #[v', .agg #[.int .i64 1, .int .i64 0]]) ∧ Own w' w.heap.size v' (x :: xs) ∧ Below w.heap.size w w' := by
  obtain ⟨a, cap, rfl⟩ := h.slice
  have HS := Lib.hid h
  clear h
  go_enter Try.func27, Try.ntmps27
  go_wp2_with fail
  have B0 : Below w.heap.size w ((w.alloc (Obj.cells #[.int .i64 3, .int .i64 key, .int .i64 x] 30)).alloc (Obj.cells #[.int .i64 0, .int .i64 0] 26)) := balloc (balloc (Below.refl _ w) _) _
  have z0 : ((w.alloc (Obj.cells #[.int .i64 3, .int .i64 key, .int .i64 x] 30)).alloc (Obj.cells #[.int .i64 0, .int .i64 0] 26)).heap.size = w.heap.size + 2 := by simp
  have cO : Blk ((w.alloc (Obj.cells #[.int .i64 3, .int .i64 key, .int .i64 x] 30)).alloc (Obj.cells #[.int .i64 0, .int .i64 0] 26)) w.heap.size [.int .i64 3, .int .i64 key, .int .i64 x] 30 := (Blk.new w [.int .i64 3, .int .i64 key, .int .i64 x] 30).alloc _
  have cA : Blk ((w.alloc (Obj.cells #[.int .i64 3, .int .i64 key, .int .i64 x] 30)).alloc (Obj.cells #[.int .i64 0, .int .i64 0] 26)) (w.heap.size + 1) [.int .i64 0, .int .i64 0] 26 := by
    have := Blk.new (w.alloc (Obj.cells #[.int .i64 3, .int .i64 key, .int .i64 x] 30)) [.int .i64 0, .int .i64 0] 26
    simpa using this
  have hS0 := HS.out.below B0
  generalize ((w.alloc (Obj.cells #[.int .i64 3, .int .i64 key, .int .i64 x] 30)).alloc (Obj.cells #[.int .i64 0, .int .i64 0] 26)) = w0 at *
  have HZ := Lib.hid z0
  have zz : w.heap.size < w0.heap.size := by have := HZ.out; omega
  have zz1 : w.heap.size + 1 < w0.heap.size := by have := HZ.out; omega
  refine (clone_any _ _ xs hS0 (by omega)).mono ?_
  rintro e w3 ⟨v3, rfl, ho, hb3⟩
  obtain ⟨p3, c3, rfl⟩ := ho.sl.slice
  have HO := Lib.hid ho
  have HO3 := Lib.hid (cO.belowB hb3 zz)
  have HA3 := Lib.hid (cA.belowB hb3 zz1)
  have HB3 : Hid (Below w.heap.size w w3) := B0.trans (hb3.mono B0.size)
  have cO0 : w3.cell? ⟨w.heap.size, 0, none⟩ = some (.int .i64 3) := HO3.out.cell 0
  have cO2 : w3.cell? ⟨w.heap.size, 2, none⟩ = some (.int .i64 x) := HO3.out.cell 2
  have cA0 : w3.cell? ⟨w.heap.size + 1, 0, none⟩ = some (.int .i64 0) := HA3.out.cell 0
  have cA1 : w3.cell? ⟨w.heap.size + 1, 1, none⟩ = some (.int .i64 0) := HA3.out.cell 1
  have fA0 := HA3.out.frozen 0
  have fA1 := HA3.out.frozen 1
  have zw : w.heap.size < w3.heap.size := HO3.out.lt
  have zB3 : w0.heap.size ≤ w3.heap.size := hb3.size
  have zw1 : w.heap.size + 1 < w3.heap.size := HA3.out.lt
  clear hS0 HS z0 cO cA ho hb3
  go_wp2_with fail
  have hbase : w0.heap.size ≤ (w3.alloc (Obj.cells #[.int .i64 x] 3)).heap.size := by have := zB3; simp; omega
  refine (insert_any _ w0.heap.size _ xs x _ (World.ownsRow.alloc HO.out _) (by omega) hbase (Blk.new w3 [.int .i64 x] 3) (fun a n c h => by have := HO.out.lt a n c h; omega)).mono ?_
  rintro e w4 ⟨v4, rfl, ho4, hb4⟩
  clear cO0 cO2 cA0 cA1 fA0 fA1 zw1 zw
  have HB4 : Hid (Below w.heap.size w w4) := (balloc HB3.out _).trans (hb4.mono B0.size)
  have HA4 := Lib.hid ((HA3.out.alloc _).belowB hb4 zz1)
  have cA0 : w4.cell? ⟨w.heap.size + 1, 0, none⟩ = some (.int .i64 0) := HA4.out.cell 0
  have cA1 : w4.cell? ⟨w.heap.size + 1, 1, none⟩ = some (.int .i64 0) := HA4.out.cell 1
  have fA0 := HA4.out.frozen 0
  have fA1 := HA4.out.frozen 1
  have zw1 : w.heap.size + 1 < w4.heap.size := HA4.out.lt
  have HO4 := Lib.hid ho4
  clear ho4 hb4
  go_wp2_with fail
  have ho6 := (HO4.out.store (p := ⟨w.heap.size + 1, 0, none⟩) zz1 (.int .i64 1)).store (p := ⟨w.heap.size + 1, 1, none⟩) zz1 (.int .i64 0)
  have ho7 := ho6.mono (Nat.le_of_lt zz)
  have hb6 := bstore (bstore HB4.out (p := ⟨w.heap.size + 1, 0, none⟩) (Nat.le_succ _) (.int .i64 1)) (p := ⟨w.heap.size + 1, 1, none⟩) (Nat.le_succ _) (.int .i64 0)
  have HA6 := HA4.out.pair (u := .int .i64 1) (v := .int .i64 0)
  generalize (w4.setCell ⟨w.heap.size + 1, 0, none⟩ (.int .i64 1)).setCell ⟨w.heap.size + 1, 1, none⟩ (.int .i64 0) = w6 at *
  have d0 : w6.cell? ⟨w.heap.size + 1, 0, none⟩ = some (.int .i64 1) := HA6.cell 0
  have d1 : w6.cell? ⟨w.heap.size + 1, 1, none⟩ = some (.int .i64 0) := HA6.cell 1
  clear HA6
  go_wp2_with fail
  exact bodyPost_ret (v := .tuple #[v4, .agg #[.int .i64 1, .int .i64 0]]) (by simp [results, Try.results27, go_sem, d0, d1]) rfl ⟨_, rfl, ho7, hb6⟩
set_option maxRecDepth 20000 in
set_option maxHeartbeats 1000000 in
theorem deque_peek (w : World) (v : Value) (xs : List Int) (key x : Int) (h : Sl w v xs) (hx : 0 < xs.length) (hx2 : xs.length ≤ 1000) :
    Calls Try.prog 27 #[v, .agg #[.int .i64 5, .int .i64 key, .int .i64 x]] w fun e w' =>
      ∃ v', e = .returned (.tuple #[v', .agg #[.int .i64 1, .int .i64 (xs.getD 0 0)]]) ∧ Own w' w.heap.size v' (xs) ∧ Below w.heap.size w w' := by
  obtain ⟨a, cap, rfl⟩ := h.slice
  have HS := Lib.hid h
  clear h
  go_enter Try.func27, Try.ntmps27
  go_wp2_with fail
  have B0 : Below w.heap.size w ((w.alloc (Obj.cells #[.int .i64 5, .int .i64 key, .int .i64 x] 30)).alloc (Obj.cells #[.int .i64 0, .int .i64 0] 26)) := balloc (balloc (Below.refl _ w) _) _
  have z0 : ((w.alloc (Obj.cells #[.int .i64 5, .int .i64 key, .int .i64 x] 30)).alloc (Obj.cells #[.int .i64 0, .int .i64 0] 26)).heap.size = w.heap.size + 2 := by simp
  have cO : Blk ((w.alloc (Obj.cells #[.int .i64 5, .int .i64 key, .int .i64 x] 30)).alloc (Obj.cells #[.int .i64 0, .int .i64 0] 26)) w.heap.size [.int .i64 5, .int .i64 key, .int .i64 x] 30 := (Blk.new w [.int .i64 5, .int .i64 key, .int .i64 x] 30).alloc _
  have cA : Blk ((w.alloc (Obj.cells #[.int .i64 5, .int .i64 key, .int .i64 x] 30)).alloc (Obj.cells #[.int .i64 0, .int .i64 0] 26)) (w.heap.size + 1) [.int .i64 0, .int .i64 0] 26 := by
    have := Blk.new (w.alloc (Obj.cells #[.int .i64 5, .int .i64 key, .int .i64 x] 30)) [.int .i64 0, .int .i64 0] 26
    simpa using this
  have hS0 := HS.out.below B0
  generalize ((w.alloc (Obj.cells #[.int .i64 5, .int .i64 key, .int .i64 x] 30)).alloc (Obj.cells #[.int .i64 0, .int .i64 0] 26)) = w0 at *
  have HZ := Lib.hid z0
  have zz : w.heap.size < w0.heap.size := by have := HZ.out; omega
  have zz1 : w.heap.size + 1 < w0.heap.size := by have := HZ.out; omega
  refine (clone_any _ _ xs hS0 (by omega)).mono ?_
  rintro e w3 ⟨v3, rfl, ho, hb3⟩
  obtain ⟨p3, c3, rfl⟩ := ho.sl.slice
  have HO := Lib.hid ho
  have HO3 := Lib.hid (cO.belowB hb3 zz)
  have HA3 := Lib.hid (cA.belowB hb3 zz1)
  have HB3 : Hid (Below w.heap.size w w3) := B0.trans (hb3.mono B0.size)
  have cO0 : w3.cell? ⟨w.heap.size, 0, none⟩ = some (.int .i64 5) := HO3.out.cell 0
  have cO2 : w3.cell? ⟨w.heap.size, 2, none⟩ = some (.int .i64 x) := HO3.out.cell 2
  have cA0 : w3.cell? ⟨w.heap.size + 1, 0, none⟩ = some (.int .i64 0) := HA3.out.cell 0
  have cA1 : w3.cell? ⟨w.heap.size + 1, 1, none⟩ = some (.int .i64 0) := HA3.out.cell 1
  have fA0 := HA3.out.frozen 0
  have fA1 := HA3.out.frozen 1
  have zw : w.heap.size < w3.heap.size := HO3.out.lt
  have zB3 : w0.heap.size ≤ w3.heap.size := hb3.size
  have zw1 : w.heap.size + 1 < w3.heap.size := HA3.out.lt
  clear hS0 HS z0 cO cA ho hb3
  obtain ⟨g, c3', he, hg1, hg2, hg3, hg4, hc, hf⟩ := HO.out.head hx
  simp only [Value.slice.injEq] at he
  obtain ⟨rfl, -, rfl⟩ := he
  have cx := hc 0 (by omega)
  simp only [Nat.zero_add] at cx
  generalize hx0 : xs.getD 0 0 = x0 at *
  have HX := Lib.hid hx0
  have hl0 : ((xs.length : Int) == 0) = false := beq_eq_false_iff_ne.2 (by omega)
  have hl1 : (0 : Int) < (xs.length : Int) := by omega
  have hn1 : (0 : Int) ≤ (xs.length : Int) - 1 := by omega
  have hgne : g ≠ w.heap.size + 1 := by omega
  have HXL := Lib.hid hx
  clear hx0 hc hf hx
  go_wp2_with fail
  have ho6 := (HO.out.store (p := ⟨w.heap.size + 1, 0, none⟩) zz1 (.int .i64 1)).store (p := ⟨w.heap.size + 1, 1, none⟩) zz1 (.int .i64 x0)
  have ho7 := ho6.mono (Nat.le_of_lt zz)
  have hb6 := bstore (bstore HB3.out (p := ⟨w.heap.size + 1, 0, none⟩) (Nat.le_succ _) (.int .i64 1)) (p := ⟨w.heap.size + 1, 1, none⟩) (Nat.le_succ _) (.int .i64 x0)
  have HA6 := HA3.out.pair (u := .int .i64 1) (v := .int .i64 x0)
  generalize (w3.setCell ⟨w.heap.size + 1, 0, none⟩ (.int .i64 1)).setCell ⟨w.heap.size + 1, 1, none⟩ (.int .i64 x0) = w6 at *
  have d0 : w6.cell? ⟨w.heap.size + 1, 0, none⟩ = some (.int .i64 1) := HA6.cell 0
  have d1 : w6.cell? ⟨w.heap.size + 1, 1, none⟩ = some (.int .i64 x0) := HA6.cell 1
  clear HA6
  go_wp2_with fail
  exact bodyPost_ret (v := .tuple #[.slice (some ⟨g, 0, none⟩) xs.length c3, .agg #[.int .i64 1, .int .i64 x0]]) (by simp [results, Try.results27, go_sem, d0, d1]) rfl ⟨_, by rw [HX.out], ho7, hb6⟩
set_option maxRecDepth 20000 in
set_option maxHeartbeats 1000000 in
theorem deque_take (w : World) (v : Value) (xs : List Int) (key x : Int) (h : Sl w v xs) (hx : 0 < xs.length) (hx2 : xs.length ≤ 1000) :
    Calls Try.prog 27 #[v, .agg #[.int .i64 2, .int .i64 key, .int .i64 x]] w fun e w' =>
      ∃ v', e = .returned (.tuple #[v', .agg #[.int .i64 1, .int .i64 (xs.getD 0 0)]]) ∧ Own w' w.heap.size v' (xs.eraseIdx 0) ∧ Below w.heap.size w w' := by
  obtain ⟨a, cap, rfl⟩ := h.slice
  have HS := Lib.hid h
  clear h
  go_enter Try.func27, Try.ntmps27
  go_wp2_with fail
  have B0 : Below w.heap.size w ((w.alloc (Obj.cells #[.int .i64 2, .int .i64 key, .int .i64 x] 30)).alloc (Obj.cells #[.int .i64 0, .int .i64 0] 26)) := balloc (balloc (Below.refl _ w) _) _
  have z0 : ((w.alloc (Obj.cells #[.int .i64 2, .int .i64 key, .int .i64 x] 30)).alloc (Obj.cells #[.int .i64 0, .int .i64 0] 26)).heap.size = w.heap.size + 2 := by simp
  have cO : Blk ((w.alloc (Obj.cells #[.int .i64 2, .int .i64 key, .int .i64 x] 30)).alloc (Obj.cells #[.int .i64 0, .int .i64 0] 26)) w.heap.size [.int .i64 2, .int .i64 key, .int .i64 x] 30 := (Blk.new w [.int .i64 2, .int .i64 key, .int .i64 x] 30).alloc _
  have cA : Blk ((w.alloc (Obj.cells #[.int .i64 2, .int .i64 key, .int .i64 x] 30)).alloc (Obj.cells #[.int .i64 0, .int .i64 0] 26)) (w.heap.size + 1) [.int .i64 0, .int .i64 0] 26 := by
    have := Blk.new (w.alloc (Obj.cells #[.int .i64 2, .int .i64 key, .int .i64 x] 30)) [.int .i64 0, .int .i64 0] 26
    simpa using this
  have hS0 := HS.out.below B0
  generalize ((w.alloc (Obj.cells #[.int .i64 2, .int .i64 key, .int .i64 x] 30)).alloc (Obj.cells #[.int .i64 0, .int .i64 0] 26)) = w0 at *
  have HZ := Lib.hid z0
  have zz : w.heap.size < w0.heap.size := by have := HZ.out; omega
  have zz1 : w.heap.size + 1 < w0.heap.size := by have := HZ.out; omega
  refine (clone_any _ _ xs hS0 (by omega)).mono ?_
  rintro e w3 ⟨v3, rfl, ho, hb3⟩
  obtain ⟨p3, c3, rfl⟩ := ho.sl.slice
  have HO := Lib.hid ho
  have HO3 := Lib.hid (cO.belowB hb3 zz)
  have HA3 := Lib.hid (cA.belowB hb3 zz1)
  have HB3 : Hid (Below w.heap.size w w3) := B0.trans (hb3.mono B0.size)
  have cO0 : w3.cell? ⟨w.heap.size, 0, none⟩ = some (.int .i64 2) := HO3.out.cell 0
  have cO2 : w3.cell? ⟨w.heap.size, 2, none⟩ = some (.int .i64 x) := HO3.out.cell 2
  have cA0 : w3.cell? ⟨w.heap.size + 1, 0, none⟩ = some (.int .i64 0) := HA3.out.cell 0
  have cA1 : w3.cell? ⟨w.heap.size + 1, 1, none⟩ = some (.int .i64 0) := HA3.out.cell 1
  have fA0 := HA3.out.frozen 0
  have fA1 := HA3.out.frozen 1
  have zw : w.heap.size < w3.heap.size := HO3.out.lt
  have zB3 : w0.heap.size ≤ w3.heap.size := hb3.size
  have zw1 : w.heap.size + 1 < w3.heap.size := HA3.out.lt
  clear hS0 HS z0 cO cA ho hb3
  obtain ⟨g, c3', he, hg1, hg2, hg3, hg4, hc, hf⟩ := HO.out.head hx
  simp only [Value.slice.injEq] at he
  obtain ⟨rfl, -, rfl⟩ := he
  have cx := hc 0 (by omega)
  simp only [Nat.zero_add] at cx
  generalize hx0 : xs.getD 0 0 = x0 at *
  have HX := Lib.hid hx0
  have hl0 : ((xs.length : Int) == 0) = false := beq_eq_false_iff_ne.2 (by omega)
  have hl1 : (0 : Int) < (xs.length : Int) := by omega
  have hn1 : (0 : Int) ≤ (xs.length : Int) - 1 := by omega
  have hgne : g ≠ w.heap.size + 1 := by omega
  have HXL := Lib.hid hx
  clear hx0 hc hf hx
  go_wp2_with fail
  refine (delete_at _ w0.heap.size _ xs 0 _ _ (by first | rfl | omega) (by first | rfl | omega) HO.out (by have := HXL.out; omega) zB3).mono ?_
  rintro e w4 ⟨v4, rfl, ho4, hb4⟩
  clear cO0 cO2 cA0 cA1 fA0 fA1 zw1 zw cx
  have HB4 : Hid (Below w.heap.size w w4) := HB3.out.trans (hb4.mono B0.size)
  have HA4 := Lib.hid (HA3.out.belowB hb4 zz1)
  have cA0 : w4.cell? ⟨w.heap.size + 1, 0, none⟩ = some (.int .i64 0) := HA4.out.cell 0
  have cA1 : w4.cell? ⟨w.heap.size + 1, 1, none⟩ = some (.int .i64 0) := HA4.out.cell 1
  have fA0 := HA4.out.frozen 0
  have fA1 := HA4.out.frozen 1
  have zw1 : w.heap.size + 1 < w4.heap.size := HA4.out.lt
  have HO4 := Lib.hid ho4
  clear ho4 hb4
  go_wp2_with fail
  have ho6 := (HO4.out.store (p := ⟨w.heap.size + 1, 0, none⟩) zz1 (.int .i64 1)).store (p := ⟨w.heap.size + 1, 1, none⟩) zz1 (.int .i64 x0)
  have ho7 := ho6.mono (Nat.le_of_lt zz)
  have hb6 := bstore (bstore HB4.out (p := ⟨w.heap.size + 1, 0, none⟩) (Nat.le_succ _) (.int .i64 1)) (p := ⟨w.heap.size + 1, 1, none⟩) (Nat.le_succ _) (.int .i64 x0)
  have HA6 := HA4.out.pair (u := .int .i64 1) (v := .int .i64 x0)
  generalize (w4.setCell ⟨w.heap.size + 1, 0, none⟩ (.int .i64 1)).setCell ⟨w.heap.size + 1, 1, none⟩ (.int .i64 x0) = w6 at *
  have d0 : w6.cell? ⟨w.heap.size + 1, 0, none⟩ = some (.int .i64 1) := HA6.cell 0
  have d1 : w6.cell? ⟨w.heap.size + 1, 1, none⟩ = some (.int .i64 x0) := HA6.cell 1
  clear HA6
  go_wp2_with fail
  exact bodyPost_ret (v := .tuple #[v4, .agg #[.int .i64 1, .int .i64 x0]]) (by simp [results, Try.results27, go_sem, d0, d1]) rfl ⟨_, by rw [HX.out], ho7, hb6⟩
set_option maxRecDepth 20000 in
set_option maxHeartbeats 1000000 in
theorem deque_back (w : World) (v : Value) (xs : List Int) (key x : Int) (h : Sl w v xs) (hx : 0 < xs.length) (hx2 : xs.length ≤ 1000) :
    Calls Try.prog 27 #[v, .agg #[.int .i64 4, .int .i64 key, .int .i64 x]] w fun e w' =>
      ∃ v', e = .returned (.tuple #[v', .agg #[.int .i64 1, .int .i64 (xs.getD (xs.length - 1) 0)]]) ∧ Own w' w.heap.size v' (xs.eraseIdx (xs.length - 1)) ∧ Below w.heap.size w w' := by
  obtain ⟨a, cap, rfl⟩ := h.slice
  have HS := Lib.hid h
  clear h
  go_enter Try.func27, Try.ntmps27
  go_wp2_with fail
  have B0 : Below w.heap.size w ((w.alloc (Obj.cells #[.int .i64 4, .int .i64 key, .int .i64 x] 30)).alloc (Obj.cells #[.int .i64 0, .int .i64 0] 26)) := balloc (balloc (Below.refl _ w) _) _
  have z0 : ((w.alloc (Obj.cells #[.int .i64 4, .int .i64 key, .int .i64 x] 30)).alloc (Obj.cells #[.int .i64 0, .int .i64 0] 26)).heap.size = w.heap.size + 2 := by simp
  have cO : Blk ((w.alloc (Obj.cells #[.int .i64 4, .int .i64 key, .int .i64 x] 30)).alloc (Obj.cells #[.int .i64 0, .int .i64 0] 26)) w.heap.size [.int .i64 4, .int .i64 key, .int .i64 x] 30 := (Blk.new w [.int .i64 4, .int .i64 key, .int .i64 x] 30).alloc _
  have cA : Blk ((w.alloc (Obj.cells #[.int .i64 4, .int .i64 key, .int .i64 x] 30)).alloc (Obj.cells #[.int .i64 0, .int .i64 0] 26)) (w.heap.size + 1) [.int .i64 0, .int .i64 0] 26 := by
    have := Blk.new (w.alloc (Obj.cells #[.int .i64 4, .int .i64 key, .int .i64 x] 30)) [.int .i64 0, .int .i64 0] 26
    simpa using this
  have hS0 := HS.out.below B0
  generalize ((w.alloc (Obj.cells #[.int .i64 4, .int .i64 key, .int .i64 x] 30)).alloc (Obj.cells #[.int .i64 0, .int .i64 0] 26)) = w0 at *
  have HZ := Lib.hid z0
  have zz : w.heap.size < w0.heap.size := by have := HZ.out; omega
  have zz1 : w.heap.size + 1 < w0.heap.size := by have := HZ.out; omega
  refine (clone_any _ _ xs hS0 (by omega)).mono ?_
  rintro e w3 ⟨v3, rfl, ho, hb3⟩
  obtain ⟨p3, c3, rfl⟩ := ho.sl.slice
  have HO := Lib.hid ho
  have HO3 := Lib.hid (cO.belowB hb3 zz)
  have HA3 := Lib.hid (cA.belowB hb3 zz1)
  have HB3 : Hid (Below w.heap.size w w3) := B0.trans (hb3.mono B0.size)
  have cO0 : w3.cell? ⟨w.heap.size, 0, none⟩ = some (.int .i64 4) := HO3.out.cell 0
  have cO2 : w3.cell? ⟨w.heap.size, 2, none⟩ = some (.int .i64 x) := HO3.out.cell 2
  have cA0 : w3.cell? ⟨w.heap.size + 1, 0, none⟩ = some (.int .i64 0) := HA3.out.cell 0
  have cA1 : w3.cell? ⟨w.heap.size + 1, 1, none⟩ = some (.int .i64 0) := HA3.out.cell 1
  have fA0 := HA3.out.frozen 0
  have fA1 := HA3.out.frozen 1
  have zw : w.heap.size < w3.heap.size := HO3.out.lt
  have zB3 : w0.heap.size ≤ w3.heap.size := hb3.size
  have zw1 : w.heap.size + 1 < w3.heap.size := HA3.out.lt
  clear hS0 HS z0 cO cA ho hb3
  obtain ⟨g, c3', he, hg1, hg2, hg3, hg4, hc, hf⟩ := HO.out.head hx
  simp only [Value.slice.injEq] at he
  obtain ⟨rfl, -, rfl⟩ := he
  have cx := hc (xs.length - 1) (by omega)
  simp only [Nat.zero_add] at cx
  generalize hx0 : xs.getD (xs.length - 1) 0 = x0 at *
  have HX := Lib.hid hx0
  have hl0 : ((xs.length : Int) == 0) = false := beq_eq_false_iff_ne.2 (by omega)
  have hl1 : (0 : Int) < (xs.length : Int) := by omega
  have hn1 : (0 : Int) ≤ (xs.length : Int) - 1 := by omega
  have hgne : g ≠ w.heap.size + 1 := by omega
  have HXL := Lib.hid hx
  clear hx0 hc hf hx
  go_wp2_with fail
  refine (delete_at _ w0.heap.size _ xs (xs.length - 1) _ _ (by first | rfl | omega) (by first | rfl | omega) HO.out (by have := HXL.out; omega) zB3).mono ?_
  rintro e w4 ⟨v4, rfl, ho4, hb4⟩
  clear cO0 cO2 cA0 cA1 fA0 fA1 zw1 zw cx
  have HB4 : Hid (Below w.heap.size w w4) := HB3.out.trans (hb4.mono B0.size)
  have HA4 := Lib.hid (HA3.out.belowB hb4 zz1)
  have cA0 : w4.cell? ⟨w.heap.size + 1, 0, none⟩ = some (.int .i64 0) := HA4.out.cell 0
  have cA1 : w4.cell? ⟨w.heap.size + 1, 1, none⟩ = some (.int .i64 0) := HA4.out.cell 1
  have fA0 := HA4.out.frozen 0
  have fA1 := HA4.out.frozen 1
  have zw1 : w.heap.size + 1 < w4.heap.size := HA4.out.lt
  have HO4 := Lib.hid ho4
  clear ho4 hb4
  go_wp2_with fail
  have ho6 := (HO4.out.store (p := ⟨w.heap.size + 1, 0, none⟩) zz1 (.int .i64 1)).store (p := ⟨w.heap.size + 1, 1, none⟩) zz1 (.int .i64 x0)
  have ho7 := ho6.mono (Nat.le_of_lt zz)
  have hb6 := bstore (bstore HB4.out (p := ⟨w.heap.size + 1, 0, none⟩) (Nat.le_succ _) (.int .i64 1)) (p := ⟨w.heap.size + 1, 1, none⟩) (Nat.le_succ _) (.int .i64 x0)
  have HA6 := HA4.out.pair (u := .int .i64 1) (v := .int .i64 x0)
  generalize (w4.setCell ⟨w.heap.size + 1, 0, none⟩ (.int .i64 1)).setCell ⟨w.heap.size + 1, 1, none⟩ (.int .i64 x0) = w6 at *
  have d0 : w6.cell? ⟨w.heap.size + 1, 0, none⟩ = some (.int .i64 1) := HA6.cell 0
  have d1 : w6.cell? ⟨w.heap.size + 1, 1, none⟩ = some (.int .i64 x0) := HA6.cell 1
  clear HA6
  go_wp2_with fail
  exact bodyPost_ret (v := .tuple #[v4, .agg #[.int .i64 1, .int .i64 x0]]) (by simp [results, Try.results27, go_sem, d0, d1]) rfl ⟨_, by rw [HX.out], ho7, hb6⟩
end Go.Proofs.Ytpedkcpkdacnlaa
end
section
namespace Go.Proofs.Ytpedkcpkdacnlaa
open Go.RowKit
set_option linter.unusedVariables false
def deqR (xs : List Int) (k x : Int) : List Int × Int × Int :=
  if k = 1 ∨ k = 3 then (if 6 ≤ xs.length then (xs, 3, 0) else if k = 1 then (xs ++ [x], 1, 0) else (x :: xs, 1, 0))
  else if k = 2 ∨ k = 4 ∨ k = 5 then (if xs.length = 0 then (xs, 2, 0) else if k = 5 then (xs, 1, xs.getD 0 0) else if k = 4 then (xs.eraseIdx (xs.length - 1), 1, xs.getD (xs.length - 1) 0) else (xs.eraseIdx 0, 1, xs.getD 0 0))
  else if k = 6 then (xs, 1, xs.length) else (xs, 5, 0)
def queR (xs : List Int) (k x : Int) : List Int × Int × Int :=
  if k = 1 then (if 6 ≤ xs.length then (xs, 3, 0) else (xs ++ [x], 1, 0))
  else if k = 2 ∨ k = 5 then (if xs.length = 0 then (xs, 2, 0) else if k = 5 then (xs, 1, xs.getD 0 0) else (xs.tail, 1, xs.getD 0 0))
  else if k = 6 then (xs, 1, xs.length) else (xs, 5, 0)
def stkR (xs : List Int) (k x : Int) : List Int × Int × Int :=
  if k = 1 then (if 6 ≤ xs.length then (xs, 3, 0) else (xs ++ [x], 1, 0))
  else if k = 2 ∨ k = 5 then (if xs.length = 0 then (xs, 2, 0) else if k = 5 then (xs, 1, xs.getD (xs.length - 1) 0) else (xs.take (xs.length - 1), 1, xs.getD (xs.length - 1) 0))
  else if k = 6 then (xs, 1, xs.length) else (xs, 5, 0)
theorem deque_eq (w : World) (v : Value) (xs : List Int) (k key x : Int) (h : Sl w v xs) (hx : xs.length ≤ 1000) {ys : List Int} {c r : Int} (hd : deqR xs k x = (ys, c, r)) :
    Calls Try.prog 27 #[v, .agg #[.int .i64 k, .int .i64 key, .int .i64 x]] w fun e w' =>
      ∃ v', e = .returned (.tuple #[v', .agg #[.int .i64 c, .int .i64 r]]) ∧ Own w' w.heap.size v' ys ∧ Below w.heap.size w w' := by
  unfold deqR at hd
  by_cases h13 : k = 1 ∨ k = 3
  · rw [if_pos h13] at hd
    by_cases h6 : 6 ≤ xs.length
    · rw [if_pos h6] at hd; cases hd
      rcases h13 with rfl | rfl
      · exact deque_put_full w v _ key x h h6 hx
      · exact deque_front_full w v _ key x h h6 hx
    · rw [if_neg h6] at hd
      rcases h13 with rfl | rfl
      · rw [if_pos rfl] at hd; cases hd; exact deque_put w v _ key x h (by omega)
      · rw [if_neg (by decide)] at hd; cases hd; exact deque_front w v _ key x h (by omega)
  rw [if_neg h13] at hd
  by_cases h245 : k = 2 ∨ k = 4 ∨ k = 5
  · rw [if_pos h245] at hd
    by_cases h0 : xs.length = 0
    · rw [if_pos h0] at hd; cases hd
      rcases h245 with rfl | rfl | rfl
      · exact deque_nil2 w v _ key x h h0
      · exact deque_nil4 w v _ key x h h0
      · exact deque_nil5 w v _ key x h h0
    · rw [if_neg h0] at hd
      have hp : 0 < xs.length := by omega
      rcases h245 with rfl | rfl | rfl
      · rw [if_neg (by decide), if_neg (by decide)] at hd; cases hd; exact deque_take w v _ key x h hp hx
      · rw [if_neg (by decide), if_pos rfl] at hd; cases hd; exact deque_back w v _ key x h hp hx
      · rw [if_pos rfl] at hd; cases hd; exact deque_peek w v _ key x h hp hx
  rw [if_neg h245] at hd
  by_cases h6 : k = 6
  · subst h6; rw [if_pos rfl] at hd; cases hd; exact deque_count w v _ key x h hx
  · rw [if_neg h6] at hd; cases hd; exact deque_wrong w v _ k key x h (by omega) (by omega) (by omega) (by omega) (by omega) h6 hx
theorem queue_eq (w : World) (v : Value) (xs : List Int) (k key x : Int) (h : Sl w v xs) (hx : xs.length ≤ 1000) {ys : List Int} {c r : Int} (hd : queR xs k x = (ys, c, r)) :
    Calls Try.prog 32 #[v, .agg #[.int .i64 k, .int .i64 key, .int .i64 x]] w fun e w' =>
      ∃ v', e = .returned (.tuple #[v', .agg #[.int .i64 c, .int .i64 r]]) ∧ Own w' w.heap.size v' ys ∧ Below w.heap.size w w' := by
  unfold queR at hd
  by_cases h1 : k = 1
  · subst h1
    rw [if_pos rfl] at hd
    by_cases h6 : 6 ≤ xs.length
    · rw [if_pos h6] at hd; cases hd; exact queue_put_full w v _ key x h h6 hx
    · rw [if_neg h6] at hd; cases hd; exact queue_put w v _ key x h (by omega)
  rw [if_neg h1] at hd
  by_cases h25 : k = 2 ∨ k = 5
  · rw [if_pos h25] at hd
    by_cases h0 : xs.length = 0
    · rw [if_pos h0] at hd
      obtain rfl : xs = [] := List.length_eq_zero_iff.1 h0
      cases hd
      rcases h25 with rfl | rfl
      · exact queue_take_nil w v [] key x h rfl
      · exact queue_peek_nil w v [] key x h rfl
    · rw [if_neg h0] at hd
      have hp : 0 < xs.length := by omega
      rcases h25 with rfl | rfl
      · rw [if_neg (by decide)] at hd; cases hd; exact queue_take w v _ key x h hp hx
      · rw [if_pos rfl] at hd; cases hd; exact queue_peek w v _ key x h hp hx
  rw [if_neg h25] at hd
  by_cases h6 : k = 6
  · subst h6; rw [if_pos rfl] at hd; cases hd; exact queue_count w v _ key x h hx
  · rw [if_neg h6] at hd; cases hd; exact queue_wrong w v _ k key x h (by omega) (by omega) (by omega) h6 hx
theorem stack_eq (w : World) (v : Value) (xs : List Int) (k key x : Int) (h : Sl w v xs) (hx : xs.length ≤ 1000) {ys : List Int} {c r : Int} (hd : stkR xs k x = (ys, c, r)) :
    Calls Try.prog 30 #[v, .agg #[.int .i64 k, .int .i64 key, .int .i64 x]] w fun e w' =>
      ∃ v', e = .returned (.tuple #[v', .agg #[.int .i64 c, .int .i64 r]]) ∧ Own w' w.heap.size v' ys ∧ Below w.heap.size w w' := by
  unfold stkR at hd
  by_cases h1 : k = 1
  · subst h1
    rw [if_pos rfl] at hd
    by_cases h6 : 6 ≤ xs.length
    · rw [if_pos h6] at hd; cases hd; exact stack_put_full w v _ key x h h6 hx
    · rw [if_neg h6] at hd; cases hd; exact stack_put w v _ key x h (by omega)
  rw [if_neg h1] at hd
  by_cases h25 : k = 2 ∨ k = 5
  · rw [if_pos h25] at hd
    by_cases h0 : xs.length = 0
    · rw [if_pos h0] at hd; cases hd
      exact stack_nil w v _ k key x h h0 h25
    · rw [if_neg h0] at hd
      have hp : 0 < xs.length := by omega
      rcases h25 with rfl | rfl
      · rw [if_neg (by decide)] at hd; cases hd; exact stack_take w v _ key x h hp hx
      · rw [if_pos rfl] at hd; cases hd; exact stack_peek w v _ key x h hp hx
  rw [if_neg h25] at hd
  by_cases h6 : k = 6
  · subst h6; rw [if_pos rfl] at hd; cases hd; exact stack_count w v _ key x h hx
  · rw [if_neg h6] at hd; cases hd; exact stack_wrong w v _ k key x h (by omega) (by omega) (by omega) h6 hx
theorem deq_que (xs : List Int) (k x : Int) (h3 : k ≠ 3) (h4 : k ≠ 4) : deqR xs k x = queR xs k x := by
  unfold deqR queR
  by_cases h1 : k = 1
  · subst h1; simp
  · rw [if_neg (by omega), if_neg h1]
    by_cases h25 : k = 2 ∨ k = 5
    · rw [if_pos (by omega), if_pos h25]
      by_cases h0 : xs.length = 0
      · rw [if_pos h0, if_pos h0]
      · rw [if_neg h0, if_neg h0]
        by_cases h5 : k = 5
        · rw [if_pos h5, if_pos h5]
        · rw [if_neg h5, if_neg h5, if_neg h4, List.eraseIdx_zero]
    · rw [if_neg (by omega), if_neg h25]
theorem eraseIdx_last (xs : List Int) : xs.eraseIdx (xs.length - 1) = xs.take (xs.length - 1) := by
  rw [List.eraseIdx_eq_take_drop_succ, List.drop_of_length_le (by omega), List.append_nil]
theorem deq_stk (xs : List Int) (k x : Int) (hk : k = 1 ∨ k = 2 ∨ k = 6) : deqR xs (if k = 2 then 4 else k) x = stkR xs k x := by
  unfold deqR stkR
  rcases hk with rfl | rfl | rfl
  · simp
  · simp [List.dropLast_eq_take]
  · simp
def mir (k : Int) : Int := if k = 1 then 3 else if k = 3 then 1 else if k = 2 then 4 else if k = 4 then 2 else k
theorem deq_turn (xs : List Int) (k x : Int) (hk : 1 ≤ k ∧ k ≤ 4) : deqR xs.reverse (mir k) x = ((deqR xs k x).1.reverse, (deqR xs k x).2.1, (deqR xs k x).2.2) := by
  have hlast : ∀ (hl : xs.length ≠ 0), xs.reverse.getD 0 0 = xs.getD (xs.length - 1) 0 ∧ xs.reverse.getD (xs.length - 1) 0 = xs.getD 0 0 ∧ xs.reverse.eraseIdx 0 = (xs.eraseIdx (xs.length - 1)).reverse ∧ xs.reverse.eraseIdx (xs.length - 1) = (xs.eraseIdx 0).reverse := by
    intro hl
    refine ⟨?_, ?_, ?_, ?_⟩
    · rw [List.getD_eq_getElem?_getD, List.getD_eq_getElem?_getD, List.getElem?_reverse (by omega), Nat.sub_zero]
    · rw [List.getD_eq_getElem?_getD, List.getD_eq_getElem?_getD, List.getElem?_reverse (by omega)]; congr 2; omega
    · rw [List.eraseIdx_zero, eraseIdx_last, List.tail_reverse, List.dropLast_eq_take]
    · have := eraseIdx_last xs.reverse
      rw [List.length_reverse] at this
      rw [this, List.eraseIdx_zero, List.take_reverse, show xs.length - (xs.length - 1) = 1 by omega, List.drop_one]
  obtain rfl | rfl | rfl | rfl : k = 1 ∨ k = 2 ∨ k = 3 ∨ k = 4 := by omega
  · unfold deqR mir; by_cases h : 6 ≤ xs.length <;> simp [h]
  · by_cases h : xs.length = 0
    · obtain rfl : xs = [] := List.length_eq_zero_iff.1 h; rfl
    · obtain ⟨a, b, c, d⟩ := hlast h
      have h' : xs ≠ [] := fun e => h (by rw [e]; rfl)
      unfold deqR mir
      rw [List.length_reverse, b, d]
      simp [h']
  · unfold deqR mir; by_cases h : 6 ≤ xs.length <;> simp [h]
  · by_cases h : xs.length = 0
    · obtain rfl : xs = [] := List.length_eq_zero_iff.1 h; rfl
    · obtain ⟨a, b, c, d⟩ := hlast h
      have h' : xs ≠ [] := fun e => h (by rw [e]; rfl)
      unfold deqR mir
      rw [List.length_reverse, a, c]
      simp [h']
end Go.Proofs.Ytpedkcpkdacnlaa
end
section
namespace Go.Proofs.Ytpedkcpkdacnlaa
open Go.RowKit Go.Lib
set_option linter.unusedVariables false
theorem Own.ltb {w : World} {base : Nat} {v : Value} {xs : List Int} (h : Own w base v xs) {k : Nat} (hk : v.ownBlock = some k) : k < w.heap.size := by
  rcases h.opened with ⟨rfl, -⟩ | ⟨g, cap, C, rfl, hg, hB, -⟩
  · simp [Value.ownBlock] at hk
  · simp [Value.ownBlock] at hk; subst hk; exact hB.lt
theorem reverse_kept (w : World) (base : Nat) (v : Value) (xs : List Int) (h : Own w base v xs) :
    Calls Try.prog 26 #[v] w fun e w' => e = .returned (.tuple #[]) ∧ Own w' base v xs.reverse ∧ Kept (fun k => v.ownBlock = some k) w w' := by
  rcases h.opened with ⟨rfl, rfl⟩ | ⟨g, cap, C, rfl, hg, hB, hC, hl, hm, ht⟩
  · exact (Try.slices_Reverse_int_empty none 0 w).mono fun e w' ⟨he, hw⟩ => ⟨he, by rw [hw]; exact h, by rw [hw]; exact Kept.refl _ _⟩
  · refine (Try.slices_Reverse_int_cells g 0 xs.length cap xs w (Nat.le_refl _) (by omega) (hB.take_cell ht) (fun j _ => hB.frozen _)).mono fun e w' ⟨he, q, hw⟩ => ⟨he, ?_, ?_⟩
    · rw [hw, List.take_of_length_le (Nat.le_refl xs.length)]
      have hlz : (xs.reverse.map (Value.int .i64)).length = xs.length := by simp
      have hB1 := Blk.setCells (xs.reverse.map (Value.int .i64)) 0 (w.drewN q) C hB (by rw [hlz]; omega)
      have := Own.made (xs := xs.reverse) hg hB1 (by rw [spl_length _ _ _ (by rw [hlz]; omega)]; exact hC) (by simp; omega) hm (spl_take _ _ _ (by simp))
      rwa [List.length_reverse] at this
    · rw [hw]
      exact (Kept.of_below (below_drewN w q)).trans ((setCells_kept g _ _ (w.drewN q)).mono (fun k hk => by rw [hk]; simp [Value.ownBlock]))
end Go.Proofs.Ytpedkcpkdacnlaa
end
section
namespace Go.Proofs.Ytpedkcpkdacnlaa
set_option linter.unusedVariables false
variable {P : Program} {ops : Array Oper}
/-- Does it write? -/
def eff (o : Oper) : Bool := match o.op with
  | .store _ _ _ => true
  | .mapUpdate _ _ _ _ => true
  | _ => false
/-- In every world that meets S the operation yields v, and leaves a world that meets S'. -/
def YR (P : Program) (S S' : World → Prop) (r : Sem Next) (v : Value) : Prop :=
  ∀ w, S w → (∃ w', r.run P w = .ok (.value v) w' ∧ S' w') ∨ (∃ w', r.run P w = .ok .skip w' ∧ v = undef ∧ S' w') ∨
    (∃ f args w', r.run P w = .ok (.enter f args) w' ∧ Calls P f args w' (fun e w'' => e = .returned v ∧ S' w''))
theorem YR.wp {S S' : World → Prop} {o : Oper} {a : Act} {v : Value} {K : Act → World → Prop} {Q : Exit → Act → World → Prop} (h : YR P S S' (execOp a.eval o) v)
    (hK : ∀ w, S' w → K (a.put o.dst v) w) (w : World) (hw : S w) : o.wp P a w K Q := by
  unfold Oper.wp
  rcases h w hw with ⟨w', hr, hs⟩ | ⟨w', hr, rfl, hs⟩ | ⟨f, args, w', hr, hc⟩
  · rw [hr]; exact hK _ hs
  · rw [hr]; exact hK _ hs
  · rw [hr]; exact hc.mono fun e w'' ⟨he, hs⟩ => by subst he; exact hK _ hs
def dstOf (ops : Array Oper) (k : Nat) : Option Tmp := (ops[k]?).bind (·.dst)
/-- The frame behind those of the first n operations that are listed. -/
def canon (ops : Array Oper) (V : Nat → Value) (a : Act) (L : Nat → Bool) : Nat → Act
  | 0 => a
  | k + 1 => if L k then (canon ops V a L k).put (dstOf ops k) (V k) else canon ops V a L k
theorem canon_congr (V : Nat → Value) (a : Act) (L L' : Nat → Bool) : ∀ n, (∀ k, k < n → L k = L' k) → canon ops V a L n = canon ops V a L' n
  | 0, _ => rfl
  | n + 1, h => by
    simp only [canon]
    rw [canon_congr V a L L' n (fun k hk => h k (by omega)), h n (by omega)]
theorem canon_set (V : Nat → Value) (a : Act) (L L' : Nat → Bool) (i : Nat) (hi : L i = false) (hi' : L' i = true) (ho : ∀ j, j ≠ i → L' j = L j) :
    ∀ n, i < n → (∀ j, j < n → j ≠ i → ∀ d, dstOf ops i = some d → dstOf ops j ≠ some d) → canon ops V a L' n = (canon ops V a L n).put (dstOf ops i) (V i)
  | 0, h, _ => by omega
  | n + 1, h, hd => by
    simp only [canon]
    by_cases e : n = i
    · subst e
      rw [hi, hi', if_pos rfl, if_neg (by simp), canon_congr V a L' L n (fun k hk => ho k (by omega))]
    · rw [ho n e, canon_set V a L L' i hi hi' ho n (by omega) (fun j hj => hd j (by omega))]
      cases L n
      · rfl
      · simp only [if_true]
        exact Act.put_comm _ _ _ (fun d h1 h2 => hd n (by omega) e d h1 h2)
theorem put_size (a : Act) (d : Option Tmp) (v : Value) : (a.put d v).tmps.size = a.tmps.size := by cases d <;> simp [Act.put]
theorem canon_size (V : Nat → Value) (a : Act) (L : Nat → Bool) : ∀ n, (canon ops V a L n).tmps.size = a.tmps.size
  | 0 => rfl
  | n + 1 => by
    simp only [canon]
    split
    · rw [put_size]; exact canon_size V a L n
    · exact canon_size V a L n
/-- A slot holds the same in two frames if of those that write it the same are listed. -/
theorem canon_slot (V : Nat → Value) (a : Act) (L L' : Nat → Bool) (t : Tmp) : ∀ n, (∀ j, j < n → dstOf ops j = some t → L j = L' j) →
    (canon ops V a L n).tmps[t]? = (canon ops V a L' n).tmps[t]?
  | 0, _ => rfl
  | n + 1, h => by
    have ih := canon_slot V a L L' t n (fun j hj => h j (by omega))
    simp only [canon]
    by_cases hd : dstOf ops n = some t
    · rw [h n (by omega) hd]
      cases L' n
      · exact ih
      · simp only [if_true, hd, Act.put, Array.getElem?_setIfInBounds, canon_size]
    · have put_ne : ∀ b : Act, (b.put (dstOf ops n) (V n)).tmps[t]? = b.tmps[t]? := fun b => by
        cases hq : dstOf ops n with
        | none => rfl
        | some d =>
          have : d ≠ t := fun e => hd (by rw [hq, e])
          simp [Act.put, Array.getElem?_setIfInBounds_ne this]
      split <;> split <;> (first | exact ih | (simp only [put_ne]; exact ih))
/-- The side condition: what an operation looks at comes up before it; slots are written once; writers are in order. -/
def stableB (ops : Array Oper) : Bool :=
  (List.range ops.size).all fun i => match ops[i]? with
    | none => false
    | some o => (match o.op with | .select _ _ => false | _ => true) &&
      (o.after.all fun e => !Region.binds .any e || decide (e.on < i)) &&
      ((o.looksAt ops).all fun t => (List.range ops.size).all fun j => (dstOf ops j != some t) || (decide (j < i) && o.after.any fun e => Region.binds .any e && e.on == j)) &&
      ((List.range ops.size).all fun j => decide (j = i) || (match o.dst with | some d => dstOf ops j != some d | none => true)) &&
      (!eff o || (List.range i).all fun j => (match ops[j]? with | some p => !eff p | none => true) || o.after.any fun e => Region.binds .any e && e.on == j)
structure Stable (ops : Array Oper) : Prop where
  sel : ∀ (i : Nat) (o : Oper), ops[i]? = some o → ∀ cs b, o.op ≠ .select cs b
  edge : ∀ (i : Nat) (o : Oper), ops[i]? = some o → ∀ e ∈ o.after, Region.binds .any e = true → e.on < i
  look : ∀ (i : Nat) (o : Oper), ops[i]? = some o → ∀ t ∈ o.looksAt ops, ∀ j, j < ops.size → dstOf ops j = some t → j < i ∧ ∃ e ∈ o.after, Region.binds .any e = true ∧ e.on = j
  dist : ∀ (i : Nat) (o : Oper), ops[i]? = some o → ∀ j, j < ops.size → j ≠ i → ∀ d, o.dst = some d → dstOf ops j ≠ some d
  order : ∀ (i : Nat) (o : Oper), ops[i]? = some o → eff o = true → ∀ (j : Nat) (p : Oper), j < i → ops[j]? = some p → eff p = true → ∃ e ∈ o.after, Region.binds .any e = true ∧ e.on = j
theorem stable_of (h : stableB ops = true) : Stable ops := by
  have key : ∀ (i : Nat) (o : Oper), ops[i]? = some o → ((((((match o.op with | .select _ _ => false | _ => true) = true ∧
      (o.after.all fun e => !Region.binds .any e || decide (e.on < i)) = true) ∧
      ((o.looksAt ops).all fun t => (List.range ops.size).all fun j => (dstOf ops j != some t) || (decide (j < i) && o.after.any fun e => Region.binds .any e && e.on == j)) = true) ∧
      ((List.range ops.size).all fun j => decide (j = i) || (match o.dst with | some d => dstOf ops j != some d | none => true)) = true)) ∧
      (!eff o || (List.range i).all fun j => (match ops[j]? with | some p => !eff p | none => true) || o.after.any fun e => Region.binds .any e && e.on == j) = true) := fun i o ho => by
    have hi : i < ops.size := (Array.getElem?_eq_some_iff.1 ho).1
    have := List.all_eq_true.1 h i (List.mem_range.2 hi)
    simp only [ho, Bool.and_eq_true] at this
    exact this
  refine ⟨fun i o ho cs b hs => ?_, fun i o ho e he hb => ?_, fun i o ho t ht j hj hd => ?_, fun i o ho j hj hne d hd hd' => ?_, fun i o ho he j p hj hp hep => ?_⟩
  · have := (key i o ho).1.1.1.1; rw [hs] at this; cases this
  · have := (key i o ho).1.1.1.2
    have := Array.all_eq_true_iff_forall_mem.1 this e he
    simpa [hb] using this
  · have := List.all_eq_true.1 (List.all_eq_true.1 (key i o ho).1.1.2 t ht) j (List.mem_range.2 hj)
    rw [hd] at this
    simp only [bne_self_eq_false, Bool.false_or, Bool.and_eq_true, decide_eq_true_eq] at this
    obtain ⟨e, he, hb⟩ := Array.any_eq_true'.1 this.2
    simp only [Bool.and_eq_true, beq_iff_eq] at hb
    exact ⟨this.1, e, he, hb.1, hb.2⟩
  · have := List.all_eq_true.1 (key i o ho).1.2 j (List.mem_range.2 hj)
    simp [hne, hd, hd'] at this
  · have h1 := (key i o ho).2
    rw [he] at h1
    simp only [Bool.not_true, Bool.false_or] at h1
    have := List.all_eq_true.1 h1 j (List.mem_range.2 hj)
    simp only [hp, hep, Bool.not_true, Bool.false_or] at this
    obtain ⟨e, he, hb⟩ := Array.any_eq_true'.1 this
    simp only [Bool.and_eq_true, beq_iff_eq] at hb
    exact ⟨e, he, hb.1, hb.2⟩
/-- How many writers stand below place n. -/
def effN (ops : Array Oper) : Nat → Nat
  | 0 => 0
  | n + 1 => effN ops n + (match ops[n]? with | some o => if eff o then 1 else 0 | none => 0)
theorem effN_same (p : Nat) : ∀ q, p ≤ q → (∀ (j : Nat) (o : Oper), p ≤ j → j < q → ops[j]? = some o → eff o = false) → effN ops q = effN ops p
  | 0, h, _ => by rw [show p = 0 by omega]
  | q + 1, h, hh => by
    by_cases e : p = q + 1
    · rw [e]
    · simp only [effN]
      rw [effN_same p q (by omega) (fun j o a b => hh j o a (by omega))]
      cases ho : ops[q]? with
      | none => rfl
      | some o => simp [hh q o (by omega) (by omega) ho]
theorem eval_slot {a b : Act} {x : Operand} (h : ∀ t, x = .tmp t → a.tmps[t]? = b.tmps[t]?) : a.eval x = b.eval x := by
  cases x with
  | tmp t =>
    have := h t rfl
    simp only [Act.eval, Array.getD_eq_getD_getElem?, this]
  | _ => rfl
theorem wanted_slot {a b : Act} {o : Oper} (h : ∀ t, t ∈ o.looksAt ops → a.tmps[t]? = b.tmps[t]?) : Region.wanted o (yielded ops a.tmps) = Region.wanted o (yielded ops b.tmps) := by
  unfold Region.wanted
  cases hg : o.guard with
  | none => rfl
  | some gw =>
    obtain ⟨g, want⟩ := gw
    have hy : yielded ops a.tmps g = yielded ops b.tmps g := by
      unfold yielded
      cases ht : (ops[g]?).bind (·.dst) with
      | none => rfl
      | some t =>
        have := h t (by simp [Oper.looksAt, hg, ht])
        simp only [Option.bind_some, this]
    simp only [hy]
/-- Does operation e write, and wait for operation i? -/
def waitsW (ops : Array Oper) (i e : Nat) : Bool := match ops[e]? with
  | some o => eff o && o.after.any fun x => Region.binds .any x && x.on == i
  | none => false
/-- How many writers at the most stand done while operation i is not. -/
def hiN (ops : Array Oper) (i : Nat) : Nat := match (List.range ops.size).find? (waitsW ops i) with
  | some e => effN ops e
  | none => effN ops ops.size
theorem effN_mono (p : Nat) : ∀ q, p ≤ q → effN ops p ≤ effN ops q
  | 0, h => by rw [show p = 0 by omega]; exact Nat.le_refl _
  | q + 1, h => by
    by_cases e : p = q + 1
    · rw [e]; exact Nat.le_refl _
    · have := effN_mono p q (by omega)
      simp only [effN]; omega
/-- What is known of operation number i in the frame of the text's order. -/
def Known (P : Program) (ops : Array Oper) (S : Nat → World → Prop) (h k : Nat) (o : Oper) (a : Act) (v : Value) : Prop :=
  (Region.wanted o (yielded ops a.tmps) = true ∧ (eff o = true → YR P (S k) (S (k + 1)) (execOp a.eval o) v) ∧ (eff o = false → ∀ j, j ≤ h → YR P (S j) (S j) (execOp a.eval o) v)) ∨
  (Region.wanted o (yielded ops a.tmps) = false ∧ v = undef ∧ (eff o = true → ∀ w, S k w → S (k + 1) w))
def leftN (listed : Array Bool) (n : Nat) : Nat := (List.range n).countP fun i => !listed.getD i false
theorem any_of_known (hst : Stable ops) (V : Nat → Value) (a : Act) (S : Nat → World → Prop) (Q : Exit → Act → World → Prop)
    (H : ∀ (i : Nat) (o : Oper), ops[i]? = some o → Known P ops S (hiN ops i) (effN ops i) o (canon ops V a (fun _ => true) i) (V i))
    (hQ : ∀ w, S (effN ops ops.size) w → Q .normal (canon ops V a (fun _ => true) ops.size) w) :
    ∀ (fuel : Nat) (listed : Array Bool) (w : World), listed.size = ops.size → leftN listed ops.size ≤ fuel →
      (∀ (j : Nat) (oj : Oper), ops[j]? = some oj → listed.getD j false = true → ∀ e ∈ oj.after, Region.binds .any e = true → listed.getD e.on false = true) →
      (∃ p, p ≤ ops.size ∧ (∀ (j : Nat) (o : Oper), ops[j]? = some o → eff o = true → (listed.getD j false = true ↔ j < p)) ∧ S (effN ops p) w) →
      wpAny P .any ops Q fuel listed (canon ops V a (fun j => listed.getD j false) ops.size) w := by
  have allq : ∀ (listed : Array Bool) (w : World), (∀ j, j < ops.size → listed.getD j false = true) →
      (∃ p, p ≤ ops.size ∧ (∀ (j : Nat) (o : Oper), ops[j]? = some o → eff o = true → (listed.getD j false = true ↔ j < p)) ∧ S (effN ops p) w) →
      Q .normal (canon ops V a (fun j => listed.getD j false) ops.size) w := by
    rintro listed w hall ⟨p, hp, hpe, hs⟩
    rw [canon_congr V a (fun j => listed.getD j false) (fun _ => true) ops.size (fun k hk => hall k hk)]
    refine hQ w ?_
    rw [effN_same p ops.size hp (fun j o h1 h2 ho => ?_)]
    · exact hs
    · cases he : eff o
      · rfl
      · have := (hpe j o ho he).1 (hall j h2); omega
  have rdy : ∀ (listed : Array Bool), listed.size = ops.size → Region.ready .any ops listed = [] → ∀ j, j < ops.size → listed.getD j false = true := by
    intro listed hsz hr j
    induction j using Nat.strongRecOn with
    | _ j ih =>
      intro hj
      cases hl : listed.getD j false with
      | true => rfl
      | false =>
        exfalso
        have : j ∈ Region.ready .any ops listed := mem_ready.2 ⟨by
            have hjs : j < listed.size := by omega
            simp [hjs] at hl ⊢; exact hl, ops[j], by simp [hj], fun e he hb => by
            have hlt := hst.edge j ops[j] (by simp [hj]) e he hb
            exact ih e.on hlt (by omega)⟩
        rw [hr] at this; cases this
  intro fuel
  induction fuel with
  | zero =>
    intro listed w hsz hc hcl hp
    have hall : ∀ j, j < ops.size → listed.getD j false = true := by
      intro j hj
      have h0 : leftN listed ops.size = 0 := by omega
      have := List.countP_eq_zero.1 h0 j (List.mem_range.2 hj)
      simpa using this
    refine ⟨?_, allq listed w hall hp⟩
    cases hr : Region.ready .any ops listed with
    | nil => rfl
    | cons j r =>
      exfalso
      have hm : j ∈ Region.ready .any ops listed := by rw [hr]; exact List.mem_cons_self
      obtain ⟨h1, oj, hoj, _⟩ := mem_ready.1 hm
      have hj : j < ops.size := (Array.getElem?_eq_some_iff.1 hoj).1
      have h2 := hall j hj
      have hjs : j < listed.size := by omega
      simp [hjs] at h1 h2
      rw [h1] at h2; cases h2
  | succ fuel ih =>
    intro listed w hsz hc hcl hp
    refine ⟨fun hr => allq listed w (rdy listed hsz hr) hp, fun i hi => ?_⟩
    obtain ⟨hun, o, ho, hall⟩ := mem_ready.1 hi
    have hin : i < ops.size := (Array.getElem?_eq_some_iff.1 ho).1
    have his : i < listed.size := by omega
    have hun' : listed.getD i false = false := by simp [his] at hun ⊢; exact hun
    have hdo : dstOf ops i = o.dst := by simp [dstOf, ho]
    -- the frames agree in what the operation looks at
    have hslot : ∀ t, t ∈ o.looksAt ops → (canon ops V a (fun j => listed.getD j false) ops.size).tmps[t]? = (canon ops V a (fun _ => true) i).tmps[t]? := by
      intro t ht
      have e1 : canon ops V a (fun _ => true) i = canon ops V a (fun j => decide (j < i)) ops.size := by
        rw [canon_congr V a (fun _ => true) (fun j => decide (j < i)) i (fun k hk => by simp [hk])]
        have : ∀ n, i ≤ n → canon ops V a (fun j => decide (j < i)) n = canon ops V a (fun j => decide (j < i)) i := by
          intro n hn
          induction n with
          | zero => rw [show i = 0 by omega]
          | succ n ihn =>
            by_cases e : i = n + 1
            · rw [e]
            · simp only [canon]
              rw [if_neg (by simp; omega)]; exact ihn (by omega)
        exact (this _ (by omega)).symm
      rw [e1]
      refine canon_slot V a _ _ t ops.size (fun j hj hd => ?_)
      obtain ⟨h1, e, he, hb, hon⟩ := hst.look i o ho t ht j hj hd
      have := hall e he hb
      rw [hon] at this
      simp [h1, this]
    have hev : execOp (canon ops V a (fun j => listed.getD j false) ops.size).eval o = execOp (canon ops V a (fun _ => true) i).eval o :=
      execOp_congr o (hst.sel i o ho) (fun x hx => eval_slot (fun t hxt => hslot t (by
        subst hxt; exact List.mem_append_left _ (List.mem_filterMap.2 ⟨.tmp t, by simpa using hx, rfl⟩))))
    have hwt := wanted_slot (ops := ops) (o := o) hslot
    -- behind it
    have hnext : ∀ w', (∃ p, p ≤ ops.size ∧ (∀ (j : Nat) (o' : Oper), ops[j]? = some o' → eff o' = true → ((listed.setIfInBounds i true).getD j false = true ↔ j < p)) ∧ S (effN ops p) w') →
        wpAny P .any ops Q fuel (listed.setIfInBounds i true) ((canon ops V a (fun j => listed.getD j false) ops.size).put o.dst (V i)) w' := by
      intro w' hp'
      have hcs := canon_set (ops := ops) V a (fun j => listed.getD j false) (fun j => (listed.setIfInBounds i true).getD j false) i hun' (by simp [his]) (fun j hj => getD_set_ne false (Ne.symm hj)) ops.size hin
        (fun j hj hne d hd => hst.dist i o ho j hj hne d (by rw [← hdo]; exact hd))
      rw [hdo] at hcs
      rw [← hcs]
      refine ih _ w' (by simp [hsz]) ?_ (fun j oj hoj hl e he hb => by
        by_cases hij : i = j
        · subst hij
          have : o = oj := Option.some.inj (ho.symm.trans hoj)
          subst this
          exact getD_set_true (hall e he hb)
        · rw [getD_set_ne false hij] at hl
          exact getD_set_true (hcl j oj hoj hl e he hb)) hp'
      have hlt : leftN (listed.setIfInBounds i true) ops.size < leftN listed ops.size := by
        unfold leftN
        have hmono : ∀ (l : List Nat), i ∈ l → List.countP (fun j => !(listed.setIfInBounds i true).getD j false) l < List.countP (fun j => !listed.getD j false) l := by
          intro l
          induction l with
          | nil => intro h; cases h
          | cons x l ihl =>
            intro hm
            have hle : List.countP (fun j => !(listed.setIfInBounds i true).getD j false) l ≤ List.countP (fun j => !listed.getD j false) l := by
              refine List.countP_mono_left (fun j _ hj => ?_)
              by_cases e : i = j
              · subst e; simp [his] at hj
              · rw [getD_set_ne false e] at hj; exact hj
            rw [List.countP_cons, List.countP_cons]
            by_cases e : i = x
            · subst e
              rw [if_neg (by simp [his]), if_pos (by simp [hun'])]; omega
            · have : i ∈ l := by
                rcases List.mem_cons.1 hm with h | h
                · exact absurd h e
                · exact h
              have h3 := ihl this
              rw [getD_set_ne false e]; omega
        exact hmono _ (List.mem_range.2 hin)
      omega
    obtain ⟨p, hpn, hpe, hs⟩ := hp
    have hpi : eff o = true → effN ops i = effN ops p ∧ p ≤ i := by
      intro he
      have hnp : ¬ i < p := fun h => by have := (hpe i o ho he).2 h; rw [hun'] at this; cases this
      refine ⟨effN_same p i (by omega) (fun j oj h1 h2 hoj => ?_), by omega⟩
      cases hej : eff oj
      · rfl
      · obtain ⟨e, hm, hb, hon⟩ := hst.order i o ho he j oj h2 hoj hej
        have := hall e hm hb
        rw [hon] at this
        have := (hpe j oj hoj hej).1 this; omega
    have heffi : eff o = true → effN ops (i + 1) = effN ops i + 1 := fun he => by simp [effN, ho, he]
    -- the place of the writers behind it
    have hpos1 : eff o = false → ∀ w', S (effN ops p) w' → (∃ p, p ≤ ops.size ∧ (∀ (j : Nat) (o' : Oper), ops[j]? = some o' → eff o' = true → ((listed.setIfInBounds i true).getD j false = true ↔ j < p)) ∧ S (effN ops p) w') :=
      fun he w' hs' => ⟨p, hpn, fun j o' ho' he' => by
        have : i ≠ j := by
          rintro rfl
          have : o = o' := Option.some.inj (ho.symm.trans ho')
          subst this; rw [he] at he'; cases he'
        rw [getD_set_ne false this]; exact hpe j o' ho' he', hs'⟩
    have hpos2 : eff o = true → ∀ w', S (effN ops i + 1) w' → (∃ p, p ≤ ops.size ∧ (∀ (j : Nat) (o' : Oper), ops[j]? = some o' → eff o' = true → ((listed.setIfInBounds i true).getD j false = true ↔ j < p)) ∧ S (effN ops p) w') :=
      fun he w' hs' => ⟨i + 1, hin, fun j o' ho' he' => by
        by_cases e : i = j
        · subst e; simp [his]
        · rw [getD_set_ne false e, hpe j o' ho' he']
          have h1 := (hpi he).2
          constructor
          · intro h; omega
          · intro h
            have hji : j < i := by omega
            obtain ⟨e', hm, hb, hon⟩ := hst.order i o ho he j o' hji ho' he'
            have := hall e' hm hb
            rw [hon] at this
            exact (hpe j o' ho' he').1 this, by rw [heffi he]; exact hs'⟩
    unfold wpOp
    simp only [ho]
    rcases H i o ho with ⟨hw, hy1, hy2⟩ | ⟨hw, hv, hy⟩
    · rw [if_pos (by rw [hwt]; exact hw)]
      left
      cases he : eff o
      · have hhi : effN ops p ≤ hiN ops i := by
          unfold hiN
          cases hf : (List.range ops.size).find? (waitsW ops i) with
          | none => exact effN_mono p _ hpn
          | some e =>
            have hw1 := List.find?_some hf
            unfold waitsW at hw1
            cases hoe : ops[e]? with
            | none => rw [hoe] at hw1; cases hw1
            | some oe =>
              rw [hoe] at hw1
              simp only [Bool.and_eq_true] at hw1
              obtain ⟨x, hx, hb⟩ := Array.any_eq_true'.1 hw1.2
              simp only [Bool.and_eq_true, beq_iff_eq] at hb
              refine effN_mono p e (Nat.le_of_not_lt fun hlt => ?_)
              have hle := (hpe e oe hoe hw1.1).2 hlt
              have := hcl e oe hoe hle x hx hb.1
              rw [hb.2, hun'] at this; cases this
        have hy := hy2 he (effN ops p) hhi
        rw [← hev] at hy
        exact hy.wp (fun w' hs' => hnext w' (hpos1 he w' hs')) w hs
      · have hy := hy1 he
        rw [← hev] at hy
        exact hy.wp (fun w' hs' => hnext w' (hpos2 he w' hs')) w (by rw [(hpi he).1]; exact hs)
    · rw [if_neg (by rw [hwt, hw]; simp), ← hv]
      cases he : eff o
      · exact hnext w (hpos1 he w hs)
      · exact hnext w (hpos2 he w (hy he w (by rw [(hpi he).1]; exact hs)))
/-- The walk in the order of the text. -/
def wpB (P : Program) (ops : Array Oper) (S : Nat → World → Prop) (Q : Act → World → Prop) : Nat → Nat → List Oper → Act → Prop
  | _, k, [], a => ∀ w, S k w → Q a w
  | i, k, o :: rest, a => ∃ v, Known P ops S (hiN ops i) k o a v ∧ wpB P ops S Q (i + 1) (if eff o then k + 1 else k) rest (a.put o.dst v)
def frm : List Oper → (Nat → Value) → Act → Nat → Act
  | _, _, a, 0 => a
  | [], _, a, _ + 1 => a
  | o :: l, V, a, i + 1 => frm l (fun j => V (j + 1)) (a.put o.dst (V 0)) i
def cntL : List Oper → Nat → Nat
  | _, 0 => 0
  | [], _ + 1 => 0
  | o :: l, i + 1 => (if eff o then 1 else 0) + cntL l i
theorem frm_snoc : ∀ (l : List Oper) (V : Nat → Value) (a : Act) (i : Nat) (o : Oper), l[i]? = some o → frm l V a (i + 1) = (frm l V a i).put o.dst (V i)
  | [], _, _, _, _, h => by simp at h
  | p :: l, V, a, 0, o, h => by simp at h; subst h; cases l <;> rfl
  | p :: l, V, a, i + 1, o, h => by
    simp only [frm]
    exact frm_snoc l (fun j => V (j + 1)) (a.put p.dst (V 0)) i o (by simpa using h)
theorem cntL_snoc : ∀ (l : List Oper) (i : Nat) (o : Oper), l[i]? = some o → cntL l (i + 1) = cntL l i + if eff o then 1 else 0
  | [], _, _, h => by simp at h
  | p :: l, 0, o, h => by simp at h; subst h; cases l <;> simp [cntL]
  | p :: l, i + 1, o, h => by
    simp only [cntL]
    have := cntL_snoc l i o (by simpa using h)
    omega
theorem canon_frm (l : List Oper) (V : Nat → Value) (a : Act) : ∀ i, i ≤ l.length → canon l.toArray V a (fun _ => true) i = frm l V a i
  | 0, _ => by cases l <;> rfl
  | i + 1, h => by
    have ho : l[i]? = some l[i] := List.getElem?_eq_getElem (by omega)
    rw [frm_snoc l V a i l[i] ho]
    simp only [canon, if_true]
    rw [canon_frm l V a i (by omega)]
    simp [dstOf, ho]
theorem effN_cntL (l : List Oper) : ∀ i, i ≤ l.length → effN l.toArray i = cntL l i
  | 0, _ => by cases l <;> rfl
  | i + 1, h => by
    have ho : l[i]? = some l[i] := List.getElem?_eq_getElem (by omega)
    rw [cntL_snoc l i l[i] ho]
    simp only [effN]
    rw [effN_cntL l i (by omega)]
    simp [ho]
theorem wpB_vals {S : Nat → World → Prop} {Q : Act → World → Prop} : ∀ (l : List Oper) (n k : Nat) (a : Act), wpB P ops S Q n k l a →
    ∃ V : Nat → Value, (∀ (i : Nat) (o : Oper), l[i]? = some o → Known P ops S (hiN ops (n + i)) (k + cntL l i) o (frm l V a i) (V i)) ∧ (∀ w, S (k + cntL l l.length) w → Q (frm l V a l.length) w)
  | [], n, k, a, h => ⟨fun _ => undef, fun i o ho => by simp at ho, h⟩
  | p :: l, n, k, a, h => by
    obtain ⟨v, hk, hr⟩ := h
    obtain ⟨V, h1, h2⟩ := wpB_vals l _ _ _ hr
    refine ⟨fun i => match i with | 0 => v | j + 1 => V j, fun i o ho => ?_, ?_⟩
    · cases i with
      | zero => simp at ho; subst ho; cases l <;> exact hk
      | succ i =>
        have := h1 i o (by simpa using ho)
        simp only [cntL, frm]
        rw [show n + 1 + i = n + (i + 1) by omega] at this
        rw [show k + ((if eff p then 1 else 0) + cntL l i) = (if eff p then k + 1 else k) + cntL l i by split <;> omega]
        exact this
    · simp only [List.length_cons, cntL, frm]
      rw [show k + ((if eff p then 1 else 0) + cntL l l.length) = (if eff p then k + 1 else k) + cntL l l.length by split <;> omega]
      exact h2
/-- A region that draws its order, walked in the order of the text. -/
theorem wp_region_stable {id : Nat} {l : List Oper} {a : Act} {w : World} {Q : Exit → Act → World → Prop} (S : Nat → World → Prop) (hm : P.follows .mixedOrders = true) (hB : stableB l.toArray = true)
    (h0 : S 0 w.drew) (h : wpB P l.toArray S (Q .normal) 0 0 l a) : (Code.region id l.toArray true).wp P Q a w := by
  obtain ⟨V, h1, h2⟩ := wpB_vals l 0 0 a h
  refine wp_region_any hm ?_
  have h3 := any_of_known (P := P) (stable_of hB) V a S Q (fun i o ho => by
      have hi : i < l.length := by simpa using (Array.getElem?_eq_some_iff.1 ho).1
      have := h1 i o (by simpa using ho)
      rwa [Nat.zero_add, Nat.zero_add, ← effN_cntL l i (by omega), ← canon_frm l V a i (by omega)] at this)
    (fun w hw => by
      have e : l.toArray.size = l.length := by simp
      rw [e] at hw ⊢
      rw [canon_frm l V a l.length (Nat.le_refl _)]
      rw [effN_cntL l l.length (Nat.le_refl _)] at hw
      exact h2 w (by rwa [Nat.zero_add]))
    l.toArray.size (Array.replicate l.toArray.size false) w.drew (by simp) (by
      unfold leftN
      exact Nat.le_trans List.countP_le_length (by simp)) (fun j oj _ hl => by
        exfalso
        rcases Nat.lt_or_ge j l.length with h | h
        · simp [h] at hl
        · simp [Nat.not_lt.2 h] at hl) ⟨0, Nat.zero_le _, fun j o ho he => by
        constructor
        · intro hh
          exfalso
          rcases Nat.lt_or_ge j l.length with h | h
          · simp [h] at hh
          · simp [Nat.not_lt.2 h] at hh
        · intro hh; omega, h0⟩
  have e : canon l.toArray V a (fun j => (Array.replicate l.toArray.size false).getD j false) l.toArray.size = a := by
    have : ∀ n, canon l.toArray V a (fun j => (Array.replicate l.toArray.size false).getD j false) n = a := by
      intro n
      induction n with
      | zero => rfl
      | succ n ih =>
        simp only [canon]
        rw [if_neg, ih]
        rcases Nat.lt_or_ge n l.length with h | h
        · simp [h]
        · simp [Nat.not_lt.2 h]
    exact this _
  rw [e] at h3
  exact h3
section
variable {S : Nat → World → Prop} {Q : Act → World → Prop} {i k : Nat} {o : Oper} {rest : List Oper} {a : Act}
theorem wpB_nil (h : ∀ w, S k w → Q a w) : wpB P ops S Q i k [] a := h
theorem wpB_val {v : Value} (hw : Region.wanted o (yielded ops a.tmps) = true) (he : eff o = false) (n : Nat) (hn : hiN ops i = n) (hr : ∀ j w, j ≤ n → S j w → (execOp a.eval o).run P w = .ok (.value v) w)
    (h : ∀ K : Act → Prop, (∀ b, wpB P ops S Q (i + 1) k rest b → K b) → K (a.put o.dst v)) : wpB P ops S Q i k (o :: rest) a :=
  ⟨v, .inl ⟨hw, fun h1 => (by rw [he] at h1; cases h1), fun _ j hj w hs => .inl ⟨w, hr j w (by rw [← hn]; exact hj) hs, hs⟩⟩, by rw [he]; exact h _ (fun _ h => h)⟩
theorem wpB_skip (hw : Region.wanted o (yielded ops a.tmps) = false) (he : eff o = false)
    (h : ∀ K : Act → Prop, (∀ b, wpB P ops S Q (i + 1) k rest b → K b) → K (a.put o.dst undef)) : wpB P ops S Q i k (o :: rest) a :=
  ⟨undef, .inr ⟨hw, rfl, fun h1 => (by rw [he] at h1; cases h1)⟩, by rw [he]; exact h _ (fun _ h => h)⟩
theorem wpB_call {v : Value} (f : FuncId) (args : Array Value) (hw : Region.wanted o (yielded ops a.tmps) = true) (he : eff o = false) (hr : ∀ w, (execOp a.eval o).run P w = .ok (.enter f args) w)
    (n : Nat) (hn : hiN ops i = n) (hc : ∀ j w, j ≤ n → S j w → Calls P f args w (fun e w' => e = .returned v ∧ S j w'))
    (h : ∀ K : Act → Prop, (∀ b, wpB P ops S Q (i + 1) k rest b → K b) → K (a.put o.dst v)) : wpB P ops S Q i k (o :: rest) a :=
  ⟨v, .inl ⟨hw, fun h1 => (by rw [he] at h1; cases h1), fun _ j hj w hs => .inr (.inr ⟨f, args, w, hr w, hc j w (by rw [← hn]; exact hj) hs⟩)⟩, by rw [he]; exact h _ (fun _ h => h)⟩
theorem wpB_new {v : Value} (hw : Region.wanted o (yielded ops a.tmps) = true) (he : eff o = false) (n : Nat) (hn : hiN ops i = n) (hr : ∀ j w, j ≤ n → S j w → ∃ w', (execOp a.eval o).run P w = .ok (.value v) w' ∧ S j w')
    (h : ∀ K : Act → Prop, (∀ b, wpB P ops S Q (i + 1) k rest b → K b) → K (a.put o.dst v)) : wpB P ops S Q i k (o :: rest) a :=
  ⟨v, .inl ⟨hw, fun h1 => (by rw [he] at h1; cases h1), fun _ j hj w hs => .inl (hr j w (by rw [← hn]; exact hj) hs)⟩, by rw [he]; exact h _ (fun _ h => h)⟩
theorem wpB_store (hw : Region.wanted o (yielded ops a.tmps) = true) (he : eff o = true) (hr : ∀ w, S k w → ∃ w', (execOp a.eval o).run P w = .ok .skip w' ∧ S (k + 1) w')
    (h : ∀ K : Act → Prop, (∀ b, wpB P ops S Q (i + 1) (k + 1) rest b → K b) → K (a.put o.dst undef)) : wpB P ops S Q i k (o :: rest) a :=
  ⟨undef, .inl ⟨hw, fun _ w hs => .inr (.inl (by obtain ⟨w', h1, h2⟩ := hr w hs; exact ⟨w', h1, rfl, h2⟩)), fun h1 => (by rw [he] at h1; cases h1)⟩, by rw [he]; exact h _ (fun _ h => h)⟩
/-- A whole array, or a struct, is read. -/
theorem wpB_load (ty : TypeId) (x : Operand) (ho : o.op = .load ty x) (b off : Nat) (C : List Value) (d : TypeDesc) (hw : Region.wanted o (yielded ops a.tmps) = true) (hx : a.eval x = .pointer (some ⟨b, off, none⟩))
    (n : Nat) (hn : hiN ops i = n) (hS : ∀ j w, j ≤ n → S j w → w.rangeAt b off C) (hu : P.underlying ty = some d) (hd : d.isRow = true) (hi : (P.info? ty).map (·.size) = some C.length)
    (h : ∀ K : Act → Prop, (∀ b, wpB P ops S Q (i + 1) k rest b → K b) → K (a.put o.dst (.agg C.toArray))) : wpB P ops S Q i k (o :: rest) a :=
  wpB_val hw (by unfold eff; rw [ho]) n hn (fun j w hj hs => by
    unfold execOp
    simp only [ho, hx, Instr.loadAt, Instr.sureAddr, Sem.run_bind, Sem.run_pure, Result.andThen_ok, run_loadVar_mid w b off ty C d (hS j w hj hs) hu hd hi]) h
end
end Go.Proofs.Ytpedkcpkdacnlaa
end
section
namespace Go.Proofs.Ytpedkcpkdacnlaa
open Go.RowKit
variable {P : Program} {ops : Array Oper} {S : Nat → World → Prop} {Q : Act → World → Prop} {i k : Nat} {o : Oper} {rest : List Oper} {a : Act}
theorem wpB_store_part (ty : TypeId) (x y : Operand) (ho : o.op = .store ty x y) (b off n : Nat) (vs : List Value) (hw : Region.wanted o (yielded ops a.tmps) = true)
    (hx : a.eval x = .pointer (some ⟨b, off, none⟩)) (hy : a.eval y = .agg vs.toArray) (t : TypeId) (C : List Value) (hB : ∀ w, S k w → Blk w b C t) (hn : vs.length = n) (hfit : off + n ≤ C.length)
    (hi : (P.info? ty).map (·.size) = some n) (h1 : ∀ v ∈ vs, v.oneCell' = true) (hS : ∀ w, S k w → S (k + 1) (setBlk w b (spl C off vs)))
    (h : ∀ K : Act → Prop, (∀ b, wpB P ops S Q (i + 1) (k + 1) rest b → K b) → K (a.put o.dst undef)) : wpB P ops S Q i k (o :: rest) a :=
  wpB_store hw (by unfold eff; rw [ho]) (fun w hs => ⟨_, by
    unfold execOp
    simp only [ho, hx, hy, Instr.storeAt, Instr.sureAddr, Sem.run_bind, Sem.run_pure, Result.andThen_ok, run_storeVar_part w b C t ty off n vs (hB w hs) hn hfit hi h1], hS w hs⟩) h
end Go.Proofs.Ytpedkcpkdacnlaa
end
section
namespace Go.Proofs.Ytpedkcpkdacnlaa
open Go.RowKit
set_option linter.unusedVariables false
def heapTo (xs : List Int) : Nat → Bool
  | 0 => true
  | j + 1 => heapTo xs j && decide (j = 0 ∨ hp xs ((j - 1) / 2) ≤ hp xs j)
theorem heapTo_iff (xs : List Int) (n : Nat) : heapTo xs n = true ↔ ∀ j, 0 < j → j < n → hp xs ((j - 1) / 2) ≤ hp xs j := by
  induction n with
  | zero => simp [heapTo]
  | succ n ih =>
    simp only [heapTo, Bool.and_eq_true, ih, decide_eq_true_eq]
    constructor
    · rintro ⟨a, b⟩ j h0 hj
      by_cases e : j = n
      · subst e; rcases b with b | b
        · omega
        · exact b
      · exact a j h0 (by omega)
    · intro h
      exact ⟨fun j h0 hj => h j h0 (by omega), by by_cases e : n = 0; exact .inl e; exact .inr (h n (by omega) (by omega))⟩
def heapB (xs : List Int) : Bool := heapTo xs xs.length && decide (xs.length ≤ 6)
theorem heapB_iff (xs : List Int) : heapB xs = true ↔ IsHeap xs ∧ xs.length ≤ 6 := by
  unfold heapB; rw [Bool.and_eq_true, heapTo_iff, decide_eq_true_eq]; exact Iff.rfl
theorem heapTo_bad (xs : List Int) (j n : Nat) (h : heapTo xs j = false) (hj : j ≤ n) : heapTo xs n = false := by
  cases e : heapTo xs n
  · rfl
  · have := (heapTo_iff xs j).2 (fun i a b => (heapTo_iff xs n).1 e i a (by omega)); rw [h] at this; cases this
set_option maxRecDepth 20000 in
set_option maxHeartbeats 4000000 in
theorem heap_right (w : World) (v : Value) (xs : List Int) (h : Sl w v xs) :
    Calls Try.prog 18 #[v] w fun e w' => e = .returned (.bool (heapB xs)) ∧ Below w.heap.size w w' := by
  obtain ⟨a, cap, rfl, h1, h2, h3⟩ := h
  have H3 := Lib.hid h3
  clear h3
  have HB := Lib.hid (Below.refl w.heap.size w)
  have hl : (xs.length : Int) ≤ 9223372036854775807 := by omega
  go_enter Try.func18, Try.ntmps18
  go_wp2_with fail
  go_loopw [6] (fun i wr => ∃ j : Nat, j ≤ xs.length ∧ i = .int .i64 j ∧ heapTo xs j = true ∧ Below w.heap.size w wr) (fun i _ => xs.length - (intOf i).toNat)
  case atStart => exact ⟨0, by omega, rfl, rfl, HB.out⟩
  case round =>
    obtain ⟨j, hj, rfl, hto, hb⟩ := hrel
    have HTO := Lib.hid hto
    have HB := Lib.hid hb
    clear hto
    by_cases hlt : j < xs.length
    · obtain ⟨b, off, rfl, hbl, hc⟩ : ∃ b off, a = some ⟨b, off, none⟩ ∧ b < w.heap.size ∧ ∀ j, j < xs.length → w.cell? ⟨b, off + j, none⟩ = some (.int .i64 (xs.getD j 0)) := by
        rcases H3.out with h | h
        · omega
        · exact h
      have hse : heapTo xs (j + 1) = (heapTo xs j && decide (j = 0 ∨ hp xs ((j - 1) / 2) ≤ hp xs j)) := rfl
      rw [HTO.out, Bool.true_and] at hse
      by_cases h0 : j = 0
      · have g0 : decide ((0 : Int) < (j : Int)) = false := by simp; omega
        have hok : heapTo xs (j + 1) = true := by rw [hse]; simp [h0]
        have HOK := Lib.hid hok
        clear hse hok hc hb
        go_upto_region 4 with fail
        go_quiet (fail)
        go_wp2_with fail
        go_roundw
        case rel => exact ⟨j + 1, by omega, by go_num, HOK.out, HB.out.trans (Below.mono (below_drewN _ _) HB.out.size)⟩
        case measure => simp [intOf]; omega
      · have g0 : decide ((0 : Int) < (j : Int)) = true := by simp; omega
        have g00 : (0 : Int) < (j : Int) := by omega
        have g01 : 0 < j := by omega
        obtain ⟨p, hp0⟩ : ∃ p, p = (j - 1) / 2 := ⟨_, rfl⟩
        have hpj : p < xs.length := by omega
        have cj := (hb.cell (p := ⟨b, off + j, none⟩) hbl).trans (hc j hlt)
        have cp := (hb.cell (p := ⟨b, off + p, none⟩) hbl).trans (hc p hpj)
        have hw1 : IntKind.i64.wrap ((j : Int) - 1) = (j : Int) - 1 := IntWalk.i64_in _ (by omega)
        have hw2 : IntKind.i64.wrap (((j : Int) - 1).tdiv 2) = (p : Int) := by
          rw [Int.tdiv_eq_ediv_of_nonneg (by omega)]
          rw [IntWalk.i64_in _ (by omega)]; omega
        have hw3 : ((j : Int) - 1).tdiv 2 = (p : Int) := by
          rw [Int.tdiv_eq_ediv_of_nonneg (by omega)]; omega
        rw [← hp0] at hse
        have hse2 : heapTo xs (j + 1) = decide (hp xs p ≤ hp xs j) := by rw [hse]; simp [h0]
        have HSE := Lib.hid hse2
        change wr.cell? ⟨b, off + j, none⟩ = some (.int .i64 (hp xs j)) at cj
        change wr.cell? ⟨b, off + p, none⟩ = some (.int .i64 (hp xs p)) at cp
        have HP := Lib.hid hp0
        clear hse hse2 hc hb hp0
        generalize hp xs j = zj at *
        generalize hp xs p = zp at *
        by_cases hz : zj < zp
        · have g1 : decide (zj < zp) = true := by simp [hz]
          go_upto_region 4 with fail
          go_quiet (fail)
          go_wp2_with fail
          go_ret
          exact ⟨by rw [show heapB xs = false from by unfold heapB; rw [heapTo_bad xs (j + 1) xs.length (by rw [HSE.out]; simp [hz]) (by omega)]; rfl]; first | rfl | go_simp, HB.out.trans (Below.mono (below_drewN _ _) HB.out.size)⟩
        · have g1 : decide (zj < zp) = false := by simp [hz]
          have hok : heapTo xs (j + 1) = true := by rw [HSE.out]; simp; omega
          have HOK := Lib.hid hok
          clear hok
          go_upto_region 4 with fail
          go_quiet (fail)
          go_wp2_with fail
          go_roundw
          case rel => exact ⟨j + 1, by omega, by go_num, HOK.out, HB.out.trans (Below.mono (below_drewN _ _) HB.out.size)⟩
          case measure => simp [intOf]; omega
    · obtain rfl : j = xs.length := by omega
      go_wp2_with fail
      go_ret
      refine ⟨?_, HB.out⟩
      unfold heapB
      rw [HTO.out, Bool.true_and]
      go_simp
      omega
end Go.Proofs.Ytpedkcpkdacnlaa
end
section
namespace Go.Proofs.Ytpedkcpkdacnlaa
open Go.RowKit
def tallyR (n k v : Int) : Int := if k = 1 then (if 4294967295 - n < v then n else n + v) else if k = 2 then (if n < v then n else n - v) else n
def tallyC (n k v : Int) : Int := if k = 1 then (if 4294967295 - n < v then 3 else 1) else if k = 2 then (if n < v then 2 else 1) else if k = 5 ∨ k = 6 then 1 else 5
def tallyV (n k v : Int) : Int := if k = 1 then (if 4294967295 - n < v then 0 else n) else if k = 2 then (if n < v then 0 else n) else if k = 5 ∨ k = 6 then n else 0
theorem tup2 {a b a' b' c c' : Int} (h1 : a = a') (h2 : b = b') (h3 : c = c') : Value.tuple #[.int .i64 a, .agg #[.int .i64 b, .int .i64 c]] = Value.tuple #[.int .i64 a', .agg #[.int .i64 b', .int .i64 c']] := by rw [h1, h2, h3]

set_option maxHeartbeats 400000 in
theorem tally_any (n k key v : Int) (w : World) (h0 : 0 ≤ n) (h1 : n ≤ 4294967295) (h2 : 0 ≤ v) (h3 : v ≤ 4294967295) :
    Calls Try.prog 52 #[.int .i64 n, .agg #[.int .i64 k, .int .i64 key, .int .i64 v]] w fun e w' =>
      e = .returned (.tuple #[.int .i64 (tallyR n k v), .agg #[.int .i64 (tallyC n k v), .int .i64 (tallyV n k v)]]) ∧ Below w.heap.size w w' := by
  go_enter Try.func52, Try.ntmps52
  go_wp2
  all_goals (refine bodyPost_ret (by simp [results, Try.results52, go_sem]; exact rfl) rfl ⟨congrArg Ending.returned ?_, ?_⟩)
  all_goals first
    | exact ((Below.refl _ _).alloc (Nat.le_refl _) _).alloc (by simp) _
    | (refine tup2 ?_ ?_ ?_ <;> (simp only [tallyR, tallyC, tallyV, beq_iff_eq, beq_eq_false_iff_ne] at *; omega))
theorem tally_is (n k key v r c x : Int) (w : World) (h0 : 0 ≤ n) (h1 : n ≤ 4294967295) (h2 : 0 ≤ v) (h3 : v ≤ 4294967295)
    (hr : tallyR n k v = r) (hc : tallyC n k v = c) (hx : tallyV n k v = x) :
    Calls Try.prog 52 #[.int .i64 n, .agg #[.int .i64 k, .int .i64 key, .int .i64 v]] w fun e w' =>
      e = .returned (.tuple #[.int .i64 r, .agg #[.int .i64 c, .int .i64 x]]) ∧ Below w.heap.size w w' := by
  subst hr hc hx; exact tally_any n k key v w h0 h1 h2 h3
theorem tallyR_lo (n k v : Int) (h0 : 0 ≤ n) (h2 : 0 ≤ v) : 0 ≤ tallyR n k v := by unfold tallyR; split <;> split <;> omega
theorem tallyR_hi (n k v : Int) (h1 : n ≤ 4294967295) (h2 : 0 ≤ v) : tallyR n k v ≤ 4294967295 := by unfold tallyR; split <;> split <;> omega
end Go.Proofs.Ytpedkcpkdacnlaa
end
section
namespace Go.Proofs.Ytpedkcpkdacnlaa
open Go.RowKit
set_option maxRecDepth 20000
set_option linter.unusedVariables false
def opOk (a b c : Int) : Bool := decide (1 ≤ a ∧ a ≤ 6 ∧ 0 ≤ b ∧ b ≤ 1000 ∧ 0 ≤ c ∧ c ≤ 4294967295)
set_option maxHeartbeats 4000000 in
theorem op_right (a b c : Int) (w : World) :
    Calls Try.prog 29 #[.agg #[.int .i64 a, .int .i64 b, .int .i64 c]] w fun e w' => e = .returned (.bool (opOk a b c)) ∧ Below w.heap.size w w' := by
  have HB := Lib.hid (Below.refl w.heap.size w)
  go_enter Try.func29, Try.ntmps29
  go_upto_region 1 with fail
  have hb1 := balloc (Below.refl _ w) (Obj.cells #[.int .i64 a, .int .i64 b, .int .i64 c] 30)
  have O := Lib.hid (Blk.new w [.int .i64 a, .int .i64 b, .int .i64 c] 30)
  change Hid (Blk (w.alloc (Obj.cells #[.int .i64 a, .int .i64 b, .int .i64 c] 30)) _ _ _) at O
  have ZO : Hid ((w.alloc (Obj.cells #[.int .i64 a, .int .i64 b, .int .i64 c] 30)).heap.size = w.heap.size + 1) := World.size_alloc _ _
  replace HB := Lib.hid (bcall HB.out hb1)
  clear hb1
  generalize w.alloc (Obj.cells #[.int .i64 a, .int .i64 b, .int .i64 c] 30) = w1 at *
  have O_c0 : w1.cell? ⟨w.heap.size, 0, none⟩ = some (.int .i64 a) := O.out.cell 0
  have O_c1 : w1.cell? ⟨w.heap.size, 1, none⟩ = some (.int .i64 b) := O.out.cell 1
  have O_c2 : w1.cell? ⟨w.heap.size, 2, none⟩ = some (.int .i64 c) := O.out.cell 2
  have O_z : w.heap.size < w1.heap.size := O.out.lt
  by_cases q0 : 1 ≤ a
  · have e0 : decide (1 ≤ a) = true := decide_eq_true q0
    by_cases q1 : a ≤ 6
    · have e1 : decide (a ≤ 6) = true := decide_eq_true q1
      by_cases q2 : 0 ≤ b
      · have e2 : decide (0 ≤ b) = true := decide_eq_true q2
        by_cases q3 : b ≤ 1000
        · have e3 : decide (b ≤ 1000) = true := decide_eq_true q3
          by_cases q4 : 0 ≤ c
          · have e4 : decide (0 ≤ c) = true := decide_eq_true q4
            by_cases q5 : c ≤ 4294967295
            · have e5 : decide (c ≤ 4294967295) = true := decide_eq_true q5
              have hr : opOk a b c = true := by simp [opOk]; omega
              have HR := Lib.hid hr
              clear hr
              clear q0 q1 q2 q3 q4 q5
              go_wp2_with fail
              go_ret
              exact ⟨by rw [HR.out]; rfl, HB.out⟩
            · have e5 : decide (c ≤ 4294967295) = false := decide_eq_false q5
              have hr : opOk a b c = false := by simp [opOk]; omega
              have HR := Lib.hid hr
              clear hr
              clear q0 q1 q2 q3 q4 q5
              go_wp2_with fail
              go_ret
              exact ⟨by rw [HR.out]; rfl, HB.out⟩
          · have e4 : decide (0 ≤ c) = false := decide_eq_false q4
            have hr : opOk a b c = false := by simp [opOk]; omega
            have HR := Lib.hid hr
            clear hr
            clear q0 q1 q2 q3 q4
            go_wp2_with fail
            go_ret
            exact ⟨by rw [HR.out]; rfl, HB.out⟩
        · have e3 : decide (b ≤ 1000) = false := decide_eq_false q3
          have hr : opOk a b c = false := by simp [opOk]; omega
          have HR := Lib.hid hr
          clear hr
          clear q0 q1 q2 q3
          go_wp2_with fail
          go_ret
          exact ⟨by rw [HR.out]; rfl, HB.out⟩
      · have e2 : decide (0 ≤ b) = false := decide_eq_false q2
        have hr : opOk a b c = false := by simp [opOk]; omega
        have HR := Lib.hid hr
        clear hr
        clear q0 q1 q2
        go_wp2_with fail
        go_ret
        exact ⟨by rw [HR.out]; rfl, HB.out⟩
    · have e1 : decide (a ≤ 6) = false := decide_eq_false q1
      have hr : opOk a b c = false := by simp [opOk]; omega
      have HR := Lib.hid hr
      clear hr
      clear q0 q1
      go_wp2_with fail
      go_ret
      exact ⟨by rw [HR.out]; rfl, HB.out⟩
  · have e0 : decide (1 ≤ a) = false := decide_eq_false q0
    have hr : opOk a b c = false := by simp [opOk]; omega
    have HR := Lib.hid hr
    clear hr
    clear q0
    go_wp2_with fail
    go_ret
    exact ⟨by rw [HR.out]; rfl, HB.out⟩
end Go.Proofs.Ytpedkcpkdacnlaa
end
section
namespace Go.Proofs.Ytpedkcpkdacnlaa
set_option linter.unusedVariables false
/-- A list as seventeen words. -/
def lstC (l : List Int) : List Int := (l.length : Int) :: (l ++ List.replicate (16 - l.length) 0)
theorem lstC_len (l : List Int) (h : l.length ≤ 16) : (lstC l).length = 17 := by simp [lstC]; omega
theorem lstC_get (l : List Int) (i : Nat) (h : i < 16) (hl : l.length ≤ 16) : (lstC l)[i + 1]? = some (l.getD i 0) := by
  simp only [lstC, List.getElem?_cons_succ, List.getElem?_append, List.getElem?_replicate, List.getD_eq_getElem?_getD]
  by_cases hi : i < l.length
  · rw [if_pos hi, List.getElem?_eq_getElem hi]; rfl
  · rw [if_neg hi, if_pos (by omega), List.getElem?_eq_none (by omega)]; rfl
theorem lstC_inj {l l' : List Int} (h : lstC l = lstC l') : l = l' := by
  simp only [lstC, List.cons.injEq] at h
  have hl : l.length = l'.length := by omega
  rw [hl] at h
  exact List.append_cancel_right h.2
/-- Values that may be. -/
def InR (l : List Int) : Prop := ∀ v ∈ l, 0 ≤ v ∧ v ≤ 4294967295
def lstR (kind : Int) (xs : List Int) (k x : Int) : List Int × Int × Int :=
  if kind = 1 then queR xs k x else if kind = 2 then stkR xs k x else if kind = 3 then deqR xs k x else heapR xs k x
/-- Words that are an object of a kind. -/
def ObjOK (kind : Int) (c : List Int) : Prop :=
  (1 ≤ kind ∧ kind ≤ 4 ∧ ∃ l, c = lstC l ∧ l.length ≤ 6 ∧ InR l ∧ (kind = 4 → IsHeap l)) ∨
  (kind = 5 ∧ ∃ t, c = t ++ [0] ∧ Good t) ∨
  (kind = 6 ∧ ∃ n : Int, c = n :: List.replicate 16 0 ∧ 0 ≤ n ∧ n ≤ 4294967295)
/-- What an operation makes of an object. -/
def objR (kind : Int) (c : List Int) (k key x : Int) : List Int × Int × Int :=
  if kind = 5 then ((doT (c.take 16) k key x).1 ++ [0], (doT (c.take 16) k key x).2)
  else if kind = 6 then (tallyR (c.getD 0 0) k x :: List.replicate 16 0, tallyC (c.getD 0 0) k x, tallyV (c.getD 0 0) k x)
  else (lstC (lstR kind ((c.drop 1).take (c.getD 0 0).toNat) k x).1, (lstR kind ((c.drop 1).take (c.getD 0 0).toNat) k x).2)
theorem objR_list (kind : Int) (l : List Int) (k key x : Int) (h1 : 1 ≤ kind) (h4 : kind ≤ 4) : objR kind (lstC l) k key x = (lstC (lstR kind l k x).1, (lstR kind l k x).2) := by
  unfold objR
  rw [if_neg (by omega), if_neg (by omega)]
  have e : ((lstC l).drop 1).take ((lstC l).getD 0 0).toNat = l := by simp [lstC]
  rw [e]
theorem objR_table (t : List Int) (g : Good t) (k key x : Int) : objR 5 (t ++ [0]) k key x = ((doT t k key x).1 ++ [0], (doT t k key x).2) := by
  unfold objR
  have e : (t ++ [(0 : Int)]).take 16 = t := by rw [← g.len]; simp
  rw [if_pos rfl, e]
theorem objR_tally (n : Int) (k key x : Int) : objR 6 (n :: List.replicate 16 0) k key x = (tallyR n k x :: List.replicate 16 0, tallyC n k x, tallyV n k x) := by
  unfold objR; rw [if_neg (by decide), if_pos rfl]; rfl
theorem InR.append {l : List Int} (h : InR l) {x : Int} (h0 : 0 ≤ x) (h1 : x ≤ 4294967295) : InR (l ++ [x]) := by
  intro v hv
  rcases List.mem_append.1 hv with hv | hv
  · exact h v hv
  · simp at hv; omega
theorem InR.cons {l : List Int} (h : InR l) {x : Int} (h0 : 0 ≤ x) (h1 : x ≤ 4294967295) : InR (x :: l) := by
  intro v hv
  rcases List.mem_cons.1 hv with rfl | hv
  · exact ⟨h0, h1⟩
  · exact h v hv
theorem InR.sub {l l' : List Int} (h : InR l) (hs : ∀ v ∈ l', v ∈ l) : InR l' := fun v hv => h v (hs v hv)
theorem InR.get {l : List Int} (h : InR l) (i : Nat) (hi : i < l.length) : 0 ≤ l.getD i 0 ∧ l.getD i 0 ≤ 4294967295 := by
  rw [List.getD_eq_getElem?_getD, List.getElem?_eq_getElem hi]; exact h _ (List.getElem_mem hi)
/-- The answer fits. -/
def AnsOK (c v : Int) : Prop := 1 ≤ c ∧ c ≤ 5 ∧ 0 ≤ v ∧ v ≤ 4294967295 ∧ (c = 1 ∨ v = 0)
/-- What is the same of all lists: the answer and the size. -/
structure ListLaw (l : List Int) (k x : Int) (r : List Int × Int × Int) : Prop where
  len : r.1.length ≤ 6
  inr : InR r.1
  ans : AnsOK r.2.1 r.2.2
  same : (r.2.1 ≠ 1 ∨ k = 5 ∨ k = 6) → r.1 = l
  out : r.2.1 = 1 → (k = 2 ∨ k = 4) → r.1.length + 1 = l.length
  into : r.2.1 = 1 → (k = 1 ∨ k = 3) → r.1.length = l.length + 1
  empty : k = 2 → (r.2.1 = 2 ↔ l.length = 0)
  done2 : k = 2 → l.length ≠ 0 → r.2.1 = 1
  full : k = 1 → (r.2.1 = 3 ↔ l.length = 6)
  done1 : k = 1 → l.length ≠ 6 → r.2.1 = 1
  count : k = 6 → r.2 = (1, (l.length : Int))
theorem stk_law (l : List Int) (k x : Int) (hl : l.length ≤ 6) (hr : InR l) (h0 : 0 ≤ x) (h1 : x ≤ 4294967295) (ho : 1 ≤ k ∧ k ≤ 6) : ListLaw l k x (stkR l k x) ∧ ((stkR l k x).2.1 = 5 ↔ (k = 3 ∨ k = 4)) := by
  unfold stkR
  by_cases c1 : k = 1
  · subst c1; rw [if_pos rfl]
    by_cases c6 : 6 ≤ l.length
    · rw [if_pos c6]; exact ⟨⟨hl, hr, (by unfold AnsOK; dsimp only; omega), fun _ => rfl, by simp, by simp, by simp, by simp, fun _ => ⟨fun _ => by omega, fun _ => rfl⟩, fun _ h => by omega, by simp⟩, by simp⟩
    · rw [if_neg c6]; exact ⟨⟨by simp; omega, hr.append h0 h1, (by unfold AnsOK; dsimp only; omega), by simp, by simp, by simp, by simp, by simp, fun _ => ⟨by simp, fun h => by omega⟩, fun _ _ => rfl, by simp⟩, by simp⟩
  rw [if_neg c1]
  by_cases c2 : k = 2 ∨ k = 5
  · rw [if_pos c2]
    by_cases c0 : l.length = 0
    · rw [if_pos c0]; exact ⟨⟨hl, hr, (by unfold AnsOK; dsimp only; omega), fun _ => rfl, by simp, by simp, fun _ => ⟨fun _ => c0, fun _ => rfl⟩, fun _ h => absurd c0 h, fun h => absurd h c1, fun h => absurd h c1, fun h => by omega⟩, ⟨by simp, fun h => by omega⟩⟩
    · rw [if_neg c0]
      have hg := hr.get (l.length - 1) (by omega)
      by_cases c5 : k = 5
      · rw [if_pos c5]; exact ⟨⟨hl, hr, (by unfold AnsOK; dsimp only; omega), fun _ => rfl, fun _ h => by omega, fun _ h => by omega, fun h => by omega, fun h => by omega, fun h => by omega, fun h => by omega, fun h => by omega⟩, ⟨by simp, fun h => by omega⟩⟩
      · rw [if_neg c5]; exact ⟨⟨by simp; omega, hr.sub (fun v hv => List.mem_of_mem_take hv), (by unfold AnsOK; dsimp only; omega), fun h => by simp at h; omega, fun _ _ => by simp; omega, fun _ h => by omega, fun _ => ⟨by simp, fun h => absurd h c0⟩, fun _ _ => rfl, fun h => by omega, fun h => by omega, fun h => by omega⟩, ⟨by simp, fun h => by omega⟩⟩
  rw [if_neg c2]
  by_cases c6 : k = 6
  · rw [if_pos c6]; exact ⟨⟨hl, hr, (by unfold AnsOK; dsimp only; omega), fun _ => rfl, fun _ h => by omega, fun _ h => by omega, fun h => by omega, fun h => by omega, fun h => by omega, fun h => by omega, fun _ => rfl⟩, ⟨by simp, fun h => by omega⟩⟩
  · rw [if_neg c6]; exact ⟨⟨hl, hr, (by unfold AnsOK; dsimp only; omega), fun _ => rfl, by simp, by simp, fun h => by omega, fun h => by omega, fun h => by omega, fun h => by omega, fun h => absurd h c6⟩, ⟨fun _ => by omega, fun _ => rfl⟩⟩
theorem que_law (l : List Int) (k x : Int) (hl : l.length ≤ 6) (hr : InR l) (h0 : 0 ≤ x) (h1 : x ≤ 4294967295) (ho : 1 ≤ k ∧ k ≤ 6) : ListLaw l k x (queR l k x) ∧ ((queR l k x).2.1 = 5 ↔ (k = 3 ∨ k = 4)) := by
  unfold queR
  by_cases c1 : k = 1
  · subst c1; rw [if_pos rfl]
    by_cases c6 : 6 ≤ l.length
    · rw [if_pos c6]; exact ⟨⟨hl, hr, (by unfold AnsOK; dsimp only; omega), fun _ => rfl, by simp, by simp, by simp, by simp, fun _ => ⟨fun _ => by omega, fun _ => rfl⟩, fun _ h => by omega, by simp⟩, by simp⟩
    · rw [if_neg c6]; exact ⟨⟨by simp; omega, hr.append h0 h1, (by unfold AnsOK; dsimp only; omega), by simp, by simp, by simp, by simp, by simp, fun _ => ⟨by simp, fun h => by omega⟩, fun _ _ => rfl, by simp⟩, by simp⟩
  rw [if_neg c1]
  by_cases c2 : k = 2 ∨ k = 5
  · rw [if_pos c2]
    by_cases c0 : l.length = 0
    · rw [if_pos c0]; exact ⟨⟨hl, hr, (by unfold AnsOK; dsimp only; omega), fun _ => rfl, by simp, by simp, fun _ => ⟨fun _ => c0, fun _ => rfl⟩, fun _ h => absurd c0 h, fun h => absurd h c1, fun h => absurd h c1, fun h => by omega⟩, ⟨by simp, fun h => by omega⟩⟩
    · rw [if_neg c0]
      have hg := hr.get 0 (by omega)
      by_cases c5 : k = 5
      · rw [if_pos c5]; exact ⟨⟨hl, hr, (by unfold AnsOK; dsimp only; omega), fun _ => rfl, fun _ h => by omega, fun _ h => by omega, fun h => by omega, fun h => by omega, fun h => by omega, fun h => by omega, fun h => by omega⟩, ⟨by simp, fun h => by omega⟩⟩
      · rw [if_neg c5]; exact ⟨⟨by simp; omega, hr.sub (fun v hv => List.mem_of_mem_tail hv), (by unfold AnsOK; dsimp only; omega), fun h => by simp at h; omega, fun _ _ => by simp; omega, fun _ h => by omega, fun _ => ⟨by simp, fun h => absurd h c0⟩, fun _ _ => rfl, fun h => by omega, fun h => by omega, fun h => by omega⟩, ⟨by simp, fun h => by omega⟩⟩
  rw [if_neg c2]
  by_cases c6 : k = 6
  · rw [if_pos c6]; exact ⟨⟨hl, hr, (by unfold AnsOK; dsimp only; omega), fun _ => rfl, fun _ h => by omega, fun _ h => by omega, fun h => by omega, fun h => by omega, fun h => by omega, fun h => by omega, fun _ => rfl⟩, ⟨by simp, fun h => by omega⟩⟩
  · rw [if_neg c6]; exact ⟨⟨hl, hr, (by unfold AnsOK; dsimp only; omega), fun _ => rfl, by simp, by simp, fun h => by omega, fun h => by omega, fun h => by omega, fun h => by omega, fun h => absurd h c6⟩, ⟨fun _ => by omega, fun _ => rfl⟩⟩
theorem heap_law (l : List Int) (k x : Int) (hl : l.length ≤ 6) (hr : InR l) (h0 : 0 ≤ x) (h1 : x ≤ 4294967295) (ho : 1 ≤ k ∧ k ≤ 6) : ListLaw l k x (heapR l k x) ∧ ((heapR l k x).2.1 = 5 ↔ (k = 3 ∨ k = 4)) := by
  by_cases c1 : k = 1
  · subst c1
    by_cases c6 : 6 ≤ l.length
    · unfold heapR; rw [if_pos rfl, if_pos c6]; exact ⟨⟨hl, hr, (by unfold AnsOK; dsimp only; omega), fun _ => rfl, by simp, by simp, by simp, by simp, fun _ => ⟨fun _ => by omega, fun _ => rfl⟩, fun _ h => by omega, by simp⟩, by simp⟩
    · obtain ⟨ys, e, p, hy⟩ := heapR_put l x (by omega)
      rw [e]
      exact ⟨⟨by dsimp only; omega, (hr.cons h0 h1).sub (fun v hv => p.subset hv), (by unfold AnsOK; dsimp only; omega), by simp, by simp, fun _ _ => hy, by simp, by simp, fun _ => ⟨by simp, fun h => by omega⟩, fun _ _ => rfl, by simp⟩, by simp⟩
  by_cases c2 : k = 2
  · subst c2
    by_cases c0 : l.length = 0
    · unfold heapR; rw [if_neg c1, if_pos (.inl rfl), if_pos c0]; exact ⟨⟨hl, hr, (by unfold AnsOK; dsimp only; omega), fun _ => rfl, by simp, by simp, fun _ => ⟨fun _ => c0, fun _ => rfl⟩, fun _ h => absurd c0 h, fun h => absurd h c1, fun h => absurd h c1, fun h => by omega⟩, ⟨by simp, fun h => by omega⟩⟩
    · obtain ⟨ys, e, p, hy⟩ := heapR_take l x c0
      rw [e]
      have hg : 0 ≤ hp l 0 ∧ hp l 0 ≤ 4294967295 := hr.get 0 (by omega)
      exact ⟨⟨by dsimp only; omega, hr.sub (fun v hv => p.subset (List.mem_cons_of_mem _ hv)), (by unfold AnsOK; dsimp only; omega), fun h => by simp at h, fun _ _ => by dsimp only; omega, fun _ h => by omega, fun _ => ⟨by simp, fun h => absurd h c0⟩, fun _ _ => rfl, fun h => by omega, fun h => by omega, fun h => by omega⟩, ⟨by simp, fun h => by omega⟩⟩
  unfold heapR
  rw [if_neg c1]
  by_cases c5 : k = 5
  · subst c5
    rw [if_pos (.inr rfl)]
    by_cases c0 : l.length = 0
    · rw [if_pos c0]; exact ⟨⟨hl, hr, (by unfold AnsOK; dsimp only; omega), fun _ => rfl, by simp, by simp, fun h => absurd h c2, fun h => absurd h c2, fun h => absurd h c1, fun h => absurd h c1, fun h => by omega⟩, by simp⟩
    · rw [if_neg c0, if_pos rfl]
      have hg : 0 ≤ hp l 0 ∧ hp l 0 ≤ 4294967295 := hr.get 0 (by omega)
      exact ⟨⟨hl, hr, (by unfold AnsOK; dsimp only; omega), fun _ => rfl, fun _ h => by omega, fun _ h => by omega, fun h => by omega, fun h => by omega, fun h => by omega, fun h => by omega, fun h => by omega⟩, by simp⟩
  rw [if_neg (by omega)]
  by_cases c6 : k = 6
  · rw [if_pos c6]; exact ⟨⟨hl, hr, (by unfold AnsOK; dsimp only; omega), fun _ => rfl, fun _ h => by omega, fun _ h => by omega, fun h => by omega, fun h => by omega, fun h => by omega, fun h => by omega, fun _ => rfl⟩, ⟨by simp, fun h => by omega⟩⟩
  · rw [if_neg c6]; exact ⟨⟨hl, hr, (by unfold AnsOK; dsimp only; omega), fun _ => rfl, by simp, by simp, fun h => by omega, fun h => by omega, fun h => by omega, fun h => by omega, fun h => absurd h c6⟩, ⟨fun _ => by omega, fun _ => rfl⟩⟩
theorem deq_law (l : List Int) (k x : Int) (hl : l.length ≤ 6) (hr : InR l) (h0 : 0 ≤ x) (h1 : x ≤ 4294967295) (ho : 1 ≤ k ∧ k ≤ 6) : ListLaw l k x (deqR l k x) ∧ (deqR l k x).2.1 ≠ 5 := by
  unfold deqR
  by_cases c1 : k = 1 ∨ k = 3
  · rw [if_pos c1]
    by_cases c6 : 6 ≤ l.length
    · rw [if_pos c6]; exact ⟨⟨hl, hr, (by unfold AnsOK; dsimp only; omega), fun _ => rfl, by simp, by simp, fun h => by omega, fun h => by omega, fun _ => ⟨fun _ => by omega, fun _ => rfl⟩, fun _ h => by omega, fun h => by omega⟩, by simp⟩
    · rw [if_neg c6]
      by_cases c11 : k = 1
      · rw [if_pos c11]; exact ⟨⟨by simp; omega, hr.append h0 h1, (by unfold AnsOK; dsimp only; omega), fun h => by simp at h; omega, fun _ h => by omega, by simp, fun h => by omega, fun h => by omega, fun _ => ⟨by simp, fun h => by omega⟩, fun _ _ => rfl, fun h => by omega⟩, by simp⟩
      · rw [if_neg c11]; exact ⟨⟨by simp; omega, hr.cons h0 h1, (by unfold AnsOK; dsimp only; omega), fun h => by simp at h; omega, fun _ h => by omega, by simp, fun h => by omega, fun h => by omega, fun h => by omega, fun h => by omega, fun h => by omega⟩, by simp⟩
  rw [if_neg c1]
  by_cases c2 : k = 2 ∨ k = 4 ∨ k = 5
  · rw [if_pos c2]
    by_cases c0 : l.length = 0
    · rw [if_pos c0]; exact ⟨⟨hl, hr, (by unfold AnsOK; dsimp only; omega), fun _ => rfl, by simp, by simp, fun _ => ⟨fun _ => c0, fun _ => rfl⟩, fun _ h => absurd c0 h, fun h => by omega, fun h => by omega, fun h => by omega⟩, by simp⟩
    · rw [if_neg c0]
      have hg := hr.get (l.length - 1) (by omega)
      have hg0 := hr.get 0 (by omega)
      by_cases c5 : k = 5
      · rw [if_pos c5]; exact ⟨⟨hl, hr, (by unfold AnsOK; dsimp only; omega), fun _ => rfl, fun _ h => by omega, fun _ h => by omega, fun h => by omega, fun h => by omega, fun h => by omega, fun h => by omega, fun h => by omega⟩, by simp⟩
      · rw [if_neg c5]
        by_cases c4 : k = 4
        · rw [if_pos c4]; exact ⟨⟨by rw [List.length_eraseIdx]; split <;> omega, hr.sub (fun v hv => List.mem_of_mem_eraseIdx hv), (by unfold AnsOK; dsimp only; omega), fun h => by simp at h; omega, fun _ _ => by rw [List.length_eraseIdx, if_pos (by omega)]; omega, fun _ h => by omega, fun h => by omega, fun h => by omega, fun h => by omega, fun h => by omega, fun h => by omega⟩, by simp⟩
        · rw [if_neg c4]; exact ⟨⟨by rw [List.length_eraseIdx]; split <;> omega, hr.sub (fun v hv => List.mem_of_mem_eraseIdx hv), (by unfold AnsOK; dsimp only; omega), fun h => by simp at h; omega, fun _ _ => by rw [List.length_eraseIdx, if_pos (by omega)]; omega, fun _ h => by omega, fun _ => ⟨by simp, fun h => absurd h c0⟩, fun _ _ => rfl, fun h => by omega, fun h => by omega, fun h => by omega⟩, by simp⟩
  rw [if_neg c2]
  have c6 : k = 6 := by omega
  rw [if_pos c6]; exact ⟨⟨hl, hr, (by unfold AnsOK; dsimp only; omega), fun _ => rfl, fun _ h => by omega, fun _ h => by omega, fun h => by omega, fun h => by omega, fun h => by omega, fun h => by omega, fun _ => rfl⟩, by simp⟩
theorem lst_law (kind : Int) (l : List Int) (k x : Int) (hl : l.length ≤ 6) (hr : InR l) (h0 : 0 ≤ x) (h1 : x ≤ 4294967295) (ho : 1 ≤ k ∧ k ≤ 6) (k1 : 1 ≤ kind) (k4 : kind ≤ 4) : ListLaw l k x (lstR kind l k x) ∧ ((lstR kind l k x).2.1 = 5 ↔ (k = 3 ∨ k = 4) ∧ kind ≠ 3) := by
  unfold lstR
  by_cases c1 : kind = 1
  · rw [if_pos c1]; have := que_law l k x hl hr h0 h1 ho; exact ⟨this.1, by rw [this.2]; omega⟩
  · rw [if_neg c1]
    by_cases c2 : kind = 2
    · rw [if_pos c2]; have := stk_law l k x hl hr h0 h1 ho; exact ⟨this.1, by rw [this.2]; omega⟩
    · rw [if_neg c2]
      by_cases c3 : kind = 3
      · rw [if_pos c3]; have := deq_law l k x hl hr h0 h1 ho; exact ⟨this.1, by have := this.2; omega⟩
      · rw [if_neg c3]; have := heap_law l k x hl hr h0 h1 ho; exact ⟨this.1, by rw [this.2]; omega⟩
/-- An object stays one. -/
theorem objR_ok {kind : Int} {c : List Int} (h : ObjOK kind c) (k key x : Int) (ho : opOk k key x = true) : ObjOK kind (objR kind c k key x).1 := by
  unfold opOk at ho
  rw [decide_eq_true_eq] at ho
  rcases h with ⟨k1, k4, l, rfl, hl, hr, hh⟩ | ⟨rfl, t, rfl, g⟩ | ⟨rfl, n, rfl, h0, h1⟩
  · rw [objR_list kind l k key x k1 k4]
    have hw := (lst_law kind l k x hl hr ho.2.2.2.2.1 ho.2.2.2.2.2 ⟨ho.1, ho.2.1⟩ k1 k4).1
    refine .inl ⟨k1, k4, _, rfl, hw.len, hw.inr, fun h4 => ?_⟩
    unfold lstR
    rw [if_neg (by omega), if_neg (by omega), if_neg (by omega)]
    exact heapR_heap (hh h4) k x
  · rw [objR_table t g]
    exact .inr (.inl ⟨rfl, _, rfl, doT_good g k key x ho.2.2.2.2.1 ho.2.2.2.2.2⟩)
  · rw [objR_tally]
    exact .inr (.inr ⟨rfl, _, rfl, tallyR_lo n k x h0 ho.2.2.2.2.1, tallyR_hi n k x h1 ho.2.2.2.2.1⟩)
theorem objOK_zero (kind : Int) (h1 : 1 ≤ kind) (h6 : kind ≤ 6) : ObjOK kind (List.replicate 17 0) := by
  by_cases h5 : kind ≤ 4
  · exact .inl ⟨h1, h5, [], rfl, by decide, (fun v hv => by cases hv), (fun _ j h0 hj => by simp at hj)⟩
  · by_cases e : kind = 5
    · refine .inr (.inl ⟨e, List.replicate 16 0, rfl, ?_⟩)
      exact (rightB_iff _ rfl (by decide)).1 (by decide)
    · exact .inr (.inr ⟨by omega, 0, rfl, by decide, by decide⟩)
theorem objOK_len {kind : Int} {c : List Int} (h : ObjOK kind c) : c.length = 17 := by
  rcases h with ⟨k1, k4, l, rfl, hl, hr, hh⟩ | ⟨rfl, t, rfl, g⟩ | ⟨rfl, n, rfl, h0, h1⟩
  · exact lstC_len l (by omega)
  · simp [g.len]
  · simp
end Go.Proofs.Ytpedkcpkdacnlaa
end
section
namespace Go.Proofs.Ytpedkcpkdacnlaa
open Go.RowKit
set_option linter.unusedVariables false
/-- A thing in memory: a row of cells, or an owned slice. -/
inductive En where
  | blk (b : Nat) (C : List Value) (t : TypeId)
  | row (v : Value) (e : TypeId) (size n : Nat) (xs : List Value)
  | obj (b : Nat) (o : Obj)
def En.at : En → World → Prop
  | .blk b C t, w => Blk w b C t
  | .row v e size n xs, w => w.ownsRow 0 e size v n xs
  | .obj b o, w => w.heap[b]? = some o
def En.foot : En → Option Nat
  | .blk b _ _ => some b
  | .row v _ _ _ _ => v.ownBlock
  | .obj b _ => some b
def Apart (e f : En) : Prop := ∀ g, e.foot = some g → f.foot ≠ some g
theorem Apart.symm {e f : En} (h : Apart e f) : Apart f e := fun g hf he => h g he hf
structure Mem (w0 : World) (S : Nat → Prop) (M : List En) (w : World) : Prop where
  kept : Kept S w0 w
  holds : ∀ e ∈ M, e.at w
  own : ∀ e ∈ M, ∀ g, e.foot = some g → S g ∨ w0.heap.size ≤ g
  dist : M.Pairwise Apart
theorem ownsRow_kept {w w' : World} {S : Nat → Prop} {e size n : Nat} {v : Value} {xs : List Value} (h : w.ownsRow 0 e size v n xs) (k : Kept S w w') (hn : ∀ g, v.ownBlock = some g → ¬ S g) : w'.ownsRow 0 e size v n xs := by
  obtain ⟨h1, h2 | ⟨g, cap, cur, rfl, hb, hg, r⟩⟩ := h
  · exact ⟨h1, .inl h2⟩
  · exact ⟨h1, .inr ⟨g, cap, cur, rfl, hb, by rw [k.block g (Array.getElem?_eq_some_iff.1 hg).1 (hn g rfl)]; exact hg, r⟩⟩
theorem En.at.kept {w w' : World} {S : Nat → Prop} {e : En} (h : e.at w) (k : Kept S w w') (hn : ∀ g, e.foot = some g → ¬ S g) : e.at w' := by
  cases e with
  | blk b C t => exact Blk.kept h k (hn b rfl)
  | row v e size n xs => exact ownsRow_kept h k hn
  | obj b o => exact (k.block b (Array.getElem?_eq_some_iff.1 h).1 (hn b rfl)).trans h
theorem En.at.lt {w : World} {e : En} (h : e.at w) {g : Nat} (hg : e.foot = some g) : g < w.heap.size := by
  cases e with
  | blk b C t => obtain rfl : b = g := by simpa [En.foot] using hg
                 exact Blk.lt h
  | row v e size n xs =>
    obtain ⟨h1, h2 | ⟨g', cap, cur, rfl, hb, hg', r⟩⟩ := h
    · rw [En.foot, h2.1] at hg; simp [Value.ownBlock] at hg
    · obtain rfl : g' = g := by simpa [En.foot, Value.ownBlock] using hg
      exact (Array.getElem?_eq_some_iff.1 hg').1
  | obj b o =>
    obtain rfl : b = g := by simpa [En.foot] using hg
    exact (Array.getElem?_eq_some_iff.1 h).1
inductive Sel (e : En) : List En → (En → List En) → Prop
  | head {R : List En} : Sel e (e :: R) (fun x => x :: R)
  | tail {d : En} {R : List En} {f : En → List En} (h : Sel e R f) : Sel e (d :: R) (fun x => d :: f x)
theorem Sel.mem {e : En} {M : List En} {f : En → List En} (h : Sel e M f) : e ∈ M := by
  induction h with
  | head => exact List.mem_cons_self
  | tail _ ih => exact List.mem_cons_of_mem _ ih
theorem Sel.memf {e : En} {M : List En} {f : En → List En} (h : Sel e M f) (x y : En) (hy : y ∈ f x) : y = x ∨ y ∈ M := by
  induction h with
  | head => rcases List.mem_cons.1 hy with h | h
            · exact .inl h
            · exact .inr (List.mem_cons_of_mem _ h)
  | tail _ ih => rcases List.mem_cons.1 hy with h | h
                 · exact .inr (h ▸ List.mem_cons_self)
                 · rcases ih h with h | h
                   · exact .inl h
                   · exact .inr (List.mem_cons_of_mem _ h)
/-- Everything but the chosen one is apart from it, and stays. -/
theorem Sel.turn {e : En} {M : List En} {f : En → List En} (h : Sel e M f) (x : En) (Pr Pr' : En → Prop) (hd : M.Pairwise Apart) (hP : ∀ y ∈ M, Pr y) (hx : Pr' x) (hk : ∀ y ∈ M, Apart e y → Pr y → Pr' y) : ∀ y ∈ f x, Pr' y := by
  induction h with
  | head =>
    rw [List.pairwise_cons] at hd
    intro y hy
    rcases List.mem_cons.1 hy with rfl | hy
    · exact hx
    · exact hk y (List.mem_cons_of_mem _ hy) (hd.1 y hy) (hP y (List.mem_cons_of_mem _ hy))
  | @tail d R f' h ih =>
    rw [List.pairwise_cons] at hd
    intro y hy
    rcases List.mem_cons.1 hy with rfl | hy
    · exact hk y List.mem_cons_self ((hd.1 e h.mem).symm) (hP y List.mem_cons_self)
    · exact ih hd.2 (fun z hz => hP z (List.mem_cons_of_mem _ hz)) (fun z hz => hk z (List.mem_cons_of_mem _ hz)) y hy
theorem Sel.dist {e : En} {M : List En} {f : En → List En} (h : Sel e M f) (x : En) (hd : M.Pairwise Apart) (hx : ∀ y ∈ M, Apart e y → Apart x y) : (f x).Pairwise Apart := by
  induction h with
  | head =>
    rw [List.pairwise_cons] at hd ⊢
    exact ⟨fun y hy => hx y (List.mem_cons_of_mem _ hy) (hd.1 y hy), hd.2⟩
  | @tail d R f' h ih =>
    rw [List.pairwise_cons] at hd ⊢
    refine ⟨fun y hy => ?_, ih hd.2 (fun z hz => hx z (List.mem_cons_of_mem _ hz))⟩
    rcases h.memf x y hy with rfl | hy
    · exact (hx d List.mem_cons_self (hd.1 e h.mem).symm).symm
    · exact hd.1 y hy
namespace Mem
variable {w0 w w' : World} {S : Nat → Prop} {M : List En}
theorem start (w : World) : Mem w (fun _ => False) [] w := ⟨Kept.refl _ _, by simp, by simp, List.Pairwise.nil⟩
theorem below (h : Mem w0 (fun _ => False) M w) : Below w0.heap.size w0 w := h.kept.below (Nat.le_refl _) (fun _ h => h.elim)
theorem size (h : Mem w0 S M w) : w0.heap.size ≤ w.heap.size := h.kept.size
/-- A call, or an operation, that turned nothing that there was. -/
theorem call (h : Mem w0 S M w) (k : Below w.heap.size w w') : Mem w0 S M w' :=
  ⟨h.kept.trans (Kept.of_below k), fun e he => (h.holds e he).kept (Kept.of_below (a := w) k |>.mono (S' := fun _ => False) (fun _ h => h)) (fun _ _ h => h), h.own, h.dist⟩
theorem drew (h : Mem w0 S M w) : Mem w0 S M w.drew := ⟨h.kept.drew, fun e he => (h.holds e he).kept ((Kept.refl (fun _ => False) w).drew) (fun _ _ h => h), h.own, h.dist⟩
theorem nextDrawn (h : Mem w0 S M w) : Mem w0 S M { w with drawn := w.drawn + 1 } := h.drew
/-- Something new. -/
theorem add (h : Mem w0 S M w) (k : Below w.heap.size w w') (e : En) (he : e.at w') (hf : ∀ g, e.foot = some g → w.heap.size ≤ g) : Mem w0 S (e :: M) w' := by
  have h' := h.call k
  refine ⟨h'.kept, fun x hx => ?_, fun x hx g hg => ?_, List.pairwise_cons.2 ⟨fun x hx g hg hxg => ?_, h.dist⟩⟩
  · rcases List.mem_cons.1 hx with rfl | hx
    · exact he
    · exact h'.holds x hx
  · rcases List.mem_cons.1 hx with rfl | hx
    · exact .inr (Nat.le_trans h.size (hf g hg))
    · exact h.own x hx g hg
  · have h1 := hf g hg
    have h2 := (h.holds x hx).lt hxg
    omega
/-- One thing turned; nothing else did. -/
theorem turn (h : Mem w0 S M w) {e : En} {f : En → List En} (hs : Sel e M f) (k : Kept (fun g => e.foot = some g) w w') (x : En) (hx : x.at w') (hf : ∀ g, x.foot = some g → e.foot = some g ∨ w.heap.size ≤ g) : Mem w0 S (f x) w' := by
  have hown : ∀ g, e.foot = some g → S g ∨ w0.heap.size ≤ g := h.own e hs.mem
  refine ⟨?_, ?_, ?_, ?_⟩
  · refine ⟨k.os.trans h.kept.os, k.tape.trans h.kept.tape, k.output.trans h.kept.output, Nat.le_trans h.size k.size, fun i hi hn => ?_⟩
    rw [k.block i (Nat.lt_of_lt_of_le hi h.size) (fun he => by rcases hown i he with h | h; exact hn h; omega)]
    exact h.kept.block i hi hn
  · exact hs.turn x (fun y => y.at w) (fun y => y.at w') h.dist h.holds hx (fun y _ ha hy => hy.kept k (fun g hg he => ha g he hg))
  · exact hs.turn x (fun y => ∀ g, y.foot = some g → S g ∨ w0.heap.size ≤ g) (fun y => ∀ g, y.foot = some g → S g ∨ w0.heap.size ≤ g) h.dist h.own (fun g hg => by
      rcases hf g hg with h1 | h1
      · exact hown g h1
      · exact .inr (Nat.le_trans h.size h1)) (fun _ _ _ h => h)
  · exact hs.dist x h.dist (fun y hy ha g hg hyg => by
      rcases hf g hg with h1 | h1
      · exact ha g h1 hyg
      · have := (h.holds y hy).lt hyg; omega)
theorem alloc (h : Mem w0 S M w) (C : List Value) (t : TypeId) : Mem w0 S (.blk w.heap.size C t :: M) (w.alloc (.cells C.toArray t)) :=
  h.add ((Below.refl _ _).alloc (Nat.le_refl _) _) _ (Blk.new w C t) (fun g hg => by simp [En.foot] at hg; omega)
theorem get (h : Mem w0 S M w) {e : En} {f : En → List En} (hs : Sel e M f) : e.at w := h.holds e hs.mem
theorem blk (h : Mem w0 S M w) {b : Nat} {C : List Value} {t : TypeId} {f : En → List En} (hs : Sel (.blk b C t) M f) : Blk w b C t := h.holds _ hs.mem
theorem set (h : Mem w0 S M w) {b : Nat} {C : List Value} {t : TypeId} {f : En → List En} (hs : Sel (.blk b C t) M f) (i : Nat) (v : Value) : Mem w0 S (f (.blk b (C.set i v) t)) (w.setCell ⟨b, i, none⟩ v) :=
  h.turn hs ((Kept.refl (fun g => (En.blk b C t).foot = some g) w).setCell (p := ⟨b, i, none⟩) (.inl rfl) v) _ ((h.blk hs).set i v) (fun g hg => .inl hg)
theorem setAll (h : Mem w0 S M w) {b : Nat} {C : List Value} {t : TypeId} {f : En → List En} (hs : Sel (.blk b C t) M f) (C' : List Value) : Mem w0 S (f (.blk b C' t)) (setBlk w b C') :=
  h.turn hs ((Kept.setBlk w b C').mono (fun k hk => by subst hk; rfl)) _ ((h.blk hs).setBlk C') (fun g hg => .inl hg)
theorem tail {e : En} (h : Mem w0 S (e :: M) w) : Mem w0 S M w := ⟨h.kept, fun x hx => h.holds x (List.mem_cons_of_mem _ hx), fun x hx => h.own x (List.mem_cons_of_mem _ hx), (List.pairwise_cons.1 h.dist).2⟩
theorem perm {M' : List En} (h : Mem w0 S M w) (p : M.Perm M') : Mem w0 S M' w :=
  ⟨h.kept, fun e he => h.holds e (p.symm.subset he), fun e he => h.own e (p.symm.subset he), p.pairwise h.dist (fun hh => hh.symm)⟩
theorem lt (h : Mem w0 S M w) {b : Nat} {C : List Value} {t : TypeId} {f : En → List En} (hs : Sel (.blk b C t) M f) : b < w.heap.size := (h.blk hs).lt
end Mem
def scalarB (P : Program) (ty : TypeId) : Bool := match P.underlying ty with
  | some (.struct _) | some (.array _ _) | none => false
  | _ => true
def aggB (P : Program) (ty : TypeId) (n : Nat) : Bool := (match P.underlying ty with
  | some (.struct _) | some (.array _ _) => true
  | _ => false) && (P.info? ty).map (·.size) == some n
def oneB (P : Program) (ty : TypeId) : Bool := (P.info? ty).map (·.size) == some 1
def zeroB (P : Program) (ty : TypeId) (C : List Value) : Prop := (P.info? ty).bind (·.zero) = some (.agg C.toArray)
section
variable {P : Program} {ops : Array Oper} {rest : List Oper} {o : Oper} {a : Act} {w : World} {Q : Exit → Act → World → Prop} {w0 : World} {S : Nat → Prop} {M : List En}
theorem run_isAgg_false (ty : TypeId) (h : scalarB P ty = true) : (isAgg ty).run P w = .ok false w := by
  unfold scalarB at h
  cases hu : P.underlying ty with
  | none => rw [hu] at h; cases h
  | some d =>
    rw [hu] at h
    unfold isAgg
    rw [Sem.run_bind, run_underlying hu w]
    cases d <;> simp_all
theorem run_loadVar_cell (ty : TypeId) (h : scalarB P ty = true) (p : Addr) (v : Value) (hc : w.cell? p = some v) : (loadVar ty p).run P w = .ok v w := by
  simp [loadVar, Sem.run_bind, run_isAgg_false ty h, load, Sem.run, hc]
theorem run_storeVar_cell (ty : TypeId) (h : oneB P ty = true) (p : Addr) (v u : Value) (h1 : v.oneCell' = true) (hc : w.cell? p = some u) (hf : w.frozen? p = false) : (storeVar ty p v).run P w = .ok () (w.setCell p v) := by
  unfold oneB at h
  cases hq : P.info? ty with
  | none => rw [hq] at h; cases h
  | some i =>
    have hs : i.size = 1 := by rw [hq] at h; simpa using h
    have hcs : v.cells = #[v] := by cases v <;> simp_all [Value.cells, Value.oneCell']
    have hadd : p.add 0 = p := rfl
    cases v <;> simp_all [storeVar, sizeOf, typeInfo, Value.cells, storeCells, store, Sem.run, Value.oneCell', Sem.run_bind]
/-- One cell is read. -/
theorem wpM_load (HM : Mem w0 S M w) {ty : TypeId} {x : Operand} {b off : Nat} {C : List Value} {t : TypeId} {f : En → List En} {v : Value} (hw : Region.wanted o (yielded ops a.tmps) = true) (ho : o.op = .load ty x)
    (hx : a.eval x = .pointer (some ⟨b, off, none⟩)) (hs : Sel (.blk b C t) M f) (hv : C[off]? = some v) (hu : scalarB P ty = true)
    (h : wpList P ops Q rest (a.put o.dst v) w) : wpList P ops Q (o :: rest) a w :=
  wpList_step fun _ hK => by
    rw [if_pos hw]
    unfold Oper.wp execOp
    have hc : w.cell? ⟨b, off, none⟩ = some v := by rw [(HM.blk hs).cell]; exact hv
    simp only [ho, hx, Instr.loadAt, Instr.sureAddr, Sem.run_bind, Sem.run_pure, Result.andThen_ok, run_loadVar_cell ty hu _ v hc]
    exact hK _ _ h
/-- Several cells are read: a struct, or an array. -/
theorem wpM_loadA (HM : Mem w0 S M w) {ty : TypeId} {x : Operand} {b off n : Nat} {C : List Value} {t : TypeId} {f : En → List En} (hw : Region.wanted o (yielded ops a.tmps) = true) (ho : o.op = .load ty x)
    (hx : a.eval x = .pointer (some ⟨b, off, none⟩)) (hs : Sel (.blk b C t) M f) (hu : aggB P ty n = true) (hn : off + n ≤ C.length)
    (h : wpList P ops Q rest (a.put o.dst (.agg ((C.drop off).take n).toArray)) w) : wpList P ops Q (o :: rest) a w := by
  unfold aggB at hu
  rw [Bool.and_eq_true, beq_iff_eq] at hu
  cases hd : P.underlying ty with
  | none => rw [hd] at hu; simp at hu
  | some d => exact wpList_load_part_g hw ty x ho b off n hx t C d (HM.blk hs) hn hd (by rw [hd] at hu; cases d <;> simp_all) hu.2 h
/-- One cell is written. -/
theorem wpM_store (HM : Mem w0 S M w) {ty : TypeId} {x y : Operand} {b off : Nat} {C : List Value} {t : TypeId} {f : En → List En} {v : Value} (hw : Region.wanted o (yielded ops a.tmps) = true) (ho : o.op = .store ty x y)
    (hx : a.eval x = .pointer (some ⟨b, off, none⟩)) (hy : a.eval y = v) (hs : Sel (.blk b C t) M f) (hi : off < C.length) (hu : oneB P ty = true) (h1 : v.oneCell' = true)
    (h : ∀ w', Mem w0 S (f (.blk b (C.set off v) t)) w' → wpList P ops Q rest (a.put o.dst undef) w') : wpList P ops Q (o :: rest) a w :=
  wpList_step fun _ hK => by
    rw [if_pos hw]
    unfold Oper.wp execOp
    have hc : w.cell? ⟨b, off, none⟩ = some C[off] := by rw [(HM.blk hs).cell]; exact List.getElem?_eq_getElem hi
    simp only [ho, hx, hy, Instr.storeAt, Instr.sureAddr, Sem.run_bind, Sem.run_pure, Result.andThen_ok, run_storeVar_cell ty hu _ v _ h1 hc ((HM.blk hs).frozen _)]
    exact hK _ _ (h _ (HM.set hs off v))
/-- Several cells are written. -/
theorem wpM_storeA (HM : Mem w0 S M w) {ty : TypeId} {x y : Operand} {b off n : Nat} {C vs : List Value} {t : TypeId} {f : En → List En} (hg : o.guard = none) (ho : o.op = .store ty x y)
    (hx : a.eval x = .pointer (some ⟨b, off, none⟩)) (hy : a.eval y = .agg vs.toArray) (hs : Sel (.blk b C t) M f) (hn : vs.length = n) (hi : off + n ≤ C.length) (hu : (P.info? ty).map (·.size) = some n) (h1 : ∀ v ∈ vs, v.oneCell' = true)
    (h : ∀ w', Mem w0 S (f (.blk b (spl C off vs) t)) w' → wpList P ops Q rest (a.put o.dst undef) w') : wpList P ops Q (o :: rest) a w :=
  wpList_store_part hg ty x y ho b off n vs hx hy t C (HM.blk hs) hn hi hu h1 (h _ (HM.setAll hs _))
/-- A value is put into a new variable. -/
theorem wpM_box (HM : Mem w0 S M w) {ty : TypeId} {x : Operand} {C : List Value} {v : Value} (hg : o.guard = none) (ho : o.op = .box ty x) (hx : a.eval x = v) (hv : v.cells = C.toArray)
    (h : ∀ b w', b = w.heap.size → Mem w0 S (.blk b C ty :: M) w' → wpList P ops Q rest (a.put o.dst (.pointer (some ⟨b, 0, none⟩))) w') : wpList P ops Q (o :: rest) a w :=
  wpList_plain hg fun _ hK => by
    unfold Oper.wp execOp
    simp only [ho, hx, Instr.box, newVar, newRow, hv, Sem.run_bind]
    exact hK _ _ (h _ _ rfl (HM.alloc C ty))
/-- A new variable. -/
theorem wpM_alloc (HM : Mem w0 S M w) {ty : TypeId} {z : Value} {C : List Value} (hg : o.guard = none) (ho : o.op = .alloc ty) (hz : (P.info? ty).bind (·.zero) = some z) (hv : z.cells = C.toArray)
    (h : ∀ b w', b = w.heap.size → Mem w0 S (.blk b C ty :: M) w' → wpList P ops Q rest (a.put o.dst (.pointer (some ⟨b, 0, none⟩))) w') : wpList P ops Q (o :: rest) a w :=
  wpList_plain hg fun _ hK => by
    unfold Oper.wp execOp
    cases hq : P.info? ty with
    | none => rw [hq] at hz; cases hz
    | some i =>
      have hz' : i.zero = some z := by simpa [hq] using hz
      have e : (Instr.alloc ty true (.tuple #[])).run P w = .ok (.pointer (some ⟨w.heap.size, 0, none⟩)) (w.alloc (.cells C.toArray ty)) := by
        simp [Instr.alloc, zeroValue, typeInfo, hq, hz', newVar, newRow, hv, Sem.run_bind]
      simp only [ho, Sem.run_bind, e]
      exact hK _ _ (h _ _ rfl (HM.alloc C ty))
end
end Go.Proofs.Ytpedkcpkdacnlaa
end
section
namespace Go.Proofs.Ytpedkcpkdacnlaa
open Go.RowKit
set_option linter.unusedVariables false
theorem ownsRow.form {w : World} {base e sz n : Nat} {v : Value} {xs : List Value} (h : w.ownsRow base e sz v n xs) : ∃ p c, v = .slice p n c ∧ n ≤ c ∧ c ≤ 9223372036854775807 ∧ xs.length = n * sz := by
  obtain ⟨h1, ⟨rfl, rfl⟩ | ⟨g, cap, cur, rfl, hb, hg, hl, hm, r⟩⟩ := h
  · exact ⟨none, 0, rfl, by omega, by omega, h1⟩
  · unfold maxLen at hm; exact ⟨_, cap, rfl, hl, by omega, h1⟩
theorem ownsRow.head {w : World} {base e sz n : Nat} {v : Value} {xs : List Value} (h : w.ownsRow base e sz v n xs) (hn : 0 < n) : ∃ g c, v = .slice (some ⟨g, 0, none⟩) n c ∧ n ≤ c ∧ c ≤ 9223372036854775807 ∧ g < w.heap.size ∧ base ≤ g := by
  obtain ⟨h1, ⟨rfl, rfl⟩ | ⟨g, cap, cur, rfl, hb, hg, hl, hm, r⟩⟩ := h
  · omega
  · unfold maxLen at hm; exact ⟨g, cap, rfl, hl, by omega, (Array.getElem?_eq_some_iff.1 hg).1, hb⟩
theorem ownsRow.cells {w : World} {base e sz n g c : Nat} {xs : List Value} (h : w.ownsRow base e sz (.slice (some ⟨g, 0, none⟩) n c) n xs) :
    ∃ C : List Value, Blk w g C e ∧ C.take xs.length = xs ∧ n ≤ c ∧ C.length = c * sz ∧ c ≤ maxLen ∧ base ≤ g ∧ xs.length = n * sz := by
  obtain ⟨h1, ⟨h, -⟩ | ⟨g', cap, cur, he, hb, hg, hl, hm, hs, ht⟩⟩ := h
  · cases h
  · simp only [Value.slice.injEq, Option.some.injEq, Addr.mk.injEq, and_true, true_and] at he
    obtain ⟨rfl, rfl⟩ := he
    exact ⟨cur.toList, by unfold Blk; simpa using hg, by rw [h1]; exact ht, hl, by simpa using hs, hm, hb, h1⟩
theorem ownsRow.cell {w : World} {base e sz n g c : Nat} {xs : List Value} (h : w.ownsRow base e sz (.slice (some ⟨g, 0, none⟩) n c) n xs) (i : Nat) (hi : i < xs.length) : w.cell? ⟨g, i, none⟩ = xs[i]? ∧ w.frozen? ⟨g, i, none⟩ = false := by
  obtain ⟨C, hB, ht, -⟩ := ownsRow.cells h
  refine ⟨?_, hB.frozen i⟩
  rw [hB.cell]
  have : (C.take xs.length)[i]? = xs[i]? := by rw [ht]
  rwa [List.getElem?_take, if_pos hi] at this
theorem ownsRow.splw {w w' : World} {e sz n g c : Nat} {xs : List Value} (h : w.ownsRow 0 e sz (.slice (some ⟨g, 0, none⟩) n c) n xs) (o : Nat) (vs : List Value) (ho : o + vs.length ≤ xs.length)
    (hw : ∀ C, Blk w g C e → Blk w' g (spl C o vs) e) : w'.ownsRow 0 e sz (.slice (some ⟨g, 0, none⟩) n c) n (spl xs o vs) := by
  obtain ⟨C, hB, ht, h1, h2, h3, h4, h5⟩ := ownsRow.cells h
  have hxl : xs.length ≤ C.length := by rw [← ht]; exact List.length_take_le' _ _
  have hl : (spl xs o vs).length = xs.length := spl_length _ _ _ ho
  refine ⟨by rw [hl]; exact h5, .inr ⟨g, c, (spl C o vs).toArray, rfl, h4, hw C hB, h1, h3, by simp [spl_length C o vs (by omega), h2], ?_⟩⟩
  rw [← h5]
  show (spl C o vs).take xs.length = spl xs o vs
  apply List.ext_getElem?
  intro i
  have hci : i < xs.length → C[i]? = xs[i]? := fun h => by
    have : (C.take xs.length)[i]? = xs[i]? := by rw [ht]
    rwa [List.getElem?_take, if_pos h] at this
  unfold Proofs.Ytpedkcpkdacnlaa.spl
  simp only [List.getElem?_take, List.getElem?_append, List.length_append, List.length_take, List.getElem?_drop]
  rw [Nat.min_eq_left (show o ≤ C.length by omega), Nat.min_eq_left (show o ≤ xs.length by omega)]
  by_cases c1 : i < xs.length
  · rw [if_pos c1]
    by_cases c2 : i < o
    · rw [if_pos (by omega), if_pos c2, if_pos c2, if_pos (by omega), if_pos c2, if_pos c2]; exact hci c1
    · by_cases c3 : i < o + vs.length
      · rw [if_pos c3, if_neg c2, if_pos c3, if_neg c2]
      · rw [if_neg c3, if_neg c3, show o + vs.length + (i - (o + vs.length)) = i by omega]; exact hci c1
  · rw [if_neg c1, if_neg (by omega), List.getElem?_eq_none (by omega)]
theorem spl_one (C : List Value) (o : Nat) (v : Value) (h : o < C.length) : spl C o [v] = C.set o v := by
  unfold spl
  rw [List.set_eq_take_append_cons_drop, if_pos h]; simp
namespace Mem
variable {w0 w w' : World} {S : Nat → Prop} {M : List En}
theorem sub (h : Mem w0 S M w) {M' : List En} (hs : M'.Sublist M) : Mem w0 S M' w :=
  ⟨h.kept, fun e he => h.holds e (hs.subset he), fun e he => h.own e (hs.subset he), h.dist.sublist hs⟩
theorem row (h : Mem w0 S M w) {e sz n : Nat} {v : Value} {xs : List Value} {f : En → List En} (hs : Sel (.row v e sz n xs) M f) : w.ownsRow 0 e sz v n xs := h.holds _ hs.mem
/-- A slice that a call has made. -/
theorem got (h : Mem w0 S M w) (k : Below w.heap.size w w') {e sz n : Nat} {v : Value} {xs : List Value} (ho : w'.ownsRow w.heap.size e sz v n xs) : Mem w0 S (.row v e sz n xs :: M) w' :=
  h.add k _ (by
    obtain ⟨h1, h2 | ⟨g, cap, cur, rfl, hb, r⟩⟩ := ho
    · exact ⟨h1, .inl h2⟩
    · exact ⟨h1, .inr ⟨g, cap, cur, rfl, Nat.zero_le _, r⟩⟩) (fun g hg => by
    obtain ⟨h1, h2 | ⟨g', cap, cur, rfl, hb, r⟩⟩ := ho
    · rw [En.foot, h2.1] at hg; simp [Value.ownBlock] at hg
    · simp [En.foot, Value.ownBlock] at hg; omega)
theorem nil (h : Mem w0 S M w) (e sz : Nat) : Mem w0 S (.row (.slice none 0 0) e sz 0 [] :: M) w :=
  h.got (Below.refl _ _) ⟨by simp, .inl ⟨rfl, rfl⟩⟩
/-- What a function hands back. -/
theorem gives (h : Mem w0 S M w) {e sz n : Nat} {v : Value} {xs : List Value} {f : En → List En} (hs : Sel (.row v e sz n xs) M f) (hS : ∀ g, v.ownBlock = some g → ¬ S g) : w.ownsRow w0.heap.size e sz v n xs := by
  have ho := h.own _ hs.mem
  obtain ⟨h1, h2 | ⟨g, cap, cur, rfl, hb, r⟩⟩ := h.row hs
  · exact ⟨h1, .inl h2⟩
  · exact ⟨h1, .inr ⟨g, cap, cur, rfl, (ho g rfl).resolve_left (hS g rfl), r⟩⟩
/-- Cells of an owned slice are written. -/
theorem splRow (h : Mem w0 S M w) {e sz n g c : Nat} {xs : List Value} {f : En → List En} (hs : Sel (.row (.slice (some ⟨g, 0, none⟩) n c) e sz n xs) M f) (o : Nat) (vs : List Value) (ho : o + vs.length ≤ xs.length) :
    ∀ C, Blk w g C e → Mem w0 S (f (.row (.slice (some ⟨g, 0, none⟩) n c) e sz n (spl xs o vs))) (setBlk w g (spl C o vs)) := fun C hC =>
  h.turn hs ((Kept.setBlk w g _).mono (fun k hk => by subst hk; rfl)) _ (ownsRow.splw (h.row hs) o vs ho (fun C' hC' => by
    have : C = C' := by
      have h1 : w.heap[g]? = some (.cells C.toArray e (0, 0)) := hC
      have h2 : w.heap[g]? = some (.cells C'.toArray e (0, 0)) := hC'
      rw [h1] at h2; simpa using h2
    subst this; exact hC.setBlk _)) (fun g' hg => .inl hg)
theorem setRow (h : Mem w0 S M w) {e sz n g c : Nat} {xs : List Value} {f : En → List En} (hs : Sel (.row (.slice (some ⟨g, 0, none⟩) n c) e sz n xs) M f) (o : Nat) (v : Value) (ho : o < xs.length) :
    Mem w0 S (f (.row (.slice (some ⟨g, 0, none⟩) n c) e sz n (xs.set o v))) (w.setCell ⟨g, o, none⟩ v) := by
  refine h.turn hs ((Kept.refl (fun g' => (En.row (.slice (some ⟨g, 0, none⟩) n c) e sz n xs).foot = some g') w).setCell (p := ⟨g, o, none⟩) (.inl rfl) v) _ ?_ (fun g' hg => .inl hg)
  rw [← spl_one xs o v ho]
  refine ownsRow.splw (h.row hs) o [v] (by simp; omega) (fun C hC => ?_)
  obtain ⟨C', hC', ht, -⟩ := ownsRow.cells (h.row hs)
  have : C = C' := by
    have h1 : w.heap[g]? = some (.cells C.toArray e (0, 0)) := hC
    have h2 : w.heap[g]? = some (.cells C'.toArray e (0, 0)) := hC'
    rw [h1] at h2; simpa using h2
  subst this
  have hxl : xs.length ≤ C.length := by rw [← ht]; exact List.length_take_le' _ _
  rw [spl_one C o v (by omega)]
  exact hC.set o v
end Mem
section
variable {P : Program} {ops : Array Oper} {rest : List Oper} {o : Oper} {a : Act} {w : World} {Q : Exit → Act → World → Prop} {w0 : World} {S : Nat → Prop} {M : List En}
/-- One cell of an owned slice is read. -/
theorem wpM_loadR (HM : Mem w0 S M w) {ty : TypeId} {x : Operand} {g off e sz n c : Nat} {xs : List Value} {f : En → List En} {v : Value} (hw : Region.wanted o (yielded ops a.tmps) = true) (ho : o.op = .load ty x)
    (hx : a.eval x = .pointer (some ⟨g, off, none⟩)) (hs : Sel (.row (.slice (some ⟨g, 0, none⟩) n c) e sz n xs) M f) (hv : xs[off]? = some v) (hu : scalarB P ty = true)
    (h : wpList P ops Q rest (a.put o.dst v) w) : wpList P ops Q (o :: rest) a w :=
  wpList_step fun _ hK => by
    rw [if_pos hw]
    unfold Oper.wp execOp
    have hc : w.cell? ⟨g, off, none⟩ = some v := by
      rw [(ownsRow.cell (HM.row hs) off (by
        rcases Nat.lt_or_ge off xs.length with h | h
        · exact h
        · rw [List.getElem?_eq_none h] at hv; cases hv)).1]; exact hv
    simp only [ho, hx, Instr.loadAt, Instr.sureAddr, Sem.run_bind, Sem.run_pure, Result.andThen_ok, run_loadVar_cell ty hu _ v hc]
    exact hK _ _ h
/-- One cell of an owned slice is written. -/
theorem wpM_storeR (HM : Mem w0 S M w) {ty : TypeId} {x y : Operand} {g off e sz n c : Nat} {xs : List Value} {f : En → List En} {v : Value} (hw : Region.wanted o (yielded ops a.tmps) = true) (ho : o.op = .store ty x y)
    (hx : a.eval x = .pointer (some ⟨g, off, none⟩)) (hy : a.eval y = v) (hs : Sel (.row (.slice (some ⟨g, 0, none⟩) n c) e sz n xs) M f) (hi : off < xs.length) (hu : oneB P ty = true) (h1 : v.oneCell' = true)
    (h : ∀ w', Mem w0 S (f (.row (.slice (some ⟨g, 0, none⟩) n c) e sz n (xs.set off v))) w' → wpList P ops Q rest (a.put o.dst undef) w') : wpList P ops Q (o :: rest) a w :=
  wpList_step fun _ hK => by
    rw [if_pos hw]
    unfold Oper.wp execOp
    have hc := ownsRow.cell (HM.row hs) off hi
    rw [List.getElem?_eq_getElem hi] at hc
    simp only [ho, hx, hy, Instr.storeAt, Instr.sureAddr, Sem.run_bind, Sem.run_pure, Result.andThen_ok, run_storeVar_cell ty hu _ v _ h1 hc.1 hc.2]
    exact hK _ _ (h _ (HM.setRow hs off v hi))
theorem fold_set (vs : List Value) : ∀ (pre junk : List Value), junk.length = vs.length → (vs.zipIdx pre.length).foldl (fun (cs : Array Value) (p : Value × Nat) => cs.setIfInBounds (0 + p.2) p.1) (pre ++ junk).toArray = (pre ++ vs).toArray := by
  induction vs with
  | nil => intro pre junk h; simp at h; subst h; rfl
  | cons v r ih =>
    intro pre junk h
    cases junk with
    | nil => simp at h
    | cons j js =>
      have := ih (pre ++ [v]) js (by simpa using h)
      rw [List.zipIdx_cons, List.foldl_cons]
      simp only [List.length_append, List.length_cons, List.length_nil, List.append_assoc, List.cons_append, List.nil_append, Nat.zero_add] at this ⊢
      have e : ((pre ++ j :: js).toArray.setIfInBounds pre.length v) = (pre ++ v :: js).toArray := by
        rw [List.setIfInBounds_toArray, List.set_append_right _ _ (Nat.le_refl _)]; simp
      rw [e]; exact this
theorem fill_one (size : Nat) (v : Value) (z : Array Value) (hv : v.cells.size = size) (hz : z.size = size) : Instr.fill (fun i => some (i * size, size)) z [(0, v)] = some v.cells := by
  have h := fold_set v.cells.toList [] z.toList (by simp [hv, hz])
  simp only [List.nil_append, List.length_nil, Array.toArray_toList] at h
  unfold Instr.fill
  simp only [Nat.zero_mul]
  rw [if_neg (by simp; omega)]
  show Instr.fill _ _ [] = _
  unfold Instr.fill
  rw [← Array.foldl_toList, Array.toList_zipIdx, h]
/-- A slice literal of one element. -/
theorem wpM_buildSlice1 (HM : Mem w0 S M w) {t e size : Nat} {x : Operand} {v z : Value} {C : List Value} (hg : o.guard = none) (ho : o.op = .buildSlice t 1 #[(0, x)]) (hx : a.eval x = v) (hv : v.cells = C.toArray)
    (ht : P.underlying t = some (.slice e)) (hi : (P.info? e).map (·.size) = some size) (hz : (P.info? e).bind (·.zero) = some z) (hzs : z.cells.size = size) (hl : C.length = size) (hs0 : 0 < size) (hs1 : size ≤ 16777216)
    (h : ∀ b w', b = w.heap.size → Mem w0 S (.blk b C e :: M) w' → wpList P ops Q rest (a.put o.dst (.slice (some ⟨b, 0, none⟩) 1 1)) w') : wpList P ops Q (o :: rest) a w :=
  wpList_plain hg fun _ hK => by
    unfold Oper.wp execOp
    cases hq : P.info? e with
    | none => rw [hq] at hz; cases hz
    | some i =>
      have hz' : i.zero = some z := by simpa [hq] using hz
      have hsz : i.size = size := by simpa [hq] using hi
      have e1 : (Instr.buildSlice t 1 #[(0, v)]).run P w = .ok (.slice (some ⟨w.heap.size, 0, none⟩) 1 1) (w.alloc (.cells C.toArray e)) := by
        have hfo := fill_one size v ((Array.range (1 * size)).map (z.cells[· % z.cells.size]!)) (by rw [hv]; simpa using hl) (by simp)
        simp only [Nat.one_mul] at hfo
        have n1 : ¬ (16777216 < size) := by omega
        have n2 : ¬ (size = 0) := by omega
        simp [Instr.buildSlice, run_underlying ht, sizeOf, typeInfo, hq, hsz, zeroValue, hz', newRow, hv, Sem.run_bind, n1, n2, hfo]
      have hx' : ((#[(0, x)] : Array (Nat × Operand)).map fun p => (p.1, a.eval p.2)) = #[(0, v)] := by simp [hx]
      simp only [ho, Sem.run_bind, hx', e1]
      exact hK _ _ (h _ _ rfl (HM.alloc C e))
/-- Elements are put behind an owned slice; they lie in the block that was made last. -/
theorem wpM_append (HM : Mem w0 S M w) {s x : Operand} {t e sz bytes n m c : Nat} {z : Value} {v : Value} {xs news : List Value} {b te : Nat} {M' : List En} {f : En → List En} (hg : o.guard = none)
    (ho : o.op = .call { callee := .builtin .append, args := #[s, x], argTypes := #[t, t] }) (hM : M = .blk b news te :: M')
    (ht : P.underlying t = some (.slice e)) (hi : (P.info? e).map (fun i => (i.size, i.bytes)) = some (sz, bytes)) (hz : (P.info? e).bind (·.zero) = some z) (hzs : z.cells.size = sz) (hsz : 0 < sz)
    (hs : a.eval s = v) (hx : a.eval x = .slice (some ⟨b, 0, none⟩) m c) (hsel : Sel (.row v e sz n xs) M' f) (hl : news.length = m * sz) (h1 : ∀ u ∈ news, u.oneCell' = true)
    (h63 : n + m ≤ 9223372036854775807) (hbytes : (n + m) * bytes ≤ 140737488355328)
    (h : ∀ p c' w', n + m ≤ c' → c' ≤ 9223372036854775807 → Mem w0 S (f (.row (.slice p (n + m) c') e sz (n + m) (xs ++ news))) w' → wpList P ops Q rest (a.put o.dst (.slice p (n + m) c')) w') : wpList P ops Q (o :: rest) a w := by
  subst hM
  cases hq : P.info? e with
  | none => rw [hq] at hz; cases hz
  | some i =>
    have hz' : i.zero = some z := by simpa [hq] using hz
    have hsb : i.size = sz ∧ i.bytes = bytes := by simpa [hq] using hi
    have hB : Blk w b news te := HM.blk .head
    refine wpList_append_own_at w hg s x t ho 0 e i z sz bytes ht hq hz' hsb.1 hsb.2 hzs hsz v n xs hs (HM.tail.row hsel) ⟨b, 0, none⟩ m c news hx hl (fun j u hu => by
      have hadd : (⟨b, 0, none⟩ : Addr).add j = ⟨b, j, none⟩ := by unfold Addr.add; split <;> simp_all
      rw [hadd, hB.cell]; exact hu) h1 (by unfold maxLen; exact h63) hbytes (Nat.zero_le _) ?_
    intro v' w' hown hgrow _ hat
    obtain ⟨p, c', rfl, hc1, hc2, -⟩ := ownsRow.form hown
    refine h p c' w' hc1 hc2 (HM.tail.turn hsel ⟨hgrow.os, hgrow.tape, hgrow.output, hgrow.size, fun k hk hn => hgrow.block k hk (fun hh => hn hh.symm)⟩ _ hown ?_)
    intro g hgf
    rcases hat with hat | hat
    · exact .inl (by rw [← hgf]; exact hat.symm)
    · have hgf' : some w.heap.size = some g := by rw [← hgf]; exact hat.symm
      simp at hgf'; exact .inr (by omega)
end
end Go.Proofs.Ytpedkcpkdacnlaa
end
