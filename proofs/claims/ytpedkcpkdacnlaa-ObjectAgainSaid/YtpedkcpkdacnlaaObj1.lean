/- Laws and walks that the proof leans on, gathered: Base, Keep, TabPlain, TabClosed, TabLaws, Tab, RowOps, ResOps, TabClose, TabDo, TabRight, HeapPlain, HeapLaws, HeapMore, Shelf. -/
import Derived.WalkKit
import Derived.ProofKit
import Derived.OpenShut
import Derived.Lib.Hide
import Derived.Test.YtpedkcpkdacnlaaRows
import Derived.Deep.MidRow
import Derived.StillTailTactics
import Derived.Deep.RegionHeld3
import Derived.Deep.Cut
import Derived.Shelf.Small.Bits
import Derived.Shelf.Small.Wraps
import Derived.Shelf.Strconv.Itoa0
import Derived.Shelf.Sort.Plain
import Derived.Shelf.Slices.Turned
import Derived.Shelf.Slices.Reverse
import Derived.Shelf.Slices.Equal
import Derived.Ground.Names2Prog
import Derived.Shelf.Slices.Clone
import Derived.Shelf.Slices.SearchI
import Derived.Shelf.Slices.Delete
import Derived.Shelf.Slices.Cells
import Derived.Shelf.Slices.In.SortNone
import Derived.Shelf.Slices.Empties
import Derived.Shelf.Slices.Empties2
import Derived.Test.YtpedkcpkdacnlaaProg
section
namespace Go.Proofs.Ytpedkcpkdacnlaa
open Go.RowKit

/-- Behind a call that turned nothing below the heap's size: every older cell, and every older mark, reads as before. -/
theorem bcell {W w1 : World} (hb : Below W.heap.size W w1) : (∀ b o, b < W.heap.size → w1.cell? ⟨b, o, none⟩ = W.cell? ⟨b, o, none⟩) ∧ (∀ b o, b < W.heap.size → w1.frozen? ⟨b, o, none⟩ = W.frozen? ⟨b, o, none⟩) :=
  ⟨fun b o h => hb.cell (p := ⟨b, o, none⟩) h, fun b o h => hb.frozen (p := ⟨b, o, none⟩) h⟩

theorem bcall {w a b : World} (h : Below w.heap.size w a) (k : Below a.heap.size a b) : Below w.heap.size w b := h.trans (k.mono h.size)
theorem balloc {w a : World} (h : Below w.heap.size w a) (o : Obj) : Below w.heap.size w (a.alloc o) := h.alloc h.size o
theorem bstore {w a : World} (h : Below w.heap.size w a) {p : Addr} (hp : w.heap.size ≤ p.block) (v : Value) : Below w.heap.size w (a.setCell p v) := h.setCell hp v

def pickZ (a n : Int) : Int := (a % 18446744073709551616) % n
theorem pickZ_nonneg (a n : Int) (h : 0 < n) : 0 ≤ pickZ a n := Int.emod_nonneg _ (by omega)
theorem pickZ_lt (a n : Int) (h : 0 < n) : pickZ a n < n := Int.emod_lt_of_pos _ h
theorem pick_eq (a n : Int) (h : 0 < n) (h' : n ≤ 9223372036854775807) : wrap64 ((IntKind.u64.wrap a).tmod n) = pickZ a n := by
  have e : IntKind.u64.wrap a = a % 18446744073709551616 := by simp [IntKind.wrap, IntKind.signed, IntKind.bits]
  have h1 : 0 ≤ a % 18446744073709551616 := Int.emod_nonneg _ (by decide)
  rw [e, Int.tmod_eq_emod_of_nonneg h1]
  have := pickZ_nonneg a n h
  have := pickZ_lt a n h
  have e2 : a % 18446744073709551616 % n = pickZ a n := rfl
  rw [e2]
  exact IntWalk.wrap64_in _ ⟨by omega, by omega⟩
theorem ret_int {k : IntKind} {a b : Int} (h : a = b) : Ending.returned (.int k a) = .returned (.int k b) := by rw [h]
end Go.Proofs.Ytpedkcpkdacnlaa
end
section
namespace Go.Proofs.Ytpedkcpkdacnlaa
open Go.RowKit

/-- Of the blocks that were there only those of S may have turned. -/
structure Kept (S : Nat → Prop) (w w' : World) : Prop where
  os : w'.os = w.os
  tape : w'.tape = w.tape
  output : w'.output = w.output
  size : w.heap.size ≤ w'.heap.size
  block : ∀ k, k < w.heap.size → ¬ S k → w'.heap[k]? = w.heap[k]?

namespace Kept
variable {S S' : Nat → Prop} {a b c w w' : World}
theorem refl (S : Nat → Prop) (w : World) : Kept S w w := ⟨rfl, rfl, rfl, Nat.le_refl _, fun _ _ _ => rfl⟩
theorem trans (h : Kept S a b) (k : Kept S b c) : Kept S a c :=
  ⟨k.os.trans h.os, k.tape.trans h.tape, k.output.trans h.output, Nat.le_trans h.size k.size, fun i hi hs => (k.block i (Nat.lt_of_lt_of_le hi h.size) hs).trans (h.block i hi hs)⟩
theorem mono (h : Kept S a b) (hs : ∀ k, S k → S' k) : Kept S' a b := ⟨h.os, h.tape, h.output, h.size, fun k hk hn => h.block k hk (fun x => hn (hs k x))⟩
theorem alloc (h : Kept S a b) (o : Obj) : Kept S a (b.alloc o) :=
  h.trans ⟨rfl, rfl, rfl, by simp, fun k hk _ => Below.heap_alloc _ _ _ hk⟩
theorem setCell (h : Kept S a b) {p : Addr} (hp : S p.block ∨ a.heap.size ≤ p.block) (v : Value) : Kept S a (b.setCell p v) :=
  ⟨h.os, h.tape, h.output, by simp [World.setCell]; exact h.size, fun k hk hn => by
    have : k ≠ p.block := by rintro rfl; rcases hp with hp | hp; exact hn hp; omega
    rw [Below.heap_setCell _ _ _ _ this]; exact h.block k hk hn⟩
theorem own {k : Nat} (h : Kept (· = k) a b) (o : Nat) (v : Value) : Kept (· = k) a (b.setCell ⟨k, o, none⟩ v) := h.setCell (.inl rfl) v
theorem drew (h : Kept S a b) : Kept S a b.drew := ⟨h.os, h.tape, h.output, h.size, h.block⟩
theorem of_below (h : Below a.heap.size a b) : Kept S a b := ⟨h.os, h.tape, h.output, h.size, fun k hk _ => h.block k hk⟩
theorem below (h : Kept S a b) {B : Nat} (hB : B ≤ a.heap.size) (hS : ∀ k, S k → B ≤ k) : Below B a b :=
  ⟨h.os, h.tape, h.output, h.size, fun k hk => h.block k (by omega) (fun x => by have := hS k x; omega)⟩
theorem cell (h : Kept S a b) {k o : Nat} (hk : k < a.heap.size) (hn : ¬ S k) : b.cell? ⟨k, o, none⟩ = a.cell? ⟨k, o, none⟩ :=
  World.cell?_of_block (w := a) (h.block k hk hn)
theorem frozen (h : Kept S a b) {k o : Nat} (hk : k < a.heap.size) (hn : ¬ S k) : b.frozen? ⟨k, o, none⟩ = a.frozen? ⟨k, o, none⟩ :=
  World.frozen?_of_block (w := a) (h.block k hk hn)
end Kept
/-- A law whose own blocks (from w's size on) were changed: nothing older has turned. -/
theorem bkept {w a b : World} {S : Nat → Prop} (h : Below w.heap.size w a) (k : Kept S a b) (hS : ∀ n, S n → w.heap.size ≤ n) : Below w.heap.size w b :=
  h.trans (k.below h.size hS)

/-- Block b is a row of cells, none of them frozen. -/
def Blk (w : World) (b : Nat) (C : List Value) (t : TypeId) : Prop := w.heap[b]? = some (.cells C.toArray t (0, 0))
namespace Blk
variable {w w' : World} {b : Nat} {C : List Value} {t : TypeId}
theorem lt (h : Blk w b C t) : b < w.heap.size := (Array.getElem?_eq_some_iff.1 h).1
theorem cell (h : Blk w b C t) (i : Nat) : w.cell? ⟨b, i, none⟩ = C[i]? := by unfold Blk at h; simp [World.cell?, h]
theorem frozen (h : Blk w b C t) (i : Nat) : w.frozen? ⟨b, i, none⟩ = false := by unfold Blk at h; simp [World.frozen?, h]
theorem kept {S : Nat → Prop} (h : Blk w b C t) (k : Kept S w w') (hn : ¬ S b) : Blk w' b C t := (k.block b h.lt hn).trans h
theorem below (h : Blk w b C t) (k : Below w.heap.size w w') : Blk w' b C t := (k.block b h.lt).trans h
theorem belowB {B : Nat} (h : Blk w b C t) (k : Below B w w') (hb : b < B) : Blk w' b C t := (k.block b hb).trans h
theorem alloc (h : Blk w b C t) (o : Obj) : Blk (w.alloc o) b C t := (Below.heap_alloc _ _ _ h.lt).trans h
theorem other (h : Blk w b C t) {p : Addr} (v : Value) (hp : b ≠ p.block) : Blk (w.setCell p v) b C t := (Below.heap_setCell _ _ _ _ hp).trans h
theorem set (h : Blk w b C t) (i : Nat) (v : Value) : Blk (w.setCell ⟨b, i, none⟩ v) b (C.set i v) t := by
  unfold Blk at h ⊢
  simp [World.setCell, Array.getElem?_modify, h]
theorem new (w : World) (C : List Value) (t : TypeId) : Blk (w.alloc (.cells C.toArray t)) w.heap.size C t := by
  show (w.heap.push _)[w.heap.size]? = _
  simp
/-- A world in which two cells of a pair block are written. -/
theorem pair {x y u v : Value} (h : Blk w b [x, y] t) : Blk ((w.setCell ⟨b, 0, none⟩ u).setCell ⟨b, 1, none⟩ v) b [u, v] t := (h.set 0 u).set 1 v
end Blk
theorem cell_setCell_ne (w : World) {p : Addr} {b o : Nat} (h : b ≠ p.block) (v : Value) : (w.setCell p v).cell? ⟨b, o, none⟩ = w.cell? ⟨b, o, none⟩ :=
  World.cell?_of_block (w := w) (Below.heap_setCell _ _ _ _ h)
end Go.Proofs.Ytpedkcpkdacnlaa
end
section
namespace Go.Proofs.Ytpedkcpkdacnlaa
set_option linter.unusedVariables false
def tk (t : List Int) (i : Nat) : Int := t.getD (i * 2) 0
def tv (t : List Int) (i : Nat) : Int := t.getD (i * 2 + 1) 0
def slotOf (key : Int) (k : Nat) : Nat := ((key * 5 % 8 + k) % 8).toNat
def hit (t : List Int) (key : Int) (i : Nat) : Bool := tk t i == key || tk t i == 0
def atFrom (t : List Int) (key : Int) : Nat → Nat → Int
  | 0, _ => -1
  | f + 1, k => if hit t key (slotOf key k) then slotOf key k else atFrom t key f (k + 1)
def atI (t : List Int) (key : Int) : Int := atFrom t key 8 0
def cntTo (t : List Int) : Nat → Nat
  | 0 => 0
  | k + 1 => cntTo t k + if tk t k = 0 then 0 else 1
def lenT (t : List Int) : Nat := cntTo t 8
theorem cntTo_le (t : List Int) (k : Nat) : cntTo t k ≤ k := by
  induction k with
  | zero => exact Nat.le_refl _
  | succ k ih => simp only [cntTo]; split <;> omega
def setS (t : List Int) (i : Nat) (k v : Int) : List Int := (t.set (i * 2) k).set (i * 2 + 1) v
theorem setS_len (t : List Int) (i : Nat) (k v : Int) : (setS t i k v).length = t.length := by simp [setS]
theorem tk_setS (t : List Int) (i j : Nat) (k v : Int) (hl : t.length = 16) (hi : i < 8) : tk (setS t i k v) j = if j = i then k else tk t j := by
  unfold tk setS
  rw [List.getD_eq_getElem?_getD, List.getD_eq_getElem?_getD, List.getElem?_set, List.getElem?_set]
  rw [if_neg (by omega)]
  by_cases h : j = i
  · subst h; have hj : j * 2 < t.length := by omega
    simp [hj]
  · rw [if_neg (by omega), if_neg h]
theorem tv_setS (t : List Int) (i j : Nat) (k v : Int) (hl : t.length = 16) (hi : i < 8) : tv (setS t i k v) j = if j = i then v else tv t j := by
  unfold tv setS
  rw [List.getD_eq_getElem?_getD, List.getD_eq_getElem?_getD, List.getElem?_set, List.getElem?_set]
  by_cases h : j = i
  · subst h; have hj : j * 2 + 1 < t.length := by omega
    simp [hj]
  · rw [if_neg (by omega), if_neg (by omega), if_neg h]
theorem cnt_setS (t : List Int) (i : Nat) (k v : Int) (hl : t.length = 16) (hi : i < 8) (n : Nat) :
    (n ≤ i → cntTo (setS t i k v) n = cntTo t n) ∧ (i < n → cntTo (setS t i k v) n + (if tk t i = 0 then 0 else 1) = cntTo t n + (if k = 0 then 0 else 1)) := by
  induction n with
  | zero => exact ⟨fun _ => rfl, fun h => by omega⟩
  | succ n ih =>
    simp only [cntTo, tk_setS t i n k v hl hi]
    obtain ⟨h1, h2⟩ := ih
    refine ⟨fun h => ?_, fun h => ?_⟩
    · rw [if_neg (by omega : ¬ n = i), h1 (by omega)]
    · by_cases e : n = i
      · subst e; rw [if_pos rfl, h1 (Nat.le_refl _)]; omega
      · rw [if_neg e]; have := h2 (by omega); omega
theorem len_setS (t : List Int) (i : Nat) (k v : Int) (hl : t.length = 16) (hi : i < 8) :
    lenT (setS t i k v) + (if tk t i = 0 then 0 else 1) = lenT t + (if k = 0 then 0 else 1) :=
  (cnt_setS t i k v hl hi 8).2 hi
theorem cnt_all (t : List Int) (n : Nat) (h : ∀ j, j < n → tk t j ≠ 0) : cntTo t n = n := by
  induction n with
  | zero => rfl
  | succ n ih => simp only [cntTo]; rw [ih (fun j hj => h j (by omega)), if_neg (h n (by omega))]
theorem cnt_none (t : List Int) (n : Nat) (h : ∀ j, j < n → tk t j = 0) : cntTo t n = 0 := by
  induction n with
  | zero => rfl
  | succ n ih => simp only [cntTo]; rw [ih (fun j hj => h j (by omega)), if_pos (h n (by omega))]
def hm (key : Int) : Nat := (key * 5 % 8).toNat
theorem hm_lt (key : Int) : hm key < 8 := by unfold hm; omega
theorem slotOf_eq (key : Int) (k : Nat) : slotOf key k = (hm key + k) % 8 := by unfold slotOf hm; omega
theorem slotOf_lt (key : Int) (k : Nat) : slotOf key k < 8 := by rw [slotOf_eq]; omega
theorem hit_iff (t : List Int) (key : Int) (i : Nat) : hit t key i = true ↔ tk t i = key ∨ tk t i = 0 := by simp [hit]
theorem hit_no (t : List Int) (key : Int) (i : Nat) : hit t key i = false ↔ tk t i ≠ key ∧ tk t i ≠ 0 := by simp [hit]
theorem atFrom_spec (t : List Int) (key : Int) : ∀ f k,
    (∃ m, k ≤ m ∧ m < k + f ∧ atFrom t key f k = slotOf key m ∧ hit t key (slotOf key m) = true ∧ ∀ m', k ≤ m' → m' < m → hit t key (slotOf key m') = false) ∨
    (atFrom t key f k = -1 ∧ ∀ m', k ≤ m' → m' < k + f → hit t key (slotOf key m') = false)
  | 0, k => .inr ⟨rfl, fun _ _ _ => by omega⟩
  | f + 1, k => by
    simp only [atFrom]
    cases h : hit t key (slotOf key k)
    · rcases atFrom_spec t key f (k + 1) with ⟨m, h1, h2, h3, h4, h5⟩ | ⟨h1, h2⟩
      · refine .inl ⟨m, by omega, by omega, by simpa using h3, h4, fun m' a b => ?_⟩
        by_cases e : m' = k
        · subst e; exact h
        · exact h5 m' (by omega) b
      · refine .inr ⟨by simpa using h1, fun m' a b => ?_⟩
        by_cases e : m' = k
        · subst e; exact h
        · exact h2 m' (by omega) (by omega)
    · exact .inl ⟨k, Nat.le_refl _, by omega, by simp, h, fun _ _ _ => by omega⟩
/-- Where a key stands: the first slot of its row that is hit, or none. -/
theorem atI_spec (t : List Int) (key : Int) :
    (∃ m, m < 8 ∧ atI t key = slotOf key m ∧ hit t key (slotOf key m) = true ∧ ∀ m', m' < m → hit t key (slotOf key m') = false) ∨
    (atI t key = -1 ∧ ∀ j, j < 8 → hit t key j = false) := by
  rcases atFrom_spec t key 8 0 with ⟨m, h1, h2, h3, h4, h5⟩ | ⟨h1, h2⟩
  · exact .inl ⟨m, by omega, h3, h4, fun m' h => h5 m' (by omega) h⟩
  · refine .inr ⟨h1, fun j hj => ?_⟩
    have hh := hm_lt key
    have := h2 ((j + 8 - hm key) % 8) (by omega) (by omega)
    rwa [slotOf_eq, show (hm key + (j + 8 - hm key) % 8) % 8 = j by omega] at this
theorem atI_of (t : List Int) (key : Int) (m : Nat) (hm8 : m < 8) (h : hit t key (slotOf key m) = true) (h' : ∀ m', m' < m → hit t key (slotOf key m') = false) : atI t key = slotOf key m := by
  rcases atI_spec t key with ⟨m2, a, b, c, d⟩ | ⟨_, b⟩
  · have : m2 = m := by
      rcases Nat.lt_trichotomy m2 m with g | g | g
      · rw [h' m2 g] at c; cases c
      · exact g
      · rw [d m g] at h; cases h
    rw [b, this]
  · rw [b _ (slotOf_lt _ _)] at h; cases h
def dst (h j : Nat) : Nat := (j + 8 - h) % 8
theorem slot_dst (key : Int) (j : Nat) (hj : j < 8) : slotOf key (dst (hm key) j) = j := by
  have := hm_lt key; rw [slotOf_eq]; unfold dst; omega
/-- A good table. -/
structure Good (t : List Int) : Prop where
  len : t.length = 16
  few : lenT t ≤ 6
  key0 : ∀ i, i < 8 → 0 ≤ tk t i
  key1 : ∀ i, i < 8 → tk t i ≤ 1000
  val0 : ∀ i, i < 8 → 0 ≤ tv t i
  val1 : ∀ i, i < 8 → tv t i ≤ 4294967295
  none : ∀ i, i < 8 → tk t i = 0 → tv t i = 0
  once : ∀ i j, i < 8 → j < 8 → tk t i = tk t j → tk t i ≠ 0 → i = j
  path : ∀ j, j < 8 → tk t j ≠ 0 → ∀ m, m < dst (hm (tk t j)) j → tk t (slotOf (tk t j) m) ≠ 0
theorem Good.found {t : List Int} (g : Good t) (j : Nat) (hj : j < 8) (h0 : tk t j ≠ 0) : atI t (tk t j) = j := by
  have e := slot_dst (tk t j) j hj
  rw [atI_of t (tk t j) (dst (hm (tk t j)) j) (by unfold dst; omega) (by rw [e, hit_iff]; exact .inl rfl), e]
  intro m hmm
  rw [hit_no]
  refine ⟨fun h => ?_, g.path j hj h0 m hmm⟩
  have := g.once _ _ (slotOf_lt _ _) hj h (by rw [h]; exact h0)
  rw [slotOf_eq] at this
  have h1 := hm_lt (tk t j)
  unfold dst at hmm; omega
theorem Good.mk' {t : List Int} (len : t.length = 16) (few : lenT t ≤ 6) (r : ∀ i, i < 8 → 0 ≤ tk t i ∧ tk t i ≤ 1000 ∧ 0 ≤ tv t i ∧ tv t i ≤ 4294967295 ∧ (tk t i = 0 → tv t i = 0) ∧ (tk t i ≠ 0 → atI t (tk t i) = i)) : Good t := by
  refine ⟨len, few, fun i h => (r i h).1, fun i h => (r i h).2.1, fun i h => (r i h).2.2.1, fun i h => (r i h).2.2.2.1, fun i h => (r i h).2.2.2.2.1, ?_, ?_⟩
  · intro i j hi hj e h0
    have a := (r i hi).2.2.2.2.2 h0
    have b := (r j hj).2.2.2.2.2 (by rw [← e]; exact h0)
    rw [← e, a] at b; omega
  · intro j hj h0 m hmm
    have a := (r j hj).2.2.2.2.2 h0
    rcases atI_spec t (tk t j) with ⟨m2, b, c, d, e⟩ | ⟨b, _⟩
    · rw [c] at a
      have : m2 = dst (hm (tk t j)) j := by
        have a' : slotOf (tk t j) m2 = j := by omega
        rw [slotOf_eq] at a'
        have := hm_lt (tk t j)
        unfold dst; omega
      exact ((hit_no _ _ _).1 (e m (by omega))).2
    · rw [b] at a; omega
/-- Some slot is free. -/
theorem Good.free {t : List Int} (g : Good t) : ∃ z, z < 8 ∧ tk t z = 0 := by
  by_cases h : ∃ z, z < 8 ∧ tk t z = 0
  · exact h
  · have := cnt_all t 8 (fun j hj hz => h ⟨j, hj, hz⟩)
    have := g.few; unfold lenT at this; omega
theorem Good.at {t : List Int} (g : Good t) (key : Int) : ∃ i, i < 8 ∧ atI t key = (i : Nat) ∧ (tk t i = key ∨ tk t i = 0) ∧ ∃ m, m < 8 ∧ slotOf key m = i ∧ ∀ m', m' < m → tk t (slotOf key m') ≠ key ∧ tk t (slotOf key m') ≠ 0 := by
  rcases atI_spec t key with ⟨m, a, b, c, d⟩ | ⟨_, b⟩
  · exact ⟨slotOf key m, slotOf_lt _ _, b, (hit_iff _ _ _).1 c, m, a, rfl, fun m' h => (hit_no _ _ _).1 (d m' h)⟩
  · obtain ⟨z, hz, h0⟩ := g.free
    have := (hit_no _ _ _).1 (b z hz)
    exact absurd h0 this.2
/-- Whether a key stands in a table, and its value. -/
def thereB (t : List Int) (key : Int) : Bool := decide (0 ≤ atI t key) && (tk t (atI t key).toNat == key)
theorem Good.there {t : List Int} (g : Good t) (key : Int) (hk : key ≠ 0) : thereB t key = true ↔ ∃ j, j < 8 ∧ tk t j = key := by
  obtain ⟨i, hi, ha, -, -⟩ := g.at key
  constructor
  · intro h
    simp only [thereB, ha, Bool.and_eq_true, decide_eq_true_eq, beq_iff_eq, Int.toNat_natCast] at h
    exact ⟨i, hi, h.2⟩
  · rintro ⟨j, hj, rfl⟩
    have := g.found j hj hk
    simp [thereB, this]
theorem Good.val {t : List Int} (g : Good t) (j : Nat) (hj : j < 8) (h0 : tk t j ≠ 0) : tv t (atI t (tk t j)).toNat = tv t j := by
  rw [g.found j hj h0]; rfl
/-- Putting a key where it stands, or where it would stand. -/
theorem Good.put {t : List Int} (g : Good t) (key v : Int) (h1 : 1 ≤ key) (h2 : key ≤ 1000) (v0 : 0 ≤ v) (v1 : v ≤ 4294967295) (hf : thereB t key = true ∨ lenT t ≤ 5) :
    Good (setS t (atI t key).toNat key v) := by
  obtain ⟨i, hi, ha, ho, m, hm8, hsm, hb⟩ := g.at key
  rw [ha, Int.toNat_natCast]
  have e1 := fun j => tk_setS t i j key v g.len hi
  have e2 := fun j => tv_setS t i j key v g.len hi
  have hl := len_setS t i key v g.len hi
  refine ⟨by rw [setS_len]; exact g.len, ?_, ?_, ?_, ?_, ?_, ?_, ?_, ?_⟩
  · rw [if_neg (by omega : ¬ key = 0)] at hl
    rcases ho with h | h
    · rw [if_neg (by omega)] at hl; have := g.few; omega
    · rw [if_pos h] at hl
      rcases hf with hf | hf
      · simp [thereB, ha, h] at hf; omega
      · omega
  · intro j hj; rw [e1]; split
    · omega
    · exact g.key0 j hj
  · intro j hj; rw [e1]; split
    · omega
    · exact g.key1 j hj
  · intro j hj; rw [e2]; split
    · omega
    · exact g.val0 j hj
  · intro j hj; rw [e2]; split
    · omega
    · exact g.val1 j hj
  · intro j hj; rw [e1, e2]; split
    · intro; omega
    · exact g.none j hj
  · have hk : ∀ j, j < 8 → tk t j = key → j = i := by
      intro j hj hh
      have := g.found j hj (by omega)
      rw [hh, ha] at this; omega
    intro a b ha' hb' e h0
    rw [e1, e1] at e; rw [e1] at h0
    by_cases x : a = i <;> by_cases y : b = i
    · omega
    · rw [if_pos x, if_neg y] at e; exact absurd (hk b hb' e.symm) y
    · rw [if_neg x, if_pos y] at e; exact absurd (hk a ha' e) x
    · rw [if_neg x, if_neg y] at e; rw [if_neg x] at h0; exact g.once a b ha' hb' e h0
  · intro j hj h0 m2 hm2
    rw [e1] at h0 hm2 ⊢
    rw [e1]
    by_cases x : j = i
    · rw [if_pos x] at hm2 ⊢
      split
      · omega
      · have : m2 < m := by
          have := hm_lt key
          rw [slotOf_eq] at hsm; unfold dst at hm2; omega
        exact (hb m2 this).2
    · rw [if_neg x] at h0 hm2 ⊢
      split
      · omega
      · exact g.path j hj h0 m2 hm2
/-- After a put: the key has its value; all others are as before. -/
theorem Good.put_keys {t : List Int} (g : Good t) (key v : Int) (h1 : 1 ≤ key) (k : Int) (hk : k ≠ 0) (u : Int) :
    (∃ j, j < 8 ∧ tk (setS t (atI t key).toNat key v) j = k ∧ tv (setS t (atI t key).toNat key v) j = u) ↔ (k = key ∧ u = v) ∨ (k ≠ key ∧ ∃ j, j < 8 ∧ tk t j = k ∧ tv t j = u) := by
  obtain ⟨i, hi, ha, ho, m, hm8, hsm, hb⟩ := g.at key
  rw [ha, Int.toNat_natCast]
  have e1 := fun j => tk_setS t i j key v g.len hi
  have e2 := fun j => tv_setS t i j key v g.len hi
  have hkk : ∀ j, j < 8 → tk t j = key → j = i := by
    intro j hj hh
    have := g.found j hj (by omega)
    rw [hh, ha] at this; omega
  constructor
  · rintro ⟨j, hj, a, b⟩
    rw [e1] at a; rw [e2] at b
    by_cases x : j = i
    · rw [if_pos x] at a b; exact .inl ⟨a.symm, b.symm⟩
    · rw [if_neg x] at a b
      by_cases y : k = key
      · exact absurd (hkk j hj (by omega)) x
      · exact .inr ⟨y, j, hj, a, b⟩
  · rintro (⟨rfl, rfl⟩ | ⟨y, j, hj, a, b⟩)
    · exact ⟨i, hi, by rw [e1, if_pos rfl], by rw [e2, if_pos rfl]⟩
    · have x : j ≠ i := by
        rintro rfl
        rcases ho with h | h
        · omega
        · omega
      exact ⟨j, hj, by rw [e1, if_neg x]; exact a, by rw [e2, if_neg x]; exact b⟩
end Go.Proofs.Ytpedkcpkdacnlaa
end
section
namespace Go.Proofs.Ytpedkcpkdacnlaa
set_option linter.unusedVariables false
def stepC (T : List Int) (k : Nat) : List Int := setS (setS T k 0 0) (atI (setS T k 0 0) (tk T k)).toNat (tk T k) (tv T k)
def iterC (t : List Int) (i : Nat) : Nat → List Int
  | 0 => setS t i 0 0
  | n + 1 => stepC (iterC t i n) ((i + 1 + n) % 8)
def endFrom (t : List Int) (i : Nat) : Nat → Nat → Nat
  | 0, e => e
  | f + 1, e => if tk t ((i + e) % 8) = 0 then e else endFrom t i f (e + 1)
def endOff (t : List Int) (i : Nat) : Nat := endFrom t i 7 1
def closeF (t : List Int) (i : Nat) : List Int := iterC t i (endOff t i - 1)
theorem endFrom_spec (t : List Int) (i : Nat) : ∀ f e, e ≤ endFrom t i f e ∧ endFrom t i f e ≤ e + f ∧ (∀ o, e ≤ o → o < endFrom t i f e → tk t ((i + o) % 8) ≠ 0) ∧ (endFrom t i f e < e + f → tk t ((i + endFrom t i f e) % 8) = 0)
  | 0, e => ⟨Nat.le_refl _, Nat.le_refl _, fun _ _ _ => by simp only [endFrom] at *; omega, fun h => by simp only [endFrom] at h; omega⟩
  | f + 1, e => by
    simp only [endFrom]
    split
    · next h => exact ⟨Nat.le_refl _, by omega, fun _ _ _ => by omega, fun _ => h⟩
    · next h =>
      obtain ⟨a, b, c, d⟩ := endFrom_spec t i f (e + 1)
      refine ⟨by omega, by omega, fun o h1 h2 => ?_, fun h1 => d (by omega)⟩
      by_cases x : o = e
      · subst x; exact h
      · exact c o (by omega) h2
theorem endOff_spec {t : List Int} (g : Good t) (i : Nat) (hi : i < 8) (h0 : tk t i ≠ 0) : 1 ≤ endOff t i ∧ endOff t i ≤ 7 ∧ (∀ o, 1 ≤ o → o < endOff t i → tk t ((i + o) % 8) ≠ 0) ∧ tk t ((i + endOff t i) % 8) = 0 := by
  obtain ⟨a, b, c, d⟩ := endFrom_spec t i 7 1
  have hlt : endFrom t i 7 1 < 1 + 7 := by
    rcases Nat.lt_or_ge (endFrom t i 7 1) 8 with h | h
    · omega
    · exfalso
      obtain ⟨z, hz, hz0⟩ := g.free
      by_cases x : z = i
      · subst x; exact h0 hz0
      · refine c (dst i z) (by unfold dst; omega) (by unfold dst; omega) ?_
        rw [show (i + dst i z) % 8 = z by unfold dst; omega]; exact hz0
  exact ⟨a, by unfold endOff; omega, c, d hlt⟩
structure InvC (t : List Int) (i E n : Nat) (T : List Int) : Prop where
  len : T.length = 16
  cnt : lenT T + 1 = lenT t
  key0 : ∀ i, i < 8 → 0 ≤ tk T i
  key1 : ∀ i, i < 8 → tk T i ≤ 1000
  val0 : ∀ i, i < 8 → 0 ≤ tv T i
  val1 : ∀ i, i < 8 → tv T i ≤ 4294967295
  none : ∀ i, i < 8 → tk T i = 0 → tv T i = 0
  once : ∀ i j, i < 8 → j < 8 → tk T i = tk T j → tk T i ≠ 0 → i = j
  run : ∀ o, n < o → o < E → tk T ((i + o) % 8) ≠ 0
  stop : tk T ((i + E) % 8) = 0
  path : ∀ j, j < 8 → tk T j ≠ 0 → ∀ m, m < dst (hm (tk T j)) j → tk T (slotOf (tk T j) m) ≠ 0 ∨ (n < dst i j ∧ dst i j < E ∧ dst i (slotOf (tk T j) m) ≤ n)
  same : ∀ k, k ≠ 0 → ∀ u, (∃ j, j < 8 ∧ tk T j = k ∧ tv T j = u) ↔ k ≠ tk t i ∧ ∃ j, j < 8 ∧ tk t j = k ∧ tv t j = u
theorem invC_start {t : List Int} (g : Good t) (i : Nat) (hi : i < 8) (h0 : tk t i ≠ 0) : InvC t i (endOff t i) 0 (setS t i 0 0) := by
  obtain ⟨E1, E7, hr, hs⟩ := endOff_spec g i hi h0
  have e1 := fun j => tk_setS t i j 0 0 g.len hi
  have e2 := fun j => tv_setS t i j 0 0 g.len hi
  have hl := len_setS t i 0 0 g.len hi
  rw [if_neg h0, if_pos rfl] at hl
  refine ⟨by rw [setS_len]; exact g.len, by omega, ?_, ?_, ?_, ?_, ?_, ?_, ?_, ?_, ?_, ?_⟩
  · intro j hj; rw [e1]; split
    · omega
    · exact g.key0 j hj
  · intro j hj; rw [e1]; split
    · omega
    · exact g.key1 j hj
  · intro j hj; rw [e2]; split
    · omega
    · exact g.val0 j hj
  · intro j hj; rw [e2]; split
    · omega
    · exact g.val1 j hj
  · intro j hj; rw [e1, e2]; split
    · intro; rfl
    · exact g.none j hj
  · intro a b ha hb e h
    rw [e1] at h e; rw [e1] at e
    by_cases x : a = i
    · rw [if_pos x] at h; omega
    · rw [if_neg x] at h e
      by_cases y : b = i
      · rw [if_pos y] at e; exact absurd e h
      · rw [if_neg y] at e; exact g.once a b ha hb e h
  · intro o ho hoE; rw [e1, if_neg (by omega)]; exact hr o (by omega) hoE
  · rw [e1, if_neg (by omega)]; exact hs
  · intro j hj h m hmm
    by_cases x : j = i
    · rw [e1, if_pos x] at h; exact absurd rfl h
    have ej : tk (setS t i 0 0) j = tk t j := by rw [e1, if_neg x]
    rw [ej] at h hmm ⊢
    have hp := g.path j hj h m hmm
    by_cases y : slotOf (tk t j) m = i
    · by_cases z : dst i j < endOff t i
      · exact .inr ⟨by unfold dst; omega, z, by rw [y]; unfold dst; omega⟩
      · exfalso
        have hne : dst i j ≠ endOff t i := by
          intro q; refine h ?_; rw [← hs, ← q]; congr 1; unfold dst; omega
        refine g.path j hj h (m + endOff t i) ?_ ?_
        · have := hm_lt (tk t j); rw [slotOf_eq] at y; unfold dst at *; omega
        · rw [← hs]; congr 1; rw [slotOf_eq] at y ⊢; omega
    · rw [e1, if_neg y]; exact .inl hp
  · intro k hk u
    constructor
    · rintro ⟨j, hj, a, b⟩
      rw [e1] at a; rw [e2] at b
      by_cases x : j = i
      · rw [if_pos x] at a; omega
      · rw [if_neg x] at a b
        refine ⟨fun q => x (g.once j i hj hi (by omega) (by omega)), j, hj, a, b⟩
    · rintro ⟨q, j, hj, a, b⟩
      have x : j ≠ i := by rintro rfl; exact q a.symm
      exact ⟨j, hj, by rw [e1, if_neg x]; exact a, by rw [e2, if_neg x]; exact b⟩
theorem stepC_at {t : List Int} {i E n : Nat} {T : List Int} (v : InvC t i E n T) (hi : i < 8) (hn : n + 1 < E) (hE : E ≤ 7) :
    ∃ a, a < 8 ∧ atI (setS T ((i + 1 + n) % 8) 0 0) (tk T ((i + 1 + n) % 8)) = (a : Nat) ∧ tk (setS T ((i + 1 + n) % 8) 0 0) a = 0 ∧ dst i a ≤ n + 1 ∧
      ∃ m, m < 8 ∧ slotOf (tk T ((i + 1 + n) % 8)) m = a ∧ ∀ m', m' < m → tk (setS T ((i + 1 + n) % 8) 0 0) (slotOf (tk T ((i + 1 + n) % 8)) m') ≠ 0 := by
  have hrun := v.run (n + 1) (by omega) hn
  rw [show i + (n + 1) = i + 1 + n by omega] at hrun
  obtain ⟨k, hk⟩ : ∃ k, k = (i + 1 + n) % 8 := ⟨_, rfl⟩
  rw [← hk] at hrun ⊢
  have hk8 : k < 8 := by omega
  have e1 := fun j => tk_setS T k j 0 0 v.len hk8
  have hh := hm_lt (tk T k)
  have hM := slot_dst (tk T k) k hk8
  rcases atI_spec (setS T k 0 0) (tk T k) with ⟨m, a, b, c, d⟩ | ⟨_, b⟩
  · refine ⟨slotOf (tk T k) m, slotOf_lt _ _, b, ?_, ?_, m, a, rfl, fun m' h => ((hit_no _ _ _).1 (d m' h)).2⟩
    · rcases (hit_iff _ _ _).1 c with h | h
      · exfalso
        rw [e1] at h
        by_cases x : slotOf (tk T k) m = k
        · rw [if_pos x] at h; omega
        · rw [if_neg x] at h; exact x (v.once _ _ (slotOf_lt _ _) hk8 h (by omega))
      · exact h
    · by_cases x : slotOf (tk T k) m = k
      · rw [x]; unfold dst; omega
      · have hlt : m < dst (hm (tk T k)) k := by
          rcases Nat.lt_or_ge m (dst (hm (tk T k)) k) with h | h
          · exact h
          · exfalso
            by_cases y : m = dst (hm (tk T k)) k
            · rw [y] at x; exact x hM
            · have := d (dst (hm (tk T k)) k) (by omega)
              rw [hM, hit_no, e1, if_pos rfl] at this
              exact this.2 rfl
        rcases v.path k hk8 hrun m hlt with h | ⟨_, _, h⟩
        · exfalso
          rcases (hit_iff _ _ _).1 c with g | g
          · rw [e1, if_neg x] at g
            exact x (v.once _ _ (slotOf_lt _ _) hk8 g (by omega))
          · rw [e1, if_neg x] at g; exact h g
        · omega
  · exfalso
    have := (hit_no _ _ _).1 (b k hk8)
    rw [e1, if_pos rfl] at this
    exact this.2 rfl
theorem invC_step {t : List Int} {i E n : Nat} {T : List Int} (v : InvC t i E n T) (hi : i < 8) (hn : n + 1 < E) (hE : E ≤ 7) : InvC t i E (n + 1) (stepC T ((i + 1 + n) % 8)) := by
  obtain ⟨a, ha8, haI, ha0, had, m0, hm0, hsl, hbef⟩ := stepC_at v hi hn hE
  have hrun := v.run (n + 1) (by omega) hn
  rw [show i + (n + 1) = i + 1 + n by omega] at hrun
  unfold stepC
  rw [haI, Int.toNat_natCast]
  obtain ⟨k, hk⟩ : ∃ k, k = (i + 1 + n) % 8 := ⟨_, rfl⟩
  rw [← hk] at hrun ha0 hsl hbef ⊢
  have hk8 : k < 8 := by omega
  have hdk : dst i k = n + 1 := by unfold dst; omega
  have f1 := fun j => tk_setS T k j 0 0 v.len hk8
  have f2 := fun j => tv_setS T k j 0 0 v.len hk8
  have hlen1 : (setS T k 0 0).length = 16 := by rw [setS_len]; exact v.len
  have e1 : ∀ j, tk (setS (setS T k 0 0) a (tk T k) (tv T k)) j = if j = a then tk T k else if j = k then 0 else tk T j := fun j => by rw [tk_setS _ a j _ _ hlen1 ha8, f1]
  have e2 : ∀ j, tv (setS (setS T k 0 0) a (tk T k) (tv T k)) j = if j = a then tv T k else if j = k then 0 else tv T j := fun j => by rw [tv_setS _ a j _ _ hlen1 ha8, f2]
  have l1 := len_setS T k 0 0 v.len hk8
  have l2 := len_setS (setS T k 0 0) a (tk T k) (tv T k) hlen1 ha8
  rw [if_neg hrun, if_pos rfl] at l1
  rw [if_pos ha0, if_neg hrun] at l2
  have hak : a ≠ k → tk T a = 0 := fun x => by rw [f1, if_neg x] at ha0; exact ha0
  refine ⟨by rw [setS_len]; exact hlen1, by have := v.cnt; omega, ?_, ?_, ?_, ?_, ?_, ?_, ?_, ?_, ?_, ?_⟩
  · intro j hj; rw [e1]; split
    · exact v.key0 k hk8
    · split
      · omega
      · exact v.key0 j hj
  · intro j hj; rw [e1]; split
    · exact v.key1 k hk8
    · split
      · omega
      · exact v.key1 j hj
  · intro j hj; rw [e2]; split
    · exact v.val0 k hk8
    · split
      · omega
      · exact v.val0 j hj
  · intro j hj; rw [e2]; split
    · exact v.val1 k hk8
    · split
      · omega
      · exact v.val1 j hj
  · intro j hj; rw [e1, e2]; split
    · exact v.none k hk8
    · split
      · intro; rfl
      · exact v.none j hj
  · intro x y hx hy e h
    rw [e1] at h e; rw [e1] at e
    by_cases xa : x = a
    · by_cases ya : y = a
      · omega
      · rw [if_pos xa] at e h; rw [if_neg ya] at e
        by_cases yk : y = k
        · rw [if_pos yk] at e; exact absurd e h
        · rw [if_neg yk] at e; exact absurd (v.once _ _ hk8 hy e h).symm yk
    · rw [if_neg xa] at e h
      by_cases xk : x = k
      · rw [if_pos xk] at h; exact absurd rfl h
      · rw [if_neg xk] at e h
        by_cases ya : y = a
        · rw [if_pos ya] at e; exact absurd (v.once _ _ hx hk8 e h) xk
        · rw [if_neg ya] at e
          by_cases yk : y = k
          · rw [if_pos yk] at e; exact absurd e h
          · rw [if_neg yk] at e; exact v.once _ _ hx hy e h
  · intro o ho hoE
    have hd : dst i ((i + o) % 8) = o := by unfold dst; omega
    rw [e1, if_neg (by rintro rfl; omega), if_neg (by rintro rfl; omega)]
    exact v.run o (by omega) hoE
  · have hd : dst i ((i + E) % 8) = E := by unfold dst; omega
    rw [e1, if_neg (by rintro rfl; omega), if_neg (by rintro rfl; omega)]
    exact v.stop
  · intro j hj h m hmm
    by_cases xa : j = a
    · rw [e1 j, if_pos xa] at hmm ⊢
      have hlt : m < m0 := by
        have := hm_lt (tk T k)
        rw [slotOf_eq] at hsl; unfold dst at hmm; omega
      have hb := hbef m hlt
      rw [f1] at hb
      left
      rw [e1]
      split
      · exact hrun
      · exact hb
    · have xk : j ≠ k := by
        rintro rfl; rw [e1, if_neg xa, if_pos rfl] at h; exact h rfl
      rw [e1 j, if_neg xa, if_neg xk] at h hmm ⊢
      have hp := v.path j hj h m hmm
      obtain ⟨p, hp'⟩ : ∃ p, p = slotOf (tk T j) m := ⟨_, rfl⟩
      have hp8 : p < 8 := by rw [hp']; exact slotOf_lt _ _
      rw [← hp'] at hp ⊢
      rw [e1]
      by_cases pa : p = a
      · left; rw [if_pos pa]; exact hrun
      rw [if_neg pa]
      have hjk : dst i j ≠ n + 1 := by intro q; refine xk ?_; rw [hk]; unfold dst at q; omega
      by_cases pk : p = k
      · rw [if_pos pk]
        by_cases z : n < dst i j ∧ dst i j < E
        · right; rw [pk, hdk]; omega
        · exfalso
          have hne : dst i j ≠ E := by
            intro q; refine h ?_; rw [← v.stop, ← q]; congr 1; unfold dst; omega
          have hq := v.path j hj h (m + (E - n - 1)) (by
            have := hm_lt (tk T j); rw [slotOf_eq] at hp'; unfold dst at *; omega)
          rcases hq with hq | ⟨q1, q2, _⟩
          · refine hq ?_
            rw [← v.stop]; congr 1; rw [slotOf_eq] at hp' ⊢; omega
          · exact z ⟨q1, q2⟩
      · rw [if_neg pk]
        rcases hp with hp | ⟨q1, q2, q3⟩
        · exact .inl hp
        · exact .inr ⟨by omega, q2, by omega⟩
  · intro k' hk' u
    rw [← v.same k' hk' u]
    constructor
    · rintro ⟨j, hj, x, y⟩
      rw [e1] at x; rw [e2] at y
      by_cases ja : j = a
      · rw [if_pos ja] at x y; exact ⟨k, hk8, x, y⟩
      · rw [if_neg ja] at x y
        by_cases jk : j = k
        · rw [if_pos jk] at x; omega
        · rw [if_neg jk] at x y; exact ⟨j, hj, x, y⟩
    · rintro ⟨j, hj, x, y⟩
      by_cases jk : j = k
      · subst jk; exact ⟨a, ha8, by rw [e1, if_pos rfl]; exact x, by rw [e2, if_pos rfl]; exact y⟩
      · have ja : j ≠ a := by
          rintro rfl; have := hak jk; omega
        exact ⟨j, hj, by rw [e1, if_neg ja, if_neg jk]; exact x, by rw [e2, if_neg ja, if_neg jk]; exact y⟩
theorem invC_iter {t : List Int} (g : Good t) (i : Nat) (hi : i < 8) (h0 : tk t i ≠ 0) : ∀ n, n < endOff t i → InvC t i (endOff t i) n (iterC t i n)
  | 0, _ => invC_start g i hi h0
  | n + 1, h => invC_step (invC_iter g i hi h0 n (by omega)) hi h (endOff_spec g i hi h0).2.1
theorem closeF_inv {t : List Int} (g : Good t) (i : Nat) (hi : i < 8) (h0 : tk t i ≠ 0) : InvC t i (endOff t i) (endOff t i - 1) (closeF t i) :=
  invC_iter g i hi h0 _ (by have := (endOff_spec g i hi h0).1; omega)
theorem closeF_good {t : List Int} (g : Good t) (i : Nat) (hi : i < 8) (h0 : tk t i ≠ 0) : Good (closeF t i) := by
  have v := closeF_inv g i hi h0
  refine ⟨v.len, by have := v.cnt; have := g.few; omega, v.key0, v.key1, v.val0, v.val1, v.none, v.once, fun j hj h m hmm => ?_⟩
  rcases v.path j hj h m hmm with q | ⟨a, b, c⟩
  · exact q
  · omega
end Go.Proofs.Ytpedkcpkdacnlaa
end
section
namespace Go.Proofs.Ytpedkcpkdacnlaa
set_option linter.unusedVariables false
def peekA (t : List Int) (k : Int) : Int × Int := if thereB t k then (1, tv t (atI t k).toNat) else (4, 0)
def doT (t : List Int) (what key value : Int) : List Int × Int × Int :=
  if what = 6 then (t, 1, lenT t)
  else if (what ≠ 1 ∧ what ≠ 2 ∧ what ≠ 5) ∨ key < 1 ∨ 1000 < key then (t, 5, 0)
  else if what = 1 then (if thereB t key = false ∧ 6 ≤ lenT t then (t, 3, 0) else (setS t (atI t key).toNat key value, 1, 0))
  else if thereB t key = false then (t, 4, 0)
  else if what = 2 then (closeF t (atI t key).toNat, 1, tv t (atI t key).toNat) else (t, 1, tv t (atI t key).toNat)
def In (t : List Int) (k u : Int) : Prop := ∃ j, j < 8 ∧ tk t j = k ∧ tv t j = u
theorem peekA_yes {t : List Int} (g : Good t) {k u : Int} (hk : k ≠ 0) (h : In t k u) : peekA t k = (1, u) := by
  obtain ⟨j, hj, rfl, rfl⟩ := h
  unfold peekA
  rw [(g.there _ hk).2 ⟨j, hj, rfl⟩, if_pos rfl, g.val j hj hk]
theorem peekA_no {t : List Int} (g : Good t) {k : Int} (hk : k ≠ 0) (h : ∀ u, ¬ In t k u) : peekA t k = (4, 0) := by
  unfold peekA
  rw [if_neg]
  intro e
  obtain ⟨j, hj, e⟩ := (g.there _ hk).1 e
  exact h _ ⟨j, hj, e, rfl⟩
theorem peekA_or {t : List Int} (g : Good t) {k : Int} (hk : k ≠ 0) : (∃ u, In t k u ∧ peekA t k = (1, u) ∧ thereB t k = true) ∨ ((∀ u, ¬ In t k u) ∧ peekA t k = (4, 0) ∧ thereB t k = false) := by
  by_cases h : ∃ u, In t k u
  · obtain ⟨u, hu⟩ := h
    refine .inl ⟨u, hu, peekA_yes g hk hu, (g.there _ hk).2 ?_⟩
    obtain ⟨j, hj, a, _⟩ := hu
    exact ⟨j, hj, a⟩
  · have h' : ∀ u, ¬ In t k u := fun u hu => h ⟨u, hu⟩
    refine .inr ⟨h', peekA_no g hk h', ?_⟩
    cases e : thereB t k
    · rfl
    · obtain ⟨j, hj, e⟩ := (g.there _ hk).1 e
      exact absurd ⟨j, hj, e, rfl⟩ (h' _)
theorem peekA_congr {t t' : List Int} (g : Good t) (g' : Good t') {k : Int} (hk : k ≠ 0) (h : ∀ u, In t k u ↔ In t' k u) : peekA t k = peekA t' k := by
  rcases peekA_or g hk with ⟨u, a, b, _⟩ | ⟨a, b, _⟩
  · rw [b, peekA_yes g' hk ((h u).1 a)]
  · rw [b, peekA_no g' hk (fun u hu => a u ((h u).2 hu))]
theorem doT_peek {t : List Int} (k v : Int) (h1 : 1 ≤ k) (h2 : k ≤ 1000) : doT t 5 k v = (t, (peekA t k).1, (peekA t k).2) := by
  unfold doT peekA
  rw [if_neg (by omega), if_neg (by omega), if_neg (by omega)]
  cases thereB t k
  · simp
  · simp
theorem put_cases {t : List Int} (g : Good t) (k v : Int) (h1 : 1 ≤ k) (h2 : k ≤ 1000) (v0 : 0 ≤ v) (v1 : v ≤ 4294967295) :
    (doT t 1 k v = (t, 3, 0) ∧ lenT t = 6 ∧ peekA t k = (4, 0)) ∨
    (∃ u, doT t 1 k v = (u, 1, 0) ∧ Good u ∧ peekA u k = (1, v) ∧ (∀ l, l ≠ 0 → l ≠ k → peekA u l = peekA t l) ∧ ((peekA t k).1 = 4 ∧ lenT u = lenT t + 1 ∨ (peekA t k).1 = 1 ∧ lenT u = lenT t)) := by
  have hk0 : k ≠ 0 := by omega
  by_cases hf : thereB t k = false ∧ 6 ≤ lenT t
  · left
    refine ⟨?_, by have := g.few; omega, ?_⟩
    · unfold doT; rw [if_neg (by omega), if_neg (by omega), if_pos rfl, if_pos hf]
    · unfold peekA; rw [hf.1]; rfl
  · right
    have gp := g.put k v h1 h2 v0 v1 (by
      cases e : thereB t k
      · right; have : ¬ 6 ≤ lenT t := fun x => hf ⟨e, x⟩; omega
      · left; rfl)
    have ks := fun l hl u => g.put_keys k v h1 l hl u
    refine ⟨setS t (atI t k).toNat k v, ?_, gp, ?_, ?_, ?_⟩
    · unfold doT; rw [if_neg (by omega), if_neg (by omega), if_pos rfl, if_neg hf]
    · exact peekA_yes gp hk0 ((ks k hk0 v).2 (.inl ⟨rfl, rfl⟩))
    · intro l hl hlk
      refine peekA_congr gp g hl fun u => ?_
      refine (ks l hl u).trans ⟨?_, fun x => .inr ⟨hlk, x⟩⟩
      rintro (⟨x, _⟩ | ⟨_, x⟩)
      · exact absurd x hlk
      · exact x
    · obtain ⟨i, hi, ha, ho, -⟩ := g.at k
      have hl := len_setS t i k v g.len hi
      rw [if_neg hk0] at hl
      rw [ha, Int.toNat_natCast]
      by_cases e : tk t i = k
      · right
        have ht : thereB t k = true := by simp [thereB, ha, e]
        rw [if_neg (by omega)] at hl
        exact ⟨by unfold peekA; rw [ht]; rfl, by omega⟩
      · left
        have e0 : tk t i = 0 := by rcases ho with h | h; exact absurd h e; exact h
        have ht : thereB t k = false := by simp [thereB, ha, e0]; omega
        rw [if_pos e0] at hl
        exact ⟨by unfold peekA; rw [ht]; rfl, by omega⟩
theorem take_cases {t : List Int} (g : Good t) (k v : Int) (h1 : 1 ≤ k) (h2 : k ≤ 1000) :
    (peekA t k = (4, 0) ∧ doT t 2 k v = (t, 4, 0)) ∨
    (∃ u x, peekA t k = (1, x) ∧ doT t 2 k v = (u, 1, x) ∧ Good u ∧ peekA u k = (4, 0) ∧ (∀ l, l ≠ 0 → l ≠ k → peekA u l = peekA t l) ∧ lenT u + 1 = lenT t) := by
  have hk0 : k ≠ 0 := by omega
  rcases peekA_or g hk0 with ⟨x, hx, hp, ht⟩ | ⟨hx, hp, ht⟩
  · right
    obtain ⟨j, hj, rfl, rfl⟩ := hx
    have ha := g.found j hj hk0
    have gi := closeF_inv g j hj hk0
    have gc := closeF_good g j hj hk0
    refine ⟨closeF t j, tv t j, hp, ?_, gc, ?_, ?_, gi.cnt⟩
    · unfold doT; rw [if_neg (by omega), if_neg (by omega), if_neg (by omega), ht, if_neg (by simp), if_pos rfl, ha]; rfl
    · exact peekA_no gc hk0 fun u hu => ((gi.same _ hk0 u).1 hu).1 rfl
    · intro l hl hlk
      exact peekA_congr gc g hl fun u => (gi.same l hl u).trans ⟨fun h => h.2, fun h => ⟨hlk, h⟩⟩
  · left
    refine ⟨hp, ?_⟩
    unfold doT; rw [if_neg (by omega), if_neg (by omega), if_neg (by omega), if_pos ht]
theorem doT_good {t : List Int} (g : Good t) (w k v : Int) (v0 : 0 ≤ v) (v1 : v ≤ 4294967295) : Good (doT t w k v).1 := by
  by_cases h6 : w = 6
  · unfold doT; rw [if_pos h6]; exact g
  by_cases hw : (w ≠ 1 ∧ w ≠ 2 ∧ w ≠ 5) ∨ k < 1 ∨ 1000 < k
  · unfold doT; rw [if_neg h6, if_pos hw]; exact g
  by_cases w1 : w = 1
  · subst w1
    rcases put_cases g k v (by omega) (by omega) v0 v1 with ⟨e, -⟩ | ⟨u, e, gu, -⟩
    · rw [e]; exact g
    · rw [e]; exact gu
  by_cases w2 : w = 2
  · subst w2
    rcases take_cases g k v (by omega) (by omega) with ⟨-, e⟩ | ⟨u, x, -, e, gu, -⟩
    · rw [e]; exact g
    · rw [e]; exact gu
  · obtain rfl : w = 5 := by omega
    rw [doT_peek k v (by omega) (by omega)]; exact g
/-- One key more, one less, or as many; and what is not Done changes nothing. -/
theorem doT_stays {t : List Int} (g : Good t) (w k v : Int) (v0 : 0 ≤ v) (v1 : v ≤ 4294967295) :
    (lenT (doT t w k v).1 : Int) - lenT t ≤ 1 ∧ -1 ≤ (lenT (doT t w k v).1 : Int) - lenT t ∧ ((doT t w k v).2.1 = 1 ∨ (doT t w k v).1 = t) := by
  by_cases h6 : w = 6
  · unfold doT; rw [if_pos h6]; exact ⟨by dsimp only; omega, by dsimp only; omega, .inl rfl⟩
  by_cases hw : (w ≠ 1 ∧ w ≠ 2 ∧ w ≠ 5) ∨ k < 1 ∨ 1000 < k
  · unfold doT; rw [if_neg h6, if_pos hw]; exact ⟨by dsimp only; omega, by dsimp only; omega, .inr rfl⟩
  by_cases w1 : w = 1
  · subst w1
    rcases put_cases g k v (by omega) (by omega) v0 v1 with ⟨e, -⟩ | ⟨u, e, gu, -, -, h⟩
    · rw [e]; exact ⟨by dsimp only; omega, by dsimp only; omega, .inr rfl⟩
    · rw [e]; exact ⟨by dsimp only; omega, by dsimp only; omega, .inl rfl⟩
  by_cases w2 : w = 2
  · subst w2
    rcases take_cases g k v (by omega) (by omega) with ⟨-, e⟩ | ⟨u, x, -, e, gu, -, -, h⟩
    · rw [e]; exact ⟨by dsimp only; omega, by dsimp only; omega, .inr rfl⟩
    · rw [e]; exact ⟨by dsimp only; omega, by dsimp only; omega, .inl rfl⟩
  · obtain rfl : w = 5 := by omega
    rw [doT_peek k v (by omega) (by omega)]; exact ⟨by dsimp only; omega, by dsimp only; omega, .inr rfl⟩
end Go.Proofs.Ytpedkcpkdacnlaa
end
section
namespace Go.Proofs.Ytpedkcpkdacnlaa
open Go.RowKit
set_option maxRecDepth 20000

/-- The array value of a table. -/
def tarr (t : List Int) : Array Value := (t.map (Value.int .i64)).toArray
/-- Block b is a variable that holds the table t. -/
def TabAt (w : World) (b : Nat) (t : List Int) : Prop := t.length = 16 ∧ Blk w b (t.map (Value.int .i64)) 69
theorem TabAt.cell {w : World} {b : Nat} {t : List Int} (h : TabAt w b t) (i : Nat) (hi : i < 16) : w.cell? ⟨b, i, none⟩ = some (.int .i64 (t.getD i 0)) := by
  have := h.1
  rw [h.2.cell, List.getElem?_map, List.getElem?_eq_getElem (by omega), List.getD_eq_getElem?_getD, List.getElem?_eq_getElem (by omega)]; rfl
theorem home_any (key : Int) (w : World) (h0 : 0 ≤ key) (h1 : key ≤ 1000) :
    Calls Try.prog 76 #[.int .i64 key] w fun e w' => e = .returned (.int .i64 (key * 5 % 8)) ∧ w = w' := by
  go_enter Try.func76, Try.ntmps76
  go_wp2
  go_ret
  exact ⟨rfl, rfl⟩

set_option maxHeartbeats 1000000 in
theorem at_any (key : Int) (w : World) (b : Nat) (t : List Int) (h : TabAt w b t) (h0 : 0 ≤ key) (h1 : key ≤ 1000) :
    Calls Try.prog 62 #[.pointer (some ⟨b, 0, none⟩), .int .i64 key] w fun e w' => e = .returned (.int .i64 (atI t key)) ∧ w = w' := by
  have HT := Lib.hid h
  clear h
  go_enter Try.func62, Try.ntmps62
  go_wp2_with fail
  go_loop [7] (fun i => ∃ k : Nat, k ≤ 8 ∧ i = .int .i64 k ∧ atFrom t key (8 - k) k = atI t key) (fun i => 8 - (intOf i).toNat)
  case atStart => exact ⟨0, by omega, rfl, rfl⟩
  case round =>
    obtain ⟨k, hk, rfl, hat⟩ := hrel
    have HAT := Lib.hid hat
    clear hat
    by_cases hlt : k < 8
    · obtain ⟨i, hi⟩ : ∃ i : Nat, (key * 5 % 8 + (k : Int)) % 8 = i := ⟨((key * 5 % 8 + k) % 8).toNat, by omega⟩
      have hi8 : i < 8 := by omega
      have c : w.cell? ⟨b, i * 2, none⟩ = some (.int .i64 (tk t i)) := HT.out.cell (i * 2) (by omega)
      have hs : slotOf key k = i := by unfold slotOf; omega
      have HS := Lib.hid hs
      clear hs
      have hstep : atI t key = if hit t key i then (i : Int) else atFrom t key (8 - (k + 1)) (k + 1) := by
        rw [← HAT.out, show 8 - k = (8 - (k + 1)) + 1 from by omega]
        simp only [atFrom, HS.out]
      have HST := Lib.hid hstep
      clear hstep
      by_cases g1 : tk t i = key
      · have b1 : (tk t i == key) = true := by simp [g1]
        have hh : hit t key i = true := by unfold hit; rw [b1]; rfl
        have HH := Lib.hid hh
        clear g1 hh
        go_wp2_with (go_at_call 76; refine (home_any _ _ h0 h1).mono ?_; rintro e w' ⟨rfl, rfl⟩)
        go_ret
        exact ⟨ret_int (by rw [HST.out, HH.out, if_pos rfl]; exact hi), rfl⟩
      · have b1 : (tk t i == key) = false := by simp [g1]
        by_cases h2 : tk t i = 0
        · have b2 : (tk t i == 0) = true := by simp [h2]
          have hh : hit t key i = true := by unfold hit; rw [b1, b2]; rfl
          have HH := Lib.hid hh
          clear g1 h2 hh
          go_wp2_with (go_at_call 76; refine (home_any _ _ h0 h1).mono ?_; rintro e w' ⟨rfl, rfl⟩)
          go_ret
          exact ⟨ret_int (by rw [HST.out, HH.out, if_pos rfl]; exact hi), rfl⟩
        · have b2 : (tk t i == 0) = false := by simp [h2]
          have hh : hit t key i = false := by unfold hit; rw [b1, b2]; rfl
          have HH := Lib.hid hh
          clear g1 h2 hh
          go_wp2_with (go_at_call 76; refine (home_any _ _ h0 h1).mono ?_; rintro e w' ⟨rfl, rfl⟩)
          go_round
          case rel => exact ⟨k + 1, by omega, by go_num, by rw [HST.out, HH.out]; rfl⟩
          case measure => simp [intOf]; omega
    · obtain rfl : k = 8 := by omega
      have hm : atI t key = -1 := by rw [← HAT.out]; rfl
      have HM := Lib.hid hm
      clear hm
      go_wp2_with fail
      go_ret
      exact ⟨ret_int HM.out.symm, rfl⟩

theorem sixteen {P : List Int → Prop} (h : ∀ a b c d e f g h i j k l m n o p : Int, P [a, b, c, d, e, f, g, h, i, j, k, l, m, n, o, p]) (t : List Int) (ht : t.length = 16) : P t := by
  match t, ht with
  | [_, _, _, _, _, _, _, _, _, _, _, _, _, _, _, _], _ => exact h _ _ _ _ _ _ _ _ _ _ _ _ _ _ _ _
theorem idx_slot (t : List Int) (ht : t.length = 16) (k : Nat) (hk : k < 8) (w : World) :
    (Instr.index 69 (.agg (t.map (Value.int .i64)).toArray) (.int .i64 k)).run Try.prog w = .ok (.agg #[.int .i64 (tk t k), .int .i64 (tv t k)]) w := by
  revert t
  refine fun t ht => sixteen (P := fun t => (Instr.index 69 (.agg (t.map (Value.int .i64)).toArray) (.int .i64 k)).run Try.prog w = .ok (.agg #[.int .i64 (tk t k), .int .i64 (tv t k)]) w) ?_ t ht
  intro a b c d e f g h i j k' l m n o p
  match k, hk with
  | 0, _ => rfl
  | 1, _ => rfl
  | 2, _ => rfl
  | 3, _ => rfl
  | 4, _ => rfl
  | 5, _ => rfl
  | 6, _ => rfl
  | 7, _ => rfl

theorem idx_lit (a b c d e f g h i j k l m n o p : Int) (q : Nat) (hq : q < 8) (w : World) :
    (Instr.index 69 (.agg #[.int .i64 a, .int .i64 b, .int .i64 c, .int .i64 d, .int .i64 e, .int .i64 f, .int .i64 g, .int .i64 h, .int .i64 i, .int .i64 j, .int .i64 k, .int .i64 l, .int .i64 m, .int .i64 n, .int .i64 o, .int .i64 p]) (.int .i64 q)).run Try.prog w = .ok (.agg #[.int .i64 (tk [a, b, c, d, e, f, g, h, i, j, k, l, m, n, o, p] q), .int .i64 (tv [a, b, c, d, e, f, g, h, i, j, k, l, m, n, o, p] q)]) w :=
  idx_slot [a, b, c, d, e, f, g, h, i, j, k, l, m, n, o, p] rfl q hq w

set_option maxHeartbeats 1000000 in
theorem len_any (t : List Int) (ht : t.length = 16) (w : World) :
    Calls Try.prog 61 #[.agg (t.map (Value.int .i64)).toArray] w fun e w' => e = .returned (.int .i64 (lenT t)) ∧ Below w.heap.size w w' := by
  refine sixteen (P := fun t => Calls Try.prog 61 #[.agg (t.map (Value.int .i64)).toArray] w fun e w' => e = .returned (.int .i64 (lenT t)) ∧ Below w.heap.size w w') ?_ t ht
  intro a b c d e f g h i j k l m n o p
  obtain ⟨T, hT⟩ : ∃ T, T = [a, b, c, d, e, f, g, h, i, j, k, l, m, n, o, p] := ⟨_, rfl⟩
  have hidx := idx_lit a b c d e f g h i j k l m n o p
  rw [← hT] at hidx
  have HX : Hid (∀ q, q < 8 → ∀ w, (Instr.index 69 (.agg #[.int .i64 a, .int .i64 b, .int .i64 c, .int .i64 d, .int .i64 e, .int .i64 f, .int .i64 g, .int .i64 h, .int .i64 i, .int .i64 j, .int .i64 k, .int .i64 l, .int .i64 m, .int .i64 n, .int .i64 o, .int .i64 p]) (.int .i64 (q : Nat))).run Try.prog w = .ok (.agg #[.int .i64 (tk T q), .int .i64 (tv T q)]) w) := hidx
  rw [← hT]
  have HT := Lib.hid hT
  rw [show (List.map (Value.int .i64) T).toArray = #[.int .i64 a, .int .i64 b, .int .i64 c, .int .i64 d, .int .i64 e, .int .i64 f, .int .i64 g, .int .i64 h, .int .i64 i, .int .i64 j, .int .i64 k, .int .i64 l, .int .i64 m, .int .i64 n, .int .i64 o, .int .i64 p] from by rw [hT]; rfl]
  clear hT hidx
  go_enter Try.func61, Try.ntmps61
  go_wp2_with fail
  have hb0 := balloc (Below.refl _ w) (Obj.cells #[.int .i64 a, .int .i64 b, .int .i64 c, .int .i64 d, .int .i64 e, .int .i64 f, .int .i64 g, .int .i64 h, .int .i64 i, .int .i64 j, .int .i64 k, .int .i64 l, .int .i64 m, .int .i64 n, .int .i64 o, .int .i64 p] 69)
  generalize w.alloc (Obj.cells #[.int .i64 a, .int .i64 b, .int .i64 c, .int .i64 d, .int .i64 e, .int .i64 f, .int .i64 g, .int .i64 h, .int .i64 i, .int .i64 j, .int .i64 k, .int .i64 l, .int .i64 m, .int .i64 n, .int .i64 o, .int .i64 p] 69) = w0 at *
  go_loopw [3, 7] (fun n i wr => ∃ k : Nat, k ≤ 8 ∧ i = .int .i64 k ∧ n = .int .i64 (cntTo T k) ∧ Below w.heap.size w wr) (fun _ i _ => 8 - (intOf i).toNat)
  case atStart => exact ⟨0, by omega, rfl, rfl, hb0⟩
  case round =>
    obtain ⟨q, hq, rfl, rfl, hbr⟩ := hrel
    have hle := cntTo_le T q
    by_cases hlt : q < 8
    · have hix := HX.out q hlt
      have hs : cntTo T (q + 1) = cntTo T q + if tk T q = 0 then 0 else 1 := rfl
      have HS := Lib.hid hs
      clear hs
      generalize cntTo T q = n at *
      by_cases g0 : tk T q = 0
      · have b0 : (tk T q != 0) = false := by simp [g0]
        rw [if_pos g0] at HS
        clear g0
        go_wp2_with fail
        go_roundw
        case rel => exact ⟨q + 1, by omega, by go_num, by rw [HS.out]; rfl, balloc hbr _⟩
        case measure => simp [intOf]; omega
      · have b0 : (tk T q != 0) = true := by simp [g0]
        rw [if_neg g0] at HS
        clear g0
        go_wp2_with fail
        go_roundw
        case rel => exact ⟨q + 1, by omega, by go_num, by rw [HS.out]; go_num, balloc hbr _⟩
        case measure => simp [intOf]; omega
    · obtain rfl : q = 8 := by omega
      go_wp2_with fail
      go_ret
      exact ⟨rfl, hbr⟩
end Go.Proofs.Ytpedkcpkdacnlaa
end
section
namespace Go.Proofs.Ytpedkcpkdacnlaa
open Go.RowKit
def spl (C : List Value) (o : Nat) (vs : List Value) : List Value := C.take o ++ vs ++ C.drop (o + vs.length)
theorem spl_length (C : List Value) (o : Nat) (vs : List Value) (h : o + vs.length ≤ C.length) : (spl C o vs).length = C.length := by
  unfold spl; simp; omega
/-- The world in which block b holds the cells C. -/
def setBlk (w : World) (b : Nat) (C : List Value) : World := w.setRow b C.toArray
theorem Blk.setBlk {w : World} {b : Nat} {C : List Value} {t : TypeId} (h : Blk w b C t) (C' : List Value) : Blk (setBlk w b C') b C' t := by
  unfold Blk at h ⊢
  unfold Proofs.Ytpedkcpkdacnlaa.setBlk World.setRow
  simp [Array.getElem?_modify, h]
theorem setBlk_heap (w : World) (b : Nat) (C : List Value) (k : Nat) (h : k ≠ b) : (setBlk w b C).heap[k]? = w.heap[k]? := by
  unfold setBlk World.setRow
  simp only [Array.getElem?_modify]
  rw [if_neg (by omega)]
theorem setBlk_size (w : World) (b : Nat) (C : List Value) : (setBlk w b C).heap.size = w.heap.size := by
  unfold setBlk World.setRow; simp
theorem Kept.setBlk (w : World) (b : Nat) (C : List Value) : Kept (· = b) w (setBlk w b C) :=
  ⟨rfl, rfl, rfl, by rw [setBlk_size]; exact Nat.le_refl _, fun k _ hn => setBlk_heap w b C k hn⟩
theorem Blk.otherBlk {w : World} {b b' : Nat} {C : List Value} {t : TypeId} (h : Blk w b C t) (C' : List Value) (hb : b ≠ b') : Blk (Proofs.Ytpedkcpkdacnlaa.setBlk w b' C') b C t :=
  (setBlk_heap w b' C' b hb).trans h
theorem bsetBlk {w a : World} {b : Nat} (h : Below w.heap.size w a) (hb : w.heap.size ≤ b) (C : List Value) : Below w.heap.size w (setBlk a b C) :=
  bkept h (Kept.setBlk a b C) (by rintro n rfl; exact hb)

section
variable {P : Program}
theorem run_loadVar_part (w : World) (b : Nat) (C : List Value) (t ty : TypeId) (o n : Nat) (d : TypeDesc) (hB : Blk w b C t) (hfit : o + n ≤ C.length)
    (hu : P.underlying ty = some d) (hd : (match d with | .struct _ | .array _ _ => true | _ => false) = true) (hi : (P.info? ty).map (·.size) = some n) :
    (loadVar ty ⟨b, o, none⟩).run P w = .ok (.agg ((C.drop o).take n).toArray) w := by
  have hlen : ((C.drop o).take n).length = n := by simp; omega
  have hl := run_loadCells_list (P := P) w ⟨b, o, none⟩ ((C.drop o).take n) (fun j v hv => by
    have hadd : (⟨b, o, none⟩ : Addr).add j = ⟨b, o + j, none⟩ := by unfold Addr.add; split <;> simp_all
    have hj : j < n := by
      rcases Nat.lt_or_ge j n with h | h
      · exact h
      · rw [List.getElem?_eq_none (by omega)] at hv; cases hv
    rw [hadd, hB.cell (o + j)]
    rw [List.getElem?_take, if_pos hj, List.getElem?_drop] at hv
    exact hv)
  rw [hlen] at hl
  cases hq : P.info? ty with
  | none => simp [hq] at hi
  | some i =>
    have hs : i.size = n := by simpa [hq] using hi
    have hagg : (isAgg ty).run P w = .ok true w := by
      unfold isAgg
      rw [Sem.run_bind, run_underlying hu w]
      cases d <;> simp_all
    simp [loadVar, Sem.run_bind, hagg, sizeOf, typeInfo, hq, hs, hl]
theorem run_storeVar_part (w : World) (b : Nat) (C : List Value) (t ty : TypeId) (o n : Nat) (vs : List Value) (hB : Blk w b C t) (hn : vs.length = n) (hfit : o + n ≤ C.length)
    (hi : (P.info? ty).map (·.size) = some n) (h1 : ∀ v ∈ vs, v.oneCell' = true) :
    (storeVar ty ⟨b, o, none⟩ (.agg vs.toArray)).run P w = .ok () (setBlk w b (spl C o vs)) := by
  have hst := run_storeCells_at P b o t vs 0 C.toArray w hB (by simpa [hn] using hfit) h1
  cases hq : P.info? ty with
  | none => simp [hq] at hi
  | some i =>
    have hs : i.size = n := by simpa [hq] using hi
    simp only [Nat.add_zero] at hst
    simp [storeVar, sizeOf, typeInfo, hq, Value.cells, hs, hn, hst, setBlk, spl]
theorem wpList_load_part {ops : Array Oper} {rest : List Oper} {o : Oper} {a : Act} {w : World} {Q : Exit → Act → World → Prop} (hgd : o.guard = none) (ty : TypeId) (x : Operand) (ho : o.op = .load ty x)
    (b off n : Nat) (hx : a.eval x = .pointer (some ⟨b, off, none⟩)) (t : TypeId) (C : List Value) (d : TypeDesc) (hB : Blk w b C t) (hfit : off + n ≤ C.length)
    (hu : P.underlying ty = some d) (hd : (match d with | .struct _ | .array _ _ => true | _ => false) = true) (hi : (P.info? ty).map (·.size) = some n)
    (h : wpList P ops Q rest (a.put o.dst (.agg ((C.drop off).take n).toArray)) w) : wpList P ops Q (o :: rest) a w :=
  wpList_plain hgd fun _ hK => by
    unfold Oper.wp execOp
    simp only [ho, hx, Instr.loadAt, Instr.sureAddr, Sem.run_bind, Sem.run_pure, Result.andThen_ok, run_loadVar_part w b C t ty off n d hB hfit hu hd hi]
    exact hK _ _ h
theorem wpList_store_part {ops : Array Oper} {rest : List Oper} {o : Oper} {a : Act} {w : World} {Q : Exit → Act → World → Prop} (hgd : o.guard = none) (ty : TypeId) (x y : Operand) (ho : o.op = .store ty x y)
    (b off n : Nat) (vs : List Value) (hx : a.eval x = .pointer (some ⟨b, off, none⟩)) (hy : a.eval y = .agg vs.toArray) (t : TypeId) (C : List Value) (hB : Blk w b C t) (hn : vs.length = n) (hfit : off + n ≤ C.length)
    (hi : (P.info? ty).map (·.size) = some n) (h1 : ∀ v ∈ vs, v.oneCell' = true)
    (h : wpList P ops Q rest (a.put o.dst undef) (setBlk w b (spl C off vs))) : wpList P ops Q (o :: rest) a w :=
  wpList_plain hgd fun _ hK => by
    unfold Oper.wp execOp
    simp only [ho, hx, hy, Instr.storeAt, Instr.sureAddr, Sem.run_bind, Sem.run_pure, Result.andThen_ok, run_storeVar_part w b C t ty off n vs hB hn hfit hi h1]
    exact hK _ _ h
end
end Go.Proofs.Ytpedkcpkdacnlaa
end
section
namespace Go.Proofs.Ytpedkcpkdacnlaa
open Go.RowKit
theorem Blk.setCells {b : Nat} {t : TypeId} : ∀ (vs : List Value) (o : Nat) (w : World) (C : List Value), Blk w b C t → o + vs.length ≤ C.length → Blk (w.setCells b o vs) b (spl C o vs) t
  | [], o, w, C, h, _ => by
    have : spl C o [] = C := by simp [spl]
    rw [this]; exact h
  | v :: r, o, w, C, h, hl => by
    simp only [List.length_cons] at hl
    have ih := Blk.setCells r (o + 1) _ _ (h.set o v) (by rw [List.length_set]; omega)
    have e : spl (C.set o v) (o + 1) r = spl C o (v :: r) := by
      unfold spl
      have h1 : (C.set o v).take (o + 1) = C.take o ++ [v] := by
        rw [List.take_succ_eq_append_getElem (by rw [List.length_set]; omega), List.getElem_set_self, List.take_set_of_le (Nat.le_refl _)]
      have h2 : (C.set o v).drop (o + 1 + r.length) = C.drop (o + (v :: r).length) := by
        rw [List.drop_set_of_lt (by omega)]
        simp only [List.length_cons]; congr 1; omega
      rw [h1, h2]; simp
    rw [e] at ih
    exact ih
theorem Blk.setCellsWhole {b : Nat} {t : TypeId} {w : World} {C vs : List Value} (h : Blk w b C t) (hl : vs.length = C.length) : Blk (w.setCells b 0 vs) b vs t := by
  have := Blk.setCells vs 0 w C h (by omega)
  rwa [show spl C 0 vs = vs by unfold spl; rw [List.take_zero, List.nil_append, List.drop_of_length_le (by omega), List.append_nil]] at this
theorem setCells_kept (b : Nat) : ∀ (vs : List Value) (o : Nat) (w : World), Kept (· = b) w (w.setCells b o vs)
  | [], _, w => Kept.refl _ w
  | v :: r, o, w => ((Kept.refl _ w).own o v).trans (setCells_kept b r (o + 1) _)
theorem Blk.rangeAt {w : World} {b : Nat} {C : List Value} {t : TypeId} (h : Blk w b C t) (o n : Nat) : w.rangeAt b o ((C.drop o).take n) := fun j v hv => by
  rw [h.cell]
  rw [List.getElem?_take] at hv
  split at hv
  · rw [List.getElem?_drop] at hv; exact hv
  · cases hv
theorem Blk.range {w : World} {b : Nat} {C : List Value} {t : TypeId} (h : Blk w b C t) : w.rangeAt b 0 C := fun j v hv => by
  rw [h.cell, Nat.zero_add]; exact hv
theorem Blk.there {w : World} {b : Nat} {C : List Value} {t : TypeId} (h : Blk w b C t) (o n : Nat) (hn : o + n ≤ C.length) : w.there b o n := fun j hj => by
  refine ⟨?_, h.frozen _⟩
  rw [h.cell, List.getElem?_eq_getElem (by omega)]; rfl
/-- Two variables made one behind the other, and the first one filled. -/
theorem def_pair (w : World) (C Z A : List Value) (t t' : TypeId) :
    Blk (Proofs.Ytpedkcpkdacnlaa.setBlk ((w.alloc (.cells Z.toArray t)).alloc (.cells A.toArray t')) w.heap.size C) w.heap.size C t ∧
    Blk (Proofs.Ytpedkcpkdacnlaa.setBlk ((w.alloc (.cells Z.toArray t)).alloc (.cells A.toArray t')) w.heap.size C) (w.heap.size + 1) A t' ∧
    Below w.heap.size w (Proofs.Ytpedkcpkdacnlaa.setBlk ((w.alloc (.cells Z.toArray t)).alloc (.cells A.toArray t')) w.heap.size C) := by
  have h1 := (Blk.new w Z t).alloc (.cells A.toArray t')
  have h2 := Blk.new (w.alloc (.cells Z.toArray t)) A t'
  rw [World.size_alloc] at h2
  exact ⟨h1.setBlk C, h2.otherBlk C (by omega), bsetBlk (balloc (balloc (Below.refl _ _) _) _) (Nat.le_refl _) C⟩
/-- A variable that there was is filled anew, and another one made. -/
theorem asg_pair (w : World) (b : Nat) (C C' A : List Value) (t t' : TypeId) (h : Blk w b C t) :
    Blk (Proofs.Ytpedkcpkdacnlaa.setBlk (w.alloc (.cells A.toArray t')) b C') b C' t ∧ Blk (Proofs.Ytpedkcpkdacnlaa.setBlk (w.alloc (.cells A.toArray t')) b C') w.heap.size A t' ∧
    Kept (· = b) w (Proofs.Ytpedkcpkdacnlaa.setBlk (w.alloc (.cells A.toArray t')) b C') :=
  ⟨(h.alloc _).setBlk C', (Blk.new w A t').otherBlk C' (Nat.ne_of_gt h.lt), ((Kept.refl _ w).alloc _).trans (Kept.setBlk _ b C')⟩
section
variable {P : Program} {fn : Func} {tmps : Array Value} {w : World}
theorem run_loadVar_whole (b : Nat) (C : List Value) (t ty : TypeId) (d : TypeDesc) (hB : Blk w b C t)
    (hu : P.underlying ty = some d) (hd : (match d with | .struct _ | .array _ _ => true | _ => false) = true) (hi : (P.info? ty).map (·.size) = some C.length) :
    (loadVar ty ⟨b, 0, none⟩).run P w = .ok (.agg C.toArray) w := by
  rw [run_loadVar_part w b C t ty 0 C.length d hB (by omega) hu hd hi, List.drop_zero, List.take_length]
theorem wpList_load_part_g {ops : Array Oper} {rest : List Oper} {o : Oper} {a : Act} {Q : Exit → Act → World → Prop} (hw : Region.wanted o (yielded ops a.tmps) = true) (ty : TypeId) (x : Operand) (ho : o.op = .load ty x)
    (b off n : Nat) (hx : a.eval x = .pointer (some ⟨b, off, none⟩)) (t : TypeId) (C : List Value) (d : TypeDesc) (hB : Blk w b C t) (hfit : off + n ≤ C.length)
    (hu : P.underlying ty = some d) (hd : (match d with | .struct _ | .array _ _ => true | _ => false) = true) (hi : (P.info? ty).map (·.size) = some n)
    (h : wpList P ops Q rest (a.put o.dst (.agg ((C.drop off).take n).toArray)) w) : wpList P ops Q (o :: rest) a w :=
  wpList_step fun _ hK => by
    rw [if_pos hw]
    unfold Oper.wp execOp
    simp only [ho, hx, Instr.loadAt, Instr.sureAddr, Sem.run_bind, Sem.run_pure, Result.andThen_ok, run_loadVar_part w b C t ty off n d hB hfit hu hd hi]
    exact hK _ _ h
theorem results1_cell (a : Tmp) (ty : TypeId) (hr : fn.results = #[.cell a ty]) (b : Nat) (C : List Value) (t : TypeId) (d : TypeDesc) (ha : tmps.getD a undef = .pointer (some ⟨b, 0, none⟩)) (hB : Blk w b C t)
    (hu : P.underlying ty = some d) (hd : (match d with | .struct _ | .array _ _ => true | _ => false) = true) (hi : (P.info? ty).map (·.size) = some C.length) :
    (results fn tmps).run P w = .ok (.agg C.toArray) w := by
  have h := run_loadVar_whole b C t ty d hB hu hd hi
  rw [Array.getD_eq_getD_getElem?] at ha
  simp [results, hr, Array.mapM_eq_mapM_toList, ha, asAddr, h]
theorem results2_cells (a a' : Tmp) (ty ty' : TypeId) (hr : fn.results = #[.cell a ty, .cell a' ty']) (b b' : Nat) (C C' : List Value) (t t' : TypeId) (d d' : TypeDesc)
    (ha : tmps.getD a undef = .pointer (some ⟨b, 0, none⟩)) (ha' : tmps.getD a' undef = .pointer (some ⟨b', 0, none⟩)) (hB : Blk w b C t) (hB' : Blk w b' C' t')
    (hu : P.underlying ty = some d) (hd : (match d with | .struct _ | .array _ _ => true | _ => false) = true) (hi : (P.info? ty).map (·.size) = some C.length)
    (hu' : P.underlying ty' = some d') (hd' : (match d' with | .struct _ | .array _ _ => true | _ => false) = true) (hi' : (P.info? ty').map (·.size) = some C'.length) :
    (results fn tmps).run P w = .ok (.tuple #[.agg C.toArray, .agg C'.toArray]) w := by
  have h := run_loadVar_whole b C t ty d hB hu hd hi
  have h' := run_loadVar_whole b' C' t' ty' d' hB' hu' hd' hi'
  rw [Array.getD_eq_getD_getElem?] at ha ha'
  simp [results, hr, Array.mapM_eq_mapM_toList, ha, ha', asAddr, Sem.run_bind, h, h']
end
end Go.Proofs.Ytpedkcpkdacnlaa
end
section
namespace Go.Proofs.Ytpedkcpkdacnlaa
open Go.RowKit
set_option maxRecDepth 20000
set_option linter.unusedVariables false
theorem int_val {k : IntKind} {a b : Int} (h : a = b) : Value.int k a = Value.int k b := by rw [h]
def tcells (t : List Int) : List Value := t.map (Value.int .i64)
theorem tcells_len (t : List Int) : (tcells t).length = t.length := List.length_map _
theorem tcells_one (t : List Int) : ∀ v ∈ tcells t, v.oneCell' = true := by
  intro v hv
  obtain ⟨x, _, rfl⟩ := List.mem_map.1 hv
  rfl
theorem tcells_get (t : List Int) (i : Nat) (h : i < t.length) : (tcells t)[i]? = some (.int .i64 (t.getD i 0)) := by
  unfold tcells; rw [List.getElem?_map, List.getElem?_eq_getElem h, List.getD_eq_getElem?_getD, List.getElem?_eq_getElem h]; rfl
theorem TabAt.put {w : World} {b : Nat} {t : List Int} (h : TabAt w b t) (i : Nat) (k v : Int) : TabAt ((w.setCell ⟨b, i * 2, none⟩ (.int .i64 k)).setCell ⟨b, i * 2 + 1, none⟩ (.int .i64 v)) b (setS t i k v) := by
  refine ⟨by rw [setS_len]; exact h.1, ?_⟩
  have := (h.2.set (i * 2) (.int .i64 k)).set (i * 2 + 1) (.int .i64 v)
  rwa [← List.map_set, ← List.map_set] at this
theorem TabAt.drew {w : World} {b : Nat} {t : List Int} (h : TabAt w b t) : TabAt w.drew b t := h
theorem TabAt.below {w w' : World} {b : Nat} {t : List Int} (h : TabAt w b t) (k : Below w.heap.size w w') : TabAt w' b t := ⟨h.1, h.2.below k⟩
theorem TabAt.other {w : World} {b : Nat} {t : List Int} {p : Addr} (h : TabAt w b t) (v : Value) (hp : b ≠ p.block) : TabAt (w.setCell p v) b t := ⟨h.1, h.2.other v hp⟩
theorem Blk.drew {w : World} {b : Nat} {C : List Value} {t : TypeId} (h : Blk w b C t) : Blk w.drew b C t := h
theorem TabAt.c0 {w : World} {b : Nat} {t : List Int} (h : TabAt w b t) (i : Nat) (hi : i < 8) : w.cell? ⟨b, i * 2, none⟩ = some (.int .i64 (tk t i)) := h.cell _ (by omega)
theorem TabAt.c1 {w : World} {b : Nat} {t : List Int} (h : TabAt w b t) (i : Nat) (hi : i < 8) : w.cell? ⟨b, i * 2 + 1, none⟩ = some (.int .i64 (tv t i)) := h.cell _ (by omega)
theorem TabAt.f {w : World} {b : Nat} {t : List Int} (h : TabAt w b t) (i : Nat) : w.frozen? ⟨b, i, none⟩ = false := h.2.frozen i
theorem TabAt.new (w : World) (t : List Int) (h : t.length = 16) : TabAt (w.alloc (.cells (tcells t).toArray 69)) w.heap.size t := ⟨h, Blk.new _ _ _⟩
set_option maxHeartbeats 4000000 in
theorem closed_any (w : World) (t : List Int) (i : Nat) (g : Good t) (hi : i < 8) (h0 : tk t i ≠ 0) :
    Calls Try.prog 63 #[.agg (tcells t).toArray, .int .i64 i] w fun e w' => e = .returned (.agg (tcells (closeF t i)).toArray) ∧ Below w.heap.size w w' := by
  obtain ⟨E1, E7, -, -⟩ := endOff_spec g i hi h0
  have HI := Lib.hid (invC_iter g i hi h0)
  have HE : Hid (closeF t i = iterC t i (endOff t i - 1)) := Lib.hid rfl
  have H16 := Lib.hid g.len
  generalize endOff t i = E at *
  have q0 : (tcells t)[i * 2]? = some (.int .i64 (tk t i)) := tcells_get t (i * 2) (by have := g.len; omega)
  have q1 : (tcells t)[i * 2 + 1]? = some (.int .i64 (tv t i)) := tcells_get t (i * 2 + 1) (by have := g.len; omega)
  have hset : ((tcells t).set (i * 2) (.int .i64 0)).set (i * 2 + 1) (.int .i64 0) = tcells (iterC t i 0) := by
    show _ = tcells (setS t i 0 0)
    simp [tcells, setS, List.map_set]
  have HSET := Lib.hid hset
  have HL0 := Lib.hid (HI.out 0 (by omega)).len
  clear g h0 hset
  generalize tk t i = x0 at *
  generalize tv t i = x1 at *
  go_enter Try.func63, Try.ntmps63
  go_wp2_with fail
  rw [HSET.out]
  clear q0 q1 HSET
  have HB := Lib.hid (Below.refl w.heap.size w)
  have hb1 := balloc (Below.refl _ w) (Obj.cells (tcells (iterC t i 0)).toArray 69)
  have HT := Lib.hid (TabAt.new w (iterC t i 0) HL0.out)
  have Z1 : Hid ((w.alloc (Obj.cells (tcells (iterC t i 0)).toArray 69)).heap.size = w.heap.size + 1) := World.size_alloc _ _
  replace HB := Lib.hid (bcall HB.out hb1)
  clear hb1
  generalize w.alloc (Obj.cells (tcells (iterC t i 0)).toArray 69) = w1 at *
  have hb2 := balloc (Below.refl _ w1) (Obj.cells (tcells [0, 0, 0, 0, 0, 0, 0, 0, 0, 0, 0, 0, 0, 0, 0, 0]).toArray 69)
  have HR := Lib.hid (TabAt.new w1 [0, 0, 0, 0, 0, 0, 0, 0, 0, 0, 0, 0, 0, 0, 0, 0] rfl)
  replace HT := Lib.hid (HT.out.below hb2)
  replace HB := Lib.hid (bcall HB.out hb2)
  rw [Z1.out] at HR
  clear hb2 Z1
  change Hid (TabAt (w1.alloc (Obj.cells #[.int .i64 0, .int .i64 0, .int .i64 0, .int .i64 0, .int .i64 0, .int .i64 0, .int .i64 0, .int .i64 0, .int .i64 0, .int .i64 0, .int .i64 0, .int .i64 0, .int .i64 0, .int .i64 0, .int .i64 0, .int .i64 0] 69)) _ _) at HR
  change Hid (TabAt (w1.alloc (Obj.cells #[.int .i64 0, .int .i64 0, .int .i64 0, .int .i64 0, .int .i64 0, .int .i64 0, .int .i64 0, .int .i64 0, .int .i64 0, .int .i64 0, .int .i64 0, .int .i64 0, .int .i64 0, .int .i64 0, .int .i64 0, .int .i64 0] 69)) _ _) at HT
  change Hid (Below _ _ (w1.alloc (Obj.cells #[.int .i64 0, .int .i64 0, .int .i64 0, .int .i64 0, .int .i64 0, .int .i64 0, .int .i64 0, .int .i64 0, .int .i64 0, .int .i64 0, .int .i64 0, .int .i64 0, .int .i64 0, .int .i64 0, .int .i64 0, .int .i64 0] 69))) at HB
  generalize w1.alloc (Obj.cells #[.int .i64 0, .int .i64 0, .int .i64 0, .int .i64 0, .int .i64 0, .int .i64 0, .int .i64 0, .int .i64 0, .int .i64 0, .int .i64 0, .int .i64 0, .int .i64 0, .int .i64 0, .int .i64 0, .int .i64 0, .int .i64 0] 69) = w2 at *
  go_loopw [5] (fun kk wr => ∃ n K : Nat, n < E ∧ K = (i + 1 + n) % 8 ∧ kk = .int .i64 K ∧ Below w.heap.size w wr ∧ TabAt wr w.heap.size (iterC t i n) ∧ TabAt wr (w.heap.size + 1) [0, 0, 0, 0, 0, 0, 0, 0, 0, 0, 0, 0, 0, 0, 0, 0])
    (fun kk _ => 8 - (((intOf kk).toNat + 15 - i) % 8))
  case atStart => exact ⟨0, (i + 1) % 8, by omega, by omega, int_val (by omega), HB.out, HT.out, HR.out⟩
  case round =>
    clear HB HT HR
    obtain ⟨n, K, hn, hK, rfl, hb, ht, hr⟩ := hrel
    have HB := Lib.hid hb
    have HT := Lib.hid ht
    have HR := Lib.hid hr
    clear hb ht hr
    have hK8 : K < 8 := by omega
    have hv := HI.out n hn
    by_cases hend : n + 1 = E
    · have hcl : closeF t i = iterC t i n := by rw [HE.out, ← hend, Nat.add_sub_cancel]
      have hz : tk (iterC t i n) K = 0 := by rw [← hv.stop]; congr 1; omega
      have HCL := Lib.hid hcl
      have c0 := HT.out.c0 K hK8
      rw [hz] at c0
      have HLT : Hid ((tcells (iterC t i n)).length = 16) := Lib.hid (by rw [tcells_len]; exact hv.len)
      have HONE := Lib.hid (tcells_one (iterC t i n))
      have HCT : Hid ((((tcells (iterC t i n)).drop 0).take 16).toArray = (tcells (iterC t i n)).toArray) := Lib.hid (by rw [List.drop_zero, List.take_of_length_le (by rw [HLT.out]; decide)])
      clear hcl hz hv HE HI hK hend
      generalize iterC t i n = T at *
      go_wp2_with (first | (refine wpList_load_part rfl 69 _ rfl w.heap.size 0 16 rfl 69 (tcells T) _ HT.out.2 (by rw [HLT.out]; decide) Try.underlying69 rfl (by kernel_rfl) ?_; rw [HCT.out]) | (refine wpList_store_part rfl 69 _ _ rfl (w.heap.size + 1) 0 16 (tcells T) rfl rfl 69 (tcells [0, 0, 0, 0, 0, 0, 0, 0, 0, 0, 0, 0, 0, 0, 0, 0]) HR.out.2 HLT.out (by decide) (by kernel_rfl) HONE.out ?_))
      have hsp : spl (tcells [0, 0, 0, 0, 0, 0, 0, 0, 0, 0, 0, 0, 0, 0, 0, 0]) 0 (tcells T) = tcells T := by
        unfold spl
        rw [HLT.out, List.take_zero, List.nil_append, List.drop_of_length_le (by decide), List.append_nil]
      rw [hsp]
      have hR2 : Blk (setBlk wr (w.heap.size + 1) (tcells T)) (w.heap.size + 1) (tcells T) 69 := HR.out.2.setBlk _
      have hB2 : Below w.heap.size w (setBlk wr (w.heap.size + 1) (tcells T)) := bsetBlk HB.out (by omega) _
      refine bodyPost_ret (v := .agg (tcells T).toArray) (results1_cell _ _ rfl (w.heap.size + 1) (tcells T) 69 _ rfl hR2 Try.underlying69 rfl (by rw [HLT.out]; kernel_rfl)) rfl ⟨by rw [HCL.out], hB2⟩
    · have hlt : n + 1 < E := by omega
      have hz : tk (iterC t i n) K ≠ 0 := by
        have := hv.run (n + 1) (by omega) hlt
        rwa [show (i + (n + 1)) % 8 = K by omega] at this
      obtain ⟨a, ha8, haI, ha0, -, -⟩ := stepC_at hv hi hlt E7
      rw [← hK] at haI
      have hk0 := hv.key0 K hK8
      have hk1 := hv.key1 K hK8
      have hstep : setS (setS (iterC t i n) K 0 0) a (tk (iterC t i n) K) (tv (iterC t i n) K) = iterC t i (n + 1) := by
        show _ = stepC (iterC t i n) ((i + 1 + n) % 8)
        rw [← hK]; unfold stepC; rw [haI, Int.toNat_natCast]
      have HST := Lib.hid hstep
      have HAI := Lib.hid haI
      have b0 : (tk (iterC t i n) K != 0) = true := by simp [hz]
      have HL := Lib.hid hv.len
      have HK := Lib.hid hK
      clear hstep haI ha0 hv hz HE HI hK hend
      generalize iterC t i n = T at *
      have c0 := HT.out.c0 K hK8
      have c1 := HT.out.c1 K hK8
      have f0 := HT.out.f (K * 2)
      have f1 := HT.out.f (K * 2 + 1)
      have hwz := HR.out.2.lt
      have hwz0 := HT.out.2.lt
      generalize tk T K = key at *
      generalize tv T K = val at *
      go_wp2_with fail
      have HT4 := HT.out.put K 0 0
      have HR4 : TabAt (((wr.setCell ⟨w.heap.size, K * 2, none⟩ (.int .i64 0)).setCell ⟨w.heap.size, K * 2 + 1, none⟩ (.int .i64 0))) _ _ := (HR.out.other (p := ⟨w.heap.size, K * 2, none⟩) (.int .i64 0) (by show w.heap.size + 1 ≠ w.heap.size; omega)).other (p := ⟨w.heap.size, K * 2 + 1, none⟩) (.int .i64 0) (by show w.heap.size + 1 ≠ w.heap.size; omega)
      have HB4 : Below w.heap.size w (((wr.setCell ⟨w.heap.size, K * 2, none⟩ (.int .i64 0)).setCell ⟨w.heap.size, K * 2 + 1, none⟩ (.int .i64 0))) := bstore (bstore HB.out (Nat.le_refl _) _) (Nat.le_refl _) _
      have hsz : (((wr.setCell ⟨w.heap.size, K * 2, none⟩ (.int .i64 0)).setCell ⟨w.heap.size, K * 2 + 1, none⟩ (.int .i64 0))).heap.size = wr.heap.size := by simp [World.setCell]
      have hb := balloc (Below.refl _ (((wr.setCell ⟨w.heap.size, K * 2, none⟩ (.int .i64 0)).setCell ⟨w.heap.size, K * 2 + 1, none⟩ (.int .i64 0)))) (Obj.cells #[.int .i64 key, .int .i64 val] 67)
      have HX5 := Blk.new (((wr.setCell ⟨w.heap.size, K * 2, none⟩ (.int .i64 0)).setCell ⟨w.heap.size, K * 2 + 1, none⟩ (.int .i64 0))) [.int .i64 key, .int .i64 val] 67
      rw [hsz] at HX5
      replace HX5 : Hid (Blk ((((wr.setCell ⟨w.heap.size, K * 2, none⟩ (.int .i64 0)).setCell ⟨w.heap.size, K * 2 + 1, none⟩ (.int .i64 0))).alloc (Obj.cells #[.int .i64 key, .int .i64 val] 67)) _ _ _) := Lib.hid HX5
      have HT5 := Lib.hid (HT4.below hb)
      have HR5 := Lib.hid (HR4.below hb)
      have HB5 := Lib.hid (bcall HB4 hb)
      clear hb HT HR HB c0 c1 f0 f1 HT4 HR4 HB4 hsz
      generalize (((wr.setCell ⟨w.heap.size, K * 2, none⟩ (.int .i64 0)).setCell ⟨w.heap.size, K * 2 + 1, none⟩ (.int .i64 0))).alloc (Obj.cells #[.int .i64 key, .int .i64 val] 67) = w5 at *
      generalize wr.heap.size = c at *
      refine wp_region_still_tail 5 (by kernel_rfl) (by kernel_rfl) ?_
      rw [show ({ w5 with drawn := w5.drawn + 1 } : World) = w5.drew from rfl]
      replace HX5 := Lib.hid (Blk.drew HX5.out)
      replace HT5 := Lib.hid (TabAt.drew HT5.out)
      replace HR5 := Lib.hid (TabAt.drew HR5.out)
      replace HB5 := Lib.hid HB5.out.drew
      generalize w5.drew = w6 at *
      have HC : Hid (Calls Try.prog 62 #[.pointer (some ⟨w.heap.size, 0, none⟩), .int .i64 key] w6 (fun e w'' => e = .returned (.int .i64 (a : Nat)) ∧ w'' = w6)) :=
        Lib.hid ((at_any key _ w.heap.size (setS T K 0 0) HT5.out hk0 hk1).mono (fun _ _ h => ⟨by rw [h.1, HAI.out], h.2.symm⟩))
      have x0' := HX5.out.cell 0
      have x1' := HX5.out.cell 1
      have y0 := HT5.out.c0 a ha8
      have y1 := HT5.out.c1 a ha8
      have g0 := HT5.out.f (a * 2)
      have g1 := HT5.out.f (a * 2 + 1)
      have ha0 : (0 : Int) ≤ (a : Int) := Int.natCast_nonneg _
      have ha7 : (a : Int) < 8 := by omega
      generalize tk (setS T K 0 0) a = z0 at *
      generalize tv (setS T K 0 0) a = z1 at *
      simp only [List.take_succ_cons, List.take_zero, List.drop_succ_cons, List.drop_zero]
      still_step
      still_step
      still_call HC.out
      still_step
      still_step
      refine wpStill_nil ?_
      go_wp2_with fail
      go_roundw
      case rel =>
        have hT := HT5.out.put a key val
        rw [HST.out] at hT
        exact ⟨n + 1, (K + 1) % 8, hlt, by have := HK.out; omega, int_val (by omega), bstore (bstore HB5.out (Nat.le_refl _) _) (Nat.le_refl _) _, hT, (HR5.out.other (p := ⟨w.heap.size, a * 2, none⟩) (.int .i64 key) (by show w.heap.size + 1 ≠ w.heap.size; omega)).other (p := ⟨w.heap.size, a * 2 + 1, none⟩) (.int .i64 val) (by show w.heap.size + 1 ≠ w.heap.size; omega)⟩
      case measure =>
        have := HK.out
        simp only [intOf]; omega
end Go.Proofs.Ytpedkcpkdacnlaa
end
section
namespace Go.Proofs.Ytpedkcpkdacnlaa
open Go.RowKit
set_option maxRecDepth 20000
set_option linter.unusedVariables false
theorem tcells_take (t : List Int) (h : t.length = 16) : (((tcells t).drop 0).take 16).toArray = (tcells t).toArray := by
  rw [List.drop_zero, List.take_of_length_le (by rw [tcells_len, h]; decide)]
theorem spl_whole (C vs : List Value) (h : C.length = vs.length) : spl C 0 vs = vs := by
  unfold spl; rw [List.take_zero, List.nil_append, List.drop_of_length_le (by omega), List.append_nil]
theorem spl_z16 (vs : List Value) (h : vs.length = 16) : spl [.int .i64 0, .int .i64 0, .int .i64 0, .int .i64 0, .int .i64 0, .int .i64 0, .int .i64 0, .int .i64 0, .int .i64 0, .int .i64 0, .int .i64 0, .int .i64 0, .int .i64 0, .int .i64 0, .int .i64 0, .int .i64 0] 0 vs = vs := spl_whole _ _ h.symm
set_option maxHeartbeats 2000000 in
theorem do_wrong (w : World) (t : List Int) (g : Good t) (what key value : Int) (h1 : what ≠ 1) (h2 : what ≠ 2) (h5 : what ≠ 5) (h6 : what ≠ 6) :
    Calls Try.prog 51 #[.agg (tcells t).toArray, .agg #[.int .i64 what, .int .i64 key, .int .i64 value]] w fun e w' => e = .returned (.tuple #[.agg (tcells (doT t what key value).1).toArray, .agg #[.int .i64 (doT t what key value).2.1, .int .i64 (doT t what key value).2.2]]) ∧ Below w.heap.size w w' := by
  have hd : doT t what key value = (t, 5, 0) := by unfold doT; rw [if_neg h6, if_pos (.inl ⟨h1, h2, h5⟩)]
  have HD := Lib.hid hd
  clear hd
  have b6 : (what == 6) = false := by simp [h6]
  have b1 : (what != 1) = true := by simp [h1]
  have b2 : (what != 2) = true := by simp [h2]
  have b5 : (what != 5) = true := by simp [h5]
  clear h1 h2 h5 h6
  have HL := Lib.hid g.len
  have HB := Lib.hid (Below.refl w.heap.size w)
  have HONE := Lib.hid (tcells_one t)
  have HLT : Hid ((tcells t).length = 16) := Lib.hid (by rw [tcells_len]; exact g.len)
  have HCT := Lib.hid (tcells_take t g.len)
  have HG := Lib.hid g
  clear g
  go_enter Try.func51, Try.ntmps51
  go_upto_region 1 with fail
  have hb1 := balloc (Below.refl _ w) (Obj.cells (tcells t).toArray 69)
  have T := Lib.hid (Blk.new w (tcells t) 69)
  change Hid (Blk (w.alloc (Obj.cells (tcells t).toArray 69)) _ _ _) at T
  have ZT : Hid ((w.alloc (Obj.cells (tcells t).toArray 69)).heap.size = w.heap.size + 1) := World.size_alloc _ _
  replace HB := Lib.hid (bcall HB.out hb1)
  clear hb1
  generalize w.alloc (Obj.cells (tcells t).toArray 69) = w1 at *
  have hb2 := balloc (Below.refl _ w1) (Obj.cells #[.int .i64 what, .int .i64 key, .int .i64 value] 30)
  have O := Lib.hid (Blk.new w1 [.int .i64 what, .int .i64 key, .int .i64 value] 30)
  change Hid (Blk (w1.alloc (Obj.cells #[.int .i64 what, .int .i64 key, .int .i64 value] 30)) _ _ _) at O
  have ZO : Hid ((w1.alloc (Obj.cells #[.int .i64 what, .int .i64 key, .int .i64 value] 30)).heap.size = w1.heap.size + 1) := World.size_alloc _ _
  replace HB := Lib.hid (bcall HB.out hb2)
  replace T := Lib.hid (T.out.below hb2)
  clear hb2
  rw [ZT.out] at O ZO
  clear ZT
  generalize w1.alloc (Obj.cells #[.int .i64 what, .int .i64 key, .int .i64 value] 30) = w2 at *
  have O_c0 : w2.cell? ⟨(w.heap.size + 1), 0, none⟩ = some (.int .i64 what) := O.out.cell 0
  have O_c1 : w2.cell? ⟨(w.heap.size + 1), 1, none⟩ = some (.int .i64 key) := O.out.cell 1
  have O_c2 : w2.cell? ⟨(w.heap.size + 1), 2, none⟩ = some (.int .i64 value) := O.out.cell 2
  have O_z : (w.heap.size + 1) < w2.heap.size := O.out.lt
  have hb3 := balloc (Below.refl _ w2) (Obj.cells #[.int .i64 0, .int .i64 0, .int .i64 0, .int .i64 0, .int .i64 0, .int .i64 0, .int .i64 0, .int .i64 0, .int .i64 0, .int .i64 0, .int .i64 0, .int .i64 0, .int .i64 0, .int .i64 0, .int .i64 0, .int .i64 0] 69)
  have R := Lib.hid (Blk.new w2 [.int .i64 0, .int .i64 0, .int .i64 0, .int .i64 0, .int .i64 0, .int .i64 0, .int .i64 0, .int .i64 0, .int .i64 0, .int .i64 0, .int .i64 0, .int .i64 0, .int .i64 0, .int .i64 0, .int .i64 0, .int .i64 0] 69)
  change Hid (Blk (w2.alloc (Obj.cells #[.int .i64 0, .int .i64 0, .int .i64 0, .int .i64 0, .int .i64 0, .int .i64 0, .int .i64 0, .int .i64 0, .int .i64 0, .int .i64 0, .int .i64 0, .int .i64 0, .int .i64 0, .int .i64 0, .int .i64 0, .int .i64 0] 69)) _ _ _) at R
  have ZR : Hid ((w2.alloc (Obj.cells #[.int .i64 0, .int .i64 0, .int .i64 0, .int .i64 0, .int .i64 0, .int .i64 0, .int .i64 0, .int .i64 0, .int .i64 0, .int .i64 0, .int .i64 0, .int .i64 0, .int .i64 0, .int .i64 0, .int .i64 0, .int .i64 0] 69)).heap.size = w2.heap.size + 1) := World.size_alloc _ _
  clear O_c0 O_c1 O_c2 O_z
  replace HB := Lib.hid (bcall HB.out hb3)
  replace T := Lib.hid (T.out.below hb3)
  replace O := Lib.hid (O.out.below hb3)
  clear hb3
  rw [ZO.out] at R ZR
  clear ZO
  generalize w2.alloc (Obj.cells #[.int .i64 0, .int .i64 0, .int .i64 0, .int .i64 0, .int .i64 0, .int .i64 0, .int .i64 0, .int .i64 0, .int .i64 0, .int .i64 0, .int .i64 0, .int .i64 0, .int .i64 0, .int .i64 0, .int .i64 0, .int .i64 0] 69) = w3 at *
  have O_c0 : w3.cell? ⟨(w.heap.size + 1), 0, none⟩ = some (.int .i64 what) := O.out.cell 0
  have O_c1 : w3.cell? ⟨(w.heap.size + 1), 1, none⟩ = some (.int .i64 key) := O.out.cell 1
  have O_c2 : w3.cell? ⟨(w.heap.size + 1), 2, none⟩ = some (.int .i64 value) := O.out.cell 2
  have O_z : (w.heap.size + 1) < w3.heap.size := O.out.lt
  have hb4 := balloc (Below.refl _ w3) (Obj.cells #[.int .i64 0, .int .i64 0] 26)
  have A := Lib.hid (Blk.new w3 [.int .i64 0, .int .i64 0] 26)
  change Hid (Blk (w3.alloc (Obj.cells #[.int .i64 0, .int .i64 0] 26)) _ _ _) at A
  have ZA : Hid ((w3.alloc (Obj.cells #[.int .i64 0, .int .i64 0] 26)).heap.size = w3.heap.size + 1) := World.size_alloc _ _
  clear O_c0 O_c1 O_c2 O_z
  replace HB := Lib.hid (bcall HB.out hb4)
  replace T := Lib.hid (T.out.below hb4)
  replace O := Lib.hid (O.out.below hb4)
  replace R := Lib.hid (R.out.below hb4)
  clear hb4
  rw [ZR.out] at A ZA
  clear ZR
  generalize w3.alloc (Obj.cells #[.int .i64 0, .int .i64 0] 26) = w4 at *
  have O_c0 : w4.cell? ⟨(w.heap.size + 1), 0, none⟩ = some (.int .i64 what) := O.out.cell 0
  have O_c1 : w4.cell? ⟨(w.heap.size + 1), 1, none⟩ = some (.int .i64 key) := O.out.cell 1
  have O_c2 : w4.cell? ⟨(w.heap.size + 1), 2, none⟩ = some (.int .i64 value) := O.out.cell 2
  have O_z : (w.heap.size + 1) < w4.heap.size := O.out.lt
  go_wp2_with (first | (refine wpList_load_part rfl 69 _ rfl w.heap.size 0 16 rfl 69 (tcells t) _ T.out (by rw [HLT.out]; decide) Try.underlying69 rfl (by kernel_rfl) ?_; rw [HCT.out]) | (refine wpList_store_part rfl 69 _ _ rfl (w.heap.size + 1 + 1) 0 16 (tcells t) rfl rfl 69 _ R.out HLT.out (by decide) (by kernel_rfl) HONE.out ?_; rw [spl_z16 _ HLT.out]; have aa0 := (A.out.otherBlk (tcells t) (show w.heap.size + 1 + 1 + 1 ≠ w.heap.size + 1 + 1 by omega)).cell 0; have aa1 := (A.out.otherBlk (tcells t) (show w.heap.size + 1 + 1 + 1 ≠ w.heap.size + 1 + 1 by omega)).cell 1; have af0 := (A.out.otherBlk (tcells t) (show w.heap.size + 1 + 1 + 1 ≠ w.heap.size + 1 + 1 by omega)).frozen 0; have af1 := (A.out.otherBlk (tcells t) (show w.heap.size + 1 + 1 + 1 ≠ w.heap.size + 1 + 1 by omega)).frozen 1))
  have hR2 : Blk (((setBlk w4 (w.heap.size + 1 + 1) (tcells t)).setCell ⟨w.heap.size + 1 + 1 + 1, 0, none⟩ (.int .i64 5)).setCell ⟨w.heap.size + 1 + 1 + 1, 1, none⟩ (.int .i64 0)) (w.heap.size + 1 + 1) (tcells t) 69 :=
    ((R.out.setBlk _).other _ (by show w.heap.size + 1 + 1 ≠ w.heap.size + 1 + 1 + 1; omega)).other _ (by show w.heap.size + 1 + 1 ≠ w.heap.size + 1 + 1 + 1; omega)
  have hA2 : Blk (((setBlk w4 (w.heap.size + 1 + 1) (tcells t)).setCell ⟨w.heap.size + 1 + 1 + 1, 0, none⟩ (.int .i64 5)).setCell ⟨w.heap.size + 1 + 1 + 1, 1, none⟩ (.int .i64 0)) (w.heap.size + 1 + 1 + 1) [.int .i64 5, .int .i64 0] 26 :=
    Blk.pair (A.out.otherBlk _ (by omega))
  have hB2 : Below w.heap.size w (((setBlk w4 (w.heap.size + 1 + 1) (tcells t)).setCell ⟨w.heap.size + 1 + 1 + 1, 0, none⟩ (.int .i64 5)).setCell ⟨w.heap.size + 1 + 1 + 1, 1, none⟩ (.int .i64 0)) :=
    bstore (bstore (bsetBlk HB.out (by omega) _) (by show w.heap.size ≤ w.heap.size + 1 + 1 + 1; omega) _) (by show w.heap.size ≤ w.heap.size + 1 + 1 + 1; omega) _
  refine bodyPost_ret (v := .tuple #[.agg (tcells t).toArray, .agg #[.int .i64 5, .int .i64 0]]) (results2_cells _ _ _ _ rfl (w.heap.size + 1 + 1) (w.heap.size + 1 + 1 + 1) (tcells t) [.int .i64 5, .int .i64 0] 69 26 _ _ rfl rfl hR2 hA2 Try.underlying69 rfl (by rw [HLT.out]; kernel_rfl) Try.underlying26 rfl (by kernel_rfl)) rfl ⟨?_, hB2⟩
  rw [HD.out]
set_option maxHeartbeats 2000000 in
theorem do_key1lo (w : World) (t : List Int) (g : Good t) (what key value : Int) (hw : what = 1) (hk : key < 1) :
    Calls Try.prog 51 #[.agg (tcells t).toArray, .agg #[.int .i64 what, .int .i64 key, .int .i64 value]] w fun e w' => e = .returned (.tuple #[.agg (tcells (doT t what key value).1).toArray, .agg #[.int .i64 (doT t what key value).2.1, .int .i64 (doT t what key value).2.2]]) ∧ Below w.heap.size w w' := by
  subst hw
  have hd : doT t 1 key value = (t, 5, 0) := by unfold doT; rw [if_neg (by decide), if_pos (.inr (.inl hk))]
  have HD := Lib.hid hd
  clear hd
  have k1 : decide (key < 1) = true := by simp [hk]
  clear hk
  have HL := Lib.hid g.len
  have HB := Lib.hid (Below.refl w.heap.size w)
  have HONE := Lib.hid (tcells_one t)
  have HLT : Hid ((tcells t).length = 16) := Lib.hid (by rw [tcells_len]; exact g.len)
  have HCT := Lib.hid (tcells_take t g.len)
  have HG := Lib.hid g
  clear g
  go_enter Try.func51, Try.ntmps51
  go_upto_region 1 with fail
  have hb1 := balloc (Below.refl _ w) (Obj.cells (tcells t).toArray 69)
  have T := Lib.hid (Blk.new w (tcells t) 69)
  change Hid (Blk (w.alloc (Obj.cells (tcells t).toArray 69)) _ _ _) at T
  have ZT : Hid ((w.alloc (Obj.cells (tcells t).toArray 69)).heap.size = w.heap.size + 1) := World.size_alloc _ _
  replace HB := Lib.hid (bcall HB.out hb1)
  clear hb1
  generalize w.alloc (Obj.cells (tcells t).toArray 69) = w1 at *
  have hb2 := balloc (Below.refl _ w1) (Obj.cells #[.int .i64 1, .int .i64 key, .int .i64 value] 30)
  have O := Lib.hid (Blk.new w1 [.int .i64 1, .int .i64 key, .int .i64 value] 30)
  change Hid (Blk (w1.alloc (Obj.cells #[.int .i64 1, .int .i64 key, .int .i64 value] 30)) _ _ _) at O
  have ZO : Hid ((w1.alloc (Obj.cells #[.int .i64 1, .int .i64 key, .int .i64 value] 30)).heap.size = w1.heap.size + 1) := World.size_alloc _ _
  replace HB := Lib.hid (bcall HB.out hb2)
  replace T := Lib.hid (T.out.below hb2)
  clear hb2
  rw [ZT.out] at O ZO
  clear ZT
  generalize w1.alloc (Obj.cells #[.int .i64 1, .int .i64 key, .int .i64 value] 30) = w2 at *
  have O_c0 : w2.cell? ⟨(w.heap.size + 1), 0, none⟩ = some (.int .i64 1) := O.out.cell 0
  have O_c1 : w2.cell? ⟨(w.heap.size + 1), 1, none⟩ = some (.int .i64 key) := O.out.cell 1
  have O_c2 : w2.cell? ⟨(w.heap.size + 1), 2, none⟩ = some (.int .i64 value) := O.out.cell 2
  have O_z : (w.heap.size + 1) < w2.heap.size := O.out.lt
  have hb3 := balloc (Below.refl _ w2) (Obj.cells #[.int .i64 0, .int .i64 0, .int .i64 0, .int .i64 0, .int .i64 0, .int .i64 0, .int .i64 0, .int .i64 0, .int .i64 0, .int .i64 0, .int .i64 0, .int .i64 0, .int .i64 0, .int .i64 0, .int .i64 0, .int .i64 0] 69)
  have R := Lib.hid (Blk.new w2 [.int .i64 0, .int .i64 0, .int .i64 0, .int .i64 0, .int .i64 0, .int .i64 0, .int .i64 0, .int .i64 0, .int .i64 0, .int .i64 0, .int .i64 0, .int .i64 0, .int .i64 0, .int .i64 0, .int .i64 0, .int .i64 0] 69)
  change Hid (Blk (w2.alloc (Obj.cells #[.int .i64 0, .int .i64 0, .int .i64 0, .int .i64 0, .int .i64 0, .int .i64 0, .int .i64 0, .int .i64 0, .int .i64 0, .int .i64 0, .int .i64 0, .int .i64 0, .int .i64 0, .int .i64 0, .int .i64 0, .int .i64 0] 69)) _ _ _) at R
  have ZR : Hid ((w2.alloc (Obj.cells #[.int .i64 0, .int .i64 0, .int .i64 0, .int .i64 0, .int .i64 0, .int .i64 0, .int .i64 0, .int .i64 0, .int .i64 0, .int .i64 0, .int .i64 0, .int .i64 0, .int .i64 0, .int .i64 0, .int .i64 0, .int .i64 0] 69)).heap.size = w2.heap.size + 1) := World.size_alloc _ _
  clear O_c0 O_c1 O_c2 O_z
  replace HB := Lib.hid (bcall HB.out hb3)
  replace T := Lib.hid (T.out.below hb3)
  replace O := Lib.hid (O.out.below hb3)
  clear hb3
  rw [ZO.out] at R ZR
  clear ZO
  generalize w2.alloc (Obj.cells #[.int .i64 0, .int .i64 0, .int .i64 0, .int .i64 0, .int .i64 0, .int .i64 0, .int .i64 0, .int .i64 0, .int .i64 0, .int .i64 0, .int .i64 0, .int .i64 0, .int .i64 0, .int .i64 0, .int .i64 0, .int .i64 0] 69) = w3 at *
  have O_c0 : w3.cell? ⟨(w.heap.size + 1), 0, none⟩ = some (.int .i64 1) := O.out.cell 0
  have O_c1 : w3.cell? ⟨(w.heap.size + 1), 1, none⟩ = some (.int .i64 key) := O.out.cell 1
  have O_c2 : w3.cell? ⟨(w.heap.size + 1), 2, none⟩ = some (.int .i64 value) := O.out.cell 2
  have O_z : (w.heap.size + 1) < w3.heap.size := O.out.lt
  have hb4 := balloc (Below.refl _ w3) (Obj.cells #[.int .i64 0, .int .i64 0] 26)
  have A := Lib.hid (Blk.new w3 [.int .i64 0, .int .i64 0] 26)
  change Hid (Blk (w3.alloc (Obj.cells #[.int .i64 0, .int .i64 0] 26)) _ _ _) at A
  have ZA : Hid ((w3.alloc (Obj.cells #[.int .i64 0, .int .i64 0] 26)).heap.size = w3.heap.size + 1) := World.size_alloc _ _
  clear O_c0 O_c1 O_c2 O_z
  replace HB := Lib.hid (bcall HB.out hb4)
  replace T := Lib.hid (T.out.below hb4)
  replace O := Lib.hid (O.out.below hb4)
  replace R := Lib.hid (R.out.below hb4)
  clear hb4
  rw [ZR.out] at A ZA
  clear ZR
  generalize w3.alloc (Obj.cells #[.int .i64 0, .int .i64 0] 26) = w4 at *
  have O_c0 : w4.cell? ⟨(w.heap.size + 1), 0, none⟩ = some (.int .i64 1) := O.out.cell 0
  have O_c1 : w4.cell? ⟨(w.heap.size + 1), 1, none⟩ = some (.int .i64 key) := O.out.cell 1
  have O_c2 : w4.cell? ⟨(w.heap.size + 1), 2, none⟩ = some (.int .i64 value) := O.out.cell 2
  have O_z : (w.heap.size + 1) < w4.heap.size := O.out.lt
  go_wp2_with (first | (refine wpList_load_part rfl 69 _ rfl w.heap.size 0 16 rfl 69 (tcells t) _ T.out (by rw [HLT.out]; decide) Try.underlying69 rfl (by kernel_rfl) ?_; rw [HCT.out]) | (refine wpList_store_part rfl 69 _ _ rfl (w.heap.size + 1 + 1) 0 16 (tcells t) rfl rfl 69 _ R.out HLT.out (by decide) (by kernel_rfl) HONE.out ?_; rw [spl_z16 _ HLT.out]; have aa0 := (A.out.otherBlk (tcells t) (show w.heap.size + 1 + 1 + 1 ≠ w.heap.size + 1 + 1 by omega)).cell 0; have aa1 := (A.out.otherBlk (tcells t) (show w.heap.size + 1 + 1 + 1 ≠ w.heap.size + 1 + 1 by omega)).cell 1; have af0 := (A.out.otherBlk (tcells t) (show w.heap.size + 1 + 1 + 1 ≠ w.heap.size + 1 + 1 by omega)).frozen 0; have af1 := (A.out.otherBlk (tcells t) (show w.heap.size + 1 + 1 + 1 ≠ w.heap.size + 1 + 1 by omega)).frozen 1))
  have hR2 : Blk (((setBlk w4 (w.heap.size + 1 + 1) (tcells t)).setCell ⟨w.heap.size + 1 + 1 + 1, 0, none⟩ (.int .i64 5)).setCell ⟨w.heap.size + 1 + 1 + 1, 1, none⟩ (.int .i64 0)) (w.heap.size + 1 + 1) (tcells t) 69 :=
    ((R.out.setBlk _).other _ (by show w.heap.size + 1 + 1 ≠ w.heap.size + 1 + 1 + 1; omega)).other _ (by show w.heap.size + 1 + 1 ≠ w.heap.size + 1 + 1 + 1; omega)
  have hA2 : Blk (((setBlk w4 (w.heap.size + 1 + 1) (tcells t)).setCell ⟨w.heap.size + 1 + 1 + 1, 0, none⟩ (.int .i64 5)).setCell ⟨w.heap.size + 1 + 1 + 1, 1, none⟩ (.int .i64 0)) (w.heap.size + 1 + 1 + 1) [.int .i64 5, .int .i64 0] 26 :=
    Blk.pair (A.out.otherBlk _ (by omega))
  have hB2 : Below w.heap.size w (((setBlk w4 (w.heap.size + 1 + 1) (tcells t)).setCell ⟨w.heap.size + 1 + 1 + 1, 0, none⟩ (.int .i64 5)).setCell ⟨w.heap.size + 1 + 1 + 1, 1, none⟩ (.int .i64 0)) :=
    bstore (bstore (bsetBlk HB.out (by omega) _) (by show w.heap.size ≤ w.heap.size + 1 + 1 + 1; omega) _) (by show w.heap.size ≤ w.heap.size + 1 + 1 + 1; omega) _
  refine bodyPost_ret (v := .tuple #[.agg (tcells t).toArray, .agg #[.int .i64 5, .int .i64 0]]) (results2_cells _ _ _ _ rfl (w.heap.size + 1 + 1) (w.heap.size + 1 + 1 + 1) (tcells t) [.int .i64 5, .int .i64 0] 69 26 _ _ rfl rfl hR2 hA2 Try.underlying69 rfl (by rw [HLT.out]; kernel_rfl) Try.underlying26 rfl (by kernel_rfl)) rfl ⟨?_, hB2⟩
  rw [HD.out]
set_option maxHeartbeats 2000000 in
theorem do_key1hi (w : World) (t : List Int) (g : Good t) (what key value : Int) (hw : what = 1) (hk : 1000 < key) :
    Calls Try.prog 51 #[.agg (tcells t).toArray, .agg #[.int .i64 what, .int .i64 key, .int .i64 value]] w fun e w' => e = .returned (.tuple #[.agg (tcells (doT t what key value).1).toArray, .agg #[.int .i64 (doT t what key value).2.1, .int .i64 (doT t what key value).2.2]]) ∧ Below w.heap.size w w' := by
  subst hw
  have hd : doT t 1 key value = (t, 5, 0) := by unfold doT; rw [if_neg (by decide), if_pos (.inr (.inr hk))]
  have HD := Lib.hid hd
  clear hd
  have k1 : decide (key < 1) = false := by simp; omega
  have k2 : decide (1000 < key) = true := by simp [hk]
  clear hk
  have HL := Lib.hid g.len
  have HB := Lib.hid (Below.refl w.heap.size w)
  have HONE := Lib.hid (tcells_one t)
  have HLT : Hid ((tcells t).length = 16) := Lib.hid (by rw [tcells_len]; exact g.len)
  have HCT := Lib.hid (tcells_take t g.len)
  have HG := Lib.hid g
  clear g
  go_enter Try.func51, Try.ntmps51
  go_upto_region 1 with fail
  have hb1 := balloc (Below.refl _ w) (Obj.cells (tcells t).toArray 69)
  have T := Lib.hid (Blk.new w (tcells t) 69)
  change Hid (Blk (w.alloc (Obj.cells (tcells t).toArray 69)) _ _ _) at T
  have ZT : Hid ((w.alloc (Obj.cells (tcells t).toArray 69)).heap.size = w.heap.size + 1) := World.size_alloc _ _
  replace HB := Lib.hid (bcall HB.out hb1)
  clear hb1
  generalize w.alloc (Obj.cells (tcells t).toArray 69) = w1 at *
  have hb2 := balloc (Below.refl _ w1) (Obj.cells #[.int .i64 1, .int .i64 key, .int .i64 value] 30)
  have O := Lib.hid (Blk.new w1 [.int .i64 1, .int .i64 key, .int .i64 value] 30)
  change Hid (Blk (w1.alloc (Obj.cells #[.int .i64 1, .int .i64 key, .int .i64 value] 30)) _ _ _) at O
  have ZO : Hid ((w1.alloc (Obj.cells #[.int .i64 1, .int .i64 key, .int .i64 value] 30)).heap.size = w1.heap.size + 1) := World.size_alloc _ _
  replace HB := Lib.hid (bcall HB.out hb2)
  replace T := Lib.hid (T.out.below hb2)
  clear hb2
  rw [ZT.out] at O ZO
  clear ZT
  generalize w1.alloc (Obj.cells #[.int .i64 1, .int .i64 key, .int .i64 value] 30) = w2 at *
  have O_c0 : w2.cell? ⟨(w.heap.size + 1), 0, none⟩ = some (.int .i64 1) := O.out.cell 0
  have O_c1 : w2.cell? ⟨(w.heap.size + 1), 1, none⟩ = some (.int .i64 key) := O.out.cell 1
  have O_c2 : w2.cell? ⟨(w.heap.size + 1), 2, none⟩ = some (.int .i64 value) := O.out.cell 2
  have O_z : (w.heap.size + 1) < w2.heap.size := O.out.lt
  have hb3 := balloc (Below.refl _ w2) (Obj.cells #[.int .i64 0, .int .i64 0, .int .i64 0, .int .i64 0, .int .i64 0, .int .i64 0, .int .i64 0, .int .i64 0, .int .i64 0, .int .i64 0, .int .i64 0, .int .i64 0, .int .i64 0, .int .i64 0, .int .i64 0, .int .i64 0] 69)
  have R := Lib.hid (Blk.new w2 [.int .i64 0, .int .i64 0, .int .i64 0, .int .i64 0, .int .i64 0, .int .i64 0, .int .i64 0, .int .i64 0, .int .i64 0, .int .i64 0, .int .i64 0, .int .i64 0, .int .i64 0, .int .i64 0, .int .i64 0, .int .i64 0] 69)
  change Hid (Blk (w2.alloc (Obj.cells #[.int .i64 0, .int .i64 0, .int .i64 0, .int .i64 0, .int .i64 0, .int .i64 0, .int .i64 0, .int .i64 0, .int .i64 0, .int .i64 0, .int .i64 0, .int .i64 0, .int .i64 0, .int .i64 0, .int .i64 0, .int .i64 0] 69)) _ _ _) at R
  have ZR : Hid ((w2.alloc (Obj.cells #[.int .i64 0, .int .i64 0, .int .i64 0, .int .i64 0, .int .i64 0, .int .i64 0, .int .i64 0, .int .i64 0, .int .i64 0, .int .i64 0, .int .i64 0, .int .i64 0, .int .i64 0, .int .i64 0, .int .i64 0, .int .i64 0] 69)).heap.size = w2.heap.size + 1) := World.size_alloc _ _
  clear O_c0 O_c1 O_c2 O_z
  replace HB := Lib.hid (bcall HB.out hb3)
  replace T := Lib.hid (T.out.below hb3)
  replace O := Lib.hid (O.out.below hb3)
  clear hb3
  rw [ZO.out] at R ZR
  clear ZO
  generalize w2.alloc (Obj.cells #[.int .i64 0, .int .i64 0, .int .i64 0, .int .i64 0, .int .i64 0, .int .i64 0, .int .i64 0, .int .i64 0, .int .i64 0, .int .i64 0, .int .i64 0, .int .i64 0, .int .i64 0, .int .i64 0, .int .i64 0, .int .i64 0] 69) = w3 at *
  have O_c0 : w3.cell? ⟨(w.heap.size + 1), 0, none⟩ = some (.int .i64 1) := O.out.cell 0
  have O_c1 : w3.cell? ⟨(w.heap.size + 1), 1, none⟩ = some (.int .i64 key) := O.out.cell 1
  have O_c2 : w3.cell? ⟨(w.heap.size + 1), 2, none⟩ = some (.int .i64 value) := O.out.cell 2
  have O_z : (w.heap.size + 1) < w3.heap.size := O.out.lt
  have hb4 := balloc (Below.refl _ w3) (Obj.cells #[.int .i64 0, .int .i64 0] 26)
  have A := Lib.hid (Blk.new w3 [.int .i64 0, .int .i64 0] 26)
  change Hid (Blk (w3.alloc (Obj.cells #[.int .i64 0, .int .i64 0] 26)) _ _ _) at A
  have ZA : Hid ((w3.alloc (Obj.cells #[.int .i64 0, .int .i64 0] 26)).heap.size = w3.heap.size + 1) := World.size_alloc _ _
  clear O_c0 O_c1 O_c2 O_z
  replace HB := Lib.hid (bcall HB.out hb4)
  replace T := Lib.hid (T.out.below hb4)
  replace O := Lib.hid (O.out.below hb4)
  replace R := Lib.hid (R.out.below hb4)
  clear hb4
  rw [ZR.out] at A ZA
  clear ZR
  generalize w3.alloc (Obj.cells #[.int .i64 0, .int .i64 0] 26) = w4 at *
  have O_c0 : w4.cell? ⟨(w.heap.size + 1), 0, none⟩ = some (.int .i64 1) := O.out.cell 0
  have O_c1 : w4.cell? ⟨(w.heap.size + 1), 1, none⟩ = some (.int .i64 key) := O.out.cell 1
  have O_c2 : w4.cell? ⟨(w.heap.size + 1), 2, none⟩ = some (.int .i64 value) := O.out.cell 2
  have O_z : (w.heap.size + 1) < w4.heap.size := O.out.lt
  go_wp2_with (first | (refine wpList_load_part rfl 69 _ rfl w.heap.size 0 16 rfl 69 (tcells t) _ T.out (by rw [HLT.out]; decide) Try.underlying69 rfl (by kernel_rfl) ?_; rw [HCT.out]) | (refine wpList_store_part rfl 69 _ _ rfl (w.heap.size + 1 + 1) 0 16 (tcells t) rfl rfl 69 _ R.out HLT.out (by decide) (by kernel_rfl) HONE.out ?_; rw [spl_z16 _ HLT.out]; have aa0 := (A.out.otherBlk (tcells t) (show w.heap.size + 1 + 1 + 1 ≠ w.heap.size + 1 + 1 by omega)).cell 0; have aa1 := (A.out.otherBlk (tcells t) (show w.heap.size + 1 + 1 + 1 ≠ w.heap.size + 1 + 1 by omega)).cell 1; have af0 := (A.out.otherBlk (tcells t) (show w.heap.size + 1 + 1 + 1 ≠ w.heap.size + 1 + 1 by omega)).frozen 0; have af1 := (A.out.otherBlk (tcells t) (show w.heap.size + 1 + 1 + 1 ≠ w.heap.size + 1 + 1 by omega)).frozen 1))
  have hR2 : Blk (((setBlk w4 (w.heap.size + 1 + 1) (tcells t)).setCell ⟨w.heap.size + 1 + 1 + 1, 0, none⟩ (.int .i64 5)).setCell ⟨w.heap.size + 1 + 1 + 1, 1, none⟩ (.int .i64 0)) (w.heap.size + 1 + 1) (tcells t) 69 :=
    ((R.out.setBlk _).other _ (by show w.heap.size + 1 + 1 ≠ w.heap.size + 1 + 1 + 1; omega)).other _ (by show w.heap.size + 1 + 1 ≠ w.heap.size + 1 + 1 + 1; omega)
  have hA2 : Blk (((setBlk w4 (w.heap.size + 1 + 1) (tcells t)).setCell ⟨w.heap.size + 1 + 1 + 1, 0, none⟩ (.int .i64 5)).setCell ⟨w.heap.size + 1 + 1 + 1, 1, none⟩ (.int .i64 0)) (w.heap.size + 1 + 1 + 1) [.int .i64 5, .int .i64 0] 26 :=
    Blk.pair (A.out.otherBlk _ (by omega))
  have hB2 : Below w.heap.size w (((setBlk w4 (w.heap.size + 1 + 1) (tcells t)).setCell ⟨w.heap.size + 1 + 1 + 1, 0, none⟩ (.int .i64 5)).setCell ⟨w.heap.size + 1 + 1 + 1, 1, none⟩ (.int .i64 0)) :=
    bstore (bstore (bsetBlk HB.out (by omega) _) (by show w.heap.size ≤ w.heap.size + 1 + 1 + 1; omega) _) (by show w.heap.size ≤ w.heap.size + 1 + 1 + 1; omega) _
  refine bodyPost_ret (v := .tuple #[.agg (tcells t).toArray, .agg #[.int .i64 5, .int .i64 0]]) (results2_cells _ _ _ _ rfl (w.heap.size + 1 + 1) (w.heap.size + 1 + 1 + 1) (tcells t) [.int .i64 5, .int .i64 0] 69 26 _ _ rfl rfl hR2 hA2 Try.underlying69 rfl (by rw [HLT.out]; kernel_rfl) Try.underlying26 rfl (by kernel_rfl)) rfl ⟨?_, hB2⟩
  rw [HD.out]
set_option maxHeartbeats 2000000 in
theorem do_key2lo (w : World) (t : List Int) (g : Good t) (what key value : Int) (hw : what = 2) (hk : key < 1) :
    Calls Try.prog 51 #[.agg (tcells t).toArray, .agg #[.int .i64 what, .int .i64 key, .int .i64 value]] w fun e w' => e = .returned (.tuple #[.agg (tcells (doT t what key value).1).toArray, .agg #[.int .i64 (doT t what key value).2.1, .int .i64 (doT t what key value).2.2]]) ∧ Below w.heap.size w w' := by
  subst hw
  have hd : doT t 2 key value = (t, 5, 0) := by unfold doT; rw [if_neg (by decide), if_pos (.inr (.inl hk))]
  have HD := Lib.hid hd
  clear hd
  have k1 : decide (key < 1) = true := by simp [hk]
  clear hk
  have HL := Lib.hid g.len
  have HB := Lib.hid (Below.refl w.heap.size w)
  have HONE := Lib.hid (tcells_one t)
  have HLT : Hid ((tcells t).length = 16) := Lib.hid (by rw [tcells_len]; exact g.len)
  have HCT := Lib.hid (tcells_take t g.len)
  have HG := Lib.hid g
  clear g
  go_enter Try.func51, Try.ntmps51
  go_upto_region 1 with fail
  have hb1 := balloc (Below.refl _ w) (Obj.cells (tcells t).toArray 69)
  have T := Lib.hid (Blk.new w (tcells t) 69)
  change Hid (Blk (w.alloc (Obj.cells (tcells t).toArray 69)) _ _ _) at T
  have ZT : Hid ((w.alloc (Obj.cells (tcells t).toArray 69)).heap.size = w.heap.size + 1) := World.size_alloc _ _
  replace HB := Lib.hid (bcall HB.out hb1)
  clear hb1
  generalize w.alloc (Obj.cells (tcells t).toArray 69) = w1 at *
  have hb2 := balloc (Below.refl _ w1) (Obj.cells #[.int .i64 2, .int .i64 key, .int .i64 value] 30)
  have O := Lib.hid (Blk.new w1 [.int .i64 2, .int .i64 key, .int .i64 value] 30)
  change Hid (Blk (w1.alloc (Obj.cells #[.int .i64 2, .int .i64 key, .int .i64 value] 30)) _ _ _) at O
  have ZO : Hid ((w1.alloc (Obj.cells #[.int .i64 2, .int .i64 key, .int .i64 value] 30)).heap.size = w1.heap.size + 1) := World.size_alloc _ _
  replace HB := Lib.hid (bcall HB.out hb2)
  replace T := Lib.hid (T.out.below hb2)
  clear hb2
  rw [ZT.out] at O ZO
  clear ZT
  generalize w1.alloc (Obj.cells #[.int .i64 2, .int .i64 key, .int .i64 value] 30) = w2 at *
  have O_c0 : w2.cell? ⟨(w.heap.size + 1), 0, none⟩ = some (.int .i64 2) := O.out.cell 0
  have O_c1 : w2.cell? ⟨(w.heap.size + 1), 1, none⟩ = some (.int .i64 key) := O.out.cell 1
  have O_c2 : w2.cell? ⟨(w.heap.size + 1), 2, none⟩ = some (.int .i64 value) := O.out.cell 2
  have O_z : (w.heap.size + 1) < w2.heap.size := O.out.lt
  have hb3 := balloc (Below.refl _ w2) (Obj.cells #[.int .i64 0, .int .i64 0, .int .i64 0, .int .i64 0, .int .i64 0, .int .i64 0, .int .i64 0, .int .i64 0, .int .i64 0, .int .i64 0, .int .i64 0, .int .i64 0, .int .i64 0, .int .i64 0, .int .i64 0, .int .i64 0] 69)
  have R := Lib.hid (Blk.new w2 [.int .i64 0, .int .i64 0, .int .i64 0, .int .i64 0, .int .i64 0, .int .i64 0, .int .i64 0, .int .i64 0, .int .i64 0, .int .i64 0, .int .i64 0, .int .i64 0, .int .i64 0, .int .i64 0, .int .i64 0, .int .i64 0] 69)
  change Hid (Blk (w2.alloc (Obj.cells #[.int .i64 0, .int .i64 0, .int .i64 0, .int .i64 0, .int .i64 0, .int .i64 0, .int .i64 0, .int .i64 0, .int .i64 0, .int .i64 0, .int .i64 0, .int .i64 0, .int .i64 0, .int .i64 0, .int .i64 0, .int .i64 0] 69)) _ _ _) at R
  have ZR : Hid ((w2.alloc (Obj.cells #[.int .i64 0, .int .i64 0, .int .i64 0, .int .i64 0, .int .i64 0, .int .i64 0, .int .i64 0, .int .i64 0, .int .i64 0, .int .i64 0, .int .i64 0, .int .i64 0, .int .i64 0, .int .i64 0, .int .i64 0, .int .i64 0] 69)).heap.size = w2.heap.size + 1) := World.size_alloc _ _
  clear O_c0 O_c1 O_c2 O_z
  replace HB := Lib.hid (bcall HB.out hb3)
  replace T := Lib.hid (T.out.below hb3)
  replace O := Lib.hid (O.out.below hb3)
  clear hb3
  rw [ZO.out] at R ZR
  clear ZO
  generalize w2.alloc (Obj.cells #[.int .i64 0, .int .i64 0, .int .i64 0, .int .i64 0, .int .i64 0, .int .i64 0, .int .i64 0, .int .i64 0, .int .i64 0, .int .i64 0, .int .i64 0, .int .i64 0, .int .i64 0, .int .i64 0, .int .i64 0, .int .i64 0] 69) = w3 at *
  have O_c0 : w3.cell? ⟨(w.heap.size + 1), 0, none⟩ = some (.int .i64 2) := O.out.cell 0
  have O_c1 : w3.cell? ⟨(w.heap.size + 1), 1, none⟩ = some (.int .i64 key) := O.out.cell 1
  have O_c2 : w3.cell? ⟨(w.heap.size + 1), 2, none⟩ = some (.int .i64 value) := O.out.cell 2
  have O_z : (w.heap.size + 1) < w3.heap.size := O.out.lt
  have hb4 := balloc (Below.refl _ w3) (Obj.cells #[.int .i64 0, .int .i64 0] 26)
  have A := Lib.hid (Blk.new w3 [.int .i64 0, .int .i64 0] 26)
  change Hid (Blk (w3.alloc (Obj.cells #[.int .i64 0, .int .i64 0] 26)) _ _ _) at A
  have ZA : Hid ((w3.alloc (Obj.cells #[.int .i64 0, .int .i64 0] 26)).heap.size = w3.heap.size + 1) := World.size_alloc _ _
  clear O_c0 O_c1 O_c2 O_z
  replace HB := Lib.hid (bcall HB.out hb4)
  replace T := Lib.hid (T.out.below hb4)
  replace O := Lib.hid (O.out.below hb4)
  replace R := Lib.hid (R.out.below hb4)
  clear hb4
  rw [ZR.out] at A ZA
  clear ZR
  generalize w3.alloc (Obj.cells #[.int .i64 0, .int .i64 0] 26) = w4 at *
  have O_c0 : w4.cell? ⟨(w.heap.size + 1), 0, none⟩ = some (.int .i64 2) := O.out.cell 0
  have O_c1 : w4.cell? ⟨(w.heap.size + 1), 1, none⟩ = some (.int .i64 key) := O.out.cell 1
  have O_c2 : w4.cell? ⟨(w.heap.size + 1), 2, none⟩ = some (.int .i64 value) := O.out.cell 2
  have O_z : (w.heap.size + 1) < w4.heap.size := O.out.lt
  go_wp2_with (first | (refine wpList_load_part rfl 69 _ rfl w.heap.size 0 16 rfl 69 (tcells t) _ T.out (by rw [HLT.out]; decide) Try.underlying69 rfl (by kernel_rfl) ?_; rw [HCT.out]) | (refine wpList_store_part rfl 69 _ _ rfl (w.heap.size + 1 + 1) 0 16 (tcells t) rfl rfl 69 _ R.out HLT.out (by decide) (by kernel_rfl) HONE.out ?_; rw [spl_z16 _ HLT.out]; have aa0 := (A.out.otherBlk (tcells t) (show w.heap.size + 1 + 1 + 1 ≠ w.heap.size + 1 + 1 by omega)).cell 0; have aa1 := (A.out.otherBlk (tcells t) (show w.heap.size + 1 + 1 + 1 ≠ w.heap.size + 1 + 1 by omega)).cell 1; have af0 := (A.out.otherBlk (tcells t) (show w.heap.size + 1 + 1 + 1 ≠ w.heap.size + 1 + 1 by omega)).frozen 0; have af1 := (A.out.otherBlk (tcells t) (show w.heap.size + 1 + 1 + 1 ≠ w.heap.size + 1 + 1 by omega)).frozen 1))
  have hR2 : Blk (((setBlk w4 (w.heap.size + 1 + 1) (tcells t)).setCell ⟨w.heap.size + 1 + 1 + 1, 0, none⟩ (.int .i64 5)).setCell ⟨w.heap.size + 1 + 1 + 1, 1, none⟩ (.int .i64 0)) (w.heap.size + 1 + 1) (tcells t) 69 :=
    ((R.out.setBlk _).other _ (by show w.heap.size + 1 + 1 ≠ w.heap.size + 1 + 1 + 1; omega)).other _ (by show w.heap.size + 1 + 1 ≠ w.heap.size + 1 + 1 + 1; omega)
  have hA2 : Blk (((setBlk w4 (w.heap.size + 1 + 1) (tcells t)).setCell ⟨w.heap.size + 1 + 1 + 1, 0, none⟩ (.int .i64 5)).setCell ⟨w.heap.size + 1 + 1 + 1, 1, none⟩ (.int .i64 0)) (w.heap.size + 1 + 1 + 1) [.int .i64 5, .int .i64 0] 26 :=
    Blk.pair (A.out.otherBlk _ (by omega))
  have hB2 : Below w.heap.size w (((setBlk w4 (w.heap.size + 1 + 1) (tcells t)).setCell ⟨w.heap.size + 1 + 1 + 1, 0, none⟩ (.int .i64 5)).setCell ⟨w.heap.size + 1 + 1 + 1, 1, none⟩ (.int .i64 0)) :=
    bstore (bstore (bsetBlk HB.out (by omega) _) (by show w.heap.size ≤ w.heap.size + 1 + 1 + 1; omega) _) (by show w.heap.size ≤ w.heap.size + 1 + 1 + 1; omega) _
  refine bodyPost_ret (v := .tuple #[.agg (tcells t).toArray, .agg #[.int .i64 5, .int .i64 0]]) (results2_cells _ _ _ _ rfl (w.heap.size + 1 + 1) (w.heap.size + 1 + 1 + 1) (tcells t) [.int .i64 5, .int .i64 0] 69 26 _ _ rfl rfl hR2 hA2 Try.underlying69 rfl (by rw [HLT.out]; kernel_rfl) Try.underlying26 rfl (by kernel_rfl)) rfl ⟨?_, hB2⟩
  rw [HD.out]
set_option maxHeartbeats 2000000 in
theorem do_key2hi (w : World) (t : List Int) (g : Good t) (what key value : Int) (hw : what = 2) (hk : 1000 < key) :
    Calls Try.prog 51 #[.agg (tcells t).toArray, .agg #[.int .i64 what, .int .i64 key, .int .i64 value]] w fun e w' => e = .returned (.tuple #[.agg (tcells (doT t what key value).1).toArray, .agg #[.int .i64 (doT t what key value).2.1, .int .i64 (doT t what key value).2.2]]) ∧ Below w.heap.size w w' := by
  subst hw
  have hd : doT t 2 key value = (t, 5, 0) := by unfold doT; rw [if_neg (by decide), if_pos (.inr (.inr hk))]
  have HD := Lib.hid hd
  clear hd
  have k1 : decide (key < 1) = false := by simp; omega
  have k2 : decide (1000 < key) = true := by simp [hk]
  clear hk
  have HL := Lib.hid g.len
  have HB := Lib.hid (Below.refl w.heap.size w)
  have HONE := Lib.hid (tcells_one t)
  have HLT : Hid ((tcells t).length = 16) := Lib.hid (by rw [tcells_len]; exact g.len)
  have HCT := Lib.hid (tcells_take t g.len)
  have HG := Lib.hid g
  clear g
  go_enter Try.func51, Try.ntmps51
  go_upto_region 1 with fail
  have hb1 := balloc (Below.refl _ w) (Obj.cells (tcells t).toArray 69)
  have T := Lib.hid (Blk.new w (tcells t) 69)
  change Hid (Blk (w.alloc (Obj.cells (tcells t).toArray 69)) _ _ _) at T
  have ZT : Hid ((w.alloc (Obj.cells (tcells t).toArray 69)).heap.size = w.heap.size + 1) := World.size_alloc _ _
  replace HB := Lib.hid (bcall HB.out hb1)
  clear hb1
  generalize w.alloc (Obj.cells (tcells t).toArray 69) = w1 at *
  have hb2 := balloc (Below.refl _ w1) (Obj.cells #[.int .i64 2, .int .i64 key, .int .i64 value] 30)
  have O := Lib.hid (Blk.new w1 [.int .i64 2, .int .i64 key, .int .i64 value] 30)
  change Hid (Blk (w1.alloc (Obj.cells #[.int .i64 2, .int .i64 key, .int .i64 value] 30)) _ _ _) at O
  have ZO : Hid ((w1.alloc (Obj.cells #[.int .i64 2, .int .i64 key, .int .i64 value] 30)).heap.size = w1.heap.size + 1) := World.size_alloc _ _
  replace HB := Lib.hid (bcall HB.out hb2)
  replace T := Lib.hid (T.out.below hb2)
  clear hb2
  rw [ZT.out] at O ZO
  clear ZT
  generalize w1.alloc (Obj.cells #[.int .i64 2, .int .i64 key, .int .i64 value] 30) = w2 at *
  have O_c0 : w2.cell? ⟨(w.heap.size + 1), 0, none⟩ = some (.int .i64 2) := O.out.cell 0
  have O_c1 : w2.cell? ⟨(w.heap.size + 1), 1, none⟩ = some (.int .i64 key) := O.out.cell 1
  have O_c2 : w2.cell? ⟨(w.heap.size + 1), 2, none⟩ = some (.int .i64 value) := O.out.cell 2
  have O_z : (w.heap.size + 1) < w2.heap.size := O.out.lt
  have hb3 := balloc (Below.refl _ w2) (Obj.cells #[.int .i64 0, .int .i64 0, .int .i64 0, .int .i64 0, .int .i64 0, .int .i64 0, .int .i64 0, .int .i64 0, .int .i64 0, .int .i64 0, .int .i64 0, .int .i64 0, .int .i64 0, .int .i64 0, .int .i64 0, .int .i64 0] 69)
  have R := Lib.hid (Blk.new w2 [.int .i64 0, .int .i64 0, .int .i64 0, .int .i64 0, .int .i64 0, .int .i64 0, .int .i64 0, .int .i64 0, .int .i64 0, .int .i64 0, .int .i64 0, .int .i64 0, .int .i64 0, .int .i64 0, .int .i64 0, .int .i64 0] 69)
  change Hid (Blk (w2.alloc (Obj.cells #[.int .i64 0, .int .i64 0, .int .i64 0, .int .i64 0, .int .i64 0, .int .i64 0, .int .i64 0, .int .i64 0, .int .i64 0, .int .i64 0, .int .i64 0, .int .i64 0, .int .i64 0, .int .i64 0, .int .i64 0, .int .i64 0] 69)) _ _ _) at R
  have ZR : Hid ((w2.alloc (Obj.cells #[.int .i64 0, .int .i64 0, .int .i64 0, .int .i64 0, .int .i64 0, .int .i64 0, .int .i64 0, .int .i64 0, .int .i64 0, .int .i64 0, .int .i64 0, .int .i64 0, .int .i64 0, .int .i64 0, .int .i64 0, .int .i64 0] 69)).heap.size = w2.heap.size + 1) := World.size_alloc _ _
  clear O_c0 O_c1 O_c2 O_z
  replace HB := Lib.hid (bcall HB.out hb3)
  replace T := Lib.hid (T.out.below hb3)
  replace O := Lib.hid (O.out.below hb3)
  clear hb3
  rw [ZO.out] at R ZR
  clear ZO
  generalize w2.alloc (Obj.cells #[.int .i64 0, .int .i64 0, .int .i64 0, .int .i64 0, .int .i64 0, .int .i64 0, .int .i64 0, .int .i64 0, .int .i64 0, .int .i64 0, .int .i64 0, .int .i64 0, .int .i64 0, .int .i64 0, .int .i64 0, .int .i64 0] 69) = w3 at *
  have O_c0 : w3.cell? ⟨(w.heap.size + 1), 0, none⟩ = some (.int .i64 2) := O.out.cell 0
  have O_c1 : w3.cell? ⟨(w.heap.size + 1), 1, none⟩ = some (.int .i64 key) := O.out.cell 1
  have O_c2 : w3.cell? ⟨(w.heap.size + 1), 2, none⟩ = some (.int .i64 value) := O.out.cell 2
  have O_z : (w.heap.size + 1) < w3.heap.size := O.out.lt
  have hb4 := balloc (Below.refl _ w3) (Obj.cells #[.int .i64 0, .int .i64 0] 26)
  have A := Lib.hid (Blk.new w3 [.int .i64 0, .int .i64 0] 26)
  change Hid (Blk (w3.alloc (Obj.cells #[.int .i64 0, .int .i64 0] 26)) _ _ _) at A
  have ZA : Hid ((w3.alloc (Obj.cells #[.int .i64 0, .int .i64 0] 26)).heap.size = w3.heap.size + 1) := World.size_alloc _ _
  clear O_c0 O_c1 O_c2 O_z
  replace HB := Lib.hid (bcall HB.out hb4)
  replace T := Lib.hid (T.out.below hb4)
  replace O := Lib.hid (O.out.below hb4)
  replace R := Lib.hid (R.out.below hb4)
  clear hb4
  rw [ZR.out] at A ZA
  clear ZR
  generalize w3.alloc (Obj.cells #[.int .i64 0, .int .i64 0] 26) = w4 at *
  have O_c0 : w4.cell? ⟨(w.heap.size + 1), 0, none⟩ = some (.int .i64 2) := O.out.cell 0
  have O_c1 : w4.cell? ⟨(w.heap.size + 1), 1, none⟩ = some (.int .i64 key) := O.out.cell 1
  have O_c2 : w4.cell? ⟨(w.heap.size + 1), 2, none⟩ = some (.int .i64 value) := O.out.cell 2
  have O_z : (w.heap.size + 1) < w4.heap.size := O.out.lt
  go_wp2_with (first | (refine wpList_load_part rfl 69 _ rfl w.heap.size 0 16 rfl 69 (tcells t) _ T.out (by rw [HLT.out]; decide) Try.underlying69 rfl (by kernel_rfl) ?_; rw [HCT.out]) | (refine wpList_store_part rfl 69 _ _ rfl (w.heap.size + 1 + 1) 0 16 (tcells t) rfl rfl 69 _ R.out HLT.out (by decide) (by kernel_rfl) HONE.out ?_; rw [spl_z16 _ HLT.out]; have aa0 := (A.out.otherBlk (tcells t) (show w.heap.size + 1 + 1 + 1 ≠ w.heap.size + 1 + 1 by omega)).cell 0; have aa1 := (A.out.otherBlk (tcells t) (show w.heap.size + 1 + 1 + 1 ≠ w.heap.size + 1 + 1 by omega)).cell 1; have af0 := (A.out.otherBlk (tcells t) (show w.heap.size + 1 + 1 + 1 ≠ w.heap.size + 1 + 1 by omega)).frozen 0; have af1 := (A.out.otherBlk (tcells t) (show w.heap.size + 1 + 1 + 1 ≠ w.heap.size + 1 + 1 by omega)).frozen 1))
  have hR2 : Blk (((setBlk w4 (w.heap.size + 1 + 1) (tcells t)).setCell ⟨w.heap.size + 1 + 1 + 1, 0, none⟩ (.int .i64 5)).setCell ⟨w.heap.size + 1 + 1 + 1, 1, none⟩ (.int .i64 0)) (w.heap.size + 1 + 1) (tcells t) 69 :=
    ((R.out.setBlk _).other _ (by show w.heap.size + 1 + 1 ≠ w.heap.size + 1 + 1 + 1; omega)).other _ (by show w.heap.size + 1 + 1 ≠ w.heap.size + 1 + 1 + 1; omega)
  have hA2 : Blk (((setBlk w4 (w.heap.size + 1 + 1) (tcells t)).setCell ⟨w.heap.size + 1 + 1 + 1, 0, none⟩ (.int .i64 5)).setCell ⟨w.heap.size + 1 + 1 + 1, 1, none⟩ (.int .i64 0)) (w.heap.size + 1 + 1 + 1) [.int .i64 5, .int .i64 0] 26 :=
    Blk.pair (A.out.otherBlk _ (by omega))
  have hB2 : Below w.heap.size w (((setBlk w4 (w.heap.size + 1 + 1) (tcells t)).setCell ⟨w.heap.size + 1 + 1 + 1, 0, none⟩ (.int .i64 5)).setCell ⟨w.heap.size + 1 + 1 + 1, 1, none⟩ (.int .i64 0)) :=
    bstore (bstore (bsetBlk HB.out (by omega) _) (by show w.heap.size ≤ w.heap.size + 1 + 1 + 1; omega) _) (by show w.heap.size ≤ w.heap.size + 1 + 1 + 1; omega) _
  refine bodyPost_ret (v := .tuple #[.agg (tcells t).toArray, .agg #[.int .i64 5, .int .i64 0]]) (results2_cells _ _ _ _ rfl (w.heap.size + 1 + 1) (w.heap.size + 1 + 1 + 1) (tcells t) [.int .i64 5, .int .i64 0] 69 26 _ _ rfl rfl hR2 hA2 Try.underlying69 rfl (by rw [HLT.out]; kernel_rfl) Try.underlying26 rfl (by kernel_rfl)) rfl ⟨?_, hB2⟩
  rw [HD.out]
set_option maxHeartbeats 2000000 in
theorem do_key5lo (w : World) (t : List Int) (g : Good t) (what key value : Int) (hw : what = 5) (hk : key < 1) :
    Calls Try.prog 51 #[.agg (tcells t).toArray, .agg #[.int .i64 what, .int .i64 key, .int .i64 value]] w fun e w' => e = .returned (.tuple #[.agg (tcells (doT t what key value).1).toArray, .agg #[.int .i64 (doT t what key value).2.1, .int .i64 (doT t what key value).2.2]]) ∧ Below w.heap.size w w' := by
  subst hw
  have hd : doT t 5 key value = (t, 5, 0) := by unfold doT; rw [if_neg (by decide), if_pos (.inr (.inl hk))]
  have HD := Lib.hid hd
  clear hd
  have k1 : decide (key < 1) = true := by simp [hk]
  clear hk
  have HL := Lib.hid g.len
  have HB := Lib.hid (Below.refl w.heap.size w)
  have HONE := Lib.hid (tcells_one t)
  have HLT : Hid ((tcells t).length = 16) := Lib.hid (by rw [tcells_len]; exact g.len)
  have HCT := Lib.hid (tcells_take t g.len)
  have HG := Lib.hid g
  clear g
  go_enter Try.func51, Try.ntmps51
  go_upto_region 1 with fail
  have hb1 := balloc (Below.refl _ w) (Obj.cells (tcells t).toArray 69)
  have T := Lib.hid (Blk.new w (tcells t) 69)
  change Hid (Blk (w.alloc (Obj.cells (tcells t).toArray 69)) _ _ _) at T
  have ZT : Hid ((w.alloc (Obj.cells (tcells t).toArray 69)).heap.size = w.heap.size + 1) := World.size_alloc _ _
  replace HB := Lib.hid (bcall HB.out hb1)
  clear hb1
  generalize w.alloc (Obj.cells (tcells t).toArray 69) = w1 at *
  have hb2 := balloc (Below.refl _ w1) (Obj.cells #[.int .i64 5, .int .i64 key, .int .i64 value] 30)
  have O := Lib.hid (Blk.new w1 [.int .i64 5, .int .i64 key, .int .i64 value] 30)
  change Hid (Blk (w1.alloc (Obj.cells #[.int .i64 5, .int .i64 key, .int .i64 value] 30)) _ _ _) at O
  have ZO : Hid ((w1.alloc (Obj.cells #[.int .i64 5, .int .i64 key, .int .i64 value] 30)).heap.size = w1.heap.size + 1) := World.size_alloc _ _
  replace HB := Lib.hid (bcall HB.out hb2)
  replace T := Lib.hid (T.out.below hb2)
  clear hb2
  rw [ZT.out] at O ZO
  clear ZT
  generalize w1.alloc (Obj.cells #[.int .i64 5, .int .i64 key, .int .i64 value] 30) = w2 at *
  have O_c0 : w2.cell? ⟨(w.heap.size + 1), 0, none⟩ = some (.int .i64 5) := O.out.cell 0
  have O_c1 : w2.cell? ⟨(w.heap.size + 1), 1, none⟩ = some (.int .i64 key) := O.out.cell 1
  have O_c2 : w2.cell? ⟨(w.heap.size + 1), 2, none⟩ = some (.int .i64 value) := O.out.cell 2
  have O_z : (w.heap.size + 1) < w2.heap.size := O.out.lt
  have hb3 := balloc (Below.refl _ w2) (Obj.cells #[.int .i64 0, .int .i64 0, .int .i64 0, .int .i64 0, .int .i64 0, .int .i64 0, .int .i64 0, .int .i64 0, .int .i64 0, .int .i64 0, .int .i64 0, .int .i64 0, .int .i64 0, .int .i64 0, .int .i64 0, .int .i64 0] 69)
  have R := Lib.hid (Blk.new w2 [.int .i64 0, .int .i64 0, .int .i64 0, .int .i64 0, .int .i64 0, .int .i64 0, .int .i64 0, .int .i64 0, .int .i64 0, .int .i64 0, .int .i64 0, .int .i64 0, .int .i64 0, .int .i64 0, .int .i64 0, .int .i64 0] 69)
  change Hid (Blk (w2.alloc (Obj.cells #[.int .i64 0, .int .i64 0, .int .i64 0, .int .i64 0, .int .i64 0, .int .i64 0, .int .i64 0, .int .i64 0, .int .i64 0, .int .i64 0, .int .i64 0, .int .i64 0, .int .i64 0, .int .i64 0, .int .i64 0, .int .i64 0] 69)) _ _ _) at R
  have ZR : Hid ((w2.alloc (Obj.cells #[.int .i64 0, .int .i64 0, .int .i64 0, .int .i64 0, .int .i64 0, .int .i64 0, .int .i64 0, .int .i64 0, .int .i64 0, .int .i64 0, .int .i64 0, .int .i64 0, .int .i64 0, .int .i64 0, .int .i64 0, .int .i64 0] 69)).heap.size = w2.heap.size + 1) := World.size_alloc _ _
  clear O_c0 O_c1 O_c2 O_z
  replace HB := Lib.hid (bcall HB.out hb3)
  replace T := Lib.hid (T.out.below hb3)
  replace O := Lib.hid (O.out.below hb3)
  clear hb3
  rw [ZO.out] at R ZR
  clear ZO
  generalize w2.alloc (Obj.cells #[.int .i64 0, .int .i64 0, .int .i64 0, .int .i64 0, .int .i64 0, .int .i64 0, .int .i64 0, .int .i64 0, .int .i64 0, .int .i64 0, .int .i64 0, .int .i64 0, .int .i64 0, .int .i64 0, .int .i64 0, .int .i64 0] 69) = w3 at *
  have O_c0 : w3.cell? ⟨(w.heap.size + 1), 0, none⟩ = some (.int .i64 5) := O.out.cell 0
  have O_c1 : w3.cell? ⟨(w.heap.size + 1), 1, none⟩ = some (.int .i64 key) := O.out.cell 1
  have O_c2 : w3.cell? ⟨(w.heap.size + 1), 2, none⟩ = some (.int .i64 value) := O.out.cell 2
  have O_z : (w.heap.size + 1) < w3.heap.size := O.out.lt
  have hb4 := balloc (Below.refl _ w3) (Obj.cells #[.int .i64 0, .int .i64 0] 26)
  have A := Lib.hid (Blk.new w3 [.int .i64 0, .int .i64 0] 26)
  change Hid (Blk (w3.alloc (Obj.cells #[.int .i64 0, .int .i64 0] 26)) _ _ _) at A
  have ZA : Hid ((w3.alloc (Obj.cells #[.int .i64 0, .int .i64 0] 26)).heap.size = w3.heap.size + 1) := World.size_alloc _ _
  clear O_c0 O_c1 O_c2 O_z
  replace HB := Lib.hid (bcall HB.out hb4)
  replace T := Lib.hid (T.out.below hb4)
  replace O := Lib.hid (O.out.below hb4)
  replace R := Lib.hid (R.out.below hb4)
  clear hb4
  rw [ZR.out] at A ZA
  clear ZR
  generalize w3.alloc (Obj.cells #[.int .i64 0, .int .i64 0] 26) = w4 at *
  have O_c0 : w4.cell? ⟨(w.heap.size + 1), 0, none⟩ = some (.int .i64 5) := O.out.cell 0
  have O_c1 : w4.cell? ⟨(w.heap.size + 1), 1, none⟩ = some (.int .i64 key) := O.out.cell 1
  have O_c2 : w4.cell? ⟨(w.heap.size + 1), 2, none⟩ = some (.int .i64 value) := O.out.cell 2
  have O_z : (w.heap.size + 1) < w4.heap.size := O.out.lt
  go_wp2_with (first | (refine wpList_load_part rfl 69 _ rfl w.heap.size 0 16 rfl 69 (tcells t) _ T.out (by rw [HLT.out]; decide) Try.underlying69 rfl (by kernel_rfl) ?_; rw [HCT.out]) | (refine wpList_store_part rfl 69 _ _ rfl (w.heap.size + 1 + 1) 0 16 (tcells t) rfl rfl 69 _ R.out HLT.out (by decide) (by kernel_rfl) HONE.out ?_; rw [spl_z16 _ HLT.out]; have aa0 := (A.out.otherBlk (tcells t) (show w.heap.size + 1 + 1 + 1 ≠ w.heap.size + 1 + 1 by omega)).cell 0; have aa1 := (A.out.otherBlk (tcells t) (show w.heap.size + 1 + 1 + 1 ≠ w.heap.size + 1 + 1 by omega)).cell 1; have af0 := (A.out.otherBlk (tcells t) (show w.heap.size + 1 + 1 + 1 ≠ w.heap.size + 1 + 1 by omega)).frozen 0; have af1 := (A.out.otherBlk (tcells t) (show w.heap.size + 1 + 1 + 1 ≠ w.heap.size + 1 + 1 by omega)).frozen 1))
  have hR2 : Blk (((setBlk w4 (w.heap.size + 1 + 1) (tcells t)).setCell ⟨w.heap.size + 1 + 1 + 1, 0, none⟩ (.int .i64 5)).setCell ⟨w.heap.size + 1 + 1 + 1, 1, none⟩ (.int .i64 0)) (w.heap.size + 1 + 1) (tcells t) 69 :=
    ((R.out.setBlk _).other _ (by show w.heap.size + 1 + 1 ≠ w.heap.size + 1 + 1 + 1; omega)).other _ (by show w.heap.size + 1 + 1 ≠ w.heap.size + 1 + 1 + 1; omega)
  have hA2 : Blk (((setBlk w4 (w.heap.size + 1 + 1) (tcells t)).setCell ⟨w.heap.size + 1 + 1 + 1, 0, none⟩ (.int .i64 5)).setCell ⟨w.heap.size + 1 + 1 + 1, 1, none⟩ (.int .i64 0)) (w.heap.size + 1 + 1 + 1) [.int .i64 5, .int .i64 0] 26 :=
    Blk.pair (A.out.otherBlk _ (by omega))
  have hB2 : Below w.heap.size w (((setBlk w4 (w.heap.size + 1 + 1) (tcells t)).setCell ⟨w.heap.size + 1 + 1 + 1, 0, none⟩ (.int .i64 5)).setCell ⟨w.heap.size + 1 + 1 + 1, 1, none⟩ (.int .i64 0)) :=
    bstore (bstore (bsetBlk HB.out (by omega) _) (by show w.heap.size ≤ w.heap.size + 1 + 1 + 1; omega) _) (by show w.heap.size ≤ w.heap.size + 1 + 1 + 1; omega) _
  refine bodyPost_ret (v := .tuple #[.agg (tcells t).toArray, .agg #[.int .i64 5, .int .i64 0]]) (results2_cells _ _ _ _ rfl (w.heap.size + 1 + 1) (w.heap.size + 1 + 1 + 1) (tcells t) [.int .i64 5, .int .i64 0] 69 26 _ _ rfl rfl hR2 hA2 Try.underlying69 rfl (by rw [HLT.out]; kernel_rfl) Try.underlying26 rfl (by kernel_rfl)) rfl ⟨?_, hB2⟩
  rw [HD.out]
set_option maxHeartbeats 2000000 in
theorem do_key5hi (w : World) (t : List Int) (g : Good t) (what key value : Int) (hw : what = 5) (hk : 1000 < key) :
    Calls Try.prog 51 #[.agg (tcells t).toArray, .agg #[.int .i64 what, .int .i64 key, .int .i64 value]] w fun e w' => e = .returned (.tuple #[.agg (tcells (doT t what key value).1).toArray, .agg #[.int .i64 (doT t what key value).2.1, .int .i64 (doT t what key value).2.2]]) ∧ Below w.heap.size w w' := by
  subst hw
  have hd : doT t 5 key value = (t, 5, 0) := by unfold doT; rw [if_neg (by decide), if_pos (.inr (.inr hk))]
  have HD := Lib.hid hd
  clear hd
  have k1 : decide (key < 1) = false := by simp; omega
  have k2 : decide (1000 < key) = true := by simp [hk]
  clear hk
  have HL := Lib.hid g.len
  have HB := Lib.hid (Below.refl w.heap.size w)
  have HONE := Lib.hid (tcells_one t)
  have HLT : Hid ((tcells t).length = 16) := Lib.hid (by rw [tcells_len]; exact g.len)
  have HCT := Lib.hid (tcells_take t g.len)
  have HG := Lib.hid g
  clear g
  go_enter Try.func51, Try.ntmps51
  go_upto_region 1 with fail
  have hb1 := balloc (Below.refl _ w) (Obj.cells (tcells t).toArray 69)
  have T := Lib.hid (Blk.new w (tcells t) 69)
  change Hid (Blk (w.alloc (Obj.cells (tcells t).toArray 69)) _ _ _) at T
  have ZT : Hid ((w.alloc (Obj.cells (tcells t).toArray 69)).heap.size = w.heap.size + 1) := World.size_alloc _ _
  replace HB := Lib.hid (bcall HB.out hb1)
  clear hb1
  generalize w.alloc (Obj.cells (tcells t).toArray 69) = w1 at *
  have hb2 := balloc (Below.refl _ w1) (Obj.cells #[.int .i64 5, .int .i64 key, .int .i64 value] 30)
  have O := Lib.hid (Blk.new w1 [.int .i64 5, .int .i64 key, .int .i64 value] 30)
  change Hid (Blk (w1.alloc (Obj.cells #[.int .i64 5, .int .i64 key, .int .i64 value] 30)) _ _ _) at O
  have ZO : Hid ((w1.alloc (Obj.cells #[.int .i64 5, .int .i64 key, .int .i64 value] 30)).heap.size = w1.heap.size + 1) := World.size_alloc _ _
  replace HB := Lib.hid (bcall HB.out hb2)
  replace T := Lib.hid (T.out.below hb2)
  clear hb2
  rw [ZT.out] at O ZO
  clear ZT
  generalize w1.alloc (Obj.cells #[.int .i64 5, .int .i64 key, .int .i64 value] 30) = w2 at *
  have O_c0 : w2.cell? ⟨(w.heap.size + 1), 0, none⟩ = some (.int .i64 5) := O.out.cell 0
  have O_c1 : w2.cell? ⟨(w.heap.size + 1), 1, none⟩ = some (.int .i64 key) := O.out.cell 1
  have O_c2 : w2.cell? ⟨(w.heap.size + 1), 2, none⟩ = some (.int .i64 value) := O.out.cell 2
  have O_z : (w.heap.size + 1) < w2.heap.size := O.out.lt
  have hb3 := balloc (Below.refl _ w2) (Obj.cells #[.int .i64 0, .int .i64 0, .int .i64 0, .int .i64 0, .int .i64 0, .int .i64 0, .int .i64 0, .int .i64 0, .int .i64 0, .int .i64 0, .int .i64 0, .int .i64 0, .int .i64 0, .int .i64 0, .int .i64 0, .int .i64 0] 69)
  have R := Lib.hid (Blk.new w2 [.int .i64 0, .int .i64 0, .int .i64 0, .int .i64 0, .int .i64 0, .int .i64 0, .int .i64 0, .int .i64 0, .int .i64 0, .int .i64 0, .int .i64 0, .int .i64 0, .int .i64 0, .int .i64 0, .int .i64 0, .int .i64 0] 69)
  change Hid (Blk (w2.alloc (Obj.cells #[.int .i64 0, .int .i64 0, .int .i64 0, .int .i64 0, .int .i64 0, .int .i64 0, .int .i64 0, .int .i64 0, .int .i64 0, .int .i64 0, .int .i64 0, .int .i64 0, .int .i64 0, .int .i64 0, .int .i64 0, .int .i64 0] 69)) _ _ _) at R
  have ZR : Hid ((w2.alloc (Obj.cells #[.int .i64 0, .int .i64 0, .int .i64 0, .int .i64 0, .int .i64 0, .int .i64 0, .int .i64 0, .int .i64 0, .int .i64 0, .int .i64 0, .int .i64 0, .int .i64 0, .int .i64 0, .int .i64 0, .int .i64 0, .int .i64 0] 69)).heap.size = w2.heap.size + 1) := World.size_alloc _ _
  clear O_c0 O_c1 O_c2 O_z
  replace HB := Lib.hid (bcall HB.out hb3)
  replace T := Lib.hid (T.out.below hb3)
  replace O := Lib.hid (O.out.below hb3)
  clear hb3
  rw [ZO.out] at R ZR
  clear ZO
  generalize w2.alloc (Obj.cells #[.int .i64 0, .int .i64 0, .int .i64 0, .int .i64 0, .int .i64 0, .int .i64 0, .int .i64 0, .int .i64 0, .int .i64 0, .int .i64 0, .int .i64 0, .int .i64 0, .int .i64 0, .int .i64 0, .int .i64 0, .int .i64 0] 69) = w3 at *
  have O_c0 : w3.cell? ⟨(w.heap.size + 1), 0, none⟩ = some (.int .i64 5) := O.out.cell 0
  have O_c1 : w3.cell? ⟨(w.heap.size + 1), 1, none⟩ = some (.int .i64 key) := O.out.cell 1
  have O_c2 : w3.cell? ⟨(w.heap.size + 1), 2, none⟩ = some (.int .i64 value) := O.out.cell 2
  have O_z : (w.heap.size + 1) < w3.heap.size := O.out.lt
  have hb4 := balloc (Below.refl _ w3) (Obj.cells #[.int .i64 0, .int .i64 0] 26)
  have A := Lib.hid (Blk.new w3 [.int .i64 0, .int .i64 0] 26)
  change Hid (Blk (w3.alloc (Obj.cells #[.int .i64 0, .int .i64 0] 26)) _ _ _) at A
  have ZA : Hid ((w3.alloc (Obj.cells #[.int .i64 0, .int .i64 0] 26)).heap.size = w3.heap.size + 1) := World.size_alloc _ _
  clear O_c0 O_c1 O_c2 O_z
  replace HB := Lib.hid (bcall HB.out hb4)
  replace T := Lib.hid (T.out.below hb4)
  replace O := Lib.hid (O.out.below hb4)
  replace R := Lib.hid (R.out.below hb4)
  clear hb4
  rw [ZR.out] at A ZA
  clear ZR
  generalize w3.alloc (Obj.cells #[.int .i64 0, .int .i64 0] 26) = w4 at *
  have O_c0 : w4.cell? ⟨(w.heap.size + 1), 0, none⟩ = some (.int .i64 5) := O.out.cell 0
  have O_c1 : w4.cell? ⟨(w.heap.size + 1), 1, none⟩ = some (.int .i64 key) := O.out.cell 1
  have O_c2 : w4.cell? ⟨(w.heap.size + 1), 2, none⟩ = some (.int .i64 value) := O.out.cell 2
  have O_z : (w.heap.size + 1) < w4.heap.size := O.out.lt
  go_wp2_with (first | (refine wpList_load_part rfl 69 _ rfl w.heap.size 0 16 rfl 69 (tcells t) _ T.out (by rw [HLT.out]; decide) Try.underlying69 rfl (by kernel_rfl) ?_; rw [HCT.out]) | (refine wpList_store_part rfl 69 _ _ rfl (w.heap.size + 1 + 1) 0 16 (tcells t) rfl rfl 69 _ R.out HLT.out (by decide) (by kernel_rfl) HONE.out ?_; rw [spl_z16 _ HLT.out]; have aa0 := (A.out.otherBlk (tcells t) (show w.heap.size + 1 + 1 + 1 ≠ w.heap.size + 1 + 1 by omega)).cell 0; have aa1 := (A.out.otherBlk (tcells t) (show w.heap.size + 1 + 1 + 1 ≠ w.heap.size + 1 + 1 by omega)).cell 1; have af0 := (A.out.otherBlk (tcells t) (show w.heap.size + 1 + 1 + 1 ≠ w.heap.size + 1 + 1 by omega)).frozen 0; have af1 := (A.out.otherBlk (tcells t) (show w.heap.size + 1 + 1 + 1 ≠ w.heap.size + 1 + 1 by omega)).frozen 1))
  have hR2 : Blk (((setBlk w4 (w.heap.size + 1 + 1) (tcells t)).setCell ⟨w.heap.size + 1 + 1 + 1, 0, none⟩ (.int .i64 5)).setCell ⟨w.heap.size + 1 + 1 + 1, 1, none⟩ (.int .i64 0)) (w.heap.size + 1 + 1) (tcells t) 69 :=
    ((R.out.setBlk _).other _ (by show w.heap.size + 1 + 1 ≠ w.heap.size + 1 + 1 + 1; omega)).other _ (by show w.heap.size + 1 + 1 ≠ w.heap.size + 1 + 1 + 1; omega)
  have hA2 : Blk (((setBlk w4 (w.heap.size + 1 + 1) (tcells t)).setCell ⟨w.heap.size + 1 + 1 + 1, 0, none⟩ (.int .i64 5)).setCell ⟨w.heap.size + 1 + 1 + 1, 1, none⟩ (.int .i64 0)) (w.heap.size + 1 + 1 + 1) [.int .i64 5, .int .i64 0] 26 :=
    Blk.pair (A.out.otherBlk _ (by omega))
  have hB2 : Below w.heap.size w (((setBlk w4 (w.heap.size + 1 + 1) (tcells t)).setCell ⟨w.heap.size + 1 + 1 + 1, 0, none⟩ (.int .i64 5)).setCell ⟨w.heap.size + 1 + 1 + 1, 1, none⟩ (.int .i64 0)) :=
    bstore (bstore (bsetBlk HB.out (by omega) _) (by show w.heap.size ≤ w.heap.size + 1 + 1 + 1; omega) _) (by show w.heap.size ≤ w.heap.size + 1 + 1 + 1; omega) _
  refine bodyPost_ret (v := .tuple #[.agg (tcells t).toArray, .agg #[.int .i64 5, .int .i64 0]]) (results2_cells _ _ _ _ rfl (w.heap.size + 1 + 1) (w.heap.size + 1 + 1 + 1) (tcells t) [.int .i64 5, .int .i64 0] 69 26 _ _ rfl rfl hR2 hA2 Try.underlying69 rfl (by rw [HLT.out]; kernel_rfl) Try.underlying26 rfl (by kernel_rfl)) rfl ⟨?_, hB2⟩
  rw [HD.out]
set_option maxHeartbeats 2000000 in
theorem do_count (w : World) (t : List Int) (g : Good t) (what key value : Int) (h6 : what = 6) :
    Calls Try.prog 51 #[.agg (tcells t).toArray, .agg #[.int .i64 what, .int .i64 key, .int .i64 value]] w fun e w' => e = .returned (.tuple #[.agg (tcells (doT t what key value).1).toArray, .agg #[.int .i64 (doT t what key value).2.1, .int .i64 (doT t what key value).2.2]]) ∧ Below w.heap.size w w' := by
  subst h6
  have hd : doT t 6 key value = (t, 1, (lenT t : Int)) := by unfold doT; rw [if_pos rfl]
  have HD := Lib.hid hd
  clear hd
  have HL := Lib.hid g.len
  have HB := Lib.hid (Below.refl w.heap.size w)
  have HONE := Lib.hid (tcells_one t)
  have HLT : Hid ((tcells t).length = 16) := Lib.hid (by rw [tcells_len]; exact g.len)
  have HCT := Lib.hid (tcells_take t g.len)
  have HG := Lib.hid g
  clear g
  go_enter Try.func51, Try.ntmps51
  go_upto_region 1 with fail
  have hb1 := balloc (Below.refl _ w) (Obj.cells (tcells t).toArray 69)
  have T := Lib.hid (Blk.new w (tcells t) 69)
  change Hid (Blk (w.alloc (Obj.cells (tcells t).toArray 69)) _ _ _) at T
  have ZT : Hid ((w.alloc (Obj.cells (tcells t).toArray 69)).heap.size = w.heap.size + 1) := World.size_alloc _ _
  replace HB := Lib.hid (bcall HB.out hb1)
  clear hb1
  generalize w.alloc (Obj.cells (tcells t).toArray 69) = w1 at *
  have hb2 := balloc (Below.refl _ w1) (Obj.cells #[.int .i64 6, .int .i64 key, .int .i64 value] 30)
  have O := Lib.hid (Blk.new w1 [.int .i64 6, .int .i64 key, .int .i64 value] 30)
  change Hid (Blk (w1.alloc (Obj.cells #[.int .i64 6, .int .i64 key, .int .i64 value] 30)) _ _ _) at O
  have ZO : Hid ((w1.alloc (Obj.cells #[.int .i64 6, .int .i64 key, .int .i64 value] 30)).heap.size = w1.heap.size + 1) := World.size_alloc _ _
  replace HB := Lib.hid (bcall HB.out hb2)
  replace T := Lib.hid (T.out.below hb2)
  clear hb2
  rw [ZT.out] at O ZO
  clear ZT
  generalize w1.alloc (Obj.cells #[.int .i64 6, .int .i64 key, .int .i64 value] 30) = w2 at *
  have O_c0 : w2.cell? ⟨(w.heap.size + 1), 0, none⟩ = some (.int .i64 6) := O.out.cell 0
  have O_c1 : w2.cell? ⟨(w.heap.size + 1), 1, none⟩ = some (.int .i64 key) := O.out.cell 1
  have O_c2 : w2.cell? ⟨(w.heap.size + 1), 2, none⟩ = some (.int .i64 value) := O.out.cell 2
  have O_z : (w.heap.size + 1) < w2.heap.size := O.out.lt
  have hb3 := balloc (Below.refl _ w2) (Obj.cells #[.int .i64 0, .int .i64 0, .int .i64 0, .int .i64 0, .int .i64 0, .int .i64 0, .int .i64 0, .int .i64 0, .int .i64 0, .int .i64 0, .int .i64 0, .int .i64 0, .int .i64 0, .int .i64 0, .int .i64 0, .int .i64 0] 69)
  have R := Lib.hid (Blk.new w2 [.int .i64 0, .int .i64 0, .int .i64 0, .int .i64 0, .int .i64 0, .int .i64 0, .int .i64 0, .int .i64 0, .int .i64 0, .int .i64 0, .int .i64 0, .int .i64 0, .int .i64 0, .int .i64 0, .int .i64 0, .int .i64 0] 69)
  change Hid (Blk (w2.alloc (Obj.cells #[.int .i64 0, .int .i64 0, .int .i64 0, .int .i64 0, .int .i64 0, .int .i64 0, .int .i64 0, .int .i64 0, .int .i64 0, .int .i64 0, .int .i64 0, .int .i64 0, .int .i64 0, .int .i64 0, .int .i64 0, .int .i64 0] 69)) _ _ _) at R
  have ZR : Hid ((w2.alloc (Obj.cells #[.int .i64 0, .int .i64 0, .int .i64 0, .int .i64 0, .int .i64 0, .int .i64 0, .int .i64 0, .int .i64 0, .int .i64 0, .int .i64 0, .int .i64 0, .int .i64 0, .int .i64 0, .int .i64 0, .int .i64 0, .int .i64 0] 69)).heap.size = w2.heap.size + 1) := World.size_alloc _ _
  clear O_c0 O_c1 O_c2 O_z
  replace HB := Lib.hid (bcall HB.out hb3)
  replace T := Lib.hid (T.out.below hb3)
  replace O := Lib.hid (O.out.below hb3)
  clear hb3
  rw [ZO.out] at R ZR
  clear ZO
  generalize w2.alloc (Obj.cells #[.int .i64 0, .int .i64 0, .int .i64 0, .int .i64 0, .int .i64 0, .int .i64 0, .int .i64 0, .int .i64 0, .int .i64 0, .int .i64 0, .int .i64 0, .int .i64 0, .int .i64 0, .int .i64 0, .int .i64 0, .int .i64 0] 69) = w3 at *
  have O_c0 : w3.cell? ⟨(w.heap.size + 1), 0, none⟩ = some (.int .i64 6) := O.out.cell 0
  have O_c1 : w3.cell? ⟨(w.heap.size + 1), 1, none⟩ = some (.int .i64 key) := O.out.cell 1
  have O_c2 : w3.cell? ⟨(w.heap.size + 1), 2, none⟩ = some (.int .i64 value) := O.out.cell 2
  have O_z : (w.heap.size + 1) < w3.heap.size := O.out.lt
  have hb4 := balloc (Below.refl _ w3) (Obj.cells #[.int .i64 0, .int .i64 0] 26)
  have A := Lib.hid (Blk.new w3 [.int .i64 0, .int .i64 0] 26)
  change Hid (Blk (w3.alloc (Obj.cells #[.int .i64 0, .int .i64 0] 26)) _ _ _) at A
  have ZA : Hid ((w3.alloc (Obj.cells #[.int .i64 0, .int .i64 0] 26)).heap.size = w3.heap.size + 1) := World.size_alloc _ _
  clear O_c0 O_c1 O_c2 O_z
  replace HB := Lib.hid (bcall HB.out hb4)
  replace T := Lib.hid (T.out.below hb4)
  replace O := Lib.hid (O.out.below hb4)
  replace R := Lib.hid (R.out.below hb4)
  clear hb4
  rw [ZR.out] at A ZA
  clear ZR
  generalize w3.alloc (Obj.cells #[.int .i64 0, .int .i64 0] 26) = w4 at *
  have O_c0 : w4.cell? ⟨(w.heap.size + 1), 0, none⟩ = some (.int .i64 6) := O.out.cell 0
  have O_c1 : w4.cell? ⟨(w.heap.size + 1), 1, none⟩ = some (.int .i64 key) := O.out.cell 1
  have O_c2 : w4.cell? ⟨(w.heap.size + 1), 2, none⟩ = some (.int .i64 value) := O.out.cell 2
  have O_z : (w.heap.size + 1) < w4.heap.size := O.out.lt
  have hr := T.out.range
  have th2 : w4.there (w.heap.size + 1 + 1) 0 16 := R.out.there 0 16 (by decide)
  have th3 : w4.there (w.heap.size + 1 + 1 + 1) 0 2 := A.out.there 0 2 (by decide)
  have hu := Try.underlying69
  have hi : (Try.prog.info? 69).map (·.size) = some (tcells t).length := by rw [HLT.out]; kernel_rfl
  have hl16 : (tcells t).length = 16 := HLT.out
  have h1 := HONE.out
  go_wp2_with fail
  refine wp_region_noPanic ?_
  refine wp_region_held (S := fun w' => w'.rangeAt w.heap.size 0 (tcells t)) (by kernel_rfl) ?_
  rw [show ({ w4 with drawn := w4.drawn + 1 } : World) = w4.drew from rfl]
  have hS : w4.drew.rangeAt w.heap.size 0 (tcells t) := (Blk.drew T.out).range
  refine wpAnyH_take (i := 0) (v := .agg (tcells t).toArray) rfl (by kernel_rfl) (by kernel_rfl) (by kernel_rfl) (fun c a w h => h) (yieldsIf_load_mid (by kernel_rfl) 69 (.tmp 2) rfl w.heap.size 0 rfl (tcells t) _ (fun w h => h) hu rfl hi) hS ?_
  refine wpAnyH_take (i := 1) (v := .agg (tcells t).toArray) rfl (by kernel_rfl) (by kernel_rfl) (by kernel_rfl) (fun c a w h => h) (yieldsIf_load_mid (by kernel_rfl) 69 (.tmp 2) rfl w.heap.size 0 rfl (tcells t) _ (fun w h => h) hu rfl hi) hS ?_
  refine wpAnyH_ready (rs := [2]) (by kernel_rfl) (by decide) ?_
  refine AllReadyH.cons rfl (fun K' hK => ?_) AllReadyH.nil
  go_simp
  refine (len_any t HL.out _).mono ?_
  rintro e w9 ⟨rfl, hb9⟩
  have T9 := (Blk.drew T.out).below hb9
  have R9 := (Blk.drew R.out).below hb9
  have A9 := (Blk.drew A.out).below hb9
  have hS9 : w9.rangeAt w.heap.size 0 (tcells t) := T9.range
  refine hK.out _ _ hS9 (fun _ => ?_)
  clear hK K'
  refine wpAnyH_take (i := 3) (v := .agg #[.int .i64 1, .int .i64 (lenT t)]) rfl (by kernel_rfl) (by kernel_rfl) (by kernel_rfl) (fun c a w h => h) (.inl ⟨by kernel_rfl, fun w _ => by kernel_rfl⟩) hS9 ?_
  refine wpAnyH_ready (rs := [4]) (by kernel_rfl) (by decide) ?_
  refine AllReadyH.cons rfl (fun K' hK => ?_) AllReadyH.nil
  rw [if_pos (by kernel_rfl)]
  refine wp_store_mid 69 _ _ rfl (w.heap.size + 1 + 1) 0 (tcells t).toArray rfl rfl (by show w9.there _ 0 (tcells t).length; rw [HLT.out]; exact R9.there 0 16 (by decide)) (by show _ = some (tcells t).length; exact hi) (by simpa using h1) ?_
  have R10 := (R9.setCellsWhole (vs := tcells t) HLT.out)
  have A10 := (A9.kept (setCells_kept (w.heap.size + 1 + 1) (tcells t) 0 w9) (by intro hh; omega))
  have hS10 := World.rangeAt_setCells_apart hS9 (w.heap.size + 1 + 1) 0 (tcells t) (.inl (by omega))
  refine hK.out _ _ hS10 (fun _ => ?_)
  clear hK K'
  refine wpAnyH_ready (rs := [5]) (by kernel_rfl) (by decide) ?_
  refine AllReadyH.cons rfl (fun K' hK => ?_) AllReadyH.nil
  rw [if_pos (by kernel_rfl)]
  refine wp_store_mid 26 _ _ rfl (w.heap.size + 1 + 1 + 1) 0 #[.int .i64 1, .int .i64 (lenT t)] rfl rfl (A10.there 0 2 (by decide)) (by kernel_rfl) (by simp [Value.oneCell']) ?_
  refine hK.out _ _ (World.rangeAt_setCells_apart hS10 _ 0 _ (.inl (by omega))) (fun _ => ?_)
  clear hK K'
  refine wpAnyH_done (by kernel_rfl) ?_ _
  refine NoPanic.normal ?_
  go_wp2_with fail
  have hA2 := A10.setCellsWhole (vs := [.int .i64 1, .int .i64 (lenT t)]) rfl
  have hR3 := R10.kept (setCells_kept (w.heap.size + 1 + 1 + 1) [.int .i64 1, .int .i64 (lenT t)] 0 _) (by intro hh; omega)
  have hB9 := bcall HB.out.drew hb9
  have hB2 := bkept (bkept hB9 (setCells_kept (w.heap.size + 1 + 1) (tcells t) 0 w9) (by rintro n rfl; omega)) (setCells_kept (w.heap.size + 1 + 1 + 1) [.int .i64 1, .int .i64 (lenT t)] 0 _) (by rintro n rfl; omega)
  refine bodyPost_ret (v := .tuple #[.agg (tcells t).toArray, .agg #[.int .i64 1, .int .i64 (lenT t)]]) (results2_cells _ _ _ _ rfl (w.heap.size + 1 + 1) (w.heap.size + 1 + 1 + 1) (tcells t) [.int .i64 1, .int .i64 (lenT t)] 69 26 _ _ rfl rfl hR3 hA2 Try.underlying69 rfl (by rw [HLT.out]; kernel_rfl) Try.underlying26 rfl (by kernel_rfl)) rfl ⟨?_, hB2⟩
  rw [HD.out]
set_option maxHeartbeats 2000000 in
theorem do_absent2 (w : World) (t : List Int) (g : Good t) (what key value : Int) (hw : what = 2) (hk1 : 1 ≤ key) (hk2 : key ≤ 1000) (ht : thereB t key = false) :
    Calls Try.prog 51 #[.agg (tcells t).toArray, .agg #[.int .i64 what, .int .i64 key, .int .i64 value]] w fun e w' => e = .returned (.tuple #[.agg (tcells (doT t what key value).1).toArray, .agg #[.int .i64 (doT t what key value).2.1, .int .i64 (doT t what key value).2.2]]) ∧ Below w.heap.size w w' := by
  subst hw
  obtain ⟨i, hi8, ha, ho, -⟩ := g.at key
  have hT0 : thereB t key = (tk t i == key) := by simp [thereB, ha]
  have bt : (tk t i == key) = false := by rw [← hT0]; exact ht
  have hai : (atI t key).toNat = i := by rw [ha]; rfl
  have hd : doT t 2 key value = (t, 4, 0) := by unfold doT; rw [if_neg (by decide), if_neg (by omega), if_neg (by decide), if_pos ht]
  have HD := Lib.hid hd
  clear hd
  have HC0 : ∀ w' : World, Blk w' w.heap.size (tcells t) 69 → w'.cell? ⟨w.heap.size, i * 2, none⟩ = some (.int .i64 (tk t i)) := fun w' h => (show TabAt w' w.heap.size t from ⟨g.len, h⟩).c0 i hi8
  have HC1 : ∀ w' : World, Blk w' w.heap.size (tcells t) 69 → w'.cell? ⟨w.heap.size, i * 2 + 1, none⟩ = some (.int .i64 (tv t i)) := fun w' h => (show TabAt w' w.heap.size t from ⟨g.len, h⟩).c1 i hi8
  replace HC0 := Lib.hid HC0
  replace HC1 := Lib.hid HC1
  have HA := Lib.hid ha
  have k1 : decide (key < 1) = false := by simp; omega
  have k2 : decide (1000 < key) = false := by simp; omega
  have i0 : (0 : Int) ≤ (i : Int) := Int.natCast_nonneg _
  have i8 : (i : Int) < 8 := by omega
  clear ha ho hT0 ht hai
  have HL := Lib.hid g.len
  have HB := Lib.hid (Below.refl w.heap.size w)
  have HONE := Lib.hid (tcells_one t)
  have HLT : Hid ((tcells t).length = 16) := Lib.hid (by rw [tcells_len]; exact g.len)
  have HCT := Lib.hid (tcells_take t g.len)
  have HG := Lib.hid g
  clear g
  go_enter Try.func51, Try.ntmps51
  go_upto_region 1 with fail
  have hb1 := balloc (Below.refl _ w) (Obj.cells (tcells t).toArray 69)
  have T := Lib.hid (Blk.new w (tcells t) 69)
  change Hid (Blk (w.alloc (Obj.cells (tcells t).toArray 69)) _ _ _) at T
  have ZT : Hid ((w.alloc (Obj.cells (tcells t).toArray 69)).heap.size = w.heap.size + 1) := World.size_alloc _ _
  replace HB := Lib.hid (bcall HB.out hb1)
  clear hb1
  generalize w.alloc (Obj.cells (tcells t).toArray 69) = w1 at *
  have hb2 := balloc (Below.refl _ w1) (Obj.cells #[.int .i64 2, .int .i64 key, .int .i64 value] 30)
  have O := Lib.hid (Blk.new w1 [.int .i64 2, .int .i64 key, .int .i64 value] 30)
  change Hid (Blk (w1.alloc (Obj.cells #[.int .i64 2, .int .i64 key, .int .i64 value] 30)) _ _ _) at O
  have ZO : Hid ((w1.alloc (Obj.cells #[.int .i64 2, .int .i64 key, .int .i64 value] 30)).heap.size = w1.heap.size + 1) := World.size_alloc _ _
  replace HB := Lib.hid (bcall HB.out hb2)
  replace T := Lib.hid (T.out.below hb2)
  clear hb2
  rw [ZT.out] at O ZO
  clear ZT
  generalize w1.alloc (Obj.cells #[.int .i64 2, .int .i64 key, .int .i64 value] 30) = w2 at *
  have O_c0 : w2.cell? ⟨(w.heap.size + 1), 0, none⟩ = some (.int .i64 2) := O.out.cell 0
  have O_c1 : w2.cell? ⟨(w.heap.size + 1), 1, none⟩ = some (.int .i64 key) := O.out.cell 1
  have O_c2 : w2.cell? ⟨(w.heap.size + 1), 2, none⟩ = some (.int .i64 value) := O.out.cell 2
  have O_z : (w.heap.size + 1) < w2.heap.size := O.out.lt
  have hb3 := balloc (Below.refl _ w2) (Obj.cells #[.int .i64 0, .int .i64 0, .int .i64 0, .int .i64 0, .int .i64 0, .int .i64 0, .int .i64 0, .int .i64 0, .int .i64 0, .int .i64 0, .int .i64 0, .int .i64 0, .int .i64 0, .int .i64 0, .int .i64 0, .int .i64 0] 69)
  have R := Lib.hid (Blk.new w2 [.int .i64 0, .int .i64 0, .int .i64 0, .int .i64 0, .int .i64 0, .int .i64 0, .int .i64 0, .int .i64 0, .int .i64 0, .int .i64 0, .int .i64 0, .int .i64 0, .int .i64 0, .int .i64 0, .int .i64 0, .int .i64 0] 69)
  change Hid (Blk (w2.alloc (Obj.cells #[.int .i64 0, .int .i64 0, .int .i64 0, .int .i64 0, .int .i64 0, .int .i64 0, .int .i64 0, .int .i64 0, .int .i64 0, .int .i64 0, .int .i64 0, .int .i64 0, .int .i64 0, .int .i64 0, .int .i64 0, .int .i64 0] 69)) _ _ _) at R
  have ZR : Hid ((w2.alloc (Obj.cells #[.int .i64 0, .int .i64 0, .int .i64 0, .int .i64 0, .int .i64 0, .int .i64 0, .int .i64 0, .int .i64 0, .int .i64 0, .int .i64 0, .int .i64 0, .int .i64 0, .int .i64 0, .int .i64 0, .int .i64 0, .int .i64 0] 69)).heap.size = w2.heap.size + 1) := World.size_alloc _ _
  clear O_c0 O_c1 O_c2 O_z
  replace HB := Lib.hid (bcall HB.out hb3)
  replace T := Lib.hid (T.out.below hb3)
  replace O := Lib.hid (O.out.below hb3)
  clear hb3
  rw [ZO.out] at R ZR
  clear ZO
  generalize w2.alloc (Obj.cells #[.int .i64 0, .int .i64 0, .int .i64 0, .int .i64 0, .int .i64 0, .int .i64 0, .int .i64 0, .int .i64 0, .int .i64 0, .int .i64 0, .int .i64 0, .int .i64 0, .int .i64 0, .int .i64 0, .int .i64 0, .int .i64 0] 69) = w3 at *
  have O_c0 : w3.cell? ⟨(w.heap.size + 1), 0, none⟩ = some (.int .i64 2) := O.out.cell 0
  have O_c1 : w3.cell? ⟨(w.heap.size + 1), 1, none⟩ = some (.int .i64 key) := O.out.cell 1
  have O_c2 : w3.cell? ⟨(w.heap.size + 1), 2, none⟩ = some (.int .i64 value) := O.out.cell 2
  have O_z : (w.heap.size + 1) < w3.heap.size := O.out.lt
  have hb4 := balloc (Below.refl _ w3) (Obj.cells #[.int .i64 0, .int .i64 0] 26)
  have A := Lib.hid (Blk.new w3 [.int .i64 0, .int .i64 0] 26)
  change Hid (Blk (w3.alloc (Obj.cells #[.int .i64 0, .int .i64 0] 26)) _ _ _) at A
  have ZA : Hid ((w3.alloc (Obj.cells #[.int .i64 0, .int .i64 0] 26)).heap.size = w3.heap.size + 1) := World.size_alloc _ _
  clear O_c0 O_c1 O_c2 O_z
  replace HB := Lib.hid (bcall HB.out hb4)
  replace T := Lib.hid (T.out.below hb4)
  replace O := Lib.hid (O.out.below hb4)
  replace R := Lib.hid (R.out.below hb4)
  clear hb4
  rw [ZR.out] at A ZA
  clear ZR
  generalize w3.alloc (Obj.cells #[.int .i64 0, .int .i64 0] 26) = w4 at *
  have O_c0 : w4.cell? ⟨(w.heap.size + 1), 0, none⟩ = some (.int .i64 2) := O.out.cell 0
  have O_c1 : w4.cell? ⟨(w.heap.size + 1), 1, none⟩ = some (.int .i64 key) := O.out.cell 1
  have O_c2 : w4.cell? ⟨(w.heap.size + 1), 2, none⟩ = some (.int .i64 value) := O.out.cell 2
  have O_z : (w.heap.size + 1) < w4.heap.size := O.out.lt
  have c0 := HC0.out _ T.out
  have k1' : (0 : Int) ≤ key := by omega
  generalize tk t i = ky at *
  generalize tv t i = vl at *
  go_wp2_with fail
  refine (at_any key _ w.heap.size t ⟨HL.out, T.out⟩ k1' hk2).mono ?_
  rw [HA.out]
  rintro e w' ⟨rfl, rfl⟩
  go_wp2_with fail
  go_region_held3 (fun w' => w'.cell? ⟨w.heap.size, i * 2, none⟩ = some (.int .i64 ky) ∧ w'.cell? ⟨w.heap.size + 1, 1, none⟩ = some (.int .i64 key))
    (first | go_keep) (fail)
  clear c0
  clear O_c0 O_c1 O_c2 O_z
  replace HB := Lib.hid HB.out.drew
  replace T := Lib.hid (Blk.drew T.out)
  replace O := Lib.hid (Blk.drew O.out)
  replace R := Lib.hid (Blk.drew R.out)
  replace A := Lib.hid (Blk.drew A.out)
  generalize w4.drew = w5 at *
  have O_c0 : w5.cell? ⟨(w.heap.size + 1), 0, none⟩ = some (.int .i64 2) := O.out.cell 0
  have O_c1 : w5.cell? ⟨(w.heap.size + 1), 1, none⟩ = some (.int .i64 key) := O.out.cell 1
  have O_c2 : w5.cell? ⟨(w.heap.size + 1), 2, none⟩ = some (.int .i64 value) := O.out.cell 2
  have O_z : (w.heap.size + 1) < w5.heap.size := O.out.lt
  go_wp2_with (first | (refine wpList_load_part rfl 69 _ rfl w.heap.size 0 16 rfl 69 (tcells t) _ T.out (by rw [HLT.out]; decide) Try.underlying69 rfl (by kernel_rfl) ?_; rw [HCT.out]) | (refine wpList_store_part rfl 69 _ _ rfl (w.heap.size + 1 + 1) 0 16 (tcells t) rfl rfl 69 _ R.out HLT.out (by decide) (by kernel_rfl) HONE.out ?_; rw [spl_z16 _ HLT.out]; have aa0 := (A.out.otherBlk (tcells t) (show w.heap.size + 1 + 1 + 1 ≠ w.heap.size + 1 + 1 by omega)).cell 0; have aa1 := (A.out.otherBlk (tcells t) (show w.heap.size + 1 + 1 + 1 ≠ w.heap.size + 1 + 1 by omega)).cell 1; have af0 := (A.out.otherBlk (tcells t) (show w.heap.size + 1 + 1 + 1 ≠ w.heap.size + 1 + 1 by omega)).frozen 0; have af1 := (A.out.otherBlk (tcells t) (show w.heap.size + 1 + 1 + 1 ≠ w.heap.size + 1 + 1 by omega)).frozen 1))
  have hR2 : Blk (((setBlk w5 (w.heap.size + 1 + 1) (tcells t)).setCell ⟨w.heap.size + 1 + 1 + 1, 0, none⟩ (.int .i64 4)).setCell ⟨w.heap.size + 1 + 1 + 1, 1, none⟩ (.int .i64 0)) (w.heap.size + 1 + 1) (tcells t) 69 :=
    ((R.out.setBlk _).other _ (by show w.heap.size + 1 + 1 ≠ w.heap.size + 1 + 1 + 1; omega)).other _ (by show w.heap.size + 1 + 1 ≠ w.heap.size + 1 + 1 + 1; omega)
  have hA2 : Blk (((setBlk w5 (w.heap.size + 1 + 1) (tcells t)).setCell ⟨w.heap.size + 1 + 1 + 1, 0, none⟩ (.int .i64 4)).setCell ⟨w.heap.size + 1 + 1 + 1, 1, none⟩ (.int .i64 0)) (w.heap.size + 1 + 1 + 1) [.int .i64 4, .int .i64 0] 26 :=
    Blk.pair (A.out.otherBlk _ (by omega))
  have hB2 : Below w.heap.size w (((setBlk w5 (w.heap.size + 1 + 1) (tcells t)).setCell ⟨w.heap.size + 1 + 1 + 1, 0, none⟩ (.int .i64 4)).setCell ⟨w.heap.size + 1 + 1 + 1, 1, none⟩ (.int .i64 0)) :=
    bstore (bstore (bsetBlk HB.out (by omega) _) (by show w.heap.size ≤ w.heap.size + 1 + 1 + 1; omega) _) (by show w.heap.size ≤ w.heap.size + 1 + 1 + 1; omega) _
  refine bodyPost_ret (v := .tuple #[.agg (tcells t).toArray, .agg #[.int .i64 4, .int .i64 0]]) (results2_cells _ _ _ _ rfl (w.heap.size + 1 + 1) (w.heap.size + 1 + 1 + 1) (tcells t) [.int .i64 4, .int .i64 0] 69 26 _ _ rfl rfl hR2 hA2 Try.underlying69 rfl (by rw [HLT.out]; kernel_rfl) Try.underlying26 rfl (by kernel_rfl)) rfl ⟨?_, hB2⟩
  rw [HD.out]
set_option maxHeartbeats 2000000 in
theorem do_absent5 (w : World) (t : List Int) (g : Good t) (what key value : Int) (hw : what = 5) (hk1 : 1 ≤ key) (hk2 : key ≤ 1000) (ht : thereB t key = false) :
    Calls Try.prog 51 #[.agg (tcells t).toArray, .agg #[.int .i64 what, .int .i64 key, .int .i64 value]] w fun e w' => e = .returned (.tuple #[.agg (tcells (doT t what key value).1).toArray, .agg #[.int .i64 (doT t what key value).2.1, .int .i64 (doT t what key value).2.2]]) ∧ Below w.heap.size w w' := by
  subst hw
  obtain ⟨i, hi8, ha, ho, -⟩ := g.at key
  have hT0 : thereB t key = (tk t i == key) := by simp [thereB, ha]
  have bt : (tk t i == key) = false := by rw [← hT0]; exact ht
  have hai : (atI t key).toNat = i := by rw [ha]; rfl
  have hd : doT t 5 key value = (t, 4, 0) := by unfold doT; rw [if_neg (by decide), if_neg (by omega), if_neg (by decide), if_pos ht]
  have HD := Lib.hid hd
  clear hd
  have HC0 : ∀ w' : World, Blk w' w.heap.size (tcells t) 69 → w'.cell? ⟨w.heap.size, i * 2, none⟩ = some (.int .i64 (tk t i)) := fun w' h => (show TabAt w' w.heap.size t from ⟨g.len, h⟩).c0 i hi8
  have HC1 : ∀ w' : World, Blk w' w.heap.size (tcells t) 69 → w'.cell? ⟨w.heap.size, i * 2 + 1, none⟩ = some (.int .i64 (tv t i)) := fun w' h => (show TabAt w' w.heap.size t from ⟨g.len, h⟩).c1 i hi8
  replace HC0 := Lib.hid HC0
  replace HC1 := Lib.hid HC1
  have HA := Lib.hid ha
  have k1 : decide (key < 1) = false := by simp; omega
  have k2 : decide (1000 < key) = false := by simp; omega
  have i0 : (0 : Int) ≤ (i : Int) := Int.natCast_nonneg _
  have i8 : (i : Int) < 8 := by omega
  clear ha ho hT0 ht hai
  have HL := Lib.hid g.len
  have HB := Lib.hid (Below.refl w.heap.size w)
  have HONE := Lib.hid (tcells_one t)
  have HLT : Hid ((tcells t).length = 16) := Lib.hid (by rw [tcells_len]; exact g.len)
  have HCT := Lib.hid (tcells_take t g.len)
  have HG := Lib.hid g
  clear g
  go_enter Try.func51, Try.ntmps51
  go_upto_region 1 with fail
  have hb1 := balloc (Below.refl _ w) (Obj.cells (tcells t).toArray 69)
  have T := Lib.hid (Blk.new w (tcells t) 69)
  change Hid (Blk (w.alloc (Obj.cells (tcells t).toArray 69)) _ _ _) at T
  have ZT : Hid ((w.alloc (Obj.cells (tcells t).toArray 69)).heap.size = w.heap.size + 1) := World.size_alloc _ _
  replace HB := Lib.hid (bcall HB.out hb1)
  clear hb1
  generalize w.alloc (Obj.cells (tcells t).toArray 69) = w1 at *
  have hb2 := balloc (Below.refl _ w1) (Obj.cells #[.int .i64 5, .int .i64 key, .int .i64 value] 30)
  have O := Lib.hid (Blk.new w1 [.int .i64 5, .int .i64 key, .int .i64 value] 30)
  change Hid (Blk (w1.alloc (Obj.cells #[.int .i64 5, .int .i64 key, .int .i64 value] 30)) _ _ _) at O
  have ZO : Hid ((w1.alloc (Obj.cells #[.int .i64 5, .int .i64 key, .int .i64 value] 30)).heap.size = w1.heap.size + 1) := World.size_alloc _ _
  replace HB := Lib.hid (bcall HB.out hb2)
  replace T := Lib.hid (T.out.below hb2)
  clear hb2
  rw [ZT.out] at O ZO
  clear ZT
  generalize w1.alloc (Obj.cells #[.int .i64 5, .int .i64 key, .int .i64 value] 30) = w2 at *
  have O_c0 : w2.cell? ⟨(w.heap.size + 1), 0, none⟩ = some (.int .i64 5) := O.out.cell 0
  have O_c1 : w2.cell? ⟨(w.heap.size + 1), 1, none⟩ = some (.int .i64 key) := O.out.cell 1
  have O_c2 : w2.cell? ⟨(w.heap.size + 1), 2, none⟩ = some (.int .i64 value) := O.out.cell 2
  have O_z : (w.heap.size + 1) < w2.heap.size := O.out.lt
  have hb3 := balloc (Below.refl _ w2) (Obj.cells #[.int .i64 0, .int .i64 0, .int .i64 0, .int .i64 0, .int .i64 0, .int .i64 0, .int .i64 0, .int .i64 0, .int .i64 0, .int .i64 0, .int .i64 0, .int .i64 0, .int .i64 0, .int .i64 0, .int .i64 0, .int .i64 0] 69)
  have R := Lib.hid (Blk.new w2 [.int .i64 0, .int .i64 0, .int .i64 0, .int .i64 0, .int .i64 0, .int .i64 0, .int .i64 0, .int .i64 0, .int .i64 0, .int .i64 0, .int .i64 0, .int .i64 0, .int .i64 0, .int .i64 0, .int .i64 0, .int .i64 0] 69)
  change Hid (Blk (w2.alloc (Obj.cells #[.int .i64 0, .int .i64 0, .int .i64 0, .int .i64 0, .int .i64 0, .int .i64 0, .int .i64 0, .int .i64 0, .int .i64 0, .int .i64 0, .int .i64 0, .int .i64 0, .int .i64 0, .int .i64 0, .int .i64 0, .int .i64 0] 69)) _ _ _) at R
  have ZR : Hid ((w2.alloc (Obj.cells #[.int .i64 0, .int .i64 0, .int .i64 0, .int .i64 0, .int .i64 0, .int .i64 0, .int .i64 0, .int .i64 0, .int .i64 0, .int .i64 0, .int .i64 0, .int .i64 0, .int .i64 0, .int .i64 0, .int .i64 0, .int .i64 0] 69)).heap.size = w2.heap.size + 1) := World.size_alloc _ _
  clear O_c0 O_c1 O_c2 O_z
  replace HB := Lib.hid (bcall HB.out hb3)
  replace T := Lib.hid (T.out.below hb3)
  replace O := Lib.hid (O.out.below hb3)
  clear hb3
  rw [ZO.out] at R ZR
  clear ZO
  generalize w2.alloc (Obj.cells #[.int .i64 0, .int .i64 0, .int .i64 0, .int .i64 0, .int .i64 0, .int .i64 0, .int .i64 0, .int .i64 0, .int .i64 0, .int .i64 0, .int .i64 0, .int .i64 0, .int .i64 0, .int .i64 0, .int .i64 0, .int .i64 0] 69) = w3 at *
  have O_c0 : w3.cell? ⟨(w.heap.size + 1), 0, none⟩ = some (.int .i64 5) := O.out.cell 0
  have O_c1 : w3.cell? ⟨(w.heap.size + 1), 1, none⟩ = some (.int .i64 key) := O.out.cell 1
  have O_c2 : w3.cell? ⟨(w.heap.size + 1), 2, none⟩ = some (.int .i64 value) := O.out.cell 2
  have O_z : (w.heap.size + 1) < w3.heap.size := O.out.lt
  have hb4 := balloc (Below.refl _ w3) (Obj.cells #[.int .i64 0, .int .i64 0] 26)
  have A := Lib.hid (Blk.new w3 [.int .i64 0, .int .i64 0] 26)
  change Hid (Blk (w3.alloc (Obj.cells #[.int .i64 0, .int .i64 0] 26)) _ _ _) at A
  have ZA : Hid ((w3.alloc (Obj.cells #[.int .i64 0, .int .i64 0] 26)).heap.size = w3.heap.size + 1) := World.size_alloc _ _
  clear O_c0 O_c1 O_c2 O_z
  replace HB := Lib.hid (bcall HB.out hb4)
  replace T := Lib.hid (T.out.below hb4)
  replace O := Lib.hid (O.out.below hb4)
  replace R := Lib.hid (R.out.below hb4)
  clear hb4
  rw [ZR.out] at A ZA
  clear ZR
  generalize w3.alloc (Obj.cells #[.int .i64 0, .int .i64 0] 26) = w4 at *
  have O_c0 : w4.cell? ⟨(w.heap.size + 1), 0, none⟩ = some (.int .i64 5) := O.out.cell 0
  have O_c1 : w4.cell? ⟨(w.heap.size + 1), 1, none⟩ = some (.int .i64 key) := O.out.cell 1
  have O_c2 : w4.cell? ⟨(w.heap.size + 1), 2, none⟩ = some (.int .i64 value) := O.out.cell 2
  have O_z : (w.heap.size + 1) < w4.heap.size := O.out.lt
  have c0 := HC0.out _ T.out
  have k1' : (0 : Int) ≤ key := by omega
  generalize tk t i = ky at *
  generalize tv t i = vl at *
  go_wp2_with fail
  refine (at_any key _ w.heap.size t ⟨HL.out, T.out⟩ k1' hk2).mono ?_
  rw [HA.out]
  rintro e w' ⟨rfl, rfl⟩
  go_wp2_with fail
  go_region_held3 (fun w' => w'.cell? ⟨w.heap.size, i * 2, none⟩ = some (.int .i64 ky) ∧ w'.cell? ⟨w.heap.size + 1, 1, none⟩ = some (.int .i64 key))
    (first | go_keep) (fail)
  clear c0
  clear O_c0 O_c1 O_c2 O_z
  replace HB := Lib.hid HB.out.drew
  replace T := Lib.hid (Blk.drew T.out)
  replace O := Lib.hid (Blk.drew O.out)
  replace R := Lib.hid (Blk.drew R.out)
  replace A := Lib.hid (Blk.drew A.out)
  generalize w4.drew = w5 at *
  have O_c0 : w5.cell? ⟨(w.heap.size + 1), 0, none⟩ = some (.int .i64 5) := O.out.cell 0
  have O_c1 : w5.cell? ⟨(w.heap.size + 1), 1, none⟩ = some (.int .i64 key) := O.out.cell 1
  have O_c2 : w5.cell? ⟨(w.heap.size + 1), 2, none⟩ = some (.int .i64 value) := O.out.cell 2
  have O_z : (w.heap.size + 1) < w5.heap.size := O.out.lt
  go_wp2_with (first | (refine wpList_load_part rfl 69 _ rfl w.heap.size 0 16 rfl 69 (tcells t) _ T.out (by rw [HLT.out]; decide) Try.underlying69 rfl (by kernel_rfl) ?_; rw [HCT.out]) | (refine wpList_store_part rfl 69 _ _ rfl (w.heap.size + 1 + 1) 0 16 (tcells t) rfl rfl 69 _ R.out HLT.out (by decide) (by kernel_rfl) HONE.out ?_; rw [spl_z16 _ HLT.out]; have aa0 := (A.out.otherBlk (tcells t) (show w.heap.size + 1 + 1 + 1 ≠ w.heap.size + 1 + 1 by omega)).cell 0; have aa1 := (A.out.otherBlk (tcells t) (show w.heap.size + 1 + 1 + 1 ≠ w.heap.size + 1 + 1 by omega)).cell 1; have af0 := (A.out.otherBlk (tcells t) (show w.heap.size + 1 + 1 + 1 ≠ w.heap.size + 1 + 1 by omega)).frozen 0; have af1 := (A.out.otherBlk (tcells t) (show w.heap.size + 1 + 1 + 1 ≠ w.heap.size + 1 + 1 by omega)).frozen 1))
  have hR2 : Blk (((setBlk w5 (w.heap.size + 1 + 1) (tcells t)).setCell ⟨w.heap.size + 1 + 1 + 1, 0, none⟩ (.int .i64 4)).setCell ⟨w.heap.size + 1 + 1 + 1, 1, none⟩ (.int .i64 0)) (w.heap.size + 1 + 1) (tcells t) 69 :=
    ((R.out.setBlk _).other _ (by show w.heap.size + 1 + 1 ≠ w.heap.size + 1 + 1 + 1; omega)).other _ (by show w.heap.size + 1 + 1 ≠ w.heap.size + 1 + 1 + 1; omega)
  have hA2 : Blk (((setBlk w5 (w.heap.size + 1 + 1) (tcells t)).setCell ⟨w.heap.size + 1 + 1 + 1, 0, none⟩ (.int .i64 4)).setCell ⟨w.heap.size + 1 + 1 + 1, 1, none⟩ (.int .i64 0)) (w.heap.size + 1 + 1 + 1) [.int .i64 4, .int .i64 0] 26 :=
    Blk.pair (A.out.otherBlk _ (by omega))
  have hB2 : Below w.heap.size w (((setBlk w5 (w.heap.size + 1 + 1) (tcells t)).setCell ⟨w.heap.size + 1 + 1 + 1, 0, none⟩ (.int .i64 4)).setCell ⟨w.heap.size + 1 + 1 + 1, 1, none⟩ (.int .i64 0)) :=
    bstore (bstore (bsetBlk HB.out (by omega) _) (by show w.heap.size ≤ w.heap.size + 1 + 1 + 1; omega) _) (by show w.heap.size ≤ w.heap.size + 1 + 1 + 1; omega) _
  refine bodyPost_ret (v := .tuple #[.agg (tcells t).toArray, .agg #[.int .i64 4, .int .i64 0]]) (results2_cells _ _ _ _ rfl (w.heap.size + 1 + 1) (w.heap.size + 1 + 1 + 1) (tcells t) [.int .i64 4, .int .i64 0] 69 26 _ _ rfl rfl hR2 hA2 Try.underlying69 rfl (by rw [HLT.out]; kernel_rfl) Try.underlying26 rfl (by kernel_rfl)) rfl ⟨?_, hB2⟩
  rw [HD.out]
set_option maxHeartbeats 2000000 in
theorem do_peek (w : World) (t : List Int) (g : Good t) (what key value : Int) (hw : what = 5) (hk1 : 1 ≤ key) (hk2 : key ≤ 1000) (ht : thereB t key = true) :
    Calls Try.prog 51 #[.agg (tcells t).toArray, .agg #[.int .i64 what, .int .i64 key, .int .i64 value]] w fun e w' => e = .returned (.tuple #[.agg (tcells (doT t what key value).1).toArray, .agg #[.int .i64 (doT t what key value).2.1, .int .i64 (doT t what key value).2.2]]) ∧ Below w.heap.size w w' := by
  subst hw
  obtain ⟨i, hi8, ha, ho, -⟩ := g.at key
  have hT0 : thereB t key = (tk t i == key) := by simp [thereB, ha]
  have bt : (tk t i == key) = true := by rw [← hT0]; exact ht
  have hai : (atI t key).toNat = i := by rw [ha]; rfl
  have hd : doT t 5 key value = (t, 1, tv t i) := by unfold doT; rw [if_neg (by decide), if_neg (by omega), if_neg (by decide), ht, if_neg (by decide), if_neg (by decide), hai]
  have HD := Lib.hid hd
  clear hd
  have HC0 : ∀ w' : World, Blk w' w.heap.size (tcells t) 69 → w'.cell? ⟨w.heap.size, i * 2, none⟩ = some (.int .i64 (tk t i)) := fun w' h => (show TabAt w' w.heap.size t from ⟨g.len, h⟩).c0 i hi8
  have HC1 : ∀ w' : World, Blk w' w.heap.size (tcells t) 69 → w'.cell? ⟨w.heap.size, i * 2 + 1, none⟩ = some (.int .i64 (tv t i)) := fun w' h => (show TabAt w' w.heap.size t from ⟨g.len, h⟩).c1 i hi8
  replace HC0 := Lib.hid HC0
  replace HC1 := Lib.hid HC1
  have HA := Lib.hid ha
  have k1 : decide (key < 1) = false := by simp; omega
  have k2 : decide (1000 < key) = false := by simp; omega
  have i0 : (0 : Int) ≤ (i : Int) := Int.natCast_nonneg _
  have i8 : (i : Int) < 8 := by omega
  clear ha ho hT0 ht hai
  have HL := Lib.hid g.len
  have HB := Lib.hid (Below.refl w.heap.size w)
  have HONE := Lib.hid (tcells_one t)
  have HLT : Hid ((tcells t).length = 16) := Lib.hid (by rw [tcells_len]; exact g.len)
  have HCT := Lib.hid (tcells_take t g.len)
  have HG := Lib.hid g
  clear g
  go_enter Try.func51, Try.ntmps51
  go_upto_region 1 with fail
  have hb1 := balloc (Below.refl _ w) (Obj.cells (tcells t).toArray 69)
  have T := Lib.hid (Blk.new w (tcells t) 69)
  change Hid (Blk (w.alloc (Obj.cells (tcells t).toArray 69)) _ _ _) at T
  have ZT : Hid ((w.alloc (Obj.cells (tcells t).toArray 69)).heap.size = w.heap.size + 1) := World.size_alloc _ _
  replace HB := Lib.hid (bcall HB.out hb1)
  clear hb1
  generalize w.alloc (Obj.cells (tcells t).toArray 69) = w1 at *
  have hb2 := balloc (Below.refl _ w1) (Obj.cells #[.int .i64 5, .int .i64 key, .int .i64 value] 30)
  have O := Lib.hid (Blk.new w1 [.int .i64 5, .int .i64 key, .int .i64 value] 30)
  change Hid (Blk (w1.alloc (Obj.cells #[.int .i64 5, .int .i64 key, .int .i64 value] 30)) _ _ _) at O
  have ZO : Hid ((w1.alloc (Obj.cells #[.int .i64 5, .int .i64 key, .int .i64 value] 30)).heap.size = w1.heap.size + 1) := World.size_alloc _ _
  replace HB := Lib.hid (bcall HB.out hb2)
  replace T := Lib.hid (T.out.below hb2)
  clear hb2
  rw [ZT.out] at O ZO
  clear ZT
  generalize w1.alloc (Obj.cells #[.int .i64 5, .int .i64 key, .int .i64 value] 30) = w2 at *
  have O_c0 : w2.cell? ⟨(w.heap.size + 1), 0, none⟩ = some (.int .i64 5) := O.out.cell 0
  have O_c1 : w2.cell? ⟨(w.heap.size + 1), 1, none⟩ = some (.int .i64 key) := O.out.cell 1
  have O_c2 : w2.cell? ⟨(w.heap.size + 1), 2, none⟩ = some (.int .i64 value) := O.out.cell 2
  have O_z : (w.heap.size + 1) < w2.heap.size := O.out.lt
  have hb3 := balloc (Below.refl _ w2) (Obj.cells #[.int .i64 0, .int .i64 0, .int .i64 0, .int .i64 0, .int .i64 0, .int .i64 0, .int .i64 0, .int .i64 0, .int .i64 0, .int .i64 0, .int .i64 0, .int .i64 0, .int .i64 0, .int .i64 0, .int .i64 0, .int .i64 0] 69)
  have R := Lib.hid (Blk.new w2 [.int .i64 0, .int .i64 0, .int .i64 0, .int .i64 0, .int .i64 0, .int .i64 0, .int .i64 0, .int .i64 0, .int .i64 0, .int .i64 0, .int .i64 0, .int .i64 0, .int .i64 0, .int .i64 0, .int .i64 0, .int .i64 0] 69)
  change Hid (Blk (w2.alloc (Obj.cells #[.int .i64 0, .int .i64 0, .int .i64 0, .int .i64 0, .int .i64 0, .int .i64 0, .int .i64 0, .int .i64 0, .int .i64 0, .int .i64 0, .int .i64 0, .int .i64 0, .int .i64 0, .int .i64 0, .int .i64 0, .int .i64 0] 69)) _ _ _) at R
  have ZR : Hid ((w2.alloc (Obj.cells #[.int .i64 0, .int .i64 0, .int .i64 0, .int .i64 0, .int .i64 0, .int .i64 0, .int .i64 0, .int .i64 0, .int .i64 0, .int .i64 0, .int .i64 0, .int .i64 0, .int .i64 0, .int .i64 0, .int .i64 0, .int .i64 0] 69)).heap.size = w2.heap.size + 1) := World.size_alloc _ _
  clear O_c0 O_c1 O_c2 O_z
  replace HB := Lib.hid (bcall HB.out hb3)
  replace T := Lib.hid (T.out.below hb3)
  replace O := Lib.hid (O.out.below hb3)
  clear hb3
  rw [ZO.out] at R ZR
  clear ZO
  generalize w2.alloc (Obj.cells #[.int .i64 0, .int .i64 0, .int .i64 0, .int .i64 0, .int .i64 0, .int .i64 0, .int .i64 0, .int .i64 0, .int .i64 0, .int .i64 0, .int .i64 0, .int .i64 0, .int .i64 0, .int .i64 0, .int .i64 0, .int .i64 0] 69) = w3 at *
  have O_c0 : w3.cell? ⟨(w.heap.size + 1), 0, none⟩ = some (.int .i64 5) := O.out.cell 0
  have O_c1 : w3.cell? ⟨(w.heap.size + 1), 1, none⟩ = some (.int .i64 key) := O.out.cell 1
  have O_c2 : w3.cell? ⟨(w.heap.size + 1), 2, none⟩ = some (.int .i64 value) := O.out.cell 2
  have O_z : (w.heap.size + 1) < w3.heap.size := O.out.lt
  have hb4 := balloc (Below.refl _ w3) (Obj.cells #[.int .i64 0, .int .i64 0] 26)
  have A := Lib.hid (Blk.new w3 [.int .i64 0, .int .i64 0] 26)
  change Hid (Blk (w3.alloc (Obj.cells #[.int .i64 0, .int .i64 0] 26)) _ _ _) at A
  have ZA : Hid ((w3.alloc (Obj.cells #[.int .i64 0, .int .i64 0] 26)).heap.size = w3.heap.size + 1) := World.size_alloc _ _
  clear O_c0 O_c1 O_c2 O_z
  replace HB := Lib.hid (bcall HB.out hb4)
  replace T := Lib.hid (T.out.below hb4)
  replace O := Lib.hid (O.out.below hb4)
  replace R := Lib.hid (R.out.below hb4)
  clear hb4
  rw [ZR.out] at A ZA
  clear ZR
  generalize w3.alloc (Obj.cells #[.int .i64 0, .int .i64 0] 26) = w4 at *
  have O_c0 : w4.cell? ⟨(w.heap.size + 1), 0, none⟩ = some (.int .i64 5) := O.out.cell 0
  have O_c1 : w4.cell? ⟨(w.heap.size + 1), 1, none⟩ = some (.int .i64 key) := O.out.cell 1
  have O_c2 : w4.cell? ⟨(w.heap.size + 1), 2, none⟩ = some (.int .i64 value) := O.out.cell 2
  have O_z : (w.heap.size + 1) < w4.heap.size := O.out.lt
  have c0 := HC0.out _ T.out
  have k1' : (0 : Int) ≤ key := by omega
  generalize tk t i = ky at *
  generalize tv t i = vl at *
  go_wp2_with fail
  refine (at_any key _ w.heap.size t ⟨HL.out, T.out⟩ k1' hk2).mono ?_
  rw [HA.out]
  rintro e w' ⟨rfl, rfl⟩
  go_wp2_with fail
  go_region_held3 (fun w' => w'.cell? ⟨w.heap.size, i * 2, none⟩ = some (.int .i64 ky) ∧ w'.cell? ⟨w.heap.size + 1, 1, none⟩ = some (.int .i64 key))
    (first | go_keep) (fail)
  clear c0
  clear O_c0 O_c1 O_c2 O_z
  replace HB := Lib.hid HB.out.drew
  replace T := Lib.hid (Blk.drew T.out)
  replace O := Lib.hid (Blk.drew O.out)
  replace R := Lib.hid (Blk.drew R.out)
  replace A := Lib.hid (Blk.drew A.out)
  generalize w4.drew = w5 at *
  have O_c0 : w5.cell? ⟨(w.heap.size + 1), 0, none⟩ = some (.int .i64 5) := O.out.cell 0
  have O_c1 : w5.cell? ⟨(w.heap.size + 1), 1, none⟩ = some (.int .i64 key) := O.out.cell 1
  have O_c2 : w5.cell? ⟨(w.heap.size + 1), 2, none⟩ = some (.int .i64 value) := O.out.cell 2
  have O_z : (w.heap.size + 1) < w5.heap.size := O.out.lt
  have c1 := HC1.out _ T.out
  go_wp2_with (first | (refine wpList_load_part rfl 69 _ rfl w.heap.size 0 16 rfl 69 (tcells t) _ T.out (by rw [HLT.out]; decide) Try.underlying69 rfl (by kernel_rfl) ?_; rw [HCT.out]) | (refine wpList_store_part rfl 69 _ _ rfl (w.heap.size + 1 + 1) 0 16 (tcells t) rfl rfl 69 _ R.out HLT.out (by decide) (by kernel_rfl) HONE.out ?_; rw [spl_z16 _ HLT.out]; have aa0 := (A.out.otherBlk (tcells t) (show w.heap.size + 1 + 1 + 1 ≠ w.heap.size + 1 + 1 by omega)).cell 0; have aa1 := (A.out.otherBlk (tcells t) (show w.heap.size + 1 + 1 + 1 ≠ w.heap.size + 1 + 1 by omega)).cell 1; have af0 := (A.out.otherBlk (tcells t) (show w.heap.size + 1 + 1 + 1 ≠ w.heap.size + 1 + 1 by omega)).frozen 0; have af1 := (A.out.otherBlk (tcells t) (show w.heap.size + 1 + 1 + 1 ≠ w.heap.size + 1 + 1 by omega)).frozen 1))
  have hR2 : Blk (((setBlk w5 (w.heap.size + 1 + 1) (tcells t)).setCell ⟨w.heap.size + 1 + 1 + 1, 0, none⟩ (.int .i64 1)).setCell ⟨w.heap.size + 1 + 1 + 1, 1, none⟩ (.int .i64 vl)) (w.heap.size + 1 + 1) (tcells t) 69 :=
    ((R.out.setBlk _).other _ (by show w.heap.size + 1 + 1 ≠ w.heap.size + 1 + 1 + 1; omega)).other _ (by show w.heap.size + 1 + 1 ≠ w.heap.size + 1 + 1 + 1; omega)
  have hA2 : Blk (((setBlk w5 (w.heap.size + 1 + 1) (tcells t)).setCell ⟨w.heap.size + 1 + 1 + 1, 0, none⟩ (.int .i64 1)).setCell ⟨w.heap.size + 1 + 1 + 1, 1, none⟩ (.int .i64 vl)) (w.heap.size + 1 + 1 + 1) [.int .i64 1, .int .i64 vl] 26 :=
    Blk.pair (A.out.otherBlk _ (by omega))
  have hB2 : Below w.heap.size w (((setBlk w5 (w.heap.size + 1 + 1) (tcells t)).setCell ⟨w.heap.size + 1 + 1 + 1, 0, none⟩ (.int .i64 1)).setCell ⟨w.heap.size + 1 + 1 + 1, 1, none⟩ (.int .i64 vl)) :=
    bstore (bstore (bsetBlk HB.out (by omega) _) (by show w.heap.size ≤ w.heap.size + 1 + 1 + 1; omega) _) (by show w.heap.size ≤ w.heap.size + 1 + 1 + 1; omega) _
  refine bodyPost_ret (v := .tuple #[.agg (tcells t).toArray, .agg #[.int .i64 1, .int .i64 vl]]) (results2_cells _ _ _ _ rfl (w.heap.size + 1 + 1) (w.heap.size + 1 + 1 + 1) (tcells t) [.int .i64 1, .int .i64 vl] 69 26 _ _ rfl rfl hR2 hA2 Try.underlying69 rfl (by rw [HLT.out]; kernel_rfl) Try.underlying26 rfl (by kernel_rfl)) rfl ⟨?_, hB2⟩
  rw [HD.out]
set_option maxHeartbeats 2000000 in
theorem do_full (w : World) (t : List Int) (g : Good t) (what key value : Int) (hw : what = 1) (hk1 : 1 ≤ key) (hk2 : key ≤ 1000) (ht : thereB t key = false) (h6 : 6 ≤ lenT t) :
    Calls Try.prog 51 #[.agg (tcells t).toArray, .agg #[.int .i64 what, .int .i64 key, .int .i64 value]] w fun e w' => e = .returned (.tuple #[.agg (tcells (doT t what key value).1).toArray, .agg #[.int .i64 (doT t what key value).2.1, .int .i64 (doT t what key value).2.2]]) ∧ Below w.heap.size w w' := by
  subst hw
  obtain ⟨i, hi8, ha, ho, -⟩ := g.at key
  have hT0 : thereB t key = (tk t i == key) := by simp [thereB, ha]
  have bt : (tk t i == key) = false := by rw [← hT0]; exact ht
  have hai : (atI t key).toNat = i := by rw [ha]; rfl
  have hd : doT t 1 key value = (t, 3, 0) := by unfold doT; rw [if_neg (by decide), if_neg (by omega), if_pos rfl, if_pos ⟨ht, h6⟩]
  have HD := Lib.hid hd
  clear hd
  have HC0 : ∀ w' : World, Blk w' w.heap.size (tcells t) 69 → w'.cell? ⟨w.heap.size, i * 2, none⟩ = some (.int .i64 (tk t i)) := fun w' h => (show TabAt w' w.heap.size t from ⟨g.len, h⟩).c0 i hi8
  have HC1 : ∀ w' : World, Blk w' w.heap.size (tcells t) 69 → w'.cell? ⟨w.heap.size, i * 2 + 1, none⟩ = some (.int .i64 (tv t i)) := fun w' h => (show TabAt w' w.heap.size t from ⟨g.len, h⟩).c1 i hi8
  replace HC0 := Lib.hid HC0
  replace HC1 := Lib.hid HC1
  have HA := Lib.hid ha
  have k1 : decide (key < 1) = false := by simp; omega
  have k2 : decide (1000 < key) = false := by simp; omega
  have i0 : (0 : Int) ≤ (i : Int) := Int.natCast_nonneg _
  have i8 : (i : Int) < 8 := by omega
  clear ha ho hT0 ht hai
  have HL := Lib.hid g.len
  have HB := Lib.hid (Below.refl w.heap.size w)
  have HONE := Lib.hid (tcells_one t)
  have HLT : Hid ((tcells t).length = 16) := Lib.hid (by rw [tcells_len]; exact g.len)
  have HCT := Lib.hid (tcells_take t g.len)
  have HG := Lib.hid g
  clear g
  go_enter Try.func51, Try.ntmps51
  go_upto_region 1 with fail
  have hb1 := balloc (Below.refl _ w) (Obj.cells (tcells t).toArray 69)
  have T := Lib.hid (Blk.new w (tcells t) 69)
  change Hid (Blk (w.alloc (Obj.cells (tcells t).toArray 69)) _ _ _) at T
  have ZT : Hid ((w.alloc (Obj.cells (tcells t).toArray 69)).heap.size = w.heap.size + 1) := World.size_alloc _ _
  replace HB := Lib.hid (bcall HB.out hb1)
  clear hb1
  generalize w.alloc (Obj.cells (tcells t).toArray 69) = w1 at *
  have hb2 := balloc (Below.refl _ w1) (Obj.cells #[.int .i64 1, .int .i64 key, .int .i64 value] 30)
  have O := Lib.hid (Blk.new w1 [.int .i64 1, .int .i64 key, .int .i64 value] 30)
  change Hid (Blk (w1.alloc (Obj.cells #[.int .i64 1, .int .i64 key, .int .i64 value] 30)) _ _ _) at O
  have ZO : Hid ((w1.alloc (Obj.cells #[.int .i64 1, .int .i64 key, .int .i64 value] 30)).heap.size = w1.heap.size + 1) := World.size_alloc _ _
  replace HB := Lib.hid (bcall HB.out hb2)
  replace T := Lib.hid (T.out.below hb2)
  clear hb2
  rw [ZT.out] at O ZO
  clear ZT
  generalize w1.alloc (Obj.cells #[.int .i64 1, .int .i64 key, .int .i64 value] 30) = w2 at *
  have O_c0 : w2.cell? ⟨(w.heap.size + 1), 0, none⟩ = some (.int .i64 1) := O.out.cell 0
  have O_c1 : w2.cell? ⟨(w.heap.size + 1), 1, none⟩ = some (.int .i64 key) := O.out.cell 1
  have O_c2 : w2.cell? ⟨(w.heap.size + 1), 2, none⟩ = some (.int .i64 value) := O.out.cell 2
  have O_z : (w.heap.size + 1) < w2.heap.size := O.out.lt
  have hb3 := balloc (Below.refl _ w2) (Obj.cells #[.int .i64 0, .int .i64 0, .int .i64 0, .int .i64 0, .int .i64 0, .int .i64 0, .int .i64 0, .int .i64 0, .int .i64 0, .int .i64 0, .int .i64 0, .int .i64 0, .int .i64 0, .int .i64 0, .int .i64 0, .int .i64 0] 69)
  have R := Lib.hid (Blk.new w2 [.int .i64 0, .int .i64 0, .int .i64 0, .int .i64 0, .int .i64 0, .int .i64 0, .int .i64 0, .int .i64 0, .int .i64 0, .int .i64 0, .int .i64 0, .int .i64 0, .int .i64 0, .int .i64 0, .int .i64 0, .int .i64 0] 69)
  change Hid (Blk (w2.alloc (Obj.cells #[.int .i64 0, .int .i64 0, .int .i64 0, .int .i64 0, .int .i64 0, .int .i64 0, .int .i64 0, .int .i64 0, .int .i64 0, .int .i64 0, .int .i64 0, .int .i64 0, .int .i64 0, .int .i64 0, .int .i64 0, .int .i64 0] 69)) _ _ _) at R
  have ZR : Hid ((w2.alloc (Obj.cells #[.int .i64 0, .int .i64 0, .int .i64 0, .int .i64 0, .int .i64 0, .int .i64 0, .int .i64 0, .int .i64 0, .int .i64 0, .int .i64 0, .int .i64 0, .int .i64 0, .int .i64 0, .int .i64 0, .int .i64 0, .int .i64 0] 69)).heap.size = w2.heap.size + 1) := World.size_alloc _ _
  clear O_c0 O_c1 O_c2 O_z
  replace HB := Lib.hid (bcall HB.out hb3)
  replace T := Lib.hid (T.out.below hb3)
  replace O := Lib.hid (O.out.below hb3)
  clear hb3
  rw [ZO.out] at R ZR
  clear ZO
  generalize w2.alloc (Obj.cells #[.int .i64 0, .int .i64 0, .int .i64 0, .int .i64 0, .int .i64 0, .int .i64 0, .int .i64 0, .int .i64 0, .int .i64 0, .int .i64 0, .int .i64 0, .int .i64 0, .int .i64 0, .int .i64 0, .int .i64 0, .int .i64 0] 69) = w3 at *
  have O_c0 : w3.cell? ⟨(w.heap.size + 1), 0, none⟩ = some (.int .i64 1) := O.out.cell 0
  have O_c1 : w3.cell? ⟨(w.heap.size + 1), 1, none⟩ = some (.int .i64 key) := O.out.cell 1
  have O_c2 : w3.cell? ⟨(w.heap.size + 1), 2, none⟩ = some (.int .i64 value) := O.out.cell 2
  have O_z : (w.heap.size + 1) < w3.heap.size := O.out.lt
  have hb4 := balloc (Below.refl _ w3) (Obj.cells #[.int .i64 0, .int .i64 0] 26)
  have A := Lib.hid (Blk.new w3 [.int .i64 0, .int .i64 0] 26)
  change Hid (Blk (w3.alloc (Obj.cells #[.int .i64 0, .int .i64 0] 26)) _ _ _) at A
  have ZA : Hid ((w3.alloc (Obj.cells #[.int .i64 0, .int .i64 0] 26)).heap.size = w3.heap.size + 1) := World.size_alloc _ _
  clear O_c0 O_c1 O_c2 O_z
  replace HB := Lib.hid (bcall HB.out hb4)
  replace T := Lib.hid (T.out.below hb4)
  replace O := Lib.hid (O.out.below hb4)
  replace R := Lib.hid (R.out.below hb4)
  clear hb4
  rw [ZR.out] at A ZA
  clear ZR
  generalize w3.alloc (Obj.cells #[.int .i64 0, .int .i64 0] 26) = w4 at *
  have O_c0 : w4.cell? ⟨(w.heap.size + 1), 0, none⟩ = some (.int .i64 1) := O.out.cell 0
  have O_c1 : w4.cell? ⟨(w.heap.size + 1), 1, none⟩ = some (.int .i64 key) := O.out.cell 1
  have O_c2 : w4.cell? ⟨(w.heap.size + 1), 2, none⟩ = some (.int .i64 value) := O.out.cell 2
  have O_z : (w.heap.size + 1) < w4.heap.size := O.out.lt
  have c0 := HC0.out _ T.out
  have k1' : (0 : Int) ≤ key := by omega
  generalize tk t i = ky at *
  generalize tv t i = vl at *
  go_wp2_with fail
  refine (at_any key _ w.heap.size t ⟨HL.out, T.out⟩ k1' hk2).mono ?_
  rw [HA.out]
  rintro e w' ⟨rfl, rfl⟩
  go_wp2_with fail
  go_region_held3 (fun w' => w'.cell? ⟨w.heap.size, i * 2, none⟩ = some (.int .i64 ky) ∧ w'.cell? ⟨w.heap.size + 1, 1, none⟩ = some (.int .i64 key))
    (first | go_keep) (fail)
  clear c0
  clear O_c0 O_c1 O_c2 O_z
  replace HB := Lib.hid HB.out.drew
  replace T := Lib.hid (Blk.drew T.out)
  replace O := Lib.hid (Blk.drew O.out)
  replace R := Lib.hid (Blk.drew R.out)
  replace A := Lib.hid (Blk.drew A.out)
  generalize w4.drew = w5 at *
  have O_c0 : w5.cell? ⟨(w.heap.size + 1), 0, none⟩ = some (.int .i64 1) := O.out.cell 0
  have O_c1 : w5.cell? ⟨(w.heap.size + 1), 1, none⟩ = some (.int .i64 key) := O.out.cell 1
  have O_c2 : w5.cell? ⟨(w.heap.size + 1), 2, none⟩ = some (.int .i64 value) := O.out.cell 2
  have O_z : (w.heap.size + 1) < w5.heap.size := O.out.lt
  have g6 : decide (6 ≤ lenT t) = true := by simp [h6]
  have g6' : decide ((6 : Int) ≤ (lenT t : Int)) = true := by simp; omega
  clear h6
  go_wp2_with (refine wpList_load_part_g (by kernel_rfl) 69 _ rfl w.heap.size 0 16 rfl 69 (tcells t) _ T.out (by rw [HLT.out]; decide) Try.underlying69 rfl (by kernel_rfl) ?_; rw [HCT.out])
  refine (len_any t HL.out _).mono ?_
  rintro e w6 ⟨rfl, hb6⟩
  clear O_c0 O_c1 O_c2 O_z
  replace HB := Lib.hid (bcall HB.out hb6)
  replace T := Lib.hid (T.out.below hb6)
  replace O := Lib.hid (O.out.below hb6)
  replace R := Lib.hid (R.out.below hb6)
  replace A := Lib.hid (A.out.below hb6)
  clear hb6
  have O_c0 : w6.cell? ⟨(w.heap.size + 1), 0, none⟩ = some (.int .i64 1) := O.out.cell 0
  have O_c1 : w6.cell? ⟨(w.heap.size + 1), 1, none⟩ = some (.int .i64 key) := O.out.cell 1
  have O_c2 : w6.cell? ⟨(w.heap.size + 1), 2, none⟩ = some (.int .i64 value) := O.out.cell 2
  have O_z : (w.heap.size + 1) < w6.heap.size := O.out.lt
  go_wp2_with (first | (refine wpList_load_part rfl 69 _ rfl w.heap.size 0 16 rfl 69 (tcells t) _ T.out (by rw [HLT.out]; decide) Try.underlying69 rfl (by kernel_rfl) ?_; rw [HCT.out]) | (refine wpList_store_part rfl 69 _ _ rfl (w.heap.size + 1 + 1) 0 16 (tcells t) rfl rfl 69 _ R.out HLT.out (by decide) (by kernel_rfl) HONE.out ?_; rw [spl_z16 _ HLT.out]; have aa0 := (A.out.otherBlk (tcells t) (show w.heap.size + 1 + 1 + 1 ≠ w.heap.size + 1 + 1 by omega)).cell 0; have aa1 := (A.out.otherBlk (tcells t) (show w.heap.size + 1 + 1 + 1 ≠ w.heap.size + 1 + 1 by omega)).cell 1; have af0 := (A.out.otherBlk (tcells t) (show w.heap.size + 1 + 1 + 1 ≠ w.heap.size + 1 + 1 by omega)).frozen 0; have af1 := (A.out.otherBlk (tcells t) (show w.heap.size + 1 + 1 + 1 ≠ w.heap.size + 1 + 1 by omega)).frozen 1))
  have hR2 : Blk (((setBlk w6 (w.heap.size + 1 + 1) (tcells t)).setCell ⟨w.heap.size + 1 + 1 + 1, 0, none⟩ (.int .i64 3)).setCell ⟨w.heap.size + 1 + 1 + 1, 1, none⟩ (.int .i64 0)) (w.heap.size + 1 + 1) (tcells t) 69 :=
    ((R.out.setBlk _).other _ (by show w.heap.size + 1 + 1 ≠ w.heap.size + 1 + 1 + 1; omega)).other _ (by show w.heap.size + 1 + 1 ≠ w.heap.size + 1 + 1 + 1; omega)
  have hA2 : Blk (((setBlk w6 (w.heap.size + 1 + 1) (tcells t)).setCell ⟨w.heap.size + 1 + 1 + 1, 0, none⟩ (.int .i64 3)).setCell ⟨w.heap.size + 1 + 1 + 1, 1, none⟩ (.int .i64 0)) (w.heap.size + 1 + 1 + 1) [.int .i64 3, .int .i64 0] 26 :=
    Blk.pair (A.out.otherBlk _ (by omega))
  have hB2 : Below w.heap.size w (((setBlk w6 (w.heap.size + 1 + 1) (tcells t)).setCell ⟨w.heap.size + 1 + 1 + 1, 0, none⟩ (.int .i64 3)).setCell ⟨w.heap.size + 1 + 1 + 1, 1, none⟩ (.int .i64 0)) :=
    bstore (bstore (bsetBlk HB.out (by omega) _) (by show w.heap.size ≤ w.heap.size + 1 + 1 + 1; omega) _) (by show w.heap.size ≤ w.heap.size + 1 + 1 + 1; omega) _
  refine bodyPost_ret (v := .tuple #[.agg (tcells t).toArray, .agg #[.int .i64 3, .int .i64 0]]) (results2_cells _ _ _ _ rfl (w.heap.size + 1 + 1) (w.heap.size + 1 + 1 + 1) (tcells t) [.int .i64 3, .int .i64 0] 69 26 _ _ rfl rfl hR2 hA2 Try.underlying69 rfl (by rw [HLT.out]; kernel_rfl) Try.underlying26 rfl (by kernel_rfl)) rfl ⟨?_, hB2⟩
  rw [HD.out]
set_option maxHeartbeats 2000000 in
theorem do_putnew (w : World) (t : List Int) (g : Good t) (what key value : Int) (hw : what = 1) (hk1 : 1 ≤ key) (hk2 : key ≤ 1000) (ht : thereB t key = false) (h6 : lenT t ≤ 5) :
    Calls Try.prog 51 #[.agg (tcells t).toArray, .agg #[.int .i64 what, .int .i64 key, .int .i64 value]] w fun e w' => e = .returned (.tuple #[.agg (tcells (doT t what key value).1).toArray, .agg #[.int .i64 (doT t what key value).2.1, .int .i64 (doT t what key value).2.2]]) ∧ Below w.heap.size w w' := by
  subst hw
  obtain ⟨i, hi8, ha, ho, -⟩ := g.at key
  have hT0 : thereB t key = (tk t i == key) := by simp [thereB, ha]
  have bt : (tk t i == key) = false := by rw [← hT0]; exact ht
  have hai : (atI t key).toNat = i := by rw [ha]; rfl
  have hd : doT t 1 key value = (setS t i key value, 1, 0) := by unfold doT; rw [if_neg (by decide), if_neg (by omega), if_pos rfl, if_neg (fun x => by omega), hai]
  have HD := Lib.hid hd
  clear hd
  have HC0 : ∀ w' : World, Blk w' w.heap.size (tcells t) 69 → w'.cell? ⟨w.heap.size, i * 2, none⟩ = some (.int .i64 (tk t i)) := fun w' h => (show TabAt w' w.heap.size t from ⟨g.len, h⟩).c0 i hi8
  have HC1 : ∀ w' : World, Blk w' w.heap.size (tcells t) 69 → w'.cell? ⟨w.heap.size, i * 2 + 1, none⟩ = some (.int .i64 (tv t i)) := fun w' h => (show TabAt w' w.heap.size t from ⟨g.len, h⟩).c1 i hi8
  replace HC0 := Lib.hid HC0
  replace HC1 := Lib.hid HC1
  have HA := Lib.hid ha
  have k1 : decide (key < 1) = false := by simp; omega
  have k2 : decide (1000 < key) = false := by simp; omega
  have i0 : (0 : Int) ≤ (i : Int) := Int.natCast_nonneg _
  have i8 : (i : Int) < 8 := by omega
  clear ha ho hT0 ht hai
  have HL := Lib.hid g.len
  have HB := Lib.hid (Below.refl w.heap.size w)
  have HONE := Lib.hid (tcells_one t)
  have HLT : Hid ((tcells t).length = 16) := Lib.hid (by rw [tcells_len]; exact g.len)
  have HCT := Lib.hid (tcells_take t g.len)
  have HG := Lib.hid g
  clear g
  go_enter Try.func51, Try.ntmps51
  go_upto_region 1 with fail
  have hb1 := balloc (Below.refl _ w) (Obj.cells (tcells t).toArray 69)
  have T := Lib.hid (Blk.new w (tcells t) 69)
  change Hid (Blk (w.alloc (Obj.cells (tcells t).toArray 69)) _ _ _) at T
  have ZT : Hid ((w.alloc (Obj.cells (tcells t).toArray 69)).heap.size = w.heap.size + 1) := World.size_alloc _ _
  replace HB := Lib.hid (bcall HB.out hb1)
  clear hb1
  generalize w.alloc (Obj.cells (tcells t).toArray 69) = w1 at *
  have hb2 := balloc (Below.refl _ w1) (Obj.cells #[.int .i64 1, .int .i64 key, .int .i64 value] 30)
  have O := Lib.hid (Blk.new w1 [.int .i64 1, .int .i64 key, .int .i64 value] 30)
  change Hid (Blk (w1.alloc (Obj.cells #[.int .i64 1, .int .i64 key, .int .i64 value] 30)) _ _ _) at O
  have ZO : Hid ((w1.alloc (Obj.cells #[.int .i64 1, .int .i64 key, .int .i64 value] 30)).heap.size = w1.heap.size + 1) := World.size_alloc _ _
  replace HB := Lib.hid (bcall HB.out hb2)
  replace T := Lib.hid (T.out.below hb2)
  clear hb2
  rw [ZT.out] at O ZO
  clear ZT
  generalize w1.alloc (Obj.cells #[.int .i64 1, .int .i64 key, .int .i64 value] 30) = w2 at *
  have O_c0 : w2.cell? ⟨(w.heap.size + 1), 0, none⟩ = some (.int .i64 1) := O.out.cell 0
  have O_c1 : w2.cell? ⟨(w.heap.size + 1), 1, none⟩ = some (.int .i64 key) := O.out.cell 1
  have O_c2 : w2.cell? ⟨(w.heap.size + 1), 2, none⟩ = some (.int .i64 value) := O.out.cell 2
  have O_z : (w.heap.size + 1) < w2.heap.size := O.out.lt
  have hb3 := balloc (Below.refl _ w2) (Obj.cells #[.int .i64 0, .int .i64 0, .int .i64 0, .int .i64 0, .int .i64 0, .int .i64 0, .int .i64 0, .int .i64 0, .int .i64 0, .int .i64 0, .int .i64 0, .int .i64 0, .int .i64 0, .int .i64 0, .int .i64 0, .int .i64 0] 69)
  have R := Lib.hid (Blk.new w2 [.int .i64 0, .int .i64 0, .int .i64 0, .int .i64 0, .int .i64 0, .int .i64 0, .int .i64 0, .int .i64 0, .int .i64 0, .int .i64 0, .int .i64 0, .int .i64 0, .int .i64 0, .int .i64 0, .int .i64 0, .int .i64 0] 69)
  change Hid (Blk (w2.alloc (Obj.cells #[.int .i64 0, .int .i64 0, .int .i64 0, .int .i64 0, .int .i64 0, .int .i64 0, .int .i64 0, .int .i64 0, .int .i64 0, .int .i64 0, .int .i64 0, .int .i64 0, .int .i64 0, .int .i64 0, .int .i64 0, .int .i64 0] 69)) _ _ _) at R
  have ZR : Hid ((w2.alloc (Obj.cells #[.int .i64 0, .int .i64 0, .int .i64 0, .int .i64 0, .int .i64 0, .int .i64 0, .int .i64 0, .int .i64 0, .int .i64 0, .int .i64 0, .int .i64 0, .int .i64 0, .int .i64 0, .int .i64 0, .int .i64 0, .int .i64 0] 69)).heap.size = w2.heap.size + 1) := World.size_alloc _ _
  clear O_c0 O_c1 O_c2 O_z
  replace HB := Lib.hid (bcall HB.out hb3)
  replace T := Lib.hid (T.out.below hb3)
  replace O := Lib.hid (O.out.below hb3)
  clear hb3
  rw [ZO.out] at R ZR
  clear ZO
  generalize w2.alloc (Obj.cells #[.int .i64 0, .int .i64 0, .int .i64 0, .int .i64 0, .int .i64 0, .int .i64 0, .int .i64 0, .int .i64 0, .int .i64 0, .int .i64 0, .int .i64 0, .int .i64 0, .int .i64 0, .int .i64 0, .int .i64 0, .int .i64 0] 69) = w3 at *
  have O_c0 : w3.cell? ⟨(w.heap.size + 1), 0, none⟩ = some (.int .i64 1) := O.out.cell 0
  have O_c1 : w3.cell? ⟨(w.heap.size + 1), 1, none⟩ = some (.int .i64 key) := O.out.cell 1
  have O_c2 : w3.cell? ⟨(w.heap.size + 1), 2, none⟩ = some (.int .i64 value) := O.out.cell 2
  have O_z : (w.heap.size + 1) < w3.heap.size := O.out.lt
  have hb4 := balloc (Below.refl _ w3) (Obj.cells #[.int .i64 0, .int .i64 0] 26)
  have A := Lib.hid (Blk.new w3 [.int .i64 0, .int .i64 0] 26)
  change Hid (Blk (w3.alloc (Obj.cells #[.int .i64 0, .int .i64 0] 26)) _ _ _) at A
  have ZA : Hid ((w3.alloc (Obj.cells #[.int .i64 0, .int .i64 0] 26)).heap.size = w3.heap.size + 1) := World.size_alloc _ _
  clear O_c0 O_c1 O_c2 O_z
  replace HB := Lib.hid (bcall HB.out hb4)
  replace T := Lib.hid (T.out.below hb4)
  replace O := Lib.hid (O.out.below hb4)
  replace R := Lib.hid (R.out.below hb4)
  clear hb4
  rw [ZR.out] at A ZA
  clear ZR
  generalize w3.alloc (Obj.cells #[.int .i64 0, .int .i64 0] 26) = w4 at *
  have O_c0 : w4.cell? ⟨(w.heap.size + 1), 0, none⟩ = some (.int .i64 1) := O.out.cell 0
  have O_c1 : w4.cell? ⟨(w.heap.size + 1), 1, none⟩ = some (.int .i64 key) := O.out.cell 1
  have O_c2 : w4.cell? ⟨(w.heap.size + 1), 2, none⟩ = some (.int .i64 value) := O.out.cell 2
  have O_z : (w.heap.size + 1) < w4.heap.size := O.out.lt
  have c0 := HC0.out _ T.out
  have k1' : (0 : Int) ≤ key := by omega
  generalize tk t i = ky at *
  generalize tv t i = vl at *
  go_wp2_with fail
  refine (at_any key _ w.heap.size t ⟨HL.out, T.out⟩ k1' hk2).mono ?_
  rw [HA.out]
  rintro e w' ⟨rfl, rfl⟩
  go_wp2_with fail
  go_region_held3 (fun w' => w'.cell? ⟨w.heap.size, i * 2, none⟩ = some (.int .i64 ky) ∧ w'.cell? ⟨w.heap.size + 1, 1, none⟩ = some (.int .i64 key))
    (first | go_keep) (fail)
  clear c0
  clear O_c0 O_c1 O_c2 O_z
  replace HB := Lib.hid HB.out.drew
  replace T := Lib.hid (Blk.drew T.out)
  replace O := Lib.hid (Blk.drew O.out)
  replace R := Lib.hid (Blk.drew R.out)
  replace A := Lib.hid (Blk.drew A.out)
  generalize w4.drew = w5 at *
  have O_c0 : w5.cell? ⟨(w.heap.size + 1), 0, none⟩ = some (.int .i64 1) := O.out.cell 0
  have O_c1 : w5.cell? ⟨(w.heap.size + 1), 1, none⟩ = some (.int .i64 key) := O.out.cell 1
  have O_c2 : w5.cell? ⟨(w.heap.size + 1), 2, none⟩ = some (.int .i64 value) := O.out.cell 2
  have O_z : (w.heap.size + 1) < w5.heap.size := O.out.lt
  have g6 : decide (6 ≤ lenT t) = false := by simp; omega
  have g6' : decide ((6 : Int) ≤ (lenT t : Int)) = false := by simp; omega
  clear h6
  go_wp2_with (refine wpList_load_part_g (by kernel_rfl) 69 _ rfl w.heap.size 0 16 rfl 69 (tcells t) _ T.out (by rw [HLT.out]; decide) Try.underlying69 rfl (by kernel_rfl) ?_; rw [HCT.out])
  refine (len_any t HL.out _).mono ?_
  rintro e w6 ⟨rfl, hb6⟩
  clear O_c0 O_c1 O_c2 O_z
  replace HB := Lib.hid (bcall HB.out hb6)
  replace T := Lib.hid (T.out.below hb6)
  replace O := Lib.hid (O.out.below hb6)
  replace R := Lib.hid (R.out.below hb6)
  replace A := Lib.hid (A.out.below hb6)
  clear hb6
  have O_c0 : w6.cell? ⟨(w.heap.size + 1), 0, none⟩ = some (.int .i64 1) := O.out.cell 0
  have O_c1 : w6.cell? ⟨(w.heap.size + 1), 1, none⟩ = some (.int .i64 key) := O.out.cell 1
  have O_c2 : w6.cell? ⟨(w.heap.size + 1), 2, none⟩ = some (.int .i64 value) := O.out.cell 2
  have O_z : (w.heap.size + 1) < w6.heap.size := O.out.lt
  have TT : Hid (Blk ((w6.setCell ⟨w.heap.size, i * 2, none⟩ (.int .i64 key)).setCell ⟨w.heap.size, i * 2 + 1, none⟩ (.int .i64 value)) w.heap.size (tcells (setS t i key value)) 69) := Lib.hid ((show TabAt w6 w.heap.size t from ⟨HL.out, T.out⟩).put i key value).2
  have RR : Hid (Blk ((w6.setCell ⟨w.heap.size, i * 2, none⟩ (.int .i64 key)).setCell ⟨w.heap.size, i * 2 + 1, none⟩ (.int .i64 value)) (w.heap.size + 1 + 1) _ 69) := Lib.hid ((R.out.other (p := ⟨w.heap.size, i * 2, none⟩) (.int .i64 key) (by show w.heap.size + 1 + 1 ≠ w.heap.size; omega)).other (p := ⟨w.heap.size, i * 2 + 1, none⟩) (.int .i64 value) (by show w.heap.size + 1 + 1 ≠ w.heap.size; omega))
  have AA : Hid (Blk ((w6.setCell ⟨w.heap.size, i * 2, none⟩ (.int .i64 key)).setCell ⟨w.heap.size, i * 2 + 1, none⟩ (.int .i64 value)) (w.heap.size + 1 + 1 + 1) _ 26) := Lib.hid ((A.out.other (p := ⟨w.heap.size, i * 2, none⟩) (.int .i64 key) (by show w.heap.size + 1 + 1 + 1 ≠ w.heap.size; omega)).other (p := ⟨w.heap.size, i * 2 + 1, none⟩) (.int .i64 value) (by show w.heap.size + 1 + 1 + 1 ≠ w.heap.size; omega))
  have BB : Hid (Below w.heap.size w ((w6.setCell ⟨w.heap.size, i * 2, none⟩ (.int .i64 key)).setCell ⟨w.heap.size, i * 2 + 1, none⟩ (.int .i64 value))) := Lib.hid (bstore (bstore HB.out (Nat.le_refl _) _) (Nat.le_refl _) _)
  have c0 := HC0.out _ T.out
  have c1 := HC1.out _ T.out
  have f0 := T.out.frozen (i * 2)
  have f1 := T.out.frozen (i * 2 + 1)
  have HLU : Hid ((tcells (setS t i key value)).length = 16) := Lib.hid (by rw [tcells_len, setS_len]; exact HL.out)
  have HCU := Lib.hid (tcells_take (setS t i key value) (by rw [setS_len]; exact HL.out))
  have HOU := Lib.hid (tcells_one (setS t i key value))
  generalize hu : setS t i key value = u at *
  clear hu
  clear T R A HB
  have R := RR
  have A := AA
  have HB := BB
  clear RR AA BB
  go_wp2_with (first | (refine wpList_load_part rfl 69 _ rfl w.heap.size 0 16 rfl 69 (tcells u) _ TT.out (by rw [HLU.out]; decide) Try.underlying69 rfl (by kernel_rfl) ?_; rw [HCU.out]) | (refine wpList_store_part rfl 69 _ _ rfl (w.heap.size + 1 + 1) 0 16 (tcells u) rfl rfl 69 _ R.out HLU.out (by decide) (by kernel_rfl) HOU.out ?_; rw [spl_z16 _ HLU.out]; have aa0 := (A.out.otherBlk (tcells u) (show w.heap.size + 1 + 1 + 1 ≠ w.heap.size + 1 + 1 by omega)).cell 0; have aa1 := (A.out.otherBlk (tcells u) (show w.heap.size + 1 + 1 + 1 ≠ w.heap.size + 1 + 1 by omega)).cell 1; have af0 := (A.out.otherBlk (tcells u) (show w.heap.size + 1 + 1 + 1 ≠ w.heap.size + 1 + 1 by omega)).frozen 0; have af1 := (A.out.otherBlk (tcells u) (show w.heap.size + 1 + 1 + 1 ≠ w.heap.size + 1 + 1 by omega)).frozen 1))
  have hR2 : Blk (((setBlk ((w6.setCell ⟨w.heap.size, i * 2, none⟩ (.int .i64 key)).setCell ⟨w.heap.size, i * 2 + 1, none⟩ (.int .i64 value)) (w.heap.size + 1 + 1) (tcells u)).setCell ⟨w.heap.size + 1 + 1 + 1, 0, none⟩ (.int .i64 1)).setCell ⟨w.heap.size + 1 + 1 + 1, 1, none⟩ (.int .i64 0)) (w.heap.size + 1 + 1) (tcells u) 69 :=
    ((R.out.setBlk _).other _ (by show w.heap.size + 1 + 1 ≠ w.heap.size + 1 + 1 + 1; omega)).other _ (by show w.heap.size + 1 + 1 ≠ w.heap.size + 1 + 1 + 1; omega)
  have hA2 : Blk (((setBlk ((w6.setCell ⟨w.heap.size, i * 2, none⟩ (.int .i64 key)).setCell ⟨w.heap.size, i * 2 + 1, none⟩ (.int .i64 value)) (w.heap.size + 1 + 1) (tcells u)).setCell ⟨w.heap.size + 1 + 1 + 1, 0, none⟩ (.int .i64 1)).setCell ⟨w.heap.size + 1 + 1 + 1, 1, none⟩ (.int .i64 0)) (w.heap.size + 1 + 1 + 1) [.int .i64 1, .int .i64 0] 26 :=
    Blk.pair (A.out.otherBlk _ (by omega))
  have hB2 : Below w.heap.size w (((setBlk ((w6.setCell ⟨w.heap.size, i * 2, none⟩ (.int .i64 key)).setCell ⟨w.heap.size, i * 2 + 1, none⟩ (.int .i64 value)) (w.heap.size + 1 + 1) (tcells u)).setCell ⟨w.heap.size + 1 + 1 + 1, 0, none⟩ (.int .i64 1)).setCell ⟨w.heap.size + 1 + 1 + 1, 1, none⟩ (.int .i64 0)) :=
    bstore (bstore (bsetBlk HB.out (by omega) _) (by show w.heap.size ≤ w.heap.size + 1 + 1 + 1; omega) _) (by show w.heap.size ≤ w.heap.size + 1 + 1 + 1; omega) _
  refine bodyPost_ret (v := .tuple #[.agg (tcells u).toArray, .agg #[.int .i64 1, .int .i64 0]]) (results2_cells _ _ _ _ rfl (w.heap.size + 1 + 1) (w.heap.size + 1 + 1 + 1) (tcells u) [.int .i64 1, .int .i64 0] 69 26 _ _ rfl rfl hR2 hA2 Try.underlying69 rfl (by rw [HLU.out]; kernel_rfl) Try.underlying26 rfl (by kernel_rfl)) rfl ⟨?_, hB2⟩
  rw [HD.out]
set_option maxHeartbeats 2000000 in
theorem do_putold (w : World) (t : List Int) (g : Good t) (what key value : Int) (hw : what = 1) (hk1 : 1 ≤ key) (hk2 : key ≤ 1000) (ht : thereB t key = true) :
    Calls Try.prog 51 #[.agg (tcells t).toArray, .agg #[.int .i64 what, .int .i64 key, .int .i64 value]] w fun e w' => e = .returned (.tuple #[.agg (tcells (doT t what key value).1).toArray, .agg #[.int .i64 (doT t what key value).2.1, .int .i64 (doT t what key value).2.2]]) ∧ Below w.heap.size w w' := by
  subst hw
  obtain ⟨i, hi8, ha, ho, -⟩ := g.at key
  have hT0 : thereB t key = (tk t i == key) := by simp [thereB, ha]
  have bt : (tk t i == key) = true := by rw [← hT0]; exact ht
  have hai : (atI t key).toNat = i := by rw [ha]; rfl
  have hd : doT t 1 key value = (setS t i key value, 1, 0) := by unfold doT; rw [if_neg (by decide), if_neg (by omega), if_pos rfl, if_neg (fun x => by rw [ht] at x; exact absurd x.1 (by decide)), hai]
  have HD := Lib.hid hd
  clear hd
  have HC0 : ∀ w' : World, Blk w' w.heap.size (tcells t) 69 → w'.cell? ⟨w.heap.size, i * 2, none⟩ = some (.int .i64 (tk t i)) := fun w' h => (show TabAt w' w.heap.size t from ⟨g.len, h⟩).c0 i hi8
  have HC1 : ∀ w' : World, Blk w' w.heap.size (tcells t) 69 → w'.cell? ⟨w.heap.size, i * 2 + 1, none⟩ = some (.int .i64 (tv t i)) := fun w' h => (show TabAt w' w.heap.size t from ⟨g.len, h⟩).c1 i hi8
  replace HC0 := Lib.hid HC0
  replace HC1 := Lib.hid HC1
  have HA := Lib.hid ha
  have k1 : decide (key < 1) = false := by simp; omega
  have k2 : decide (1000 < key) = false := by simp; omega
  have i0 : (0 : Int) ≤ (i : Int) := Int.natCast_nonneg _
  have i8 : (i : Int) < 8 := by omega
  clear ha ho hT0 ht hai
  have HL := Lib.hid g.len
  have HB := Lib.hid (Below.refl w.heap.size w)
  have HONE := Lib.hid (tcells_one t)
  have HLT : Hid ((tcells t).length = 16) := Lib.hid (by rw [tcells_len]; exact g.len)
  have HCT := Lib.hid (tcells_take t g.len)
  have HG := Lib.hid g
  clear g
  go_enter Try.func51, Try.ntmps51
  go_upto_region 1 with fail
  have hb1 := balloc (Below.refl _ w) (Obj.cells (tcells t).toArray 69)
  have T := Lib.hid (Blk.new w (tcells t) 69)
  change Hid (Blk (w.alloc (Obj.cells (tcells t).toArray 69)) _ _ _) at T
  have ZT : Hid ((w.alloc (Obj.cells (tcells t).toArray 69)).heap.size = w.heap.size + 1) := World.size_alloc _ _
  replace HB := Lib.hid (bcall HB.out hb1)
  clear hb1
  generalize w.alloc (Obj.cells (tcells t).toArray 69) = w1 at *
  have hb2 := balloc (Below.refl _ w1) (Obj.cells #[.int .i64 1, .int .i64 key, .int .i64 value] 30)
  have O := Lib.hid (Blk.new w1 [.int .i64 1, .int .i64 key, .int .i64 value] 30)
  change Hid (Blk (w1.alloc (Obj.cells #[.int .i64 1, .int .i64 key, .int .i64 value] 30)) _ _ _) at O
  have ZO : Hid ((w1.alloc (Obj.cells #[.int .i64 1, .int .i64 key, .int .i64 value] 30)).heap.size = w1.heap.size + 1) := World.size_alloc _ _
  replace HB := Lib.hid (bcall HB.out hb2)
  replace T := Lib.hid (T.out.below hb2)
  clear hb2
  rw [ZT.out] at O ZO
  clear ZT
  generalize w1.alloc (Obj.cells #[.int .i64 1, .int .i64 key, .int .i64 value] 30) = w2 at *
  have O_c0 : w2.cell? ⟨(w.heap.size + 1), 0, none⟩ = some (.int .i64 1) := O.out.cell 0
  have O_c1 : w2.cell? ⟨(w.heap.size + 1), 1, none⟩ = some (.int .i64 key) := O.out.cell 1
  have O_c2 : w2.cell? ⟨(w.heap.size + 1), 2, none⟩ = some (.int .i64 value) := O.out.cell 2
  have O_z : (w.heap.size + 1) < w2.heap.size := O.out.lt
  have hb3 := balloc (Below.refl _ w2) (Obj.cells #[.int .i64 0, .int .i64 0, .int .i64 0, .int .i64 0, .int .i64 0, .int .i64 0, .int .i64 0, .int .i64 0, .int .i64 0, .int .i64 0, .int .i64 0, .int .i64 0, .int .i64 0, .int .i64 0, .int .i64 0, .int .i64 0] 69)
  have R := Lib.hid (Blk.new w2 [.int .i64 0, .int .i64 0, .int .i64 0, .int .i64 0, .int .i64 0, .int .i64 0, .int .i64 0, .int .i64 0, .int .i64 0, .int .i64 0, .int .i64 0, .int .i64 0, .int .i64 0, .int .i64 0, .int .i64 0, .int .i64 0] 69)
  change Hid (Blk (w2.alloc (Obj.cells #[.int .i64 0, .int .i64 0, .int .i64 0, .int .i64 0, .int .i64 0, .int .i64 0, .int .i64 0, .int .i64 0, .int .i64 0, .int .i64 0, .int .i64 0, .int .i64 0, .int .i64 0, .int .i64 0, .int .i64 0, .int .i64 0] 69)) _ _ _) at R
  have ZR : Hid ((w2.alloc (Obj.cells #[.int .i64 0, .int .i64 0, .int .i64 0, .int .i64 0, .int .i64 0, .int .i64 0, .int .i64 0, .int .i64 0, .int .i64 0, .int .i64 0, .int .i64 0, .int .i64 0, .int .i64 0, .int .i64 0, .int .i64 0, .int .i64 0] 69)).heap.size = w2.heap.size + 1) := World.size_alloc _ _
  clear O_c0 O_c1 O_c2 O_z
  replace HB := Lib.hid (bcall HB.out hb3)
  replace T := Lib.hid (T.out.below hb3)
  replace O := Lib.hid (O.out.below hb3)
  clear hb3
  rw [ZO.out] at R ZR
  clear ZO
  generalize w2.alloc (Obj.cells #[.int .i64 0, .int .i64 0, .int .i64 0, .int .i64 0, .int .i64 0, .int .i64 0, .int .i64 0, .int .i64 0, .int .i64 0, .int .i64 0, .int .i64 0, .int .i64 0, .int .i64 0, .int .i64 0, .int .i64 0, .int .i64 0] 69) = w3 at *
  have O_c0 : w3.cell? ⟨(w.heap.size + 1), 0, none⟩ = some (.int .i64 1) := O.out.cell 0
  have O_c1 : w3.cell? ⟨(w.heap.size + 1), 1, none⟩ = some (.int .i64 key) := O.out.cell 1
  have O_c2 : w3.cell? ⟨(w.heap.size + 1), 2, none⟩ = some (.int .i64 value) := O.out.cell 2
  have O_z : (w.heap.size + 1) < w3.heap.size := O.out.lt
  have hb4 := balloc (Below.refl _ w3) (Obj.cells #[.int .i64 0, .int .i64 0] 26)
  have A := Lib.hid (Blk.new w3 [.int .i64 0, .int .i64 0] 26)
  change Hid (Blk (w3.alloc (Obj.cells #[.int .i64 0, .int .i64 0] 26)) _ _ _) at A
  have ZA : Hid ((w3.alloc (Obj.cells #[.int .i64 0, .int .i64 0] 26)).heap.size = w3.heap.size + 1) := World.size_alloc _ _
  clear O_c0 O_c1 O_c2 O_z
  replace HB := Lib.hid (bcall HB.out hb4)
  replace T := Lib.hid (T.out.below hb4)
  replace O := Lib.hid (O.out.below hb4)
  replace R := Lib.hid (R.out.below hb4)
  clear hb4
  rw [ZR.out] at A ZA
  clear ZR
  generalize w3.alloc (Obj.cells #[.int .i64 0, .int .i64 0] 26) = w4 at *
  have O_c0 : w4.cell? ⟨(w.heap.size + 1), 0, none⟩ = some (.int .i64 1) := O.out.cell 0
  have O_c1 : w4.cell? ⟨(w.heap.size + 1), 1, none⟩ = some (.int .i64 key) := O.out.cell 1
  have O_c2 : w4.cell? ⟨(w.heap.size + 1), 2, none⟩ = some (.int .i64 value) := O.out.cell 2
  have O_z : (w.heap.size + 1) < w4.heap.size := O.out.lt
  have c0 := HC0.out _ T.out
  have k1' : (0 : Int) ≤ key := by omega
  generalize tk t i = ky at *
  generalize tv t i = vl at *
  go_wp2_with fail
  refine (at_any key _ w.heap.size t ⟨HL.out, T.out⟩ k1' hk2).mono ?_
  rw [HA.out]
  rintro e w' ⟨rfl, rfl⟩
  go_wp2_with fail
  go_region_held3 (fun w' => w'.cell? ⟨w.heap.size, i * 2, none⟩ = some (.int .i64 ky) ∧ w'.cell? ⟨w.heap.size + 1, 1, none⟩ = some (.int .i64 key))
    (first | go_keep) (fail)
  clear c0
  clear O_c0 O_c1 O_c2 O_z
  replace HB := Lib.hid HB.out.drew
  replace T := Lib.hid (Blk.drew T.out)
  replace O := Lib.hid (Blk.drew O.out)
  replace R := Lib.hid (Blk.drew R.out)
  replace A := Lib.hid (Blk.drew A.out)
  generalize w4.drew = w5 at *
  have O_c0 : w5.cell? ⟨(w.heap.size + 1), 0, none⟩ = some (.int .i64 1) := O.out.cell 0
  have O_c1 : w5.cell? ⟨(w.heap.size + 1), 1, none⟩ = some (.int .i64 key) := O.out.cell 1
  have O_c2 : w5.cell? ⟨(w.heap.size + 1), 2, none⟩ = some (.int .i64 value) := O.out.cell 2
  have O_z : (w.heap.size + 1) < w5.heap.size := O.out.lt
  have TT : Hid (Blk ((w5.setCell ⟨w.heap.size, i * 2, none⟩ (.int .i64 key)).setCell ⟨w.heap.size, i * 2 + 1, none⟩ (.int .i64 value)) w.heap.size (tcells (setS t i key value)) 69) := Lib.hid ((show TabAt w5 w.heap.size t from ⟨HL.out, T.out⟩).put i key value).2
  have RR : Hid (Blk ((w5.setCell ⟨w.heap.size, i * 2, none⟩ (.int .i64 key)).setCell ⟨w.heap.size, i * 2 + 1, none⟩ (.int .i64 value)) (w.heap.size + 1 + 1) _ 69) := Lib.hid ((R.out.other (p := ⟨w.heap.size, i * 2, none⟩) (.int .i64 key) (by show w.heap.size + 1 + 1 ≠ w.heap.size; omega)).other (p := ⟨w.heap.size, i * 2 + 1, none⟩) (.int .i64 value) (by show w.heap.size + 1 + 1 ≠ w.heap.size; omega))
  have AA : Hid (Blk ((w5.setCell ⟨w.heap.size, i * 2, none⟩ (.int .i64 key)).setCell ⟨w.heap.size, i * 2 + 1, none⟩ (.int .i64 value)) (w.heap.size + 1 + 1 + 1) _ 26) := Lib.hid ((A.out.other (p := ⟨w.heap.size, i * 2, none⟩) (.int .i64 key) (by show w.heap.size + 1 + 1 + 1 ≠ w.heap.size; omega)).other (p := ⟨w.heap.size, i * 2 + 1, none⟩) (.int .i64 value) (by show w.heap.size + 1 + 1 + 1 ≠ w.heap.size; omega))
  have BB : Hid (Below w.heap.size w ((w5.setCell ⟨w.heap.size, i * 2, none⟩ (.int .i64 key)).setCell ⟨w.heap.size, i * 2 + 1, none⟩ (.int .i64 value))) := Lib.hid (bstore (bstore HB.out (Nat.le_refl _) _) (Nat.le_refl _) _)
  have c0 := HC0.out _ T.out
  have c1 := HC1.out _ T.out
  have f0 := T.out.frozen (i * 2)
  have f1 := T.out.frozen (i * 2 + 1)
  have HLU : Hid ((tcells (setS t i key value)).length = 16) := Lib.hid (by rw [tcells_len, setS_len]; exact HL.out)
  have HCU := Lib.hid (tcells_take (setS t i key value) (by rw [setS_len]; exact HL.out))
  have HOU := Lib.hid (tcells_one (setS t i key value))
  generalize hu : setS t i key value = u at *
  clear hu
  clear T R A HB
  have R := RR
  have A := AA
  have HB := BB
  clear RR AA BB
  go_wp2_with (first | (refine wpList_load_part rfl 69 _ rfl w.heap.size 0 16 rfl 69 (tcells u) _ TT.out (by rw [HLU.out]; decide) Try.underlying69 rfl (by kernel_rfl) ?_; rw [HCU.out]) | (refine wpList_store_part rfl 69 _ _ rfl (w.heap.size + 1 + 1) 0 16 (tcells u) rfl rfl 69 _ R.out HLU.out (by decide) (by kernel_rfl) HOU.out ?_; rw [spl_z16 _ HLU.out]; have aa0 := (A.out.otherBlk (tcells u) (show w.heap.size + 1 + 1 + 1 ≠ w.heap.size + 1 + 1 by omega)).cell 0; have aa1 := (A.out.otherBlk (tcells u) (show w.heap.size + 1 + 1 + 1 ≠ w.heap.size + 1 + 1 by omega)).cell 1; have af0 := (A.out.otherBlk (tcells u) (show w.heap.size + 1 + 1 + 1 ≠ w.heap.size + 1 + 1 by omega)).frozen 0; have af1 := (A.out.otherBlk (tcells u) (show w.heap.size + 1 + 1 + 1 ≠ w.heap.size + 1 + 1 by omega)).frozen 1))
  have hR2 : Blk (((setBlk ((w5.setCell ⟨w.heap.size, i * 2, none⟩ (.int .i64 key)).setCell ⟨w.heap.size, i * 2 + 1, none⟩ (.int .i64 value)) (w.heap.size + 1 + 1) (tcells u)).setCell ⟨w.heap.size + 1 + 1 + 1, 0, none⟩ (.int .i64 1)).setCell ⟨w.heap.size + 1 + 1 + 1, 1, none⟩ (.int .i64 0)) (w.heap.size + 1 + 1) (tcells u) 69 :=
    ((R.out.setBlk _).other _ (by show w.heap.size + 1 + 1 ≠ w.heap.size + 1 + 1 + 1; omega)).other _ (by show w.heap.size + 1 + 1 ≠ w.heap.size + 1 + 1 + 1; omega)
  have hA2 : Blk (((setBlk ((w5.setCell ⟨w.heap.size, i * 2, none⟩ (.int .i64 key)).setCell ⟨w.heap.size, i * 2 + 1, none⟩ (.int .i64 value)) (w.heap.size + 1 + 1) (tcells u)).setCell ⟨w.heap.size + 1 + 1 + 1, 0, none⟩ (.int .i64 1)).setCell ⟨w.heap.size + 1 + 1 + 1, 1, none⟩ (.int .i64 0)) (w.heap.size + 1 + 1 + 1) [.int .i64 1, .int .i64 0] 26 :=
    Blk.pair (A.out.otherBlk _ (by omega))
  have hB2 : Below w.heap.size w (((setBlk ((w5.setCell ⟨w.heap.size, i * 2, none⟩ (.int .i64 key)).setCell ⟨w.heap.size, i * 2 + 1, none⟩ (.int .i64 value)) (w.heap.size + 1 + 1) (tcells u)).setCell ⟨w.heap.size + 1 + 1 + 1, 0, none⟩ (.int .i64 1)).setCell ⟨w.heap.size + 1 + 1 + 1, 1, none⟩ (.int .i64 0)) :=
    bstore (bstore (bsetBlk HB.out (by omega) _) (by show w.heap.size ≤ w.heap.size + 1 + 1 + 1; omega) _) (by show w.heap.size ≤ w.heap.size + 1 + 1 + 1; omega) _
  refine bodyPost_ret (v := .tuple #[.agg (tcells u).toArray, .agg #[.int .i64 1, .int .i64 0]]) (results2_cells _ _ _ _ rfl (w.heap.size + 1 + 1) (w.heap.size + 1 + 1 + 1) (tcells u) [.int .i64 1, .int .i64 0] 69 26 _ _ rfl rfl hR2 hA2 Try.underlying69 rfl (by rw [HLU.out]; kernel_rfl) Try.underlying26 rfl (by kernel_rfl)) rfl ⟨?_, hB2⟩
  rw [HD.out]
set_option maxHeartbeats 2000000 in
theorem do_take (w : World) (t : List Int) (g : Good t) (what key value : Int) (hw : what = 2) (hk1 : 1 ≤ key) (hk2 : key ≤ 1000) (ht : thereB t key = true) :
    Calls Try.prog 51 #[.agg (tcells t).toArray, .agg #[.int .i64 what, .int .i64 key, .int .i64 value]] w fun e w' => e = .returned (.tuple #[.agg (tcells (doT t what key value).1).toArray, .agg #[.int .i64 (doT t what key value).2.1, .int .i64 (doT t what key value).2.2]]) ∧ Below w.heap.size w w' := by
  subst hw
  obtain ⟨i, hi8, ha, ho, -⟩ := g.at key
  have hT0 : thereB t key = (tk t i == key) := by simp [thereB, ha]
  have bt : (tk t i == key) = true := by rw [← hT0]; exact ht
  have hai : (atI t key).toNat = i := by rw [ha]; rfl
  have h0 : tk t i ≠ 0 := by simp at bt; omega
  have HCL := Lib.hid (fun w => closed_any w t i g hi8 h0)
  have hlc := (closeF_good g i hi8 h0).len
  have HLU : Hid ((tcells (closeF t i)).length = 16) := Lib.hid (by rw [tcells_len]; exact hlc)
  have HCU := Lib.hid (tcells_take (closeF t i) hlc)
  have HOU := Lib.hid (tcells_one (closeF t i))
  clear h0 hlc
  have hd : doT t 2 key value = (closeF t i, 1, tv t i) := by unfold doT; rw [if_neg (by decide), if_neg (by omega), if_neg (by decide), ht, if_neg (by decide), if_pos rfl, hai]
  have HD := Lib.hid hd
  clear hd
  have HC0 : ∀ w' : World, Blk w' w.heap.size (tcells t) 69 → w'.cell? ⟨w.heap.size, i * 2, none⟩ = some (.int .i64 (tk t i)) := fun w' h => (show TabAt w' w.heap.size t from ⟨g.len, h⟩).c0 i hi8
  have HC1 : ∀ w' : World, Blk w' w.heap.size (tcells t) 69 → w'.cell? ⟨w.heap.size, i * 2 + 1, none⟩ = some (.int .i64 (tv t i)) := fun w' h => (show TabAt w' w.heap.size t from ⟨g.len, h⟩).c1 i hi8
  replace HC0 := Lib.hid HC0
  replace HC1 := Lib.hid HC1
  have HA := Lib.hid ha
  have k1 : decide (key < 1) = false := by simp; omega
  have k2 : decide (1000 < key) = false := by simp; omega
  have i0 : (0 : Int) ≤ (i : Int) := Int.natCast_nonneg _
  have i8 : (i : Int) < 8 := by omega
  clear ha ho hT0 ht hai
  have HL := Lib.hid g.len
  have HB := Lib.hid (Below.refl w.heap.size w)
  have HONE := Lib.hid (tcells_one t)
  have HLT : Hid ((tcells t).length = 16) := Lib.hid (by rw [tcells_len]; exact g.len)
  have HCT := Lib.hid (tcells_take t g.len)
  have HG := Lib.hid g
  clear g
  go_enter Try.func51, Try.ntmps51
  go_upto_region 1 with fail
  have hb1 := balloc (Below.refl _ w) (Obj.cells (tcells t).toArray 69)
  have T := Lib.hid (Blk.new w (tcells t) 69)
  change Hid (Blk (w.alloc (Obj.cells (tcells t).toArray 69)) _ _ _) at T
  have ZT : Hid ((w.alloc (Obj.cells (tcells t).toArray 69)).heap.size = w.heap.size + 1) := World.size_alloc _ _
  replace HB := Lib.hid (bcall HB.out hb1)
  clear hb1
  generalize w.alloc (Obj.cells (tcells t).toArray 69) = w1 at *
  have hb2 := balloc (Below.refl _ w1) (Obj.cells #[.int .i64 2, .int .i64 key, .int .i64 value] 30)
  have O := Lib.hid (Blk.new w1 [.int .i64 2, .int .i64 key, .int .i64 value] 30)
  change Hid (Blk (w1.alloc (Obj.cells #[.int .i64 2, .int .i64 key, .int .i64 value] 30)) _ _ _) at O
  have ZO : Hid ((w1.alloc (Obj.cells #[.int .i64 2, .int .i64 key, .int .i64 value] 30)).heap.size = w1.heap.size + 1) := World.size_alloc _ _
  replace HB := Lib.hid (bcall HB.out hb2)
  replace T := Lib.hid (T.out.below hb2)
  clear hb2
  rw [ZT.out] at O ZO
  clear ZT
  generalize w1.alloc (Obj.cells #[.int .i64 2, .int .i64 key, .int .i64 value] 30) = w2 at *
  have O_c0 : w2.cell? ⟨(w.heap.size + 1), 0, none⟩ = some (.int .i64 2) := O.out.cell 0
  have O_c1 : w2.cell? ⟨(w.heap.size + 1), 1, none⟩ = some (.int .i64 key) := O.out.cell 1
  have O_c2 : w2.cell? ⟨(w.heap.size + 1), 2, none⟩ = some (.int .i64 value) := O.out.cell 2
  have O_z : (w.heap.size + 1) < w2.heap.size := O.out.lt
  have hb3 := balloc (Below.refl _ w2) (Obj.cells #[.int .i64 0, .int .i64 0, .int .i64 0, .int .i64 0, .int .i64 0, .int .i64 0, .int .i64 0, .int .i64 0, .int .i64 0, .int .i64 0, .int .i64 0, .int .i64 0, .int .i64 0, .int .i64 0, .int .i64 0, .int .i64 0] 69)
  have R := Lib.hid (Blk.new w2 [.int .i64 0, .int .i64 0, .int .i64 0, .int .i64 0, .int .i64 0, .int .i64 0, .int .i64 0, .int .i64 0, .int .i64 0, .int .i64 0, .int .i64 0, .int .i64 0, .int .i64 0, .int .i64 0, .int .i64 0, .int .i64 0] 69)
  change Hid (Blk (w2.alloc (Obj.cells #[.int .i64 0, .int .i64 0, .int .i64 0, .int .i64 0, .int .i64 0, .int .i64 0, .int .i64 0, .int .i64 0, .int .i64 0, .int .i64 0, .int .i64 0, .int .i64 0, .int .i64 0, .int .i64 0, .int .i64 0, .int .i64 0] 69)) _ _ _) at R
  have ZR : Hid ((w2.alloc (Obj.cells #[.int .i64 0, .int .i64 0, .int .i64 0, .int .i64 0, .int .i64 0, .int .i64 0, .int .i64 0, .int .i64 0, .int .i64 0, .int .i64 0, .int .i64 0, .int .i64 0, .int .i64 0, .int .i64 0, .int .i64 0, .int .i64 0] 69)).heap.size = w2.heap.size + 1) := World.size_alloc _ _
  clear O_c0 O_c1 O_c2 O_z
  replace HB := Lib.hid (bcall HB.out hb3)
  replace T := Lib.hid (T.out.below hb3)
  replace O := Lib.hid (O.out.below hb3)
  clear hb3
  rw [ZO.out] at R ZR
  clear ZO
  generalize w2.alloc (Obj.cells #[.int .i64 0, .int .i64 0, .int .i64 0, .int .i64 0, .int .i64 0, .int .i64 0, .int .i64 0, .int .i64 0, .int .i64 0, .int .i64 0, .int .i64 0, .int .i64 0, .int .i64 0, .int .i64 0, .int .i64 0, .int .i64 0] 69) = w3 at *
  have O_c0 : w3.cell? ⟨(w.heap.size + 1), 0, none⟩ = some (.int .i64 2) := O.out.cell 0
  have O_c1 : w3.cell? ⟨(w.heap.size + 1), 1, none⟩ = some (.int .i64 key) := O.out.cell 1
  have O_c2 : w3.cell? ⟨(w.heap.size + 1), 2, none⟩ = some (.int .i64 value) := O.out.cell 2
  have O_z : (w.heap.size + 1) < w3.heap.size := O.out.lt
  have hb4 := balloc (Below.refl _ w3) (Obj.cells #[.int .i64 0, .int .i64 0] 26)
  have A := Lib.hid (Blk.new w3 [.int .i64 0, .int .i64 0] 26)
  change Hid (Blk (w3.alloc (Obj.cells #[.int .i64 0, .int .i64 0] 26)) _ _ _) at A
  have ZA : Hid ((w3.alloc (Obj.cells #[.int .i64 0, .int .i64 0] 26)).heap.size = w3.heap.size + 1) := World.size_alloc _ _
  clear O_c0 O_c1 O_c2 O_z
  replace HB := Lib.hid (bcall HB.out hb4)
  replace T := Lib.hid (T.out.below hb4)
  replace O := Lib.hid (O.out.below hb4)
  replace R := Lib.hid (R.out.below hb4)
  clear hb4
  rw [ZR.out] at A ZA
  clear ZR
  generalize w3.alloc (Obj.cells #[.int .i64 0, .int .i64 0] 26) = w4 at *
  have O_c0 : w4.cell? ⟨(w.heap.size + 1), 0, none⟩ = some (.int .i64 2) := O.out.cell 0
  have O_c1 : w4.cell? ⟨(w.heap.size + 1), 1, none⟩ = some (.int .i64 key) := O.out.cell 1
  have O_c2 : w4.cell? ⟨(w.heap.size + 1), 2, none⟩ = some (.int .i64 value) := O.out.cell 2
  have O_z : (w.heap.size + 1) < w4.heap.size := O.out.lt
  have c0 := HC0.out _ T.out
  have k1' : (0 : Int) ≤ key := by omega
  generalize tk t i = ky at *
  generalize tv t i = vl at *
  go_wp2_with fail
  refine (at_any key _ w.heap.size t ⟨HL.out, T.out⟩ k1' hk2).mono ?_
  rw [HA.out]
  rintro e w' ⟨rfl, rfl⟩
  go_wp2_with fail
  go_region_held3 (fun w' => w'.cell? ⟨w.heap.size, i * 2, none⟩ = some (.int .i64 ky) ∧ w'.cell? ⟨w.heap.size + 1, 1, none⟩ = some (.int .i64 key))
    (first | go_keep) (fail)
  clear c0
  clear O_c0 O_c1 O_c2 O_z
  replace HB := Lib.hid HB.out.drew
  replace T := Lib.hid (Blk.drew T.out)
  replace O := Lib.hid (Blk.drew O.out)
  replace R := Lib.hid (Blk.drew R.out)
  replace A := Lib.hid (Blk.drew A.out)
  generalize w4.drew = w5 at *
  have O_c0 : w5.cell? ⟨(w.heap.size + 1), 0, none⟩ = some (.int .i64 2) := O.out.cell 0
  have O_c1 : w5.cell? ⟨(w.heap.size + 1), 1, none⟩ = some (.int .i64 key) := O.out.cell 1
  have O_c2 : w5.cell? ⟨(w.heap.size + 1), 2, none⟩ = some (.int .i64 value) := O.out.cell 2
  have O_z : (w.heap.size + 1) < w5.heap.size := O.out.lt
  have c1 := HC1.out _ T.out
  go_wp2_with (refine wpList_load_part rfl 69 _ rfl w.heap.size 0 16 rfl 69 (tcells t) _ T.out (by rw [HLT.out]; decide) Try.underlying69 rfl (by kernel_rfl) ?_; rw [HCT.out])
  clear c1
  refine (HCL.out _).mono ?_
  rintro e w6 ⟨rfl, hb6⟩
  clear O_c0 O_c1 O_c2 O_z
  replace HB := Lib.hid (bcall HB.out hb6)
  replace T := Lib.hid (T.out.below hb6)
  replace O := Lib.hid (O.out.below hb6)
  replace R := Lib.hid (R.out.below hb6)
  replace A := Lib.hid (A.out.below hb6)
  clear hb6
  have O_c0 : w6.cell? ⟨(w.heap.size + 1), 0, none⟩ = some (.int .i64 2) := O.out.cell 0
  have O_c1 : w6.cell? ⟨(w.heap.size + 1), 1, none⟩ = some (.int .i64 key) := O.out.cell 1
  have O_c2 : w6.cell? ⟨(w.heap.size + 1), 2, none⟩ = some (.int .i64 value) := O.out.cell 2
  have O_z : (w.heap.size + 1) < w6.heap.size := O.out.lt
  generalize closeF t i = c at *
  have TT : Hid (Blk (setBlk w6 w.heap.size (tcells c)) w.heap.size (tcells c) 69) := Lib.hid (T.out.setBlk _)
  have RR : Hid (Blk (setBlk w6 w.heap.size (tcells c)) (w.heap.size + 1 + 1) _ 69) := Lib.hid (R.out.otherBlk _ (by omega))
  have AA : Hid (Blk (setBlk w6 w.heap.size (tcells c)) (w.heap.size + 1 + 1 + 1) _ 26) := Lib.hid (A.out.otherBlk _ (by omega))
  have BB : Hid (Below w.heap.size w (setBlk w6 w.heap.size (tcells c))) := Lib.hid (bsetBlk HB.out (Nat.le_refl _) _)
  clear R A HB
  have R := RR
  have A := AA
  have HB := BB
  clear RR AA BB
  go_wp2_with (first | (refine wpList_store_part rfl 69 _ _ rfl w.heap.size 0 16 (tcells c) rfl rfl 69 (tcells t) T.out HLU.out (by rw [HLT.out]; decide) (by kernel_rfl) HOU.out ?_; rw [spl_whole (tcells t) (tcells c) (by rw [HLT.out, HLU.out])]) | (refine wpList_load_part rfl 69 _ rfl w.heap.size 0 16 rfl 69 (tcells c) _ TT.out (by rw [HLU.out]; decide) Try.underlying69 rfl (by kernel_rfl) ?_; rw [HCU.out]) | (refine wpList_store_part rfl 69 _ _ rfl (w.heap.size + 1 + 1) 0 16 (tcells c) rfl rfl 69 _ R.out HLU.out (by decide) (by kernel_rfl) HOU.out ?_; rw [spl_z16 _ HLU.out]; have aa0 := (A.out.otherBlk (tcells c) (show w.heap.size + 1 + 1 + 1 ≠ w.heap.size + 1 + 1 by omega)).cell 0; have aa1 := (A.out.otherBlk (tcells c) (show w.heap.size + 1 + 1 + 1 ≠ w.heap.size + 1 + 1 by omega)).cell 1; have af0 := (A.out.otherBlk (tcells c) (show w.heap.size + 1 + 1 + 1 ≠ w.heap.size + 1 + 1 by omega)).frozen 0; have af1 := (A.out.otherBlk (tcells c) (show w.heap.size + 1 + 1 + 1 ≠ w.heap.size + 1 + 1 by omega)).frozen 1))
  have hR2 : Blk (((setBlk (setBlk w6 w.heap.size (tcells c)) (w.heap.size + 1 + 1) (tcells c)).setCell ⟨w.heap.size + 1 + 1 + 1, 0, none⟩ (.int .i64 1)).setCell ⟨w.heap.size + 1 + 1 + 1, 1, none⟩ (.int .i64 vl)) (w.heap.size + 1 + 1) (tcells c) 69 :=
    ((R.out.setBlk _).other _ (by show w.heap.size + 1 + 1 ≠ w.heap.size + 1 + 1 + 1; omega)).other _ (by show w.heap.size + 1 + 1 ≠ w.heap.size + 1 + 1 + 1; omega)
  have hA2 : Blk (((setBlk (setBlk w6 w.heap.size (tcells c)) (w.heap.size + 1 + 1) (tcells c)).setCell ⟨w.heap.size + 1 + 1 + 1, 0, none⟩ (.int .i64 1)).setCell ⟨w.heap.size + 1 + 1 + 1, 1, none⟩ (.int .i64 vl)) (w.heap.size + 1 + 1 + 1) [.int .i64 1, .int .i64 vl] 26 :=
    Blk.pair (A.out.otherBlk _ (by omega))
  have hB2 : Below w.heap.size w (((setBlk (setBlk w6 w.heap.size (tcells c)) (w.heap.size + 1 + 1) (tcells c)).setCell ⟨w.heap.size + 1 + 1 + 1, 0, none⟩ (.int .i64 1)).setCell ⟨w.heap.size + 1 + 1 + 1, 1, none⟩ (.int .i64 vl)) :=
    bstore (bstore (bsetBlk HB.out (by omega) _) (by show w.heap.size ≤ w.heap.size + 1 + 1 + 1; omega) _) (by show w.heap.size ≤ w.heap.size + 1 + 1 + 1; omega) _
  refine bodyPost_ret (v := .tuple #[.agg (tcells c).toArray, .agg #[.int .i64 1, .int .i64 vl]]) (results2_cells _ _ _ _ rfl (w.heap.size + 1 + 1) (w.heap.size + 1 + 1 + 1) (tcells c) [.int .i64 1, .int .i64 vl] 69 26 _ _ rfl rfl hR2 hA2 Try.underlying69 rfl (by rw [HLU.out]; kernel_rfl) Try.underlying26 rfl (by kernel_rfl)) rfl ⟨?_, hB2⟩
  rw [HD.out]
/-- An operation with a good table. -/
theorem table_do (w : World) (t : List Int) (g : Good t) (what key value : Int) :
    Calls Try.prog 51 #[.agg (tcells t).toArray, .agg #[.int .i64 what, .int .i64 key, .int .i64 value]] w fun e w' => e = .returned (.tuple #[.agg (tcells (doT t what key value).1).toArray, .agg #[.int .i64 (doT t what key value).2.1, .int .i64 (doT t what key value).2.2]]) ∧ Below w.heap.size w w' := by
  by_cases h6 : what = 6
  · exact do_count w t g what key value h6
  by_cases h1 : what = 1
  · by_cases a : key < 1
    · exact do_key1lo w t g what key value h1 a
    by_cases b : 1000 < key
    · exact do_key1hi w t g what key value h1 b
    cases ht : thereB t key
    · by_cases h : 6 ≤ lenT t
      · exact do_full w t g what key value h1 (by omega) (by omega) ht h
      · exact do_putnew w t g what key value h1 (by omega) (by omega) ht (by omega)
    · exact do_putold w t g what key value h1 (by omega) (by omega) ht
  by_cases h2 : what = 2
  · by_cases a : key < 1
    · exact do_key2lo w t g what key value h2 a
    by_cases b : 1000 < key
    · exact do_key2hi w t g what key value h2 b
    cases ht : thereB t key
    · exact do_absent2 w t g what key value h2 (by omega) (by omega) ht
    · exact do_take w t g what key value h2 (by omega) (by omega) ht
  by_cases h5 : what = 5
  · by_cases a : key < 1
    · exact do_key5lo w t g what key value h5 a
    by_cases b : 1000 < key
    · exact do_key5hi w t g what key value h5 b
    cases ht : thereB t key
    · exact do_absent5 w t g what key value h5 (by omega) (by omega) ht
    · exact do_peek w t g what key value h5 (by omega) (by omega) ht
  exact do_wrong w t g what key value h1 h2 h5 h6
end Go.Proofs.Ytpedkcpkdacnlaa
end
section
namespace Go.Proofs.Ytpedkcpkdacnlaa
open Go.RowKit
set_option maxRecDepth 20000
set_option linter.unusedVariables false
def okAt (t : List Int) (j : Nat) : Bool := decide (0 ≤ tv t j ∧ tv t j ≤ 4294967295 ∧ (tk t j = 0 → tv t j = 0) ∧ (tk t j ≠ 0 → atI t (tk t j) = j))
def okTo (t : List Int) : Nat → Bool
  | 0 => true
  | k + 1 => okTo t k && okAt t k
def rightB (t : List Int) : Bool := decide (lenT t ≤ 6) && okTo t 8
theorem okTo_iff (t : List Int) (n : Nat) : okTo t n = true ↔ ∀ j, j < n → okAt t j = true := by
  induction n with
  | zero => simp [okTo]
  | succ n ih =>
    simp only [okTo, Bool.and_eq_true, ih]
    constructor
    · rintro ⟨a, b⟩ j hj
      by_cases h : j = n
      · subst h; exact b
      · exact a j (by omega)
    · intro h; exact ⟨fun j hj => h j (by omega), h n (by omega)⟩
theorem okTo_false (t : List Int) (k n : Nat) (h : okAt t k = false) (hk : k < n) : okTo t n = false := by
  cases e : okTo t n
  · rfl
  · have := (okTo_iff t n).1 e k hk; rw [h] at this; cases this
theorem rightB_iff (t : List Int) (hl : t.length = 16) (hk : ∀ j, j < 8 → 0 ≤ tk t j ∧ tk t j ≤ 1000) : rightB t = true ↔ Good t := by
  unfold rightB
  rw [Bool.and_eq_true, decide_eq_true_eq, okTo_iff]
  constructor
  · rintro ⟨a, b⟩
    refine Good.mk' hl a fun i hi => ?_
    have := b i hi
    simp only [okAt, decide_eq_true_eq] at this
    exact ⟨(hk i hi).1, (hk i hi).2, this.1, this.2.1, this.2.2.1, this.2.2.2⟩
  · intro g
    refine ⟨g.few, fun j hj => ?_⟩
    simp only [okAt, decide_eq_true_eq]
    exact ⟨g.val0 j hj, g.val1 j hj, g.none j hj, g.found j hj⟩
set_option maxHeartbeats 4000000 in
theorem right_any (w : World) (t : List Int) (hl : t.length = 16) (hk : ∀ j, j < 8 → 0 ≤ tk t j ∧ tk t j ≤ 1000) :
    Calls Try.prog 60 #[.agg (tcells t).toArray] w fun e w' => e = .returned (.bool (rightB t)) ∧ Below w.heap.size w w' := by
  have HL := Lib.hid hl
  have HK := Lib.hid hk
  have hix0 : ∀ q : Nat, q < 8 → ∀ w, (Instr.index 69 (.agg (tcells t).toArray) (.int .i64 q)).run Try.prog w = .ok (.agg #[.int .i64 (tk t q), .int .i64 (tv t q)]) w := fun q hq w => idx_slot t hl q hq w
  have HIX := Lib.hid hix0
  clear hix0
  have HLT : Hid ((tcells t).length = 16) := Lib.hid (by rw [tcells_len]; exact hl)
  have HCT := Lib.hid (tcells_take t hl)
  clear hl hk
  have HB := Lib.hid (Below.refl w.heap.size w)
  go_enter Try.func60, Try.ntmps60
  go_upto_region 1 with fail
  have hb1 := balloc (Below.refl _ w) (Obj.cells (tcells t).toArray 69)
  have T := Lib.hid (Blk.new w (tcells t) 69)
  change Hid (Blk (w.alloc (Obj.cells (tcells t).toArray 69)) _ _ _) at T
  have ZT : Hid ((w.alloc (Obj.cells (tcells t).toArray 69)).heap.size = w.heap.size + 1) := World.size_alloc _ _
  replace HB := Lib.hid (bcall HB.out hb1)
  clear hb1
  generalize w.alloc (Obj.cells (tcells t).toArray 69) = w1 at *
  by_cases h6 : 6 < lenT t
  · have g6 : decide (6 < lenT t) = true := by simp [h6]
    have g6' : decide ((6 : Int) < (lenT t : Int)) = true := by simp; omega
    have hr : rightB t = false := by unfold rightB; rw [show decide (lenT t ≤ 6) = false by simp; omega]; rfl
    have HR := Lib.hid hr
    clear hr h6
    go_wp2_with (refine wpList_load_part rfl 69 _ rfl w.heap.size 0 16 rfl 69 (tcells t) _ T.out (by rw [HLT.out]; decide) Try.underlying69 rfl (by kernel_rfl) ?_; rw [HCT.out])
    refine (len_any t HL.out _).mono ?_
    rintro e w2 ⟨rfl, hb2⟩
    replace HB := Lib.hid (bcall HB.out hb2)
    replace T := Lib.hid (T.out.below hb2)
    clear hb2
    go_wp2_with fail
    go_ret
    exact ⟨by rw [HR.out]; rfl, HB.out⟩
  · have g6 : decide (6 < lenT t) = false := by simp; omega
    have g6' : decide ((6 : Int) < (lenT t : Int)) = false := by simp; omega
    have hr : rightB t = okTo t 8 := by unfold rightB; rw [show decide (lenT t ≤ 6) = true by simp; omega]; rfl
    have HR := Lib.hid hr
    clear hr h6
    go_wp2_with (refine wpList_load_part rfl 69 _ rfl w.heap.size 0 16 rfl 69 (tcells t) _ T.out (by rw [HLT.out]; decide) Try.underlying69 rfl (by kernel_rfl) ?_; rw [HCT.out])
    refine (len_any t HL.out _).mono ?_
    rintro e w2 ⟨rfl, hb2⟩
    replace HB := Lib.hid (bcall HB.out hb2)
    replace T := Lib.hid (T.out.below hb2)
    clear hb2
    go_wp2_with (refine wpList_load_part rfl 69 _ rfl w.heap.size 0 16 rfl 69 (tcells t) _ T.out (by rw [HLT.out]; decide) Try.underlying69 rfl (by kernel_rfl) ?_; rw [HCT.out])
    go_loopw [9] (fun i wr => ∃ k : Nat, k ≤ 8 ∧ i = .int .i64 k ∧ okTo t k = true ∧ Below w.heap.size w wr ∧ Blk wr w.heap.size (tcells t) 69) (fun i _ => 8 - (intOf i).toNat)
    case atStart => exact ⟨0, by omega, rfl, rfl, HB.out, T.out⟩
    case round =>
      clear HB T
      obtain ⟨k, hk, rfl, hok, hb, ht⟩ := hrel
      have HB := Lib.hid hb
      have T := Lib.hid ht
      have HOK := Lib.hid hok
      clear hb ht hok
      by_cases hlt : k < 8
      · have hix := HIX.out k hlt
        have k0 := (HK.out k hlt).1
        have k1 := (HK.out k hlt).2
        have k0' : decide (tk t k < 0) = false := by simp; omega
        have k1' : decide (1000 < tk t k) = false := by simp; omega
        have hA : okAt t k = decide (0 ≤ tv t k ∧ tv t k ≤ 4294967295 ∧ (tk t k = 0 → tv t k = 0) ∧ (tk t k ≠ 0 → atI t (tk t k) = k)) := rfl
        have hat := fun (w' : World) (b : Nat) (h : TabAt w' b t) => at_any (tk t k) w' b t h k0 k1
        have HA := Lib.hid hA
        have HAT := Lib.hid hat
        clear hA hat
        generalize tk t k = ky at *
        generalize tv t k = vl at *
        have hbad : okAt t k = false → rightB t = false := fun h => by rw [HR.out]; exact okTo_false t k 8 h hlt
        have hgood : okAt t k = true → okTo t (k + 1) = true := fun h => by simp only [okTo]; rw [HOK.out, h]; rfl
        have HBAD := Lib.hid hbad
        have HGOOD := Lib.hid hgood
        clear hbad hgood
        go_upto_region 6 with fail
        have hltX0 := T.out.lt
        have hb21 := balloc (Below.refl _ wr) (Obj.cells #[.int .i64 ky, .int .i64 vl] 67)
        have X := Lib.hid (Blk.new wr [.int .i64 ky, .int .i64 vl] 67)
        change Hid (Blk (wr.alloc (Obj.cells #[.int .i64 ky, .int .i64 vl] 67)) _ _ _) at X
        have ZX : Hid ((wr.alloc (Obj.cells #[.int .i64 ky, .int .i64 vl] 67)).heap.size = wr.heap.size + 1) := World.size_alloc _ _
        replace HB := Lib.hid (bcall HB.out hb21)
        replace T := Lib.hid (T.out.below hb21)
        clear hb21
        generalize wr.alloc (Obj.cells #[.int .i64 ky, .int .i64 vl] 67) = w21 at *
        generalize wr.heap.size = bX at *
        have X_c0 : w21.cell? ⟨bX, 0, none⟩ = some (.int .i64 ky) := X.out.cell 0
        have X_c1 : w21.cell? ⟨bX, 1, none⟩ = some (.int .i64 vl) := X.out.cell 1
        have X_z : bX < w21.heap.size := X.out.lt
        by_cases v0 : vl < 0
        · have hr0 := Lib.hid (HBAD.out (by rw [HA.out, decide_eq_false_iff_not]; intro hh; have h1 := hh.1; have h2 := hh.2.1; have h3 := hh.2.2.1; have h4 := hh.2.2.2; omega))
          have g : decide (vl < 0) = true := by simp [v0]
          clear v0
          go_wp2_with fail
          go_ret
          exact ⟨by rw [hr0.out]; rfl, HB.out⟩
        have gv0 : decide (vl < 0) = false := by simp; omega
        by_cases v1 : 4294967295 < vl
        · have hr0 := Lib.hid (HBAD.out (by rw [HA.out, decide_eq_false_iff_not]; intro hh; have h1 := hh.1; have h2 := hh.2.1; have h3 := hh.2.2.1; have h4 := hh.2.2.2; omega))
          have g : decide (4294967295 < vl) = true := by simp [v1]
          clear v1 v0
          go_wp2_with fail
          go_ret
          exact ⟨by rw [hr0.out]; rfl, HB.out⟩
        have gv1 : decide (4294967295 < vl) = false := by simp; omega
        by_cases z : ky = 0
        · have z1 : (ky == 0) = true := by simp [z]
          have z2 : (ky != 0) = false := by simp [z]
          by_cases y : vl = 0
          · have hg0 := Lib.hid (HGOOD.out (by rw [HA.out, decide_eq_true_eq]; exact ⟨by omega, by omega, fun _ => y, fun x => absurd z x⟩))
            have y1 : (vl != 0) = false := by simp [y]
            clear y z v0 v1
            go_wp2_with fail
            go_roundw
            case rel => exact ⟨k + 1, by omega, by go_num, hg0.out, HB.out, T.out⟩
            case measure => simp [intOf]; omega
          · have hr0 := Lib.hid (HBAD.out (by rw [HA.out, decide_eq_false_iff_not]; intro hh; have h1 := hh.1; have h2 := hh.2.1; have h3 := hh.2.2.1; have h4 := hh.2.2.2; exact y (h3 z)))
            have y1 : (vl != 0) = true := by simp [y]
            clear y z v0 v1
            go_wp2_with fail
            go_ret
            exact ⟨by rw [hr0.out]; rfl, HB.out⟩
        · have z1 : (ky == 0) = false := by simp [z]
          have z2 : (ky != 0) = true := by simp [z]
          by_cases y : atI t ky = k
          · have hg0 := Lib.hid (HGOOD.out (by rw [HA.out, decide_eq_true_eq]; exact ⟨by omega, by omega, fun x => absurd x z, fun _ => y⟩))
            have y1 : (atI t ky != (k : Int)) = false := by simp [y]
            clear y z v0 v1
            go_wp2_with fail
            refine (HAT.out _ _ ⟨HL.out, T.out⟩).mono ?_
            rintro e w' ⟨rfl, rfl⟩
            go_wp2_with fail
            go_roundw
            case rel => exact ⟨k + 1, by omega, by go_num, hg0.out, HB.out, T.out⟩
            case measure => simp [intOf]; omega
          · have hr0 := Lib.hid (HBAD.out (by rw [HA.out, decide_eq_false_iff_not]; intro hh; have h1 := hh.1; have h2 := hh.2.1; have h3 := hh.2.2.1; have h4 := hh.2.2.2; exact y (h4 z)))
            have y1 : (atI t ky != (k : Int)) = true := by simp [y]
            clear y z v0 v1
            go_wp2_with fail
            refine (HAT.out _ _ ⟨HL.out, T.out⟩).mono ?_
            rintro e w' ⟨rfl, rfl⟩
            go_wp2_with fail
            go_ret
            exact ⟨by rw [hr0.out]; rfl, HB.out⟩
      · obtain rfl : k = 8 := by omega
        go_wp2_with fail
        go_ret
        exact ⟨by rw [HR.out, HOK.out]; rfl, HB.out⟩
end Go.Proofs.Ytpedkcpkdacnlaa
end
section
namespace Go.Proofs.Ytpedkcpkdacnlaa
set_option linter.unusedVariables false
def hp (xs : List Int) (i : Nat) : Int := xs.getD i 0
def swp (xs : List Int) (i j : Nat) : List Int := (xs.set i (hp xs j)).set j (hp xs i)
def upF : Nat → List Int → Nat → List Int
  | 0, xs, _ => xs
  | f + 1, xs, i => if 0 < i ∧ hp xs i < hp xs ((i - 1) / 2) then upF f (swp xs i ((i - 1) / 2)) ((i - 1) / 2) else xs
def kid (xs : List Int) (i : Nat) : Nat := if 2 * i + 2 < xs.length ∧ hp xs (2 * i + 2) < hp xs (2 * i + 1) then 2 * i + 2 else 2 * i + 1
def downF : Nat → List Int → Nat → List Int
  | 0, xs, _ => xs
  | f + 1, xs, i => if xs.length ≤ kid xs i ∨ hp xs i ≤ hp xs (kid xs i) then xs else downF f (swp xs i (kid xs i)) (kid xs i)
def IsHeap (xs : List Int) : Prop := ∀ j, 0 < j → j < xs.length → hp xs ((j - 1) / 2) ≤ hp xs j
theorem swp_length (xs : List Int) (i j : Nat) : (swp xs i j).length = xs.length := by simp [swp]
theorem hp_swp (xs : List Int) (i j k : Nat) (hi : i < xs.length) (hj : j < xs.length) : hp (swp xs i j) k = if k = j then hp xs i else if k = i then hp xs j else hp xs k := by
  unfold hp swp
  rw [List.getD_eq_getElem?_getD, List.getElem?_set, List.getElem?_set]
  by_cases h : k = j
  · subst h; simp [hj, hp]
  · rw [if_neg (fun e => h e.symm), if_neg h]
    by_cases h' : k = i
    · subst h'; simp [hi, hp]
    · rw [if_neg (fun e => h' e.symm), if_neg h', List.getD_eq_getElem?_getD]
theorem swp_perm (xs : List Int) (i j : Nat) (hi : i < xs.length) (hj : j < xs.length) : (swp xs i j).Perm xs := by
  have h := Array.swap_perm (xs := xs.toArray) (i := i) (j := j) (by simpa using hi) (by simpa using hj)
  have h2 := Array.perm_iff_toList_perm.1 h
  have e : (xs.toArray.swap i j (by simpa using hi) (by simpa using hj)).toList = swp xs i j := by
    simp [Array.swap, swp, hp, List.getD_eq_getElem?_getD, hi, hj]
  rw [e] at h2
  simpa using h2
theorem upF_length (f : Nat) : ∀ (xs : List Int) (i : Nat), (upF f xs i).length = xs.length := by
  induction f with
  | zero => intro xs i; rfl
  | succ f ih => intro xs i; simp only [upF]; split; · rw [ih, swp_length]
                 · rfl
theorem downF_length (f : Nat) : ∀ (xs : List Int) (i : Nat), (downF f xs i).length = xs.length := by
  induction f with
  | zero => intro xs i; rfl
  | succ f ih => intro xs i; simp only [downF]; split; · rfl
                 · rw [ih, swp_length]
theorem upF_perm (f : Nat) : ∀ (xs : List Int) (i : Nat), i < xs.length → (upF f xs i).Perm xs := by
  induction f with
  | zero => intro xs i _; exact List.Perm.refl _
  | succ f ih =>
    intro xs i hi
    simp only [upF]
    split
    · exact (ih _ _ (by rw [swp_length]; omega)).trans (swp_perm xs i _ hi (by omega))
    · exact List.Perm.refl _
theorem downF_perm (f : Nat) : ∀ (xs : List Int) (i : Nat), i < xs.length → (downF f xs i).Perm xs := by
  induction f with
  | zero => intro xs i _; exact List.Perm.refl _
  | succ f ih =>
    intro xs i hi
    simp only [downF]
    split
    · exact List.Perm.refl _
    · rename_i h
      exact (ih _ _ (by rw [swp_length]; omega)).trans (swp_perm xs i _ hi (by omega))
/-- The parent relation holds everywhere but at i. -/
def UpInv (xs : List Int) (i : Nat) : Prop := (∀ j, 0 < j → j < xs.length → j ≠ i → hp xs ((j - 1) / 2) ≤ hp xs j) ∧ (∀ j, 0 < j → j < xs.length → (j - 1) / 2 = i → 0 < i → hp xs ((i - 1) / 2) ≤ hp xs j)
theorem upF_heap (f : Nat) : ∀ (xs : List Int) (i : Nat), i < xs.length → i ≤ f → UpInv xs i → IsHeap (upF f xs i) := by
  induction f with
  | zero =>
    intro xs i hi hf h
    obtain rfl : i = 0 := by omega
    intro j h0 hj
    exact h.1 j h0 hj (by omega)
  | succ f ih =>
    intro xs i hi hf h
    simp only [upF]
    split
    · rename_i hc
      obtain ⟨hc0, hc1⟩ := hc
      have hp' : (i - 1) / 2 < xs.length := by omega
      refine ih _ _ (by rw [swp_length]; omega) (by omega) ⟨fun j h0 hj hne => ?_, fun j h0 hj hpar hi0 => ?_⟩
      · rw [swp_length] at hj
        rw [hp_swp _ _ _ _ hi hp', hp_swp _ _ _ _ hi hp']
        have e1 : (j = (i - 1) / 2) = False := by simp; exact hne
        simp only [e1, if_false]
        by_cases hji : j = i
        · subst hji; simp only [if_true]; omega
        · simp only [hji, if_false]
          by_cases hpi : (j - 1) / 2 = (i - 1) / 2
          · simp only [hpi, if_true]; have := h.1 j h0 hj hji; rw [hpi] at this; omega
          · simp only [hpi, if_false]
            by_cases hp2 : (j - 1) / 2 = i
            · simp only [hp2, if_true]; exact h.2 j h0 hj hp2 hc0
            · simp only [hp2, if_false]; exact h.1 j h0 hj hji
      · rw [swp_length] at hj
        rw [hp_swp _ _ _ _ hi hp', hp_swp _ _ _ _ hi hp']
        have e1 : ¬ ((i - 1) / 2 - 1) / 2 = (i - 1) / 2 := by omega
        have e2 : ¬ ((i - 1) / 2 - 1) / 2 = i := by omega
        have e3 : ¬ j = (i - 1) / 2 := by omega
        simp only [e1, e2, e3, if_false]
        have hg := h.1 ((i - 1) / 2) hi0 hp' (by omega)
        by_cases hji : j = i
        · simp only [hji, if_true]; exact hg
        · simp only [hji, if_false]
          have := h.1 j h0 hj hji
          rw [hpar] at this; omega
    · rename_i hc
      intro j h0 hj
      by_cases hji : j = i
      · subst hji; omega
      · exact h.1 j h0 hj hji
/-- The parent relation holds everywhere but under i. -/
def DownInv (xs : List Int) (i : Nat) : Prop := (∀ j, 0 < j → j < xs.length → (j - 1) / 2 ≠ i → hp xs ((j - 1) / 2) ≤ hp xs j) ∧ (∀ j, 0 < j → j < xs.length → (j - 1) / 2 = i → 0 < i → hp xs ((i - 1) / 2) ≤ hp xs j)
theorem kid_cases (xs : List Int) (i : Nat) : (kid xs i = 2 * i + 1 ∨ kid xs i = 2 * i + 2) ∧ (kid xs i < xs.length → ∀ j, 0 < j → j < xs.length → (j - 1) / 2 = i → hp xs (kid xs i) ≤ hp xs j) ∧ (xs.length ≤ kid xs i → xs.length ≤ 2 * i + 1) := by
  unfold kid
  split
  · rename_i h
    refine ⟨.inr rfl, fun _ j h0 hj hp => ?_, fun _ => by omega⟩
    obtain rfl | rfl : j = 2 * i + 1 ∨ j = 2 * i + 2 := by omega
    · omega
    · omega
  · rename_i h
    refine ⟨.inl rfl, fun _ j h0 hj hp => ?_, fun _ => by omega⟩
    obtain rfl | rfl : j = 2 * i + 1 ∨ j = 2 * i + 2 := by omega
    · omega
    · omega
theorem downF_heap (f : Nat) : ∀ (xs : List Int) (i : Nat), xs.length ≤ i + f → DownInv xs i → IsHeap (downF f xs i) := by
  induction f with
  | zero =>
    intro xs i hf h j h0 hj
    simp only [downF] at *
    exact h.1 j h0 hj (by omega)
  | succ f ih =>
    intro xs i hf h
    obtain ⟨k1, k2, k3⟩ := kid_cases xs i
    simp only [downF]
    split
    · rename_i hc
      intro j h0 hj
      by_cases hji : (j - 1) / 2 = i
      · rcases hc with hc | hc
        · have := k3 hc; omega
        · rcases Nat.lt_or_ge (kid xs i) xs.length with hk | hk
          · have := k2 hk j h0 hj hji; rw [hji]; omega
          · have := k3 hk; omega
      · exact h.1 j h0 hj hji
    · rename_i hc
      have hk : kid xs i < xs.length := by omega
      have hlt : hp xs (kid xs i) < hp xs i := by omega
      have k2 := k2 hk
      generalize kid xs i = k at *
      have hi : i < xs.length := by omega
      refine ih _ _ (by rw [swp_length]; omega) ⟨fun j h0 hj hne => ?_, fun j h0 hj hpar hk0 => ?_⟩
      · rw [swp_length] at hj
        rw [hp_swp _ _ _ _ hi hk, hp_swp _ _ _ _ hi hk]
        rw [if_neg hne]
        by_cases hjk : j = k
        · subst hjk
          rw [if_pos rfl, if_pos (by omega)]; omega
        · rw [if_neg hjk]
          by_cases hji : j = i
          · subst hji
            rw [if_pos rfl, if_neg (by omega)]
            exact h.2 k (by omega) hk (by omega) (by omega)
          · rw [if_neg hji]
            by_cases hpi : (j - 1) / 2 = i
            · rw [if_pos hpi]; exact k2 j h0 hj hpi
            · rw [if_neg hpi]; exact h.1 j h0 hj hpi
      · rw [swp_length] at hj
        rw [hp_swp _ _ _ _ hi hk, hp_swp _ _ _ _ hi hk]
        rw [if_neg (by omega), if_pos (by omega), if_neg (by omega), if_neg (by omega)]
        have := h.1 j h0 hj (by omega)
        rw [hpar] at this; exact this
end Go.Proofs.Ytpedkcpkdacnlaa
end
section
namespace Go.Proofs.Ytpedkcpkdacnlaa
set_option linter.unusedVariables false
def heapR (xs : List Int) (k x : Int) : List Int × Int × Int :=
  if k = 1 then (if 6 ≤ xs.length then (xs, 3, 0) else (upF xs.length (xs ++ [x]) xs.length, 1, 0))
  else if k = 2 ∨ k = 5 then (if xs.length = 0 then (xs, 2, 0) else if k = 5 then (xs, 1, hp xs 0) else (downF (xs.length - 1) ((xs.set 0 (hp xs (xs.length - 1))).take (xs.length - 1)) 0, 1, hp xs 0))
  else if k = 6 then (xs, 1, xs.length) else (xs, 5, 0)
theorem heap_min {xs : List Int} (h : IsHeap xs) : ∀ j, j < xs.length → hp xs 0 ≤ hp xs j := by
  intro j
  induction j using Nat.strongRecOn with
  | ind j ih =>
    intro hj
    by_cases h0 : j = 0
    · subst h0; exact Int.le_refl _
    · have h1 := h j (by omega) hj
      have h2 := ih ((j - 1) / 2) (by omega) (by omega)
      omega
theorem hp_append_left (xs ys : List Int) (j : Nat) (h : j < xs.length) : hp (xs ++ ys) j = hp xs j := by
  unfold hp; rw [List.getD_eq_getElem?_getD, List.getD_eq_getElem?_getD, List.getElem?_append_left h]
theorem put_inv {xs : List Int} (h : IsHeap xs) (x : Int) : UpInv (xs ++ [x]) xs.length := by
  refine ⟨fun j h0 hj hne => ?_, fun j h0 hj hp _ => ?_⟩
  · simp at hj
    rw [hp_append_left _ _ _ (by omega), hp_append_left _ _ _ (by omega)]
    exact h j h0 (by omega)
  · simp at hj; omega
theorem take_hp (xs : List Int) (v : Int) (n j : Nat) (hj : j < n) (h0 : 0 < j) : hp ((xs.set 0 v).take n) j = hp xs j := by
  unfold hp
  rw [List.getD_eq_getElem?_getD, List.getD_eq_getElem?_getD, List.getElem?_take, if_pos hj, List.getElem?_set, if_neg (by omega)]
theorem take_inv {xs : List Int} (h : IsHeap xs) (v : Int) (n : Nat) (hn : n ≤ xs.length) : DownInv ((xs.set 0 v).take n) 0 := by
  refine ⟨fun j h0 hj hne => ?_, fun j h0 hj hp hc => by omega⟩
  simp at hj
  rw [take_hp _ _ _ _ (by omega) (by omega), take_hp _ _ _ _ (by omega) h0]
  exact h j h0 (by omega)
theorem take_perm (xs : List Int) (hx : xs.length ≠ 0) : (hp xs 0 :: (xs.set 0 (hp xs (xs.length - 1))).take (xs.length - 1)).Perm xs := by
  cases xs with
  | nil => simp at hx
  | cons a t =>
    show (a :: _).Perm (a :: t)
    refine List.Perm.cons a ?_
    rcases List.eq_nil_or_concat t with rfl | ⟨u, b, ht⟩
    · simp
    · rw [List.concat_eq_append] at ht
      subst ht
      have e : hp (a :: (u ++ [b])) ((a :: (u ++ [b])).length - 1) = b := by simp [hp, List.getD_eq_getElem?_getD]
      rw [e]
      have e2 : ((a :: (u ++ [b])).set 0 b).take ((a :: (u ++ [b])).length - 1) = b :: u := by simp
      rw [e2]
      exact (List.perm_append_comm (l₁ := [b]) (l₂ := u))
theorem heapR_heap {xs : List Int} (h : IsHeap xs) (k x : Int) : IsHeap (heapR xs k x).1 := by
  unfold heapR
  split
  · split
    · exact h
    · exact upF_heap _ _ _ (by simp) (Nat.le_refl _) (put_inv h x)
  · split
    · split
      · exact h
      · split
        · exact h
        · exact downF_heap _ _ _ (by simp) (take_inv h _ _ (by omega))
    · split <;> exact h
theorem heapR_put (xs : List Int) (x : Int) (h : xs.length < 6) : ∃ ys, heapR xs 1 x = (ys, 1, 0) ∧ ys.Perm (x :: xs) ∧ ys.length = xs.length + 1 := by
  refine ⟨_, by unfold heapR; rw [if_pos rfl, if_neg (by omega)], (upF_perm _ _ _ (by simp)).trans (List.perm_append_comm (l₁ := xs) (l₂ := [x])), by rw [upF_length]; simp⟩
theorem heapR_take (xs : List Int) (x : Int) (h : xs.length ≠ 0) : ∃ ys, heapR xs 2 x = (ys, 1, hp xs 0) ∧ (hp xs 0 :: ys).Perm xs ∧ ys.length = xs.length - 1 := by
  refine ⟨_, by unfold heapR; rw [if_neg (by decide), if_pos (.inl rfl), if_neg h, if_neg (by decide)], ?_, by rw [downF_length]; simp⟩
  refine List.Perm.trans (List.Perm.cons _ ?_) (take_perm xs h)
  by_cases h1 : xs.length - 1 = 0
  · rw [h1]; exact List.Perm.refl _
  · exact downF_perm _ _ _ (by simp; omega)
end Go.Proofs.Ytpedkcpkdacnlaa
end
section
namespace Go.Proofs.Ytpedkcpkdacnlaa
set_option linter.unusedVariables false
theorem hp_mem {xs : List Int} (h : 0 < xs.length) : hp xs 0 ∈ xs := by
  cases xs with
  | nil => simp at h
  | cons a t => simp [hp]
theorem heap_le_mem {xs : List Int} (h : IsHeap xs) : ∀ v ∈ xs, hp xs 0 ≤ v := by
  intro v hv
  obtain ⟨j, hj, rfl⟩ := List.mem_iff_getElem.1 hv
  have := heap_min h j hj
  simpa [hp, List.getD_eq_getElem?_getD, hj] using this
theorem heap_rises {xs : List Int} (h : IsHeap xs) (hl : 2 ≤ xs.length) :
    ∃ ys zs, heapR xs 2 0 = (ys, 1, hp xs 0) ∧ ys.length = xs.length - 1 ∧ heapR ys 2 0 = (zs, 1, hp ys 0) ∧ hp xs 0 ≤ hp ys 0 := by
  obtain ⟨ys, e, p, l⟩ := heapR_take xs 0 (by omega)
  obtain ⟨zs, e2, p2, l2⟩ := heapR_take ys 0 (by omega)
  exact ⟨ys, zs, e, l, e2, heap_le_mem h _ (p.subset (List.mem_cons_of_mem _ (hp_mem (by omega))))⟩
/-- Taken from a heap that has the same numbers as a sorted list: its first one, and then its rest. -/
theorem heap_pops {xs : List Int} (h : IsHeap xs) {a : Int} {s : List Int} (hp' : xs.Perm (a :: s)) (hs : (a :: s).Pairwise (· ≤ ·)) :
    ∃ ys, heapR xs 2 0 = (ys, 1, a) ∧ IsHeap ys ∧ ys.Perm s := by
  have hl := hp'.length_eq
  obtain ⟨ys, e, p, l⟩ := heapR_take xs 0 (by simp at hl; omega)
  have h1 : hp xs 0 ≤ a := heap_le_mem h a (hp'.symm.subset List.mem_cons_self)
  have h2 : a ≤ hp xs 0 := by
    have hm := hp'.subset (hp_mem (xs := xs) (by simp at hl; omega))
    rcases List.mem_cons.1 hm with hm | hm
    · omega
    · exact (List.pairwise_cons.1 hs).1 _ hm
  have ha : hp xs 0 = a := by omega
  rw [ha] at e p
  refine ⟨ys, e, ?_, List.Perm.cons_inv (p.trans hp')⟩
  have := heapR_heap h 2 0
  rw [e] at this; exact this
end Go.Proofs.Ytpedkcpkdacnlaa
end
section
namespace Go.Proofs
open Go.Shelf
def Try.lays128_ren : Go.Shelf.Ren := ⟨fun | 128 => 73 | n => n, fun | 51 => 100 | 3 => 3 | 4 => 4 | 46 => 63 | 5 => 5 | 9 => 9 | n => n, fun | n => n⟩
theorem Try.lays128 : Go.Proofs.Lays.n128 Try.prog Try.lays128_ren := {
  mixed := by kernel_rfl
  f128 := Try.func73.trans (congrArg some (by kernel_rfl))
  t3 := Try.underlying3
  a3 := Try.isAgg3
  z3 := Try.sizeOf3
  v3 := Try.zeroValue3
  t4 := Try.underlying4
  a4 := Try.isAgg4
  z4 := Try.sizeOf4
  v4 := Try.zeroValue4
  t5 := Try.underlying5
  a5 := Try.isAgg5
  z5 := Try.sizeOf5
  v5 := Try.zeroValue5
  t9 := Try.underlying9
  a9 := Try.isAgg9
  z9 := Try.sizeOf9
  v9 := Try.zeroValue9
  t46 := Try.underlying63
  a46 := Try.isAgg63
  z46 := Try.sizeOf63
  v46 := Try.zeroValue63
  t51 := Try.underlying100
  a51 := Try.isAgg100
  z51 := Try.sizeOf100
  v51 := Try.zeroValue100 }
/-- bits.Len32: "Len32 returns the minimum number of bits required to represent x; the result is 0 for x == 0.": IT RETURNS 'Lib.bitLen x'; the world is as it was. ('h0', 'h1': x is a uint32.) (LAID: no walk: one application.) -/
theorem Try.bits_Len32 (x : Int) (w : World) (h0 : 0 ≤ x) (h1 : x ≤ 4294967295) :
    Calls Try.prog 73 #[.int .u32 x] w fun e w' => e = .returned (.int .i64 (Lib.bitLen x.toNat)) ∧ w' = w := Any.bits_Len32 Try.lays128 x w h0 h1
def Try.lays125_ren : Go.Shelf.Ren := ⟨fun | 125 => 56 | 128 => 73 | 129 => 74 | n => n, fun | 46 => 63 | 3 => 3 | 51 => 100 | 53 => 42 | 4 => 4 | 5 => 5 | 9 => 9 | n => n, fun | n => n⟩
theorem Try.lays125 : Go.Proofs.Lays.n125 Try.prog Try.lays125_ren := {
  mixed := by kernel_rfl
  f125 := Try.func56.trans (congrArg some (by kernel_rfl))
  f128 := Try.func73.trans (congrArg some (by kernel_rfl))
  f129 := Try.func74.trans (congrArg some (by kernel_rfl))
  t3 := Try.underlying3
  a3 := Try.isAgg3
  z3 := Try.sizeOf3
  v3 := Try.zeroValue3
  t4 := Try.underlying4
  a4 := Try.isAgg4
  z4 := Try.sizeOf4
  v4 := Try.zeroValue4
  t5 := Try.underlying5
  a5 := Try.isAgg5
  z5 := Try.sizeOf5
  v5 := Try.zeroValue5
  t9 := Try.underlying9
  a9 := Try.isAgg9
  z9 := Try.sizeOf9
  v9 := Try.zeroValue9
  t46 := Try.underlying63
  a46 := Try.isAgg63
  z46 := Try.sizeOf63
  v46 := Try.zeroValue63
  t51 := Try.underlying100
  a51 := Try.isAgg100
  z51 := Try.sizeOf100
  v51 := Try.zeroValue100
  t53 := Try.underlying42
  a53 := Try.isAgg42
  z53 := Try.sizeOf42
  v53 := Try.zeroValue42 }
/-- bits.Len: "Len returns the minimum number of bits required to represent x; the result is 0 for x == 0.": IT RETURNS 'Lib.bitLen x'; the world is as it was. (A uint has 64 bits in the model.) ITS CALLEE bits.Len64 IS MET BY ITS OWN CONTRACT OFF THE SHELF (lay that first). (LAID: no walk: one application.) -/
theorem Try.bits_Len (x : Int) (w : World) (h0 : 0 ≤ x) (h1 : x ≤ 18446744073709551615) :
    Calls Try.prog 56 #[.int .u64 x] w fun e w' => e = .returned (.int .i64 (Lib.bitLen x.toNat)) ∧ w' = w := Any.bits_Len Try.lays125 x w h0 h1
def Try.lays215_ren : Go.Shelf.Ren := ⟨fun | 215 => 82 | n => n, fun | 3 => 3 | 4 => 4 | n => n, fun | n => n⟩
theorem Try.lays215 : Go.Proofs.Lays.n215 Try.prog Try.lays215_ren := {
  mixed := by kernel_rfl
  f215 := Try.func82.trans (congrArg some (by kernel_rfl))
  t3 := Try.underlying3
  a3 := Try.isAgg3
  z3 := Try.sizeOf3
  v3 := Try.zeroValue3
  t4 := Try.underlying4
  a4 := Try.isAgg4
  z4 := Try.sizeOf4
  v4 := Try.zeroValue4 }
open Go.RowKit in
/-- cmp.isNaN at int: 'x != x': false. (LAID: no walk: one application.) -/
theorem Try.cmp_isNaN_int (x : Int) (w : World) :
    Calls Try.prog 82 #[.int .i64 x] w fun e w' => e = .returned (.bool false) ∧ w' = w := Any.cmp_isNaN_int Try.lays215 x w
def Try.lays129_ren : Go.Shelf.Ren := ⟨fun | 129 => 74 | n => n, fun | 53 => 42 | 3 => 3 | 4 => 4 | 46 => 63 | 5 => 5 | 9 => 9 | n => n, fun | n => n⟩
theorem Try.lays129 : Go.Proofs.Lays.n129 Try.prog Try.lays129_ren := {
  mixed := by kernel_rfl
  f129 := Try.func74.trans (congrArg some (by kernel_rfl))
  t3 := Try.underlying3
  a3 := Try.isAgg3
  z3 := Try.sizeOf3
  v3 := Try.zeroValue3
  t4 := Try.underlying4
  a4 := Try.isAgg4
  z4 := Try.sizeOf4
  v4 := Try.zeroValue4
  t5 := Try.underlying5
  a5 := Try.isAgg5
  z5 := Try.sizeOf5
  v5 := Try.zeroValue5
  t9 := Try.underlying9
  a9 := Try.isAgg9
  z9 := Try.sizeOf9
  v9 := Try.zeroValue9
  t46 := Try.underlying63
  a46 := Try.isAgg63
  z46 := Try.sizeOf63
  v46 := Try.zeroValue63
  t53 := Try.underlying42
  a53 := Try.isAgg42
  z53 := Try.sizeOf42
  v53 := Try.zeroValue42 }
/-- bits.Len64: "Len64 returns the minimum number of bits required to represent x; the result is 0 for x == 0.": IT RETURNS 'Lib.bitLen x'; the world is as it was. ('h0', 'h1': x is a uint64.) (LAID: no walk: one application.) -/
theorem Try.bits_Len64 (x : Int) (w : World) (h0 : 0 ≤ x) (h1 : x ≤ 18446744073709551615) :
    Calls Try.prog 74 #[.int .u64 x] w fun e w' => e = .returned (.int .i64 (Lib.bitLen x.toNat)) ∧ w' = w := Any.bits_Len64 Try.lays129 x w h0 h1
def Try.lays189_ren : Go.Shelf.Ren := ⟨fun | 189 => 39 | 125 => 56 | 257 => 55 | 128 => 73 | 129 => 74 | 294 => 64 | 295 => 65 | 296 => 66 | 297 => 67 | 298 => 68 | 299 => 69 | 216 => 70 | 300 => 71 | 301 => 72 | 328 => 77 | 329 => 78 | 330 => 79 | 331 => 80 | 332 => 81 | 215 => 82 | 343 => 83 | n => n, fun | 28 => 22 | 3 => 3 | 46 => 63 | 0 => 0 | 51 => 100 | 53 => 42 | 4 => 4 | 183 => 92 | 182 => 91 | 131 => 97 | 5 => 5 | 9 => 9 | 218 => 102 | 222 => 106 | 228 => 108 | 229 => 109 | n => n, fun | n => n⟩
theorem Try.lays189 : Go.Proofs.Lays.n189 Try.prog Try.lays189_ren := {
  mixed := by kernel_rfl
  f125 := Try.func56.trans (congrArg some (by kernel_rfl))
  f128 := Try.func73.trans (congrArg some (by kernel_rfl))
  f129 := Try.func74.trans (congrArg some (by kernel_rfl))
  f189 := Try.func39.trans (congrArg some (by kernel_rfl))
  f215 := Try.func82.trans (congrArg some (by kernel_rfl))
  f216 := Try.func70.trans (congrArg some (by kernel_rfl))
  f257 := Try.func55.trans (congrArg some (by kernel_rfl))
  f294 := Try.func64.trans (congrArg some (by kernel_rfl))
  f295 := Try.func65.trans (congrArg some (by kernel_rfl))
  f296 := Try.func66.trans (congrArg some (by kernel_rfl))
  f297 := Try.func67.trans (congrArg some (by kernel_rfl))
  f298 := Try.func68.trans (congrArg some (by kernel_rfl))
  f299 := Try.func69.trans (congrArg some (by kernel_rfl))
  f300 := Try.func71.trans (congrArg some (by kernel_rfl))
  f301 := Try.func72.trans (congrArg some (by kernel_rfl))
  f328 := Try.func77.trans (congrArg some (by kernel_rfl))
  f329 := Try.func78.trans (congrArg some (by kernel_rfl))
  f330 := Try.func79.trans (congrArg some (by kernel_rfl))
  f331 := Try.func80.trans (congrArg some (by kernel_rfl))
  f332 := Try.func81.trans (congrArg some (by kernel_rfl))
  f343 := Try.func83.trans (congrArg some (by kernel_rfl))
  t0 := Try.underlying0
  a0 := Try.isAgg0
  z0 := Try.sizeOf0
  v0 := Try.zeroValue0
  t3 := Try.underlying3
  a3 := Try.isAgg3
  z3 := Try.sizeOf3
  v3 := Try.zeroValue3
  t4 := Try.underlying4
  a4 := Try.isAgg4
  z4 := Try.sizeOf4
  v4 := Try.zeroValue4
  t5 := Try.underlying5
  a5 := Try.isAgg5
  z5 := Try.sizeOf5
  v5 := Try.zeroValue5
  t9 := Try.underlying9
  a9 := Try.isAgg9
  z9 := Try.sizeOf9
  v9 := Try.zeroValue9
  t28 := Try.underlying22
  a28 := Try.isAgg22
  z28 := Try.sizeOf22
  v28 := Try.zeroValue22
  t46 := Try.underlying63
  a46 := Try.isAgg63
  z46 := Try.sizeOf63
  v46 := Try.zeroValue63
  t51 := Try.underlying100
  a51 := Try.isAgg100
  z51 := Try.sizeOf100
  v51 := Try.zeroValue100
  t53 := Try.underlying42
  a53 := Try.isAgg42
  z53 := Try.sizeOf42
  v53 := Try.zeroValue42
  t131 := Try.underlying97
  a131 := Try.isAgg97
  z131 := Try.sizeOf97
  v131 := Try.zeroValue97
  t182 := Try.underlying91
  a182 := Try.isAgg91
  z182 := Try.sizeOf91
  v182 := Try.zeroValue91
  t183 := Try.underlying92
  a183 := Try.isAgg92
  z183 := Try.sizeOf92
  v183 := Try.zeroValue92
  t218 := Try.underlying102
  a218 := Try.isAgg102
  z218 := Try.sizeOf102
  v218 := Try.zeroValue102
  t222 := Try.underlying106
  a222 := Try.isAgg106
  z222 := Try.sizeOf106
  v222 := Try.zeroValue106
  t228 := Try.underlying108
  a228 := Try.isAgg108
  z228 := Try.sizeOf108
  v228 := Try.zeroValue108
  t229 := Try.underlying109
  a229 := Try.isAgg109
  z229 := Try.sizeOf109
  v229 := Try.zeroValue109 }
open Go.Sort Go.RowKit in
theorem Try.slices_Sort_int (blk off cap : Nat) (zs : List Int) (w : World) (hH : Holds (Value.int .i64) w blk off zs.toArray) (hblk : blk < w.heap.size) (hsz : zs.length < 4611686018427387904) :
    Calls Try.prog 39 #[.slice (some ⟨blk, off, none⟩) zs.length cap] w fun e w' =>
      e = .returned (.tuple #[]) ∧ ∃ n os, w' = grow (putRow (Value.int .i64) (Sort.ahead w n) blk off (zs.mergeSort fun x y => decide (x ≤ y)).toArray) os := Any.slices_Sort_int Try.lays189 blk off cap zs w hH hblk hsz
def Try.lays108_ren : Go.Shelf.Ren := ⟨fun | 108 => 44 | n => n, fun | 28 => 22 | 3 => 3 | 0 => 0 | 4 => 4 | n => n, fun | n => n⟩
theorem Try.lays108 : Go.Proofs.Lays.n108 Try.prog Try.lays108_ren := {
  mixed := by kernel_rfl
  f108 := Try.func44.trans (congrArg some (by kernel_rfl))
  t0 := Try.underlying0
  a0 := Try.isAgg0
  z0 := Try.sizeOf0
  v0 := Try.zeroValue0
  t3 := Try.underlying3
  a3 := Try.isAgg3
  z3 := Try.sizeOf3
  v3 := Try.zeroValue3
  t4 := Try.underlying4
  a4 := Try.isAgg4
  z4 := Try.sizeOf4
  v4 := Try.zeroValue4
  t28 := Try.underlying22
  a28 := Try.isAgg22
  z28 := Try.sizeOf22
  v28 := Try.zeroValue22 }
open Go.Lib in
/-- slices.Index at []int: "Index returns the index of the first occurrence of v in s, or -1 if not present.": IT RETURNS 'Lib.idxOf (the elements) v'; the world is as it was. 'zs': what the cells behind the slice's address hold (its spare capacity too, if you have it); 'zs.take n': its elements. (LAID: no walk: one application.) -/
theorem Try.slices_Index_int (b off n c : Nat) (zs : List Int) (x : Int) (w : World) (hz : n ≤ zs.length) (hbig : n ≤ 9223372036854775807) (hc : ∀ j, j < zs.length → w.cell? ⟨b, off + j, none⟩ = some (.int .i64 (zs.getD j 0))) :
    Calls Try.prog 44 #[.slice (some ⟨b, off, none⟩) n c, .int .i64 x] w fun e w' => e = .returned (.int .i64 (Lib.idxOf (zs.take n) x)) ∧ w' = w := Any.slices_Index_int Try.lays108 b off n c zs x w hz hbig hc
open Go.Lib in
/-- The same at a slice of length 0, a nil one too: no cell is known, none is asked for. (LAID: no walk: one application.) -/
theorem Try.slices_Index_int_empty (a : Option Addr) (c : Nat) (x : Int) (w : World) :
    Calls Try.prog 44 #[.slice a 0 c, .int .i64 x] w fun e w' => e = .returned (.int .i64 (Lib.idxOf [] x)) ∧ w' = w := Any.slices_Index_int_empty Try.lays108 a c x w
def Try.lays114_ren : Go.Shelf.Ren := ⟨fun | 114 => 20 | n => n, fun | 28 => 22 | 3 => 3 | 4 => 4 | 9 => 9 | 20 => 20 | 0 => 0 | n => n, fun | n => n⟩
theorem Try.lays114 : Go.Proofs.Lays.n114 Try.prog Try.lays114_ren := {
  mixed := by kernel_rfl
  f114 := Try.func20.trans (congrArg some (by kernel_rfl))
  t0 := Try.underlying0
  a0 := Try.isAgg0
  z0 := Try.sizeOf0
  v0 := Try.zeroValue0
  t3 := Try.underlying3
  a3 := Try.isAgg3
  z3 := Try.sizeOf3
  v3 := Try.zeroValue3
  t4 := Try.underlying4
  a4 := Try.isAgg4
  z4 := Try.sizeOf4
  v4 := Try.zeroValue4
  t9 := Try.underlying9
  a9 := Try.isAgg9
  z9 := Try.sizeOf9
  v9 := Try.zeroValue9
  t20 := Try.underlying20
  a20 := Try.isAgg20
  z20 := Try.sizeOf20
  v20 := Try.zeroValue20
  t28 := Try.underlying22
  a28 := Try.isAgg22
  z28 := Try.sizeOf22
  v28 := Try.zeroValue22 }
open Go.Lib in
/-- slices.Min at []int: "Min returns the minimal value in x. It panics if x is empty.": OF A SLICE THAT IS NOT EMPTY IT RETURNS 'Lib.minOf (the elements)'; the world is as it was. (Of an empty one it panics: no contract here.) (LAID: no walk: one application.) -/
theorem Try.slices_Min_int (b off n c : Nat) (zs : List Int) (w : World) (hn : 0 < n) (hz : n ≤ zs.length) (hbig : n ≤ 9223372036854775807) (hc : ∀ j, j < zs.length → w.cell? ⟨b, off + j, none⟩ = some (.int .i64 (zs.getD j 0))) :
    Calls Try.prog 20 #[.slice (some ⟨b, off, none⟩) n c] w fun e w' => e = .returned (.int .i64 (Lib.minOf (zs.take n))) ∧ w' = w := Any.slices_Min_int Try.lays114 b off n c zs w hn hz hbig hc
def Try.lays112_ren : Go.Shelf.Ren := ⟨fun | 112 => 26 | n => n, fun | 28 => 22 | 3 => 3 | 4 => 4 | 0 => 0 | n => n, fun | n => n⟩
theorem Try.lays112 : Go.Proofs.Lays.n112 Try.prog Try.lays112_ren := {
  mixed := by kernel_rfl
  f112 := Try.func26.trans (congrArg some (by kernel_rfl))
  t0 := Try.underlying0
  a0 := Try.isAgg0
  z0 := Try.sizeOf0
  v0 := Try.zeroValue0
  t3 := Try.underlying3
  a3 := Try.isAgg3
  z3 := Try.sizeOf3
  v3 := Try.zeroValue3
  t4 := Try.underlying4
  a4 := Try.isAgg4
  z4 := Try.sizeOf4
  v4 := Try.zeroValue4
  t28 := Try.underlying22
  a28 := Try.isAgg22
  z28 := Try.sizeOf22
  v28 := Try.zeroValue22 }
open Go.RowKit Go.Lib Go.Sort in
/-- slices.Reverse at []int, over an array: Go's loop from the two ends inward is walked; it makes 'Sort.reverseLoop 0 (len - 1)', which is 'Array.reverse' (Derived/Lib/SlicesMore.lean). (LAID: no walk: one application.) -/
theorem Try.slices_Reverse_int_arr (blk off cap : Nat) (d : Array Int) (w : World) (hH : Holds encI w blk off d) (hsz : d.size ≤ 9223372036854775807) :
    Calls Try.prog 26 #[.slice (some ⟨blk, off, none⟩) d.size cap] w fun e w' => e = .returned (.tuple #[]) ∧ ∃ n, w' = putRow encI (Sort.ahead w n) blk off d.reverse := Any.slices_Reverse_int_arr Try.lays112 blk off cap d w hH hsz
open Go.RowKit Go.Lib Go.Sort in
/-- slices.Reverse at []int: "Reverse reverses the elements of the slice in place.": THE SLICE's CELLS HOLD 'zs.reverse' BEHIND THE CALL; all else is as it was, but for the count of draws (the exchange 's[i], s[j] = s[j], s[i]' draws its order, once a round). IN THE WORDS OF slices.Sort's CONTRACT: 'Holds': the cells hold zs and none is frozen; 'putRow': the world with those cells holding another array. A slice of length 0 that is not nil is among them ('zs = []'); nil: '.._nil'. (LAID: no walk: one application.) -/
theorem Try.slices_Reverse_int (blk off cap : Nat) (zs : List Int) (w : World) (hH : Holds (Value.int .i64) w blk off zs.toArray) (hsz : zs.length ≤ 9223372036854775807) :
    Calls Try.prog 26 #[.slice (some ⟨blk, off, none⟩) zs.length cap] w fun e w' => e = .returned (.tuple #[]) ∧ ∃ n, w' = putRow (Value.int .i64) (Sort.ahead w n) blk off zs.reverse.toArray := Any.slices_Reverse_int Try.lays112 blk off cap zs w hH hsz
open Go.RowKit Go.Lib Go.Sort in
/-- The same at a slice of length 0, a nil one too: nothing is read, nothing written, nothing drawn. (LAID: no walk: one application.) -/
theorem Try.slices_Reverse_int_empty (a : Option Addr) (cap : Nat) (w : World) :
    Calls Try.prog 26 #[.slice a 0 cap] w fun e w' => e = .returned (.tuple #[]) ∧ w' = w := Any.slices_Reverse_int_empty Try.lays112 a cap w
def Try.lays111_ren : Go.Shelf.Ren := ⟨fun | 111 => 21 | n => n, fun | 28 => 22 | 3 => 3 | 4 => 4 | 0 => 0 | n => n, fun | n => n⟩
theorem Try.lays111 : Go.Proofs.Lays.n111 Try.prog Try.lays111_ren := {
  mixed := by kernel_rfl
  f111 := Try.func21.trans (congrArg some (by kernel_rfl))
  t0 := Try.underlying0
  a0 := Try.isAgg0
  z0 := Try.sizeOf0
  v0 := Try.zeroValue0
  t3 := Try.underlying3
  a3 := Try.isAgg3
  z3 := Try.sizeOf3
  v3 := Try.zeroValue3
  t4 := Try.underlying4
  a4 := Try.isAgg4
  z4 := Try.sizeOf4
  v4 := Try.zeroValue4
  t28 := Try.underlying22
  a28 := Try.isAgg22
  z28 := Try.sizeOf22
  v28 := Try.zeroValue22 }
open Go.RowKit Go.Lib in
/-- slices.Equal at []int: "Equal reports whether two slices are equal: the same length and all elements equal. If the lengths are different, Equal returns false. Otherwise, the elements are compared in increasing index order, and the comparison stops at the first unequal pair. Empty and nil slices are considered equal.": IT RETURNS WHETHER THE TWO LISTS OF ELEMENTS ARE ONE; the world is as it was but for the count of draws (the test 's1[i] != s2[i]' has two reads, whose order the model draws, once a round). 'xs', 'ys': what the cells behind the two addresses hold (the spare capacity too, if you have it); 'xs.take n', 'ys.take m': the elements. THE TWO SLICES MAY OVERLAP. (LAID: no walk: one application.) -/
theorem Try.slices_Equal_int (b1 o1 n c b2 o2 m d : Nat) (xs ys : List Int) (w : World) (hx : n ≤ xs.length) (hy : m ≤ ys.length) (hbig : n ≤ 9223372036854775807) (hbig2 : m ≤ 9223372036854775807) (hc1 : ∀ j, j < xs.length → w.cell? ⟨b1, o1 + j, none⟩ = some (.int .i64 (xs.getD j 0))) (hc2 : ∀ j, j < ys.length → w.cell? ⟨b2, o2 + j, none⟩ = some (.int .i64 (ys.getD j 0))) :
    Calls Try.prog 21 #[.slice (some ⟨b1, o1, none⟩) n c, .slice (some ⟨b2, o2, none⟩) m d] w fun e w' => e = .returned (.bool (xs.take n == ys.take m)) ∧ ∃ q, w' = w.drewN q := Any.slices_Equal_int Try.lays111 b1 o1 n c b2 o2 m d xs ys w hx hy hbig hbig2 hc1 hc2
open Go.RowKit Go.Lib in
/-- The same where the first is of length 0 (a nil one too): no cell is asked for. (LAID: no walk: one application.) -/
theorem Try.slices_Equal_int_empty (a1 a2 : Option Addr) (c m d : Nat) (w : World) (hbig2 : m ≤ 9223372036854775807) :
    Calls Try.prog 21 #[.slice a1 0 c, .slice a2 m d] w fun e w' => e = .returned (.bool (decide (m = 0))) ∧ w' = w := Any.slices_Equal_int_empty Try.lays111 a1 a2 c m d w hbig2
def Try.laysNm215_ren : Go.Shelf.Ren := ⟨fun | 15 => 25 | n => n, fun | 22 => 22 | 3 => 3 | 4 => 4 | n => n, fun | n => n⟩
theorem Try.laysNm215 : Go.Proofs.Lays2.n15 Try.prog Try.laysNm215_ren := {
  mixed := by kernel_rfl
  f15 := Try.func25.trans (congrArg some (by kernel_rfl))
  t3 := Try.underlying3
  a3 := Try.isAgg3
  z3 := Try.sizeOf3
  v3 := Try.zeroValue3
  t4 := Try.underlying4
  a4 := Try.isAgg4
  z4 := Try.sizeOf4
  v4 := Try.zeroValue4
  t22 := Try.underlying22
  a22 := Try.isAgg22
  z22 := Try.sizeOf22
  v22 := Try.zeroValue22
  i3 := by kernel_rfl }
open Go.RowKit Go.Lib in
/-- slices.Clone at []int: "Clone returns a copy of the slice. The elements are copied using assignment, so this is a shallow clone. The result may have additional unused capacity. The result preserves the nilness of s.": OF A SLICE THAT IS NOT nil IT RETURNS A SLICE THAT IS NOT nil, OF THE SAME ELEMENTS, IN MEMORY OF THE CALL's OWN: in the how-to's words (6f): 'w'.ownsRow B e 1 v' n cells': v' begins at the head of a row among the blocks from B on (B: the heap's size at the call), not frozen, whose first cells are the elements · 'Below B w w'': below B all is as it was. The capacity is whatever the run-time gives. 'zs': what the cells behind the slice's address hold; 'zs.take n': its elements. (LAID: no walk: one application.) -/
theorem Try.slices_Clone_int (b off n c : Nat) (zs : List Int) (w : World) (hz : n ≤ zs.length) (hbig : n * 8 ≤ 140737488355328) (hc : ∀ j, j < zs.length → w.cell? ⟨b, off + j, none⟩ = some (.int .i64 (zs.getD j 0))) :
    Calls Try.prog 25 #[.slice (some ⟨b, off, none⟩) n c] w fun e w' => ∃ v', e = .returned v' ∧ w'.ownsRow w.heap.size 3 1 v' n ((zs.take n).map (Value.int .i64)) ∧ v' ≠ .slice none 0 0 ∧ Below w.heap.size w w' := Any.slices_Clone_int Try.laysNm215 b off n c zs w hz hbig hc
open Go.RowKit Go.Lib in
/-- The same at nil: nil comes back; the world is as it was. (LAID: no walk: one application.) -/
theorem Try.slices_Clone_int_nil (n c : Nat) (w : World) :
    Calls Try.prog 25 #[.slice none n c] w fun e w' => e = .returned (.slice none 0 0) ∧ w' = w := Any.slices_Clone_int_nil Try.laysNm215 n c w
open Go.RowKit Go.Lib in
/-- The same at a slice of length 0 that is not nil, WHATEVER ITS ADDRESS (no cell is asked for): a slice that is not nil and owns nothing comes back. (LAID: no walk: one application.) -/
theorem Try.slices_Clone_int_zero (a : Addr) (c : Nat) (w : World) :
    Calls Try.prog 25 #[.slice (some a) 0 c] w fun e w' => ∃ v', e = .returned v' ∧ w'.ownsRow w.heap.size 3 1 v' 0 [] ∧ v' ≠ .slice none 0 0 ∧ Below w.heap.size w w' := Any.slices_Clone_int_zero Try.laysNm215 a c w
def Try.laysNm237_ren : Go.Shelf.Ren := ⟨fun | 37 => 82 | n => n, fun | 3 => 3 | 4 => 4 | n => n, fun | n => n⟩
theorem Try.laysNm237 : Go.Proofs.Lays2.n37 Try.prog Try.laysNm237_ren := {
  mixed := by kernel_rfl
  f37 := Try.func82.trans (congrArg some (by kernel_rfl))
  t3 := Try.underlying3
  a3 := Try.isAgg3
  z3 := Try.sizeOf3
  v3 := Try.zeroValue3
  t4 := Try.underlying4
  a4 := Try.isAgg4
  z4 := Try.sizeOf4
  v4 := Try.zeroValue4 }
open Go.RowKit Go.Lib in
/-- cmp.isNaN[int]: 'x != x': false. (LAID: no walk: one application.) -/
theorem Try.cmp_isNaN_int2 (x : Int) (w : World) :
    Calls Try.prog 82 #[.int .i64 x] w fun e w' => e = .returned (.bool false) ∧ w' = w := Any.cmp_isNaN_int2 Try.laysNm237 x w
def Try.laysNm231_ren : Go.Shelf.Ren := ⟨fun | 31 => 70 | 37 => 82 | n => n, fun | 3 => 3 | 4 => 4 | n => n, fun | n => n⟩
theorem Try.laysNm231 : Go.Proofs.Lays2.n31 Try.prog Try.laysNm231_ren := {
  mixed := by kernel_rfl
  f31 := Try.func70.trans (congrArg some (by kernel_rfl))
  f37 := Try.func82.trans (congrArg some (by kernel_rfl))
  t3 := Try.underlying3
  a3 := Try.isAgg3
  z3 := Try.sizeOf3
  v3 := Try.zeroValue3
  t4 := Try.underlying4
  a4 := Try.isAgg4
  z4 := Try.sizeOf4
  v4 := Try.zeroValue4 }
open Go.RowKit Go.Lib in
/-- cmp.Less[int]: "Less reports whether x is less than y.": 'x < y'; the world is as it was. (LAID: no walk: one application.) -/
theorem Try.cmp_Less_int2 (x y : Int) (w : World) :
    Calls Try.prog 70 #[.int .i64 x, .int .i64 y] w fun e w' => e = .returned (.bool (decide (x < y))) ∧ w' = w := Any.cmp_Less_int2 Try.laysNm231 x y w
def Try.laysNm223_ren : Go.Shelf.Ren := ⟨fun | 23 => 45 | n => n, fun | 22 => 22 | 3 => 3 | 4 => 4 | 0 => 0 | n => n, fun | n => n⟩
theorem Try.laysNm223 : Go.Proofs.Lays2.n23 Try.prog Try.laysNm223_ren := {
  mixed := by kernel_rfl
  f23 := Try.func45.trans (congrArg some (by kernel_rfl))
  t0 := Try.underlying0
  a0 := Try.isAgg0
  z0 := Try.sizeOf0
  v0 := Try.zeroValue0
  t3 := Try.underlying3
  a3 := Try.isAgg3
  z3 := Try.sizeOf3
  v3 := Try.zeroValue3
  t4 := Try.underlying4
  a4 := Try.isAgg4
  z4 := Try.sizeOf4
  v4 := Try.zeroValue4
  t22 := Try.underlying22
  a22 := Try.isAgg22
  z22 := Try.sizeOf22
  v22 := Try.zeroValue22
  i3 := by kernel_rfl }
open Go.RowKit Go.Lib Go.Sort in
/-- slices.Delete at []int, over an array. (LAID: no walk: one application.) -/
theorem Try.slices_Delete_int_arr (blk off cap i j : Nat) (d : Array Int) (w : World) (hH : Holds encI w blk off d) (hcap : d.size ≤ cap) (hm : cap ≤ 9223372036854775807) (hij : i ≤ j) (hj : j ≤ d.size) :
    Calls Try.prog 45 #[.slice (some ⟨blk, off, none⟩) d.size cap, .int .i64 i, .int .i64 j] w fun e w' => e = .returned (.slice (some ⟨blk, off, none⟩) (d.size - (j - i)) cap) ∧ ∃ q, w' = putRow encI (Sort.ahead w q) blk off (d.toList.take i ++ d.toList.drop j ++ List.replicate (j - i) 0).toArray := Any.slices_Delete_int_arr Try.laysNm223 blk off cap i j d w hH hcap hm hij hj
open Go.RowKit Go.Lib Go.Sort in
/-- slices.Delete at []int: "Delete modifies s in place by removing the elements s[i:j], and returns the modified slice. Delete panics if j > len(s) or s[i:j] is not a valid slice of s. Delete is O(len(s)-i), so if many items must be deleted, it is better to make a single call deleting them all together than to delete one at a time. Delete zeroes the elements s[len(s)-(j-i):len(s)]. If the result is empty, it has the same nilness as s.": FOR i ≤ j ≤ len(s) IT RETURNS THE SLICE CUT TO len(s) - (j - i) ELEMENTS; ITS CELLS HOLD what stood ahead of i, what stood from j on, then j - i zero values; all else is as it was, but for the count of draws. IN THE WORDS OF slices.Sort's CONTRACT ('Holds', 'putRow'). It asks 'zs.length ≤ cap ≤ 2^63 - 1' (every slice's). (Outside i ≤ j ≤ len(s) it panics: no contract here.) (LAID: no walk: one application.) -/
theorem Try.slices_Delete_int (blk off cap i j : Nat) (zs : List Int) (w : World) (hH : Holds (Value.int .i64) w blk off zs.toArray) (hcap : zs.length ≤ cap) (hm : cap ≤ 9223372036854775807) (hij : i ≤ j) (hj : j ≤ zs.length) :
    Calls Try.prog 45 #[.slice (some ⟨blk, off, none⟩) zs.length cap, .int .i64 i, .int .i64 j] w fun e w' => e = .returned (.slice (some ⟨blk, off, none⟩) (zs.length - (j - i)) cap) ∧ ∃ q, w' = putRow (Value.int .i64) (Sort.ahead w q) blk off (zs.take i ++ zs.drop j ++ List.replicate (j - i) 0).toArray := Any.slices_Delete_int Try.laysNm223 blk off cap i j zs w hH hcap hm hij hj
open Go.RowKit Go.Lib Go.Sort in
/-- slices.Reverse at []int, of an argument: the n cells hold the elements in reverse. (LAID: no walk: one application.) -/
theorem Try.slices_Reverse_int_cells (b off n c : Nat) (zs : List Int) (w : World) (hz : n ≤ zs.length) (hbig : n ≤ 9223372036854775807) (hc : ∀ j, j < zs.length → w.cell? ⟨b, off + j, none⟩ = some (.int .i64 (zs.getD j 0))) (hf : ∀ j, j < n → w.frozen? ⟨b, off + j, none⟩ = false) :
    Calls Try.prog 26 #[.slice (some ⟨b, off, none⟩) n c] w fun e w' => e = .returned (.tuple #[]) ∧ ∃ q, w' = (w.drewN q).setCells b off ((zs.take n).reverse.map (Value.int .i64)) := Any.slices_Reverse_int_cells Try.lays112 b off n c zs w hz hbig hc hf
open Go.RowKit Go.Lib Go.Sort in
/-- slices.Delete at []int, of an argument, for i ≤ j ≤ n: the slice cut to n - (j - i) elements; the n cells hold what stood ahead of i, what stood from j on, then zeros. (LAID: no walk: one application.) -/
theorem Try.slices_Delete_int_cells (b off n c i j : Nat) (zs : List Int) (w : World) (hz : n ≤ zs.length) (hcap : n ≤ c) (hm : c ≤ 9223372036854775807) (hij : i ≤ j) (hj : j ≤ n) (hc : ∀ j, j < zs.length → w.cell? ⟨b, off + j, none⟩ = some (.int .i64 (zs.getD j 0))) (hf : ∀ j, j < n → w.frozen? ⟨b, off + j, none⟩ = false) :
    Calls Try.prog 45 #[.slice (some ⟨b, off, none⟩) n c, .int .i64 i, .int .i64 j] w fun e w' => e = .returned (.slice (some ⟨b, off, none⟩) (n - (j - i)) c) ∧ ∃ q, w' = (w.drewN q).setCells b off (((zs.take n).take i ++ (zs.take n).drop j ++ List.replicate (j - i) 0).map (Value.int .i64)) := Any.slices_Delete_int_cells Try.laysNm223 b off n c i j zs w hz hcap hm hij hj hc hf
open Go.RowKit Go.Sort in
/-- .. and plain. (LAID: no walk: one application.) -/
theorem Try.slices_Sort_int_none (p : Option Addr) (cap : Nat) (w : World) :
    Calls Try.prog 39 #[.slice p 0 cap] w fun e w' => e = .returned (.tuple #[]) ∧ w' = w := Any.slices_Sort_int_none Try.lays189 p cap w
open Go.RowKit Go.Lib in
/-- slices.Delete at []int of no element ('Delete(s, 0, 0)'): s comes back; the world is as it was. (LAID: no walk: one application.) -/
theorem Try.slices_Delete_int_empty (a : Option Addr) (c : Nat) (w : World) :
    Calls Try.prog 45 #[.slice a 0 c, .int .i64 0, .int .i64 0] w fun e w' => e = .returned (.slice a 0 c) ∧ w' = w := Any.slices_Delete_int_empty Try.laysNm223 a c w
open Go.RowKit Go.Lib in
theorem Try.slices_Equal_int_lens (a1 a2 : Option Addr) (n c m d : Nat) (w : World) (hnm : n ≠ m) :
    Calls Try.prog 21 #[.slice a1 n c, .slice a2 m d] w fun e w' => e = .returned (.bool false) ∧ w' = w := Any.slices_Equal_int_lens Try.lays111 a1 a2 n c m d w hnm
end Go.Proofs
end
