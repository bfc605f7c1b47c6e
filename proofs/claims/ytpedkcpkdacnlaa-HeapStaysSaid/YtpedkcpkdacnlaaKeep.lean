/- What a call may have changed: only the blocks that it names, and new ones. And blocks of cells as lists of values. No program is named here. -/
import Derived.Test.YtpedkcpkdacnlaaBase
namespace Go.Proofs.Ytpedkcpkdacnlaa
open Go.RowKit

/-- Of the blocks that were there only those of S may have turned. -/
structure Kept (S : Nat → Prop) (w w' : World) : Prop where
  os : w'.os = w.os
  tape : w'.tape = w.tape
  output : w'.output = w.output
  size : w.heap.size ≤ w'.heap.size
  block : ∀ k, k < w.heap.size → ¬ S k → w'.heap[k]? = w.heap[k]?

namespace Kept
variable {S S' : Nat → Prop} {a b c w w' : World}
theorem refl (S : Nat → Prop) (w : World) : Kept S w w := ⟨rfl, rfl, rfl, Nat.le_refl _, fun _ _ _ => rfl⟩
theorem trans (h : Kept S a b) (k : Kept S b c) : Kept S a c :=
  ⟨k.os.trans h.os, k.tape.trans h.tape, k.output.trans h.output, Nat.le_trans h.size k.size, fun i hi hs => (k.block i (Nat.lt_of_lt_of_le hi h.size) hs).trans (h.block i hi hs)⟩
theorem mono (h : Kept S a b) (hs : ∀ k, S k → S' k) : Kept S' a b := ⟨h.os, h.tape, h.output, h.size, fun k hk hn => h.block k hk (fun x => hn (hs k x))⟩
theorem alloc (h : Kept S a b) (o : Obj) : Kept S a (b.alloc o) :=
  h.trans ⟨rfl, rfl, rfl, by simp, fun k hk _ => Below.heap_alloc _ _ _ hk⟩
theorem setCell (h : Kept S a b) {p : Addr} (hp : S p.block ∨ a.heap.size ≤ p.block) (v : Value) : Kept S a (b.setCell p v) :=
  ⟨h.os, h.tape, h.output, by simp [World.setCell]; exact h.size, fun k hk hn => by
    have : k ≠ p.block := by rintro rfl; rcases hp with hp | hp; exact hn hp; omega
    rw [Below.heap_setCell _ _ _ _ this]; exact h.block k hk hn⟩
theorem own {k : Nat} (h : Kept (· = k) a b) (o : Nat) (v : Value) : Kept (· = k) a (b.setCell ⟨k, o, none⟩ v) := h.setCell (.inl rfl) v
theorem drew (h : Kept S a b) : Kept S a b.drew := ⟨h.os, h.tape, h.output, h.size, h.block⟩
theorem of_below (h : Below a.heap.size a b) : Kept S a b := ⟨h.os, h.tape, h.output, h.size, fun k hk _ => h.block k hk⟩
theorem below (h : Kept S a b) {B : Nat} (hB : B ≤ a.heap.size) (hS : ∀ k, S k → B ≤ k) : Below B a b :=
  ⟨h.os, h.tape, h.output, h.size, fun k hk => h.block k (by omega) (fun x => by have := hS k x; omega)⟩
theorem cell (h : Kept S a b) {k o : Nat} (hk : k < a.heap.size) (hn : ¬ S k) : b.cell? ⟨k, o, none⟩ = a.cell? ⟨k, o, none⟩ :=
  World.cell?_of_block (w := a) (h.block k hk hn)
theorem frozen (h : Kept S a b) {k o : Nat} (hk : k < a.heap.size) (hn : ¬ S k) : b.frozen? ⟨k, o, none⟩ = a.frozen? ⟨k, o, none⟩ :=
  World.frozen?_of_block (w := a) (h.block k hk hn)
end Kept
/-- A law whose own blocks (from w's size on) were changed: nothing older has turned. -/
theorem bkept {w a b : World} {S : Nat → Prop} (h : Below w.heap.size w a) (k : Kept S a b) (hS : ∀ n, S n → w.heap.size ≤ n) : Below w.heap.size w b :=
  h.trans (k.below h.size hS)

/-- Block b is a row of cells, none of them frozen. -/
def Blk (w : World) (b : Nat) (C : List Value) (t : TypeId) : Prop := w.heap[b]? = some (.cells C.toArray t (0, 0))
namespace Blk
variable {w w' : World} {b : Nat} {C : List Value} {t : TypeId}
theorem lt (h : Blk w b C t) : b < w.heap.size := (Array.getElem?_eq_some_iff.1 h).1
theorem cell (h : Blk w b C t) (i : Nat) : w.cell? ⟨b, i, none⟩ = C[i]? := by unfold Blk at h; simp [World.cell?, h]
theorem frozen (h : Blk w b C t) (i : Nat) : w.frozen? ⟨b, i, none⟩ = false := by unfold Blk at h; simp [World.frozen?, h]
theorem kept {S : Nat → Prop} (h : Blk w b C t) (k : Kept S w w') (hn : ¬ S b) : Blk w' b C t := (k.block b h.lt hn).trans h
theorem below (h : Blk w b C t) (k : Below w.heap.size w w') : Blk w' b C t := (k.block b h.lt).trans h
theorem belowB {B : Nat} (h : Blk w b C t) (k : Below B w w') (hb : b < B) : Blk w' b C t := (k.block b hb).trans h
theorem alloc (h : Blk w b C t) (o : Obj) : Blk (w.alloc o) b C t := (Below.heap_alloc _ _ _ h.lt).trans h
theorem other (h : Blk w b C t) {p : Addr} (v : Value) (hp : b ≠ p.block) : Blk (w.setCell p v) b C t := (Below.heap_setCell _ _ _ _ hp).trans h
theorem set (h : Blk w b C t) (i : Nat) (v : Value) : Blk (w.setCell ⟨b, i, none⟩ v) b (C.set i v) t := by
  unfold Blk at h ⊢
  simp [World.setCell, Array.getElem?_modify, h]
theorem new (w : World) (C : List Value) (t : TypeId) : Blk (w.alloc (.cells C.toArray t)) w.heap.size C t := by
  show (w.heap.push _)[w.heap.size]? = _
  simp
/-- A world in which two cells of a pair block are written. -/
theorem pair {x y u v : Value} (h : Blk w b [x, y] t) : Blk ((w.setCell ⟨b, 0, none⟩ u).setCell ⟨b, 1, none⟩ v) b [u, v] t := (h.set 0 u).set 1 v
end Blk
theorem cell_setCell_ne (w : World) {p : Addr} {b o : Nat} (h : b ≠ p.block) (v : Value) : (w.setCell p v).cell? ⟨b, o, none⟩ = w.cell? ⟨b, o, none⟩ :=
  World.cell?_of_block (w := w) (Below.heap_setCell _ _ _ _ h)
end Go.Proofs.Ytpedkcpkdacnlaa
