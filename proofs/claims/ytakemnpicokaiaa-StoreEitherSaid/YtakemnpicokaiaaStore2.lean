/- The contracts of the Store's methods that copy lines: Evict, Fence, Crash. -/
import Derived.Test.YtakemnpicokaiaaStore
namespace Go.Proofs.Ytakemnpicokaiaa
open Go.RowKit
set_option linter.unusedVariables false
theorem St.set_good {S : St} (h : S.ok) (i : Nat) (hi : i < 72) (x : Int) : S.cells.set (72 + i) (.int .u64 x) = ({ S with good := S.good.set i x } : St).cells := by
  obtain ⟨a, b, c⟩ := h
  unfold St.cells
  rw [List.set_append_right _ _ (by simp; omega), List.set_append_left _ _ (by simp; omega)]
  simp [a, List.map_set]
theorem StoreAt.good1 {w : World} {b : Nat} {S : St} (h : StoreAt w b S) (o i : Nat) (hi : i < 72) (ho : o = 72 + i) (x : Int) : StoreAt (w.setCell ⟨b, o, none⟩ (.int .u64 x)) b { S with good := S.good.set i x } := by
  subst ho
  refine ⟨⟨h.1.1, by simpa using h.1.2.1, h.1.2.2⟩, ?_⟩
  rw [← St.set_good h.1 i hi]
  exact h.2.set _ _
theorem StoreAt.drew {w : World} {b : Nat} {S : St} (h : StoreAt w b S) : StoreAt w.drew b S := h
theorem StoreAt.now1 {w : World} {b : Nat} {S : St} (h : StoreAt w b S) (i : Nat) (hi : i < 72) (x : Int) : StoreAt (w.setCell ⟨b, i, none⟩ (.int .u64 x)) b { S with now := S.now.set i x } := by
  refine ⟨⟨by simpa using h.1.1, h.1.2.1, h.1.2.2⟩, ?_⟩
  rw [← St.set_now h.1 i hi]
  exact h.2.set _ _
/-- Line l of s copied over that of d. -/
def cpLine (d s : List Int) (l : Nat) : List Int := (List.set (List.set (List.set (List.set (List.set (List.set (List.set (List.set d (l * 8) (s.getD (l * 8) 0)) (l * 8 + 1) (s.getD (l * 8 + 1) 0)) (l * 8 + 2) (s.getD (l * 8 + 2) 0)) (l * 8 + 3) (s.getD (l * 8 + 3) 0)) (l * 8 + 4) (s.getD (l * 8 + 4) 0)) (l * 8 + 5) (s.getD (l * 8 + 5) 0)) (l * 8 + 6) (s.getD (l * 8 + 6) 0)) (l * 8 + 7) (s.getD (l * 8 + 7) 0))
theorem cpLine_len (d s : List Int) (l : Nat) : (cpLine d s l).length = d.length := by unfold cpLine; simp
theorem StoreAt.good8 {w : World} {b : Nat} {S : St} (h : StoreAt w b S) (l : Nat) (hl : l < 9) (x0 x1 x2 x3 x4 x5 x6 x7 : Int) :
    StoreAt ((((((((w.setCell ⟨b, 72 + l * 8, none⟩ (.int .u64 x0)).setCell ⟨b, 72 + l * 8 + 1, none⟩ (.int .u64 x1)).setCell ⟨b, 72 + l * 8 + 2, none⟩ (.int .u64 x2)).setCell ⟨b, 72 + l * 8 + 3, none⟩ (.int .u64 x3)).setCell ⟨b, 72 + l * 8 + 4, none⟩ (.int .u64 x4)).setCell ⟨b, 72 + l * 8 + 5, none⟩ (.int .u64 x5)).setCell ⟨b, 72 + l * 8 + 6, none⟩ (.int .u64 x6)).setCell ⟨b, 72 + l * 8 + 7, none⟩ (.int .u64 x7)) b { S with good := (List.set (List.set (List.set (List.set (List.set (List.set (List.set (List.set S.good (l * 8) x0) (l * 8 + 1) x1) (l * 8 + 2) x2) (l * 8 + 3) x3) (l * 8 + 4) x4) (l * 8 + 5) x5) (l * 8 + 6) x6) (l * 8 + 7) x7) } :=
  (((((((h.good1 _ (l * 8) (by omega) (by omega) x0).good1 _ (l * 8 + 1) (by omega) (by omega) x1).good1 _ (l * 8 + 2) (by omega) (by omega) x2).good1 _ (l * 8 + 3) (by omega) (by omega) x3).good1 _ (l * 8 + 4) (by omega) (by omega) x4).good1 _ (l * 8 + 5) (by omega) (by omega) x5).good1 _ (l * 8 + 6) (by omega) (by omega) x6).good1 _ (l * 8 + 7) (by omega) (by omega) x7
theorem StoreAt.now8 {w : World} {b : Nat} {S : St} (h : StoreAt w b S) (l : Nat) (hl : l < 9) (x0 x1 x2 x3 x4 x5 x6 x7 : Int) :
    StoreAt ((((((((w.setCell ⟨b, l * 8, none⟩ (.int .u64 x0)).setCell ⟨b, l * 8 + 1, none⟩ (.int .u64 x1)).setCell ⟨b, l * 8 + 2, none⟩ (.int .u64 x2)).setCell ⟨b, l * 8 + 3, none⟩ (.int .u64 x3)).setCell ⟨b, l * 8 + 4, none⟩ (.int .u64 x4)).setCell ⟨b, l * 8 + 5, none⟩ (.int .u64 x5)).setCell ⟨b, l * 8 + 6, none⟩ (.int .u64 x6)).setCell ⟨b, l * 8 + 7, none⟩ (.int .u64 x7)) b { S with now := (List.set (List.set (List.set (List.set (List.set (List.set (List.set (List.set S.now (l * 8) x0) (l * 8 + 1) x1) (l * 8 + 2) x2) (l * 8 + 3) x3) (l * 8 + 4) x4) (l * 8 + 5) x5) (l * 8 + 6) x6) (l * 8 + 7) x7) } :=
  (((((((h.now1 (l * 8) (by omega) x0).now1 (l * 8 + 1) (by omega) x1).now1 (l * 8 + 2) (by omega) x2).now1 (l * 8 + 3) (by omega) x3).now1 (l * 8 + 4) (by omega) x4).now1 (l * 8 + 5) (by omega) x5).now1 (l * 8 + 6) (by omega) x6).now1 (l * 8 + 7) (by omega) x7
theorem kept8 (w : World) (b l : Nat) (base : Nat) (x0 x1 x2 x3 x4 x5 x6 x7 : Int) : Kept (· = b) w ((((((((w.setCell ⟨b, base, none⟩ (.int .u64 x0)).setCell ⟨b, base + 1, none⟩ (.int .u64 x1)).setCell ⟨b, base + 2, none⟩ (.int .u64 x2)).setCell ⟨b, base + 3, none⟩ (.int .u64 x3)).setCell ⟨b, base + 4, none⟩ (.int .u64 x4)).setCell ⟨b, base + 5, none⟩ (.int .u64 x5)).setCell ⟨b, base + 6, none⟩ (.int .u64 x6)).setCell ⟨b, base + 7, none⟩ (.int .u64 x7)) :=
  ((((((((Kept.refl _ w).own _ _).own _ _).own _ _).own _ _).own _ _).own _ _).own _ _).own _ _

set_option maxHeartbeats 1000000 in
theorem store_evict (w : World) (b : Nat) (S : St) (l : Int) (h : StoreAt w b S) (h2 : 0 ≤ l) (h3 : l < 9) :
    Calls Try.prog 32 #[.pointer (some ⟨b, 0, none⟩), .int .i64 l] w fun e w' => e = .returned .nilIface ∧
      StoreAt w' b { S with good := cpLine S.good S.now l.toNat } ∧ Kept (· = b) w w' := by
  obtain ⟨l, rfl⟩ := Int.eq_ofNat_of_zero_le h2
  rw [Int.toNat_natCast]
  have c0 : w.cell? ⟨b, l * 8, none⟩ = some (.int .u64 (S.now.getD (l * 8) 0)) := by rw [h.2.cell, St.at_now h.1 _ (by omega)]
  have d0 : w.cell? ⟨b, 72 + l * 8, none⟩ = some (.int .u64 (S.good.getD (l * 8) 0)) := by rw [h.2.cell, show 72 + l * 8 = 72 + (l * 8) from by omega, St.at_good h.1 _ (by omega)]
  have f0 := h.2.frozen (72 + l * 8)
  have c1 : w.cell? ⟨b, l * 8 + 1, none⟩ = some (.int .u64 (S.now.getD (l * 8 + 1) 0)) := by rw [h.2.cell, St.at_now h.1 _ (by omega)]
  have d1 : w.cell? ⟨b, 72 + l * 8 + 1, none⟩ = some (.int .u64 (S.good.getD (l * 8 + 1) 0)) := by rw [h.2.cell, show 72 + l * 8 + 1 = 72 + (l * 8 + 1) from by omega, St.at_good h.1 _ (by omega)]
  have f1 := h.2.frozen (72 + l * 8 + 1)
  have c2 : w.cell? ⟨b, l * 8 + 2, none⟩ = some (.int .u64 (S.now.getD (l * 8 + 2) 0)) := by rw [h.2.cell, St.at_now h.1 _ (by omega)]
  have d2 : w.cell? ⟨b, 72 + l * 8 + 2, none⟩ = some (.int .u64 (S.good.getD (l * 8 + 2) 0)) := by rw [h.2.cell, show 72 + l * 8 + 2 = 72 + (l * 8 + 2) from by omega, St.at_good h.1 _ (by omega)]
  have f2 := h.2.frozen (72 + l * 8 + 2)
  have c3 : w.cell? ⟨b, l * 8 + 3, none⟩ = some (.int .u64 (S.now.getD (l * 8 + 3) 0)) := by rw [h.2.cell, St.at_now h.1 _ (by omega)]
  have d3 : w.cell? ⟨b, 72 + l * 8 + 3, none⟩ = some (.int .u64 (S.good.getD (l * 8 + 3) 0)) := by rw [h.2.cell, show 72 + l * 8 + 3 = 72 + (l * 8 + 3) from by omega, St.at_good h.1 _ (by omega)]
  have f3 := h.2.frozen (72 + l * 8 + 3)
  have c4 : w.cell? ⟨b, l * 8 + 4, none⟩ = some (.int .u64 (S.now.getD (l * 8 + 4) 0)) := by rw [h.2.cell, St.at_now h.1 _ (by omega)]
  have d4 : w.cell? ⟨b, 72 + l * 8 + 4, none⟩ = some (.int .u64 (S.good.getD (l * 8 + 4) 0)) := by rw [h.2.cell, show 72 + l * 8 + 4 = 72 + (l * 8 + 4) from by omega, St.at_good h.1 _ (by omega)]
  have f4 := h.2.frozen (72 + l * 8 + 4)
  have c5 : w.cell? ⟨b, l * 8 + 5, none⟩ = some (.int .u64 (S.now.getD (l * 8 + 5) 0)) := by rw [h.2.cell, St.at_now h.1 _ (by omega)]
  have d5 : w.cell? ⟨b, 72 + l * 8 + 5, none⟩ = some (.int .u64 (S.good.getD (l * 8 + 5) 0)) := by rw [h.2.cell, show 72 + l * 8 + 5 = 72 + (l * 8 + 5) from by omega, St.at_good h.1 _ (by omega)]
  have f5 := h.2.frozen (72 + l * 8 + 5)
  have c6 : w.cell? ⟨b, l * 8 + 6, none⟩ = some (.int .u64 (S.now.getD (l * 8 + 6) 0)) := by rw [h.2.cell, St.at_now h.1 _ (by omega)]
  have d6 : w.cell? ⟨b, 72 + l * 8 + 6, none⟩ = some (.int .u64 (S.good.getD (l * 8 + 6) 0)) := by rw [h.2.cell, show 72 + l * 8 + 6 = 72 + (l * 8 + 6) from by omega, St.at_good h.1 _ (by omega)]
  have f6 := h.2.frozen (72 + l * 8 + 6)
  have c7 : w.cell? ⟨b, l * 8 + 7, none⟩ = some (.int .u64 (S.now.getD (l * 8 + 7) 0)) := by rw [h.2.cell, St.at_now h.1 _ (by omega)]
  have d7 : w.cell? ⟨b, 72 + l * 8 + 7, none⟩ = some (.int .u64 (S.good.getD (l * 8 + 7) 0)) := by rw [h.2.cell, show 72 + l * 8 + 7 = 72 + (l * 8 + 7) from by omega, St.at_good h.1 _ (by omega)]
  have f7 := h.2.frozen (72 + l * 8 + 7)
  have HS := Lib.hid (h.good8 l (by omega) (S.now.getD (l * 8) 0) (S.now.getD (l * 8 + 1) 0) (S.now.getD (l * 8 + 2) 0) (S.now.getD (l * 8 + 3) 0) (S.now.getD (l * 8 + 4) 0) (S.now.getD (l * 8 + 5) 0) (S.now.getD (l * 8 + 6) 0) (S.now.getD (l * 8 + 7) 0))
  have HK := Lib.hid (kept8 w b l (72 + l * 8) (S.now.getD (l * 8) 0) (S.now.getD (l * 8 + 1) 0) (S.now.getD (l * 8 + 2) 0) (S.now.getD (l * 8 + 3) 0) (S.now.getD (l * 8 + 4) 0) (S.now.getD (l * 8 + 5) 0) (S.now.getD (l * 8 + 6) 0) (S.now.getD (l * 8 + 7) 0))
  unfold cpLine
  generalize S.now.getD (l * 8) 0 = x0 at *
  generalize S.good.getD (l * 8) 0 = y0 at *
  generalize S.now.getD (l * 8 + 1) 0 = x1 at *
  generalize S.good.getD (l * 8 + 1) 0 = y1 at *
  generalize S.now.getD (l * 8 + 2) 0 = x2 at *
  generalize S.good.getD (l * 8 + 2) 0 = y2 at *
  generalize S.now.getD (l * 8 + 3) 0 = x3 at *
  generalize S.good.getD (l * 8 + 3) 0 = y3 at *
  generalize S.now.getD (l * 8 + 4) 0 = x4 at *
  generalize S.good.getD (l * 8 + 4) 0 = y4 at *
  generalize S.now.getD (l * 8 + 5) 0 = x5 at *
  generalize S.good.getD (l * 8 + 5) 0 = y5 at *
  generalize S.now.getD (l * 8 + 6) 0 = x6 at *
  generalize S.good.getD (l * 8 + 6) 0 = y6 at *
  generalize S.now.getD (l * 8 + 7) 0 = x7 at *
  generalize S.good.getD (l * 8 + 7) 0 = y7 at *
  clear h
  go_enter Try.func32, Try.ntmps32
  go_wp2_with fail
  go_region
  go_wp2_with fail
  go_ret
  exact ⟨rfl, HS.out.drew, HK.out.drew⟩
theorem StoreAt.wanted1 {w : World} {b : Nat} {S : St} (h : StoreAt w b S) (o i : Nat) (hi : i < 36) (ho : o = 144 + i) (x : Bool) : StoreAt (w.setCell ⟨b, o, none⟩ (.bool x)) b { S with wanted := S.wanted.set i x } := by
  subst ho
  refine ⟨⟨h.1.1, h.1.2.1, by simpa using h.1.2.2⟩, ?_⟩
  rw [← St.set_wanted h.1 i hi]
  exact h.2.set _ _
theorem StoreAt.fences1 {w : World} {b : Nat} {S : St} (h : StoreAt w b S) (x : Int) : StoreAt (w.setCell ⟨b, 181, none⟩ (.int .i64 x)) b { S with fences := x } := by
  refine ⟨h.1, ?_⟩
  rw [← St.set_fences h.1]
  exact h.2.set _ _
/-- A thread's wishes, taken back. -/
def clearRow (q : List Bool) (t : Nat) : List Bool := (List.set (List.set (List.set (List.set (List.set (List.set (List.set (List.set (List.set q (t * 9) false) (t * 9 + 1) false) (t * 9 + 2) false) (t * 9 + 3) false) (t * 9 + 4) false) (t * 9 + 5) false) (t * 9 + 6) false) (t * 9 + 7) false) (t * 9 + 8) false)
theorem StoreAt.wanted9 {w : World} {b : Nat} {S : St} (h : StoreAt w b S) (t : Nat) (ht : t < 4) :
    StoreAt (((((((((w.setCell ⟨b, 144 + t * 9, none⟩ (.bool false)).setCell ⟨b, 144 + t * 9 + 1, none⟩ (.bool false)).setCell ⟨b, 144 + t * 9 + 2, none⟩ (.bool false)).setCell ⟨b, 144 + t * 9 + 3, none⟩ (.bool false)).setCell ⟨b, 144 + t * 9 + 4, none⟩ (.bool false)).setCell ⟨b, 144 + t * 9 + 5, none⟩ (.bool false)).setCell ⟨b, 144 + t * 9 + 6, none⟩ (.bool false)).setCell ⟨b, 144 + t * 9 + 7, none⟩ (.bool false)).setCell ⟨b, 144 + t * 9 + 8, none⟩ (.bool false)) b { S with wanted := (List.set (List.set (List.set (List.set (List.set (List.set (List.set (List.set (List.set S.wanted (t * 9) false) (t * 9 + 1) false) (t * 9 + 2) false) (t * 9 + 3) false) (t * 9 + 4) false) (t * 9 + 5) false) (t * 9 + 6) false) (t * 9 + 7) false) (t * 9 + 8) false) } :=
  ((((((((h.wanted1 _ (t * 9) (by omega) (by omega) false).wanted1 _ (t * 9 + 1) (by omega) (by omega) false).wanted1 _ (t * 9 + 2) (by omega) (by omega) false).wanted1 _ (t * 9 + 3) (by omega) (by omega) false).wanted1 _ (t * 9 + 4) (by omega) (by omega) false).wanted1 _ (t * 9 + 5) (by omega) (by omega) false).wanted1 _ (t * 9 + 6) (by omega) (by omega) false).wanted1 _ (t * 9 + 7) (by omega) (by omega) false).wanted1 _ (t * 9 + 8) (by omega) (by omega) false
theorem kept9 (w : World) (b t : Nat) : Kept (· = b) w (((((((((w.setCell ⟨b, 144 + t * 9, none⟩ (.bool false)).setCell ⟨b, 144 + t * 9 + 1, none⟩ (.bool false)).setCell ⟨b, 144 + t * 9 + 2, none⟩ (.bool false)).setCell ⟨b, 144 + t * 9 + 3, none⟩ (.bool false)).setCell ⟨b, 144 + t * 9 + 4, none⟩ (.bool false)).setCell ⟨b, 144 + t * 9 + 5, none⟩ (.bool false)).setCell ⟨b, 144 + t * 9 + 6, none⟩ (.bool false)).setCell ⟨b, 144 + t * 9 + 7, none⟩ (.bool false)).setCell ⟨b, 144 + t * 9 + 8, none⟩ (.bool false)) :=
  (((((((((Kept.refl _ w).own _ _).own _ _).own _ _).own _ _).own _ _).own _ _).own _ _).own _ _).own _ _
def fenceTo (S : St) (t : Nat) : Nat → List Int
  | 0 => S.good
  | k + 1 => if S.wanted.getD (t * 9 + k) false then cpLine (fenceTo S t k) S.now k else fenceTo S t k
def fenceSt (S : St) (t : Nat) : St := { S with good := fenceTo S t 9, wanted := clearRow S.wanted t, fences := wrap64 (S.fences + 1) }
theorem idx_bool (q0 q1 q2 q3 q4 q5 q6 q7 q8 : Bool) (k : Nat) (hk : k < 9) (w : World) :
    (Instr.index 84 (.agg #[.bool q0, .bool q1, .bool q2, .bool q3, .bool q4, .bool q5, .bool q6, .bool q7, .bool q8]) (.int .i64 k)).run Try.prog w = .ok (.bool ([q0, q1, q2, q3, q4, q5, q6, q7, q8].getD k false)) w := by
  match k, hk with
  | 0, _ => rfl
  | 1, _ => rfl
  | 2, _ => rfl
  | 3, _ => rfl
  | 4, _ => rfl
  | 5, _ => rfl
  | 6, _ => rfl
  | 7, _ => rfl
  | 8, _ => rfl
theorem nine (q : List Bool) (t k : Nat) (hk : k < 9) : [q.getD (t * 9) false, q.getD (t * 9 + 1) false, q.getD (t * 9 + 2) false, q.getD (t * 9 + 3) false, q.getD (t * 9 + 4) false, q.getD (t * 9 + 5) false, q.getD (t * 9 + 6) false, q.getD (t * 9 + 7) false, q.getD (t * 9 + 8) false].getD k false = q.getD (t * 9 + k) false := by
  match k, hk with
  | 0, _ => rfl
  | 1, _ => rfl
  | 2, _ => rfl
  | 3, _ => rfl
  | 4, _ => rfl
  | 5, _ => rfl
  | 6, _ => rfl
  | 7, _ => rfl
  | 8, _ => rfl

set_option maxHeartbeats 2000000 in
theorem store_fence (w : World) (b : Nat) (S : St) (t : Int) (h : StoreAt w b S) (h2 : 0 ≤ t) (h3 : t < 4) :
    Calls Try.prog 34 #[.pointer (some ⟨b, 0, none⟩), .int .i64 t] w fun e w' => e = .returned .nilIface ∧
      StoreAt w' b (fenceSt S t.toNat) ∧ Kept (· = b) w w' := by
  obtain ⟨t, rfl⟩ := Int.eq_ofNat_of_zero_le h2
  rw [Int.toNat_natCast]
  have q0 : w.cell? ⟨b, 144 + t * 9, none⟩ = some (.bool (S.wanted.getD (t * 9) false)) := by rw [h.2.cell, show 144 + t * 9 = 144 + (t * 9) from by omega, St.at_wanted h.1 _ (by omega)]
  have q1 : w.cell? ⟨b, 144 + t * 9 + 1, none⟩ = some (.bool (S.wanted.getD (t * 9 + 1) false)) := by rw [h.2.cell, show 144 + t * 9 + 1 = 144 + (t * 9 + 1) from by omega, St.at_wanted h.1 _ (by omega)]
  have q2 : w.cell? ⟨b, 144 + t * 9 + 2, none⟩ = some (.bool (S.wanted.getD (t * 9 + 2) false)) := by rw [h.2.cell, show 144 + t * 9 + 2 = 144 + (t * 9 + 2) from by omega, St.at_wanted h.1 _ (by omega)]
  have q3 : w.cell? ⟨b, 144 + t * 9 + 3, none⟩ = some (.bool (S.wanted.getD (t * 9 + 3) false)) := by rw [h.2.cell, show 144 + t * 9 + 3 = 144 + (t * 9 + 3) from by omega, St.at_wanted h.1 _ (by omega)]
  have q4 : w.cell? ⟨b, 144 + t * 9 + 4, none⟩ = some (.bool (S.wanted.getD (t * 9 + 4) false)) := by rw [h.2.cell, show 144 + t * 9 + 4 = 144 + (t * 9 + 4) from by omega, St.at_wanted h.1 _ (by omega)]
  have q5 : w.cell? ⟨b, 144 + t * 9 + 5, none⟩ = some (.bool (S.wanted.getD (t * 9 + 5) false)) := by rw [h.2.cell, show 144 + t * 9 + 5 = 144 + (t * 9 + 5) from by omega, St.at_wanted h.1 _ (by omega)]
  have q6 : w.cell? ⟨b, 144 + t * 9 + 6, none⟩ = some (.bool (S.wanted.getD (t * 9 + 6) false)) := by rw [h.2.cell, show 144 + t * 9 + 6 = 144 + (t * 9 + 6) from by omega, St.at_wanted h.1 _ (by omega)]
  have q7 : w.cell? ⟨b, 144 + t * 9 + 7, none⟩ = some (.bool (S.wanted.getD (t * 9 + 7) false)) := by rw [h.2.cell, show 144 + t * 9 + 7 = 144 + (t * 9 + 7) from by omega, St.at_wanted h.1 _ (by omega)]
  have q8 : w.cell? ⟨b, 144 + t * 9 + 8, none⟩ = some (.bool (S.wanted.getD (t * 9 + 8) false)) := by rw [h.2.cell, show 144 + t * 9 + 8 = 144 + (t * 9 + 8) from by omega, St.at_wanted h.1 _ (by omega)]
  have HI : Hid (∀ k, k < 9 → ∀ w, (Instr.index 84 (.agg #[.bool (S.wanted.getD (t * 9) false), .bool (S.wanted.getD (t * 9 + 1) false), .bool (S.wanted.getD (t * 9 + 2) false), .bool (S.wanted.getD (t * 9 + 3) false), .bool (S.wanted.getD (t * 9 + 4) false), .bool (S.wanted.getD (t * 9 + 5) false), .bool (S.wanted.getD (t * 9 + 6) false), .bool (S.wanted.getD (t * 9 + 7) false), .bool (S.wanted.getD (t * 9 + 8) false)]) (.int .i64 (k : Nat))).run Try.prog w = .ok (.bool (S.wanted.getD (t * 9 + k) false)) w) := by
    intro k hk w
    rw [← nine S.wanted t k hk]
    exact idx_bool _ _ _ _ _ _ _ _ _ k hk w
  have HS := Lib.hid h
  clear h
  generalize S.wanted.getD (t * 9) false = p0 at *
  generalize S.wanted.getD (t * 9 + 1) false = p1 at *
  generalize S.wanted.getD (t * 9 + 2) false = p2 at *
  generalize S.wanted.getD (t * 9 + 3) false = p3 at *
  generalize S.wanted.getD (t * 9 + 4) false = p4 at *
  generalize S.wanted.getD (t * 9 + 5) false = p5 at *
  generalize S.wanted.getD (t * 9 + 6) false = p6 at *
  generalize S.wanted.getD (t * 9 + 7) false = p7 at *
  generalize S.wanted.getD (t * 9 + 8) false = p8 at *
  go_enter Try.func34, Try.ntmps34
  go_wp2_with fail
  clear q0 q1 q2 q3 q4 q5 q6 q7 q8
  go_loopw [20] (fun i wr => ∃ k : Nat, k ≤ 9 ∧ i = .int .i64 k ∧ Hid (StoreAt wr b { S with good := fenceTo S t k }) ∧ Kept (· = b) w wr)
    (fun i _ => 9 - (intOf i).toNat)
  case atStart => exact ⟨0, by omega, rfl, HS, Kept.refl _ _⟩
  case round =>
    obtain ⟨k, hk, rfl, hs, hkp⟩ := hrel
    by_cases hlt : k < 9
    · have hix := HI.out k hlt
      have hf : fenceTo S t (k + 1) = if S.wanted.getD (t * 9 + k) false then cpLine (fenceTo S t k) S.now k else fenceTo S t k := rfl
      have HF := Lib.hid hf
      clear hf
      cases hq : S.wanted.getD (t * 9 + k) false
      · rw [hq] at hix HF
        clear hq
        go_wp2_with fail
        go_roundw
        case rel => exact ⟨k + 1, by omega, by go_num, by rw [HF.out]; exact hs, hkp⟩
        case measure => simp [intOf]; omega
      · rw [hq] at hix HF
        clear hq
        have hh := hs.out
        generalize fenceTo S t k = g at *
        have c0 : wr.cell? ⟨b, k * 8, none⟩ = some (.int .u64 (S.now.getD (k * 8) 0)) := by rw [hh.2.cell, St.at_now hh.1 _ (by omega)]
        have d0 : wr.cell? ⟨b, 72 + k * 8, none⟩ = some (.int .u64 (g.getD (k * 8) 0)) := by rw [hh.2.cell, show 72 + k * 8 = 72 + (k * 8) from by omega, St.at_good hh.1 _ (by omega)]
        have f0 := hh.2.frozen (72 + k * 8)
        have c1 : wr.cell? ⟨b, k * 8 + 1, none⟩ = some (.int .u64 (S.now.getD (k * 8 + 1) 0)) := by rw [hh.2.cell, St.at_now hh.1 _ (by omega)]
        have d1 : wr.cell? ⟨b, 72 + k * 8 + 1, none⟩ = some (.int .u64 (g.getD (k * 8 + 1) 0)) := by rw [hh.2.cell, show 72 + k * 8 + 1 = 72 + (k * 8 + 1) from by omega, St.at_good hh.1 _ (by omega)]
        have f1 := hh.2.frozen (72 + k * 8 + 1)
        have c2 : wr.cell? ⟨b, k * 8 + 2, none⟩ = some (.int .u64 (S.now.getD (k * 8 + 2) 0)) := by rw [hh.2.cell, St.at_now hh.1 _ (by omega)]
        have d2 : wr.cell? ⟨b, 72 + k * 8 + 2, none⟩ = some (.int .u64 (g.getD (k * 8 + 2) 0)) := by rw [hh.2.cell, show 72 + k * 8 + 2 = 72 + (k * 8 + 2) from by omega, St.at_good hh.1 _ (by omega)]
        have f2 := hh.2.frozen (72 + k * 8 + 2)
        have c3 : wr.cell? ⟨b, k * 8 + 3, none⟩ = some (.int .u64 (S.now.getD (k * 8 + 3) 0)) := by rw [hh.2.cell, St.at_now hh.1 _ (by omega)]
        have d3 : wr.cell? ⟨b, 72 + k * 8 + 3, none⟩ = some (.int .u64 (g.getD (k * 8 + 3) 0)) := by rw [hh.2.cell, show 72 + k * 8 + 3 = 72 + (k * 8 + 3) from by omega, St.at_good hh.1 _ (by omega)]
        have f3 := hh.2.frozen (72 + k * 8 + 3)
        have c4 : wr.cell? ⟨b, k * 8 + 4, none⟩ = some (.int .u64 (S.now.getD (k * 8 + 4) 0)) := by rw [hh.2.cell, St.at_now hh.1 _ (by omega)]
        have d4 : wr.cell? ⟨b, 72 + k * 8 + 4, none⟩ = some (.int .u64 (g.getD (k * 8 + 4) 0)) := by rw [hh.2.cell, show 72 + k * 8 + 4 = 72 + (k * 8 + 4) from by omega, St.at_good hh.1 _ (by omega)]
        have f4 := hh.2.frozen (72 + k * 8 + 4)
        have c5 : wr.cell? ⟨b, k * 8 + 5, none⟩ = some (.int .u64 (S.now.getD (k * 8 + 5) 0)) := by rw [hh.2.cell, St.at_now hh.1 _ (by omega)]
        have d5 : wr.cell? ⟨b, 72 + k * 8 + 5, none⟩ = some (.int .u64 (g.getD (k * 8 + 5) 0)) := by rw [hh.2.cell, show 72 + k * 8 + 5 = 72 + (k * 8 + 5) from by omega, St.at_good hh.1 _ (by omega)]
        have f5 := hh.2.frozen (72 + k * 8 + 5)
        have c6 : wr.cell? ⟨b, k * 8 + 6, none⟩ = some (.int .u64 (S.now.getD (k * 8 + 6) 0)) := by rw [hh.2.cell, St.at_now hh.1 _ (by omega)]
        have d6 : wr.cell? ⟨b, 72 + k * 8 + 6, none⟩ = some (.int .u64 (g.getD (k * 8 + 6) 0)) := by rw [hh.2.cell, show 72 + k * 8 + 6 = 72 + (k * 8 + 6) from by omega, St.at_good hh.1 _ (by omega)]
        have f6 := hh.2.frozen (72 + k * 8 + 6)
        have c7 : wr.cell? ⟨b, k * 8 + 7, none⟩ = some (.int .u64 (S.now.getD (k * 8 + 7) 0)) := by rw [hh.2.cell, St.at_now hh.1 _ (by omega)]
        have d7 : wr.cell? ⟨b, 72 + k * 8 + 7, none⟩ = some (.int .u64 (g.getD (k * 8 + 7) 0)) := by rw [hh.2.cell, show 72 + k * 8 + 7 = 72 + (k * 8 + 7) from by omega, St.at_good hh.1 _ (by omega)]
        have f7 := hh.2.frozen (72 + k * 8 + 7)
        have HS8 := Lib.hid (hh.good8 k (by omega) (S.now.getD (k * 8) 0) (S.now.getD (k * 8 + 1) 0) (S.now.getD (k * 8 + 2) 0) (S.now.getD (k * 8 + 3) 0) (S.now.getD (k * 8 + 4) 0) (S.now.getD (k * 8 + 5) 0) (S.now.getD (k * 8 + 6) 0) (S.now.getD (k * 8 + 7) 0))
        have HK8 := Lib.hid (kept8 wr b k (72 + k * 8) (S.now.getD (k * 8) 0) (S.now.getD (k * 8 + 1) 0) (S.now.getD (k * 8 + 2) 0) (S.now.getD (k * 8 + 3) 0) (S.now.getD (k * 8 + 4) 0) (S.now.getD (k * 8 + 5) 0) (S.now.getD (k * 8 + 6) 0) (S.now.getD (k * 8 + 7) 0))
        have HF2 : Hid (fenceTo S t (k + 1) = (List.set (List.set (List.set (List.set (List.set (List.set (List.set (List.set g (k * 8) (S.now.getD (k * 8) 0)) (k * 8 + 1) (S.now.getD (k * 8 + 1) 0)) (k * 8 + 2) (S.now.getD (k * 8 + 2) 0)) (k * 8 + 3) (S.now.getD (k * 8 + 3) 0)) (k * 8 + 4) (S.now.getD (k * 8 + 4) 0)) (k * 8 + 5) (S.now.getD (k * 8 + 5) 0)) (k * 8 + 6) (S.now.getD (k * 8 + 6) 0)) (k * 8 + 7) (S.now.getD (k * 8 + 7) 0))) := by rw [HF.out]; exact if_pos rfl
        clear HF hs hh
        generalize S.now.getD (k * 8) 0 = x0 at *
        generalize g.getD (k * 8) 0 = y0 at *
        generalize S.now.getD (k * 8 + 1) 0 = x1 at *
        generalize g.getD (k * 8 + 1) 0 = y1 at *
        generalize S.now.getD (k * 8 + 2) 0 = x2 at *
        generalize g.getD (k * 8 + 2) 0 = y2 at *
        generalize S.now.getD (k * 8 + 3) 0 = x3 at *
        generalize g.getD (k * 8 + 3) 0 = y3 at *
        generalize S.now.getD (k * 8 + 4) 0 = x4 at *
        generalize g.getD (k * 8 + 4) 0 = y4 at *
        generalize S.now.getD (k * 8 + 5) 0 = x5 at *
        generalize g.getD (k * 8 + 5) 0 = y5 at *
        generalize S.now.getD (k * 8 + 6) 0 = x6 at *
        generalize g.getD (k * 8 + 6) 0 = y6 at *
        generalize S.now.getD (k * 8 + 7) 0 = x7 at *
        generalize g.getD (k * 8 + 7) 0 = y7 at *
        go_wp2_with fail
        go_region
        go_wp2_with fail
        go_roundw
        case rel => exact ⟨k + 1, by omega, by go_num, by rw [HF2.out]; exact Lib.hid HS8.out.drew, hkp.trans HK8.out.drew⟩
        case measure => simp [intOf]; omega
    · obtain rfl : k = 9 := by omega
      have hh := hs.out
      have hT := (hh.wanted9 t (by omega)).fences1 (wrap64 (S.fences + 1))
      have HT : Hid (StoreAt ((((((((((wr.setCell ⟨b, 144 + t * 9, none⟩ (.bool false)).setCell ⟨b, 144 + t * 9 + 1, none⟩ (.bool false)).setCell ⟨b, 144 + t * 9 + 2, none⟩ (.bool false)).setCell ⟨b, 144 + t * 9 + 3, none⟩ (.bool false)).setCell ⟨b, 144 + t * 9 + 4, none⟩ (.bool false)).setCell ⟨b, 144 + t * 9 + 5, none⟩ (.bool false)).setCell ⟨b, 144 + t * 9 + 6, none⟩ (.bool false)).setCell ⟨b, 144 + t * 9 + 7, none⟩ (.bool false)).setCell ⟨b, 144 + t * 9 + 8, none⟩ (.bool false)).setCell ⟨b, 181, none⟩ (.int .i64 (wrap64 (S.fences + 1)))) b (fenceSt S t)) := hT
      have HK9 := Lib.hid ((kept9 wr b t).own 181 (.int .i64 (wrap64 (S.fences + 1))))
      clear hT
      have q0 : wr.cell? ⟨b, 144 + t * 9, none⟩ = some (.bool (S.wanted.getD (t * 9) false)) := by rw [hh.2.cell, show 144 + t * 9 = 144 + (t * 9) from by omega, St.at_wanted hh.1 _ (by omega)]
      have q1 : wr.cell? ⟨b, 144 + t * 9 + 1, none⟩ = some (.bool (S.wanted.getD (t * 9 + 1) false)) := by rw [hh.2.cell, show 144 + t * 9 + 1 = 144 + (t * 9 + 1) from by omega, St.at_wanted hh.1 _ (by omega)]
      have q2 : wr.cell? ⟨b, 144 + t * 9 + 2, none⟩ = some (.bool (S.wanted.getD (t * 9 + 2) false)) := by rw [hh.2.cell, show 144 + t * 9 + 2 = 144 + (t * 9 + 2) from by omega, St.at_wanted hh.1 _ (by omega)]
      have q3 : wr.cell? ⟨b, 144 + t * 9 + 3, none⟩ = some (.bool (S.wanted.getD (t * 9 + 3) false)) := by rw [hh.2.cell, show 144 + t * 9 + 3 = 144 + (t * 9 + 3) from by omega, St.at_wanted hh.1 _ (by omega)]
      have q4 : wr.cell? ⟨b, 144 + t * 9 + 4, none⟩ = some (.bool (S.wanted.getD (t * 9 + 4) false)) := by rw [hh.2.cell, show 144 + t * 9 + 4 = 144 + (t * 9 + 4) from by omega, St.at_wanted hh.1 _ (by omega)]
      have q5 : wr.cell? ⟨b, 144 + t * 9 + 5, none⟩ = some (.bool (S.wanted.getD (t * 9 + 5) false)) := by rw [hh.2.cell, show 144 + t * 9 + 5 = 144 + (t * 9 + 5) from by omega, St.at_wanted hh.1 _ (by omega)]
      have q6 : wr.cell? ⟨b, 144 + t * 9 + 6, none⟩ = some (.bool (S.wanted.getD (t * 9 + 6) false)) := by rw [hh.2.cell, show 144 + t * 9 + 6 = 144 + (t * 9 + 6) from by omega, St.at_wanted hh.1 _ (by omega)]
      have q7 : wr.cell? ⟨b, 144 + t * 9 + 7, none⟩ = some (.bool (S.wanted.getD (t * 9 + 7) false)) := by rw [hh.2.cell, show 144 + t * 9 + 7 = 144 + (t * 9 + 7) from by omega, St.at_wanted hh.1 _ (by omega)]
      have q8 : wr.cell? ⟨b, 144 + t * 9 + 8, none⟩ = some (.bool (S.wanted.getD (t * 9 + 8) false)) := by rw [hh.2.cell, show 144 + t * 9 + 8 = 144 + (t * 9 + 8) from by omega, St.at_wanted hh.1 _ (by omega)]
      have g0 := hh.2.frozen (144 + t * 9)
      have g1 := hh.2.frozen (144 + t * 9 + 1)
      have g2 := hh.2.frozen (144 + t * 9 + 2)
      have g3 := hh.2.frozen (144 + t * 9 + 3)
      have g4 := hh.2.frozen (144 + t * 9 + 4)
      have g5 := hh.2.frozen (144 + t * 9 + 5)
      have g6 := hh.2.frozen (144 + t * 9 + 6)
      have g7 := hh.2.frozen (144 + t * 9 + 7)
      have g8 := hh.2.frozen (144 + t * 9 + 8)
      have c181 : wr.cell? ⟨b, 181, none⟩ = some (.int .i64 S.fences) := by rw [hh.2.cell, St.at_fences hh.1]
      have f181 := hh.2.frozen 181
      have n0 : 144 + t * 9 ≠ 181 := by omega
      have n1 : 144 + t * 9 + 1 ≠ 181 := by omega
      have n2 : 144 + t * 9 + 2 ≠ 181 := by omega
      have n3 : 144 + t * 9 + 3 ≠ 181 := by omega
      have n4 : 144 + t * 9 + 4 ≠ 181 := by omega
      have n5 : 144 + t * 9 + 5 ≠ 181 := by omega
      have n6 : 144 + t * 9 + 6 ≠ 181 := by omega
      have n7 : 144 + t * 9 + 7 ≠ 181 := by omega
      have n8 : 144 + t * 9 + 8 ≠ 181 := by omega
      generalize S.wanted.getD (t * 9) false = r0 at *
      generalize S.wanted.getD (t * 9 + 1) false = r1 at *
      generalize S.wanted.getD (t * 9 + 2) false = r2 at *
      generalize S.wanted.getD (t * 9 + 3) false = r3 at *
      generalize S.wanted.getD (t * 9 + 4) false = r4 at *
      generalize S.wanted.getD (t * 9 + 5) false = r5 at *
      generalize S.wanted.getD (t * 9 + 6) false = r6 at *
      generalize S.wanted.getD (t * 9 + 7) false = r7 at *
      generalize S.wanted.getD (t * 9 + 8) false = r8 at *
      generalize S.fences = fe at *
      clear hh hs HS
      go_wp2_with fail
      go_ret
      exact ⟨rfl, HT.out, hkp.trans HK9.out⟩
def bitZ (x : Int) (k : Nat) : Bool := bits BinOp.and IntKind.u64 (x / 2 ^ k) 1 == 1
def crashTo (S : St) (x : Int) : Nat → List Int × List Int
  | 0 => (S.now, S.good)
  | k + 1 => (cpLine (crashTo S x k).1 (if bitZ x k then cpLine (crashTo S x k).2 (crashTo S x k).1 k else (crashTo S x k).2) k, if bitZ x k then cpLine (crashTo S x k).2 (crashTo S x k).1 k else (crashTo S x k).2)
def crashSt (S : St) (x : Int) : St := { S with now := (crashTo S x 9).1, good := (crashTo S x 9).2, wanted := List.replicate 36 false }
theorem spl_wanted {S : St} (h : S.ok) : spl S.cells 144 (List.replicate 36 (Value.bool false)) = ({ S with wanted := List.replicate 36 false } : St).cells := by
  obtain ⟨a, b, c⟩ := h
  unfold spl St.cells
  rw [← List.append_assoc, ← List.append_assoc, ← List.append_assoc, ← List.append_assoc]
  rw [List.take_append_of_le_length (by simp; omega), List.take_append_of_le_length (by simp; omega), List.take_of_length_le (by simp; omega)]
  rw [List.drop_append, List.drop_of_length_le (by simp; omega)]
  simp [a, b, c]

set_option maxHeartbeats 4000000 in
theorem store_crash (w : World) (b : Nat) (S : St) (x : Int) (h : StoreAt w b S) (h2 : 0 ≤ x) (h3 : x < 18446744073709551616) :
    Calls Try.prog 35 #[.pointer (some ⟨b, 0, none⟩), .int .u64 x] w fun e w' => e = .returned (.tuple #[]) ∧
      StoreAt w' b (crashSt S x) ∧ Kept (· = b) w w' := by
  have HS := Lib.hid h
  clear h
  go_enter Try.func35, Try.ntmps35
  go_wp2_with fail
  go_loopw [5] (fun i wr => ∃ k : Nat, k ≤ 9 ∧ i = .int .i64 k ∧ Hid (StoreAt wr b { S with now := (crashTo S x k).1, good := (crashTo S x k).2 }) ∧ Kept (· = b) w wr)
    (fun i _ => 9 - (intOf i).toNat)
  case atStart => exact ⟨0, by omega, rfl, HS, Kept.refl _ _⟩
  case round =>
    obtain ⟨k, hk, rfl, hs, hkp⟩ := hrel
    by_cases hlt : k < 9
    · have ht : ({ S with now := (crashTo S x (k + 1)).1, good := (crashTo S x (k + 1)).2 } : St) = { S with now := cpLine (crashTo S x k).1 (if bitZ x k then cpLine (crashTo S x k).2 (crashTo S x k).1 k else (crashTo S x k).2) k, good := if bitZ x k then cpLine (crashTo S x k).2 (crashTo S x k).1 k else (crashTo S x k).2 } := rfl
      have HT := Lib.hid ht
      clear ht
      have hh := hs.out
      clear hs
      generalize (crashTo S x k).1 = n at *
      generalize (crashTo S x k).2 = g at *
      cases hb : bitZ x k
      · have hbit : (bits BinOp.and IntKind.u64 (x / 2 ^ k) 1 == 1) = false := hb
        simp only [hb, Bool.false_eq_true, if_false] at HT
        clear hb
        have c0 : wr.cell? ⟨b, k * 8, none⟩ = some (.int .u64 (n.getD (k * 8) 0)) := by rw [hh.2.cell, St.at_now hh.1 _ (by omega)]
        have d0 : wr.cell? ⟨b, 72 + k * 8, none⟩ = some (.int .u64 (g.getD (k * 8) 0)) := by rw [hh.2.cell, show 72 + k * 8 = 72 + (k * 8) from by omega, St.at_good hh.1 _ (by omega)]
        have f0 := hh.2.frozen (72 + k * 8)
        have c1 : wr.cell? ⟨b, k * 8 + 1, none⟩ = some (.int .u64 (n.getD (k * 8 + 1) 0)) := by rw [hh.2.cell, St.at_now hh.1 _ (by omega)]
        have d1 : wr.cell? ⟨b, 72 + k * 8 + 1, none⟩ = some (.int .u64 (g.getD (k * 8 + 1) 0)) := by rw [hh.2.cell, show 72 + k * 8 + 1 = 72 + (k * 8 + 1) from by omega, St.at_good hh.1 _ (by omega)]
        have f1 := hh.2.frozen (72 + k * 8 + 1)
        have c2 : wr.cell? ⟨b, k * 8 + 2, none⟩ = some (.int .u64 (n.getD (k * 8 + 2) 0)) := by rw [hh.2.cell, St.at_now hh.1 _ (by omega)]
        have d2 : wr.cell? ⟨b, 72 + k * 8 + 2, none⟩ = some (.int .u64 (g.getD (k * 8 + 2) 0)) := by rw [hh.2.cell, show 72 + k * 8 + 2 = 72 + (k * 8 + 2) from by omega, St.at_good hh.1 _ (by omega)]
        have f2 := hh.2.frozen (72 + k * 8 + 2)
        have c3 : wr.cell? ⟨b, k * 8 + 3, none⟩ = some (.int .u64 (n.getD (k * 8 + 3) 0)) := by rw [hh.2.cell, St.at_now hh.1 _ (by omega)]
        have d3 : wr.cell? ⟨b, 72 + k * 8 + 3, none⟩ = some (.int .u64 (g.getD (k * 8 + 3) 0)) := by rw [hh.2.cell, show 72 + k * 8 + 3 = 72 + (k * 8 + 3) from by omega, St.at_good hh.1 _ (by omega)]
        have f3 := hh.2.frozen (72 + k * 8 + 3)
        have c4 : wr.cell? ⟨b, k * 8 + 4, none⟩ = some (.int .u64 (n.getD (k * 8 + 4) 0)) := by rw [hh.2.cell, St.at_now hh.1 _ (by omega)]
        have d4 : wr.cell? ⟨b, 72 + k * 8 + 4, none⟩ = some (.int .u64 (g.getD (k * 8 + 4) 0)) := by rw [hh.2.cell, show 72 + k * 8 + 4 = 72 + (k * 8 + 4) from by omega, St.at_good hh.1 _ (by omega)]
        have f4 := hh.2.frozen (72 + k * 8 + 4)
        have c5 : wr.cell? ⟨b, k * 8 + 5, none⟩ = some (.int .u64 (n.getD (k * 8 + 5) 0)) := by rw [hh.2.cell, St.at_now hh.1 _ (by omega)]
        have d5 : wr.cell? ⟨b, 72 + k * 8 + 5, none⟩ = some (.int .u64 (g.getD (k * 8 + 5) 0)) := by rw [hh.2.cell, show 72 + k * 8 + 5 = 72 + (k * 8 + 5) from by omega, St.at_good hh.1 _ (by omega)]
        have f5 := hh.2.frozen (72 + k * 8 + 5)
        have c6 : wr.cell? ⟨b, k * 8 + 6, none⟩ = some (.int .u64 (n.getD (k * 8 + 6) 0)) := by rw [hh.2.cell, St.at_now hh.1 _ (by omega)]
        have d6 : wr.cell? ⟨b, 72 + k * 8 + 6, none⟩ = some (.int .u64 (g.getD (k * 8 + 6) 0)) := by rw [hh.2.cell, show 72 + k * 8 + 6 = 72 + (k * 8 + 6) from by omega, St.at_good hh.1 _ (by omega)]
        have f6 := hh.2.frozen (72 + k * 8 + 6)
        have c7 : wr.cell? ⟨b, k * 8 + 7, none⟩ = some (.int .u64 (n.getD (k * 8 + 7) 0)) := by rw [hh.2.cell, St.at_now hh.1 _ (by omega)]
        have d7 : wr.cell? ⟨b, 72 + k * 8 + 7, none⟩ = some (.int .u64 (g.getD (k * 8 + 7) 0)) := by rw [hh.2.cell, show 72 + k * 8 + 7 = 72 + (k * 8 + 7) from by omega, St.at_good hh.1 _ (by omega)]
        have f7 := hh.2.frozen (72 + k * 8 + 7)
        have e0 := hh.2.frozen (k * 8)
        have e1 := hh.2.frozen (k * 8 + 1)
        have e2 := hh.2.frozen (k * 8 + 2)
        have e3 := hh.2.frozen (k * 8 + 3)
        have e4 := hh.2.frozen (k * 8 + 4)
        have e5 := hh.2.frozen (k * 8 + 5)
        have e6 := hh.2.frozen (k * 8 + 6)
        have e7 := hh.2.frozen (k * 8 + 7)
        have HS8 := Lib.hid (hh.now8 k (by omega) (g.getD (k * 8) 0) (g.getD (k * 8 + 1) 0) (g.getD (k * 8 + 2) 0) (g.getD (k * 8 + 3) 0) (g.getD (k * 8 + 4) 0) (g.getD (k * 8 + 5) 0) (g.getD (k * 8 + 6) 0) (g.getD (k * 8 + 7) 0))
        have HK8 := Lib.hid (kept8 wr b k (k * 8) (g.getD (k * 8) 0) (g.getD (k * 8 + 1) 0) (g.getD (k * 8 + 2) 0) (g.getD (k * 8 + 3) 0) (g.getD (k * 8 + 4) 0) (g.getD (k * 8 + 5) 0) (g.getD (k * 8 + 6) 0) (g.getD (k * 8 + 7) 0))
        have HN : Hid (cpLine n g k = (List.set (List.set (List.set (List.set (List.set (List.set (List.set (List.set n (k * 8) (g.getD (k * 8) 0)) (k * 8 + 1) (g.getD (k * 8 + 1) 0)) (k * 8 + 2) (g.getD (k * 8 + 2) 0)) (k * 8 + 3) (g.getD (k * 8 + 3) 0)) (k * 8 + 4) (g.getD (k * 8 + 4) 0)) (k * 8 + 5) (g.getD (k * 8 + 5) 0)) (k * 8 + 6) (g.getD (k * 8 + 6) 0)) (k * 8 + 7) (g.getD (k * 8 + 7) 0))) := rfl
        clear hh
        generalize n.getD (k * 8) 0 = x0 at *
        generalize g.getD (k * 8) 0 = y0 at *
        generalize n.getD (k * 8 + 1) 0 = x1 at *
        generalize g.getD (k * 8 + 1) 0 = y1 at *
        generalize n.getD (k * 8 + 2) 0 = x2 at *
        generalize g.getD (k * 8 + 2) 0 = y2 at *
        generalize n.getD (k * 8 + 3) 0 = x3 at *
        generalize g.getD (k * 8 + 3) 0 = y3 at *
        generalize n.getD (k * 8 + 4) 0 = x4 at *
        generalize g.getD (k * 8 + 4) 0 = y4 at *
        generalize n.getD (k * 8 + 5) 0 = x5 at *
        generalize g.getD (k * 8 + 5) 0 = y5 at *
        generalize n.getD (k * 8 + 6) 0 = x6 at *
        generalize g.getD (k * 8 + 6) 0 = y6 at *
        generalize n.getD (k * 8 + 7) 0 = x7 at *
        generalize g.getD (k * 8 + 7) 0 = y7 at *
        go_wp2_with fail
        go_region
        go_wp2_with fail
        go_roundw
        case rel => exact ⟨k + 1, by omega, by go_num, by rw [HT.out, HN.out]; exact Lib.hid HS8.out.drew, hkp.trans HK8.out.drew⟩
        case measure => simp [intOf]; omega
      · have hbit : (bits BinOp.and IntKind.u64 (x / 2 ^ k) 1 == 1) = true := hb
        simp only [hb, if_true] at HT
        clear hb
        have c0 : wr.cell? ⟨b, k * 8, none⟩ = some (.int .u64 (n.getD (k * 8) 0)) := by rw [hh.2.cell, St.at_now hh.1 _ (by omega)]
        have d0 : wr.cell? ⟨b, 72 + k * 8, none⟩ = some (.int .u64 (g.getD (k * 8) 0)) := by rw [hh.2.cell, show 72 + k * 8 = 72 + (k * 8) from by omega, St.at_good hh.1 _ (by omega)]
        have f0 := hh.2.frozen (72 + k * 8)
        have c1 : wr.cell? ⟨b, k * 8 + 1, none⟩ = some (.int .u64 (n.getD (k * 8 + 1) 0)) := by rw [hh.2.cell, St.at_now hh.1 _ (by omega)]
        have d1 : wr.cell? ⟨b, 72 + k * 8 + 1, none⟩ = some (.int .u64 (g.getD (k * 8 + 1) 0)) := by rw [hh.2.cell, show 72 + k * 8 + 1 = 72 + (k * 8 + 1) from by omega, St.at_good hh.1 _ (by omega)]
        have f1 := hh.2.frozen (72 + k * 8 + 1)
        have c2 : wr.cell? ⟨b, k * 8 + 2, none⟩ = some (.int .u64 (n.getD (k * 8 + 2) 0)) := by rw [hh.2.cell, St.at_now hh.1 _ (by omega)]
        have d2 : wr.cell? ⟨b, 72 + k * 8 + 2, none⟩ = some (.int .u64 (g.getD (k * 8 + 2) 0)) := by rw [hh.2.cell, show 72 + k * 8 + 2 = 72 + (k * 8 + 2) from by omega, St.at_good hh.1 _ (by omega)]
        have f2 := hh.2.frozen (72 + k * 8 + 2)
        have c3 : wr.cell? ⟨b, k * 8 + 3, none⟩ = some (.int .u64 (n.getD (k * 8 + 3) 0)) := by rw [hh.2.cell, St.at_now hh.1 _ (by omega)]
        have d3 : wr.cell? ⟨b, 72 + k * 8 + 3, none⟩ = some (.int .u64 (g.getD (k * 8 + 3) 0)) := by rw [hh.2.cell, show 72 + k * 8 + 3 = 72 + (k * 8 + 3) from by omega, St.at_good hh.1 _ (by omega)]
        have f3 := hh.2.frozen (72 + k * 8 + 3)
        have c4 : wr.cell? ⟨b, k * 8 + 4, none⟩ = some (.int .u64 (n.getD (k * 8 + 4) 0)) := by rw [hh.2.cell, St.at_now hh.1 _ (by omega)]
        have d4 : wr.cell? ⟨b, 72 + k * 8 + 4, none⟩ = some (.int .u64 (g.getD (k * 8 + 4) 0)) := by rw [hh.2.cell, show 72 + k * 8 + 4 = 72 + (k * 8 + 4) from by omega, St.at_good hh.1 _ (by omega)]
        have f4 := hh.2.frozen (72 + k * 8 + 4)
        have c5 : wr.cell? ⟨b, k * 8 + 5, none⟩ = some (.int .u64 (n.getD (k * 8 + 5) 0)) := by rw [hh.2.cell, St.at_now hh.1 _ (by omega)]
        have d5 : wr.cell? ⟨b, 72 + k * 8 + 5, none⟩ = some (.int .u64 (g.getD (k * 8 + 5) 0)) := by rw [hh.2.cell, show 72 + k * 8 + 5 = 72 + (k * 8 + 5) from by omega, St.at_good hh.1 _ (by omega)]
        have f5 := hh.2.frozen (72 + k * 8 + 5)
        have c6 : wr.cell? ⟨b, k * 8 + 6, none⟩ = some (.int .u64 (n.getD (k * 8 + 6) 0)) := by rw [hh.2.cell, St.at_now hh.1 _ (by omega)]
        have d6 : wr.cell? ⟨b, 72 + k * 8 + 6, none⟩ = some (.int .u64 (g.getD (k * 8 + 6) 0)) := by rw [hh.2.cell, show 72 + k * 8 + 6 = 72 + (k * 8 + 6) from by omega, St.at_good hh.1 _ (by omega)]
        have f6 := hh.2.frozen (72 + k * 8 + 6)
        have c7 : wr.cell? ⟨b, k * 8 + 7, none⟩ = some (.int .u64 (n.getD (k * 8 + 7) 0)) := by rw [hh.2.cell, St.at_now hh.1 _ (by omega)]
        have d7 : wr.cell? ⟨b, 72 + k * 8 + 7, none⟩ = some (.int .u64 (g.getD (k * 8 + 7) 0)) := by rw [hh.2.cell, show 72 + k * 8 + 7 = 72 + (k * 8 + 7) from by omega, St.at_good hh.1 _ (by omega)]
        have f7 := hh.2.frozen (72 + k * 8 + 7)
        have HS1 := Lib.hid (hh.good8 k (by omega) (n.getD (k * 8) 0) (n.getD (k * 8 + 1) 0) (n.getD (k * 8 + 2) 0) (n.getD (k * 8 + 3) 0) (n.getD (k * 8 + 4) 0) (n.getD (k * 8 + 5) 0) (n.getD (k * 8 + 6) 0) (n.getD (k * 8 + 7) 0))
        have HK1 := Lib.hid (kept8 wr b k (72 + k * 8) (n.getD (k * 8) 0) (n.getD (k * 8 + 1) 0) (n.getD (k * 8 + 2) 0) (n.getD (k * 8 + 3) 0) (n.getD (k * 8 + 4) 0) (n.getD (k * 8 + 5) 0) (n.getD (k * 8 + 6) 0) (n.getD (k * 8 + 7) 0))
        have HG : Hid (cpLine g n k = (List.set (List.set (List.set (List.set (List.set (List.set (List.set (List.set g (k * 8) (n.getD (k * 8) 0)) (k * 8 + 1) (n.getD (k * 8 + 1) 0)) (k * 8 + 2) (n.getD (k * 8 + 2) 0)) (k * 8 + 3) (n.getD (k * 8 + 3) 0)) (k * 8 + 4) (n.getD (k * 8 + 4) 0)) (k * 8 + 5) (n.getD (k * 8 + 5) 0)) (k * 8 + 6) (n.getD (k * 8 + 6) 0)) (k * 8 + 7) (n.getD (k * 8 + 7) 0))) := rfl
        clear hh
        generalize n.getD (k * 8) 0 = x0 at *
        generalize g.getD (k * 8) 0 = y0 at *
        generalize n.getD (k * 8 + 1) 0 = x1 at *
        generalize g.getD (k * 8 + 1) 0 = y1 at *
        generalize n.getD (k * 8 + 2) 0 = x2 at *
        generalize g.getD (k * 8 + 2) 0 = y2 at *
        generalize n.getD (k * 8 + 3) 0 = x3 at *
        generalize g.getD (k * 8 + 3) 0 = y3 at *
        generalize n.getD (k * 8 + 4) 0 = x4 at *
        generalize g.getD (k * 8 + 4) 0 = y4 at *
        generalize n.getD (k * 8 + 5) 0 = x5 at *
        generalize g.getD (k * 8 + 5) 0 = y5 at *
        generalize n.getD (k * 8 + 6) 0 = x6 at *
        generalize g.getD (k * 8 + 6) 0 = y6 at *
        generalize n.getD (k * 8 + 7) 0 = x7 at *
        generalize g.getD (k * 8 + 7) 0 = y7 at *
        go_wp2_with fail
        go_region
        have HW : Hid (StoreAt ((((((((wr.setCell ⟨b, 72 + k * 8, none⟩ (.int .u64 x0)).setCell ⟨b, 72 + k * 8 + 1, none⟩ (.int .u64 x1)).setCell ⟨b, 72 + k * 8 + 2, none⟩ (.int .u64 x2)).setCell ⟨b, 72 + k * 8 + 3, none⟩ (.int .u64 x3)).setCell ⟨b, 72 + k * 8 + 4, none⟩ (.int .u64 x4)).setCell ⟨b, 72 + k * 8 + 5, none⟩ (.int .u64 x5)).setCell ⟨b, 72 + k * 8 + 6, none⟩ (.int .u64 x6)).setCell ⟨b, 72 + k * 8 + 7, none⟩ (.int .u64 x7)).drew b { S with now := n, good := (List.set (List.set (List.set (List.set (List.set (List.set (List.set (List.set g (k * 8) x0) (k * 8 + 1) x1) (k * 8 + 2) x2) (k * 8 + 3) x3) (k * 8 + 4) x4) (k * 8 + 5) x5) (k * 8 + 6) x6) (k * 8 + 7) x7) }) := HS1.out.drew
        have HKW : Hid (Kept (· = b) w ((((((((wr.setCell ⟨b, 72 + k * 8, none⟩ (.int .u64 x0)).setCell ⟨b, 72 + k * 8 + 1, none⟩ (.int .u64 x1)).setCell ⟨b, 72 + k * 8 + 2, none⟩ (.int .u64 x2)).setCell ⟨b, 72 + k * 8 + 3, none⟩ (.int .u64 x3)).setCell ⟨b, 72 + k * 8 + 4, none⟩ (.int .u64 x4)).setCell ⟨b, 72 + k * 8 + 5, none⟩ (.int .u64 x5)).setCell ⟨b, 72 + k * 8 + 6, none⟩ (.int .u64 x6)).setCell ⟨b, 72 + k * 8 + 7, none⟩ (.int .u64 x7)).drew) := hkp.trans HK1.out.drew
        rw [← HG.out] at HW
        clear HS1 HK1 hkp HG c0 c1 c2 c3 c4 c5 c6 c7 d0 d1 d2 d3 d4 d5 d6 d7 f0 f1 f2 f3 f4 f5 f6 f7
        generalize ((((((((wr.setCell ⟨b, 72 + k * 8, none⟩ (.int .u64 x0)).setCell ⟨b, 72 + k * 8 + 1, none⟩ (.int .u64 x1)).setCell ⟨b, 72 + k * 8 + 2, none⟩ (.int .u64 x2)).setCell ⟨b, 72 + k * 8 + 3, none⟩ (.int .u64 x3)).setCell ⟨b, 72 + k * 8 + 4, none⟩ (.int .u64 x4)).setCell ⟨b, 72 + k * 8 + 5, none⟩ (.int .u64 x5)).setCell ⟨b, 72 + k * 8 + 6, none⟩ (.int .u64 x6)).setCell ⟨b, 72 + k * 8 + 7, none⟩ (.int .u64 x7)).drew = wm at *
        clear y0 y1 y2 y3 y4 y5 y6 y7
        generalize cpLine g n k = g2 at *
        have hh := HW.out
        clear HW
        have c0 : wm.cell? ⟨b, k * 8, none⟩ = some (.int .u64 (n.getD (k * 8) 0)) := by rw [hh.2.cell, St.at_now hh.1 _ (by omega)]
        have d0 : wm.cell? ⟨b, 72 + k * 8, none⟩ = some (.int .u64 (g2.getD (k * 8) 0)) := by rw [hh.2.cell, show 72 + k * 8 = 72 + (k * 8) from by omega, St.at_good hh.1 _ (by omega)]
        have f0 := hh.2.frozen (72 + k * 8)
        have c1 : wm.cell? ⟨b, k * 8 + 1, none⟩ = some (.int .u64 (n.getD (k * 8 + 1) 0)) := by rw [hh.2.cell, St.at_now hh.1 _ (by omega)]
        have d1 : wm.cell? ⟨b, 72 + k * 8 + 1, none⟩ = some (.int .u64 (g2.getD (k * 8 + 1) 0)) := by rw [hh.2.cell, show 72 + k * 8 + 1 = 72 + (k * 8 + 1) from by omega, St.at_good hh.1 _ (by omega)]
        have f1 := hh.2.frozen (72 + k * 8 + 1)
        have c2 : wm.cell? ⟨b, k * 8 + 2, none⟩ = some (.int .u64 (n.getD (k * 8 + 2) 0)) := by rw [hh.2.cell, St.at_now hh.1 _ (by omega)]
        have d2 : wm.cell? ⟨b, 72 + k * 8 + 2, none⟩ = some (.int .u64 (g2.getD (k * 8 + 2) 0)) := by rw [hh.2.cell, show 72 + k * 8 + 2 = 72 + (k * 8 + 2) from by omega, St.at_good hh.1 _ (by omega)]
        have f2 := hh.2.frozen (72 + k * 8 + 2)
        have c3 : wm.cell? ⟨b, k * 8 + 3, none⟩ = some (.int .u64 (n.getD (k * 8 + 3) 0)) := by rw [hh.2.cell, St.at_now hh.1 _ (by omega)]
        have d3 : wm.cell? ⟨b, 72 + k * 8 + 3, none⟩ = some (.int .u64 (g2.getD (k * 8 + 3) 0)) := by rw [hh.2.cell, show 72 + k * 8 + 3 = 72 + (k * 8 + 3) from by omega, St.at_good hh.1 _ (by omega)]
        have f3 := hh.2.frozen (72 + k * 8 + 3)
        have c4 : wm.cell? ⟨b, k * 8 + 4, none⟩ = some (.int .u64 (n.getD (k * 8 + 4) 0)) := by rw [hh.2.cell, St.at_now hh.1 _ (by omega)]
        have d4 : wm.cell? ⟨b, 72 + k * 8 + 4, none⟩ = some (.int .u64 (g2.getD (k * 8 + 4) 0)) := by rw [hh.2.cell, show 72 + k * 8 + 4 = 72 + (k * 8 + 4) from by omega, St.at_good hh.1 _ (by omega)]
        have f4 := hh.2.frozen (72 + k * 8 + 4)
        have c5 : wm.cell? ⟨b, k * 8 + 5, none⟩ = some (.int .u64 (n.getD (k * 8 + 5) 0)) := by rw [hh.2.cell, St.at_now hh.1 _ (by omega)]
        have d5 : wm.cell? ⟨b, 72 + k * 8 + 5, none⟩ = some (.int .u64 (g2.getD (k * 8 + 5) 0)) := by rw [hh.2.cell, show 72 + k * 8 + 5 = 72 + (k * 8 + 5) from by omega, St.at_good hh.1 _ (by omega)]
        have f5 := hh.2.frozen (72 + k * 8 + 5)
        have c6 : wm.cell? ⟨b, k * 8 + 6, none⟩ = some (.int .u64 (n.getD (k * 8 + 6) 0)) := by rw [hh.2.cell, St.at_now hh.1 _ (by omega)]
        have d6 : wm.cell? ⟨b, 72 + k * 8 + 6, none⟩ = some (.int .u64 (g2.getD (k * 8 + 6) 0)) := by rw [hh.2.cell, show 72 + k * 8 + 6 = 72 + (k * 8 + 6) from by omega, St.at_good hh.1 _ (by omega)]
        have f6 := hh.2.frozen (72 + k * 8 + 6)
        have c7 : wm.cell? ⟨b, k * 8 + 7, none⟩ = some (.int .u64 (n.getD (k * 8 + 7) 0)) := by rw [hh.2.cell, St.at_now hh.1 _ (by omega)]
        have d7 : wm.cell? ⟨b, 72 + k * 8 + 7, none⟩ = some (.int .u64 (g2.getD (k * 8 + 7) 0)) := by rw [hh.2.cell, show 72 + k * 8 + 7 = 72 + (k * 8 + 7) from by omega, St.at_good hh.1 _ (by omega)]
        have f7 := hh.2.frozen (72 + k * 8 + 7)
        have e0 := hh.2.frozen (k * 8)
        have e1 := hh.2.frozen (k * 8 + 1)
        have e2 := hh.2.frozen (k * 8 + 2)
        have e3 := hh.2.frozen (k * 8 + 3)
        have e4 := hh.2.frozen (k * 8 + 4)
        have e5 := hh.2.frozen (k * 8 + 5)
        have e6 := hh.2.frozen (k * 8 + 6)
        have e7 := hh.2.frozen (k * 8 + 7)
        have HS8 := Lib.hid (hh.now8 k (by omega) (g2.getD (k * 8) 0) (g2.getD (k * 8 + 1) 0) (g2.getD (k * 8 + 2) 0) (g2.getD (k * 8 + 3) 0) (g2.getD (k * 8 + 4) 0) (g2.getD (k * 8 + 5) 0) (g2.getD (k * 8 + 6) 0) (g2.getD (k * 8 + 7) 0))
        have HK8 := Lib.hid (kept8 wm b k (k * 8) (g2.getD (k * 8) 0) (g2.getD (k * 8 + 1) 0) (g2.getD (k * 8 + 2) 0) (g2.getD (k * 8 + 3) 0) (g2.getD (k * 8 + 4) 0) (g2.getD (k * 8 + 5) 0) (g2.getD (k * 8 + 6) 0) (g2.getD (k * 8 + 7) 0))
        have HN : Hid (cpLine n g2 k = (List.set (List.set (List.set (List.set (List.set (List.set (List.set (List.set n (k * 8) (g2.getD (k * 8) 0)) (k * 8 + 1) (g2.getD (k * 8 + 1) 0)) (k * 8 + 2) (g2.getD (k * 8 + 2) 0)) (k * 8 + 3) (g2.getD (k * 8 + 3) 0)) (k * 8 + 4) (g2.getD (k * 8 + 4) 0)) (k * 8 + 5) (g2.getD (k * 8 + 5) 0)) (k * 8 + 6) (g2.getD (k * 8 + 6) 0)) (k * 8 + 7) (g2.getD (k * 8 + 7) 0))) := rfl
        clear hh
        generalize n.getD (k * 8) 0 = x0 at *
        generalize g2.getD (k * 8) 0 = y0 at *
        generalize n.getD (k * 8 + 1) 0 = x1 at *
        generalize g2.getD (k * 8 + 1) 0 = y1 at *
        generalize n.getD (k * 8 + 2) 0 = x2 at *
        generalize g2.getD (k * 8 + 2) 0 = y2 at *
        generalize n.getD (k * 8 + 3) 0 = x3 at *
        generalize g2.getD (k * 8 + 3) 0 = y3 at *
        generalize n.getD (k * 8 + 4) 0 = x4 at *
        generalize g2.getD (k * 8 + 4) 0 = y4 at *
        generalize n.getD (k * 8 + 5) 0 = x5 at *
        generalize g2.getD (k * 8 + 5) 0 = y5 at *
        generalize n.getD (k * 8 + 6) 0 = x6 at *
        generalize g2.getD (k * 8 + 6) 0 = y6 at *
        generalize n.getD (k * 8 + 7) 0 = x7 at *
        generalize g2.getD (k * 8 + 7) 0 = y7 at *
        go_wp2_with fail
        go_region
        go_wp2_with fail
        go_roundw
        case rel => exact ⟨k + 1, by omega, by go_num, by rw [HT.out, HN.out]; exact Lib.hid HS8.out.drew, HKW.out.trans HK8.out.drew⟩
        case measure => simp [intOf]; omega
    · obtain rfl : k = 9 := by omega
      have hh := hs.out
      clear hs HS
      have hcs : Hid (crashSt S x = { S with now := (crashTo S x 9).1, good := (crashTo S x 9).2, wanted := List.replicate 36 false }) := by unfold Hid crashSt; rfl
      generalize (crashTo S x 9).1 = n at *
      generalize (crashTo S x 9).2 = g at *
      have hsp := spl_wanted hh.1
      have hB := hh.2
      have hlen := St.cells_len hh.1
      have HE : Hid (StoreAt (setBlk wr b (spl ({ S with now := n, good := g } : St).cells 144 (List.replicate 36 (Value.bool false)))) b { S with now := n, good := g, wanted := List.replicate 36 false }) := by
        refine ⟨⟨hh.1.1, hh.1.2.1, rfl⟩, ?_⟩
        have := hB.setBlk (spl ({ S with now := n, good := g } : St).cells 144 (List.replicate 36 (Value.bool false)))
        rw [hsp] at this ⊢
        exact this
      rw [← hcs.out] at HE
      have HL := Lib.hid hlen
      have HB := Lib.hid hB
      clear hsp hlen hB hh
      generalize ({ S with now := n, good := g } : St).cells = C at *
      go_wp2_with (refine wpList_store_part rfl 85 _ _ rfl b 144 36 (List.replicate 36 (Value.bool false)) rfl rfl 87 C HB.out rfl (by rw [HL.out]; decide) (by kernel_rfl) (by intro v hv; rw [List.eq_of_mem_replicate hv]; rfl) ?_)
      go_end0
      exact ⟨rfl, HE.out, hkp.trans (Kept.setBlk _ _ _)⟩
end Go.Proofs.Ytakemnpicokaiaa
