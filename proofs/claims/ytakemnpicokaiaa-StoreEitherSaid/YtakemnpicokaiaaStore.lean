/- The contracts of the Store's methods: a Store is a block of 182 cells. -/
import Derived.Test.YtakemnpicokaiaaRows
import Derived.Test.YtakemnpicokaiaaRowOps
import Derived.Deep.RegionLaw
import Derived.BigQuiet
namespace Go.Proofs.Ytakemnpicokaiaa
open Go.RowKit

/-- A Store's state: 72 words as they are, 72 as they stay, 36 wishes, two counters. -/
structure St where
  now : List Int
  good : List Int
  wanted : List Bool
  flushes : Int
  fences : Int
namespace St
def cells (S : St) : List Value := S.now.map (Value.int .u64) ++ (S.good.map (Value.int .u64) ++ (S.wanted.map Value.bool ++ [.int .i64 S.flushes, .int .i64 S.fences]))
def ok (S : St) : Prop := S.now.length = 72 ∧ S.good.length = 72 ∧ S.wanted.length = 36
def init : St := ⟨List.replicate 72 0, List.replicate 72 0, List.replicate 36 false, 0, 0⟩
theorem cells_len {S : St} (h : S.ok) : S.cells.length = 182 := by obtain ⟨a, b, c⟩ := h; simp [cells, a, b, c]
theorem at_now {S : St} (h : S.ok) (i : Nat) (hi : i < 72) : S.cells[i]? = some (.int .u64 (S.now.getD i 0)) := by
  obtain ⟨a, b, c⟩ := h
  unfold cells
  rw [List.getElem?_append_left (by simp; omega), List.getElem?_map, List.getElem?_eq_getElem (by omega), List.getD_eq_getElem?_getD, List.getElem?_eq_getElem (by omega)]; rfl
theorem at_good {S : St} (h : S.ok) (i : Nat) (hi : i < 72) : S.cells[72 + i]? = some (.int .u64 (S.good.getD i 0)) := by
  obtain ⟨a, b, c⟩ := h
  unfold cells
  rw [List.getElem?_append_right (by simp; omega), List.getElem?_append_left (by simp; omega), List.length_map, a, Nat.add_sub_cancel_left, List.getElem?_map, List.getElem?_eq_getElem (by omega), List.getD_eq_getElem?_getD, List.getElem?_eq_getElem (by omega)]; rfl
theorem at_wanted {S : St} (h : S.ok) (i : Nat) (hi : i < 36) : S.cells[144 + i]? = some (.bool (S.wanted.getD i false)) := by
  obtain ⟨a, b, c⟩ := h
  unfold cells
  rw [List.getElem?_append_right (by simp; omega), List.getElem?_append_right (by simp; omega), List.getElem?_append_left (by simp; omega), List.length_map, List.length_map, a, b,
    show 144 + i - 72 - 72 = i from by omega, List.getElem?_map, List.getElem?_eq_getElem (by omega), List.getD_eq_getElem?_getD, List.getElem?_eq_getElem (by omega)]; rfl
theorem at_flushes {S : St} (h : S.ok) : S.cells[180]? = some (.int .i64 S.flushes) := by
  obtain ⟨a, b, c⟩ := h
  unfold cells
  rw [List.getElem?_append_right (by simp; omega), List.getElem?_append_right (by simp; omega), List.getElem?_append_right (by simp; omega)]
  simp [a, b, c]
theorem at_fences {S : St} (h : S.ok) : S.cells[181]? = some (.int .i64 S.fences) := by
  obtain ⟨a, b, c⟩ := h
  unfold cells
  rw [List.getElem?_append_right (by simp; omega), List.getElem?_append_right (by simp; omega), List.getElem?_append_right (by simp; omega)]
  simp [a, b, c]
theorem set_now {S : St} (h : S.ok) (i : Nat) (hi : i < 72) (x : Int) : S.cells.set i (.int .u64 x) = ({ S with now := S.now.set i x } : St).cells := by
  obtain ⟨a, b, c⟩ := h
  unfold cells
  rw [List.set_append_left _ _ (by simp; omega), List.map_set]
theorem set_wanted {S : St} (h : S.ok) (i : Nat) (hi : i < 36) (x : Bool) : S.cells.set (144 + i) (.bool x) = ({ S with wanted := S.wanted.set i x } : St).cells := by
  obtain ⟨a, b, c⟩ := h
  unfold cells
  rw [List.set_append_right _ _ (by simp; omega), List.set_append_right _ _ (by simp; omega), List.set_append_left _ _ (by simp; omega)]
  simp [a, b, List.map_set, show 144 + i - 72 - 72 = i from by omega]
theorem set_flushes {S : St} (h : S.ok) (x : Int) : S.cells.set 180 (.int .i64 x) = ({ S with flushes := x } : St).cells := by
  obtain ⟨a, b, c⟩ := h
  unfold cells
  rw [List.set_append_right _ _ (by simp; omega), List.set_append_right _ _ (by simp; omega), List.set_append_right _ _ (by simp; omega)]
  simp [a, b, c]
theorem set_fences {S : St} (h : S.ok) (x : Int) : S.cells.set 181 (.int .i64 x) = ({ S with fences := x } : St).cells := by
  obtain ⟨a, b, c⟩ := h
  unfold cells
  rw [List.set_append_right _ _ (by simp; omega), List.set_append_right _ _ (by simp; omega), List.set_append_right _ _ (by simp; omega)]
  simp [a, b, c]
end St
/-- Block b is a Store in the state S. -/
def StoreAt (w : World) (b : Nat) (S : St) : Prop := S.ok ∧ Blk w b S.cells 87
theorem StoreAt.kept {S : Nat → Prop} {w w' : World} {b : Nat} {s : St} (h : StoreAt w b s) (k : Kept S w w') (hn : ¬ S b) : StoreAt w' b s := ⟨h.1, h.2.kept k hn⟩
theorem StoreAt.below {w w' : World} {b : Nat} {s : St} (h : StoreAt w b s) (k : Below w.heap.size w w') : StoreAt w' b s := ⟨h.1, h.2.below k⟩

theorem sright_any (a : Int) (w : World) :
    Calls Try.prog 45 #[.int .i64 a] w fun e w' => e = .returned (.bool (decide (0 ≤ a ∧ a < 72))) ∧ w = w' := by
  by_cases h0 : 0 ≤ a
  · by_cases h1 : a < 72
    · go_enter Try.func45, Try.ntmps45
      go_wp2
      go_ret
      exact ⟨by simp [h0, h1], rfl⟩
    · go_enter Try.func45, Try.ntmps45
      go_wp2
      go_ret
      exact ⟨by simp [h1], rfl⟩
  · go_enter Try.func45, Try.ntmps45
    go_wp2
    go_ret
    exact ⟨by simp; omega, rfl⟩
theorem sright_yes (a : Int) (w : World) (h0 : 0 ≤ a) (h1 : a < 72) :
    Calls Try.prog 45 #[.int .i64 a] w fun e w' => e = .returned (.bool true) ∧ w = w' :=
  (sright_any a w).mono fun _ _ ⟨h, k⟩ => ⟨by rw [h]; simp [h0, h1], k⟩
theorem store_load (w : World) (b : Nat) (S : St) (a : Int) (h : StoreAt w b S) (h0 : 0 ≤ a) (h1 : a < 72) :
    Calls Try.prog 30 #[.pointer (some ⟨b, 0, none⟩), .int .i64 a] w fun e w' => e = .returned (.tuple #[.int .u64 (S.now.getD a.toNat 0), .nilIface]) ∧ w = w' := by
  obtain ⟨n, rfl⟩ := Int.eq_ofNat_of_zero_le h0
  have c : w.cell? ⟨b, n / 8 * 8 + n % 8, none⟩ = some (.int .u64 (S.now.getD n 0)) := by
    rw [show n / 8 * 8 + n % 8 = n from by omega, h.2.cell, St.at_now h.1 n (by omega)]
  rw [Int.toNat_natCast]
  generalize S.now.getD n 0 = x at *
  clear h
  go_enter Try.func30, Try.ntmps30
  go_wp2_with (go_at_call 45; refine (sright_yes _ _ (by omega) (by omega)).mono ?_; rintro e w' ⟨rfl, rfl⟩)
  go_ret2
  exact ⟨rfl, rfl⟩
theorem store_save (w : World) (b : Nat) (S : St) (a x : Int) (h : StoreAt w b S) (h0 : 0 ≤ a) (h1 : a < 72) :
    Calls Try.prog 31 #[.pointer (some ⟨b, 0, none⟩), .int .i64 a, .int .u64 x] w fun e w' => e = .returned .nilIface ∧ StoreAt w' b { S with now := S.now.set a.toNat x } ∧ Kept (· = b) w w' := by
  obtain ⟨n, rfl⟩ := Int.eq_ofNat_of_zero_le h0
  have e8 : n / 8 * 8 + n % 8 = n := by omega
  have c : w.cell? ⟨b, n / 8 * 8 + n % 8, none⟩ = some (.int .u64 (S.now.getD n 0)) := by
    rw [e8, h.2.cell, St.at_now h.1 n (by omega)]
  have f := h.2.frozen (n / 8 * 8 + n % 8)
  have hs : StoreAt (w.setCell ⟨b, n / 8 * 8 + n % 8, none⟩ (.int .u64 x)) b { S with now := S.now.set n x } := by
    rw [e8]
    refine ⟨⟨by simpa using h.1.1, h.1.2.1, h.1.2.2⟩, ?_⟩
    rw [← St.set_now h.1 n (by omega)]
    exact h.2.set n _
  have HS := Lib.hid hs
  have HK := Lib.hid ((Kept.refl _ w).own (k := b) (n / 8 * 8 + n % 8) (.int .u64 x))
  rw [Int.toNat_natCast]
  generalize S.now.getD n 0 = y at *
  clear h hs e8
  go_enter Try.func31, Try.ntmps31
  go_wp2_with (go_at_call 45; refine (sright_yes _ _ (by omega) (by omega)).mono ?_; rintro e w' ⟨rfl, rfl⟩)
  go_ret
  exact ⟨rfl, HS.out, HK.out⟩
theorem store_flush (w : World) (b : Nat) (S : St) (t l : Int) (h : StoreAt w b S) (h0 : 0 ≤ t) (h1 : t < 4) (h2 : 0 ≤ l) (h3 : l < 9) :
    Calls Try.prog 33 #[.pointer (some ⟨b, 0, none⟩), .int .i64 t, .int .i64 l] w fun e w' => e = .returned .nilIface ∧
      StoreAt w' b { S with wanted := S.wanted.set (t.toNat * 9 + l.toNat) true, flushes := wrap64 (S.flushes + 1) } ∧ Kept (· = b) w w' := by
  obtain ⟨t, rfl⟩ := Int.eq_ofNat_of_zero_le h0
  obtain ⟨l, rfl⟩ := Int.eq_ofNat_of_zero_le h2
  rw [Int.toNat_natCast, Int.toNat_natCast]
  have hi : t * 9 + l < 36 := by omega
  have c1 : w.cell? ⟨b, 144 + t * 9 + l, none⟩ = some (.bool (S.wanted.getD (t * 9 + l) false)) := by
    rw [show 144 + t * 9 + l = 144 + (t * 9 + l) from by omega, h.2.cell, St.at_wanted h.1 _ hi]
  have f1 := h.2.frozen (144 + t * 9 + l)
  have c2 : w.cell? ⟨b, 180, none⟩ = some (.int .i64 S.flushes) := by rw [h.2.cell, St.at_flushes h.1]
  have f2 := h.2.frozen 180
  have hne : 144 + t * 9 + l ≠ 180 := by omega
  have hs : StoreAt ((w.setCell ⟨b, 144 + t * 9 + l, none⟩ (.bool true)).setCell ⟨b, 180, none⟩ (.int .i64 (wrap64 (S.flushes + 1)))) b { S with wanted := S.wanted.set (t * 9 + l) true, flushes := wrap64 (S.flushes + 1) } := by
    refine ⟨⟨h.1.1, h.1.2.1, by simpa using h.1.2.2⟩, ?_⟩
    have e1 := (h.2.set (144 + (t * 9 + l)) (.bool true))
    rw [St.set_wanted h.1 _ hi, show 144 + (t * 9 + l) = 144 + t * 9 + l from by omega] at e1
    have e2 := e1.set 180 (.int .i64 (wrap64 (S.flushes + 1)))
    rwa [St.set_flushes (S := { S with wanted := S.wanted.set (t * 9 + l) true }) ⟨h.1.1, h.1.2.1, by simpa using h.1.2.2⟩] at e2
  have HS := Lib.hid hs
  have HK := Lib.hid (((Kept.refl _ w).own (k := b) (144 + t * 9 + l) (.bool true)).own 180 (.int .i64 (wrap64 (S.flushes + 1))))
  generalize S.wanted.getD (t * 9 + l) false = y at *
  generalize S.flushes = z at *
  clear h hs
  go_enter Try.func33, Try.ntmps33
  go_wp2_with fail
  go_ret
  exact ⟨rfl, HS.out, HK.out⟩
end Go.Proofs.Ytakemnpicokaiaa
