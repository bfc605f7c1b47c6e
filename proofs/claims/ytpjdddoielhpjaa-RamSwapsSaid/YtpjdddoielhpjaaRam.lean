/- The contracts of the Ram's methods: a Ram is a block of sixteen words. -/
import Derived.Test.YtpjdddoielhpjaaRows
import Derived.Test.YtpjdddoielhpjaaKeep
namespace Go.Proofs.Ytpjdddoielhpjaa
open Go.RowKit

/-- Block b is a Ram whose words are r. -/
def RamAt (w : World) (b : Nat) (r : List Int) : Prop := r.length = 16 ∧ Blk w b (r.map (Value.int .u64)) 40
theorem RamAt.cell {w : World} {b : Nat} {r : List Int} (h : RamAt w b r) (a : Nat) (ha : a < 16) : w.cell? ⟨b, a, none⟩ = some (.int .u64 (r[a]?.getD 0)) := by
  have h1 := h.1
  rw [h.2.cell, List.getElem?_map, List.getElem?_eq_getElem (by omega)]; rfl
theorem RamAt.set {w : World} {b : Nat} {r : List Int} (h : RamAt w b r) (a : Nat) (x : Int) : RamAt (w.setCell ⟨b, a, none⟩ (.int .u64 x)) b (r.set a x) :=
  ⟨by simpa using h.1, by have := h.2.set a (.int .u64 x); rwa [← List.map_set] at this⟩
theorem RamAt.kept {S : Nat → Prop} {w w' : World} {b : Nat} {r : List Int} (h : RamAt w b r) (k : Kept S w w') (hn : ¬ S b) : RamAt w' b r := ⟨h.1, h.2.kept k hn⟩

theorem ram_load (w : World) (b : Nat) (r : List Int) (a : Int) (h : RamAt w b r) (h0 : 0 ≤ a) (h1 : a < 16) :
    Calls Try.prog 21 #[.pointer (some ⟨b, 0, none⟩), .int .i64 a] w fun e w' => e = .returned (.tuple #[.int .u64 (r[a.toNat]?.getD 0), .nilIface]) ∧ w = w' := by
  obtain ⟨n, rfl⟩ := Int.eq_ofNat_of_zero_le h0
  have hc := h.cell n (by omega)
  rw [Int.toNat_natCast]
  generalize r[n]?.getD 0 = x at *
  clear h
  go_enter Try.func21, Try.ntmps21
  go_wp2
  go_ret2
  exact ⟨rfl, rfl⟩
theorem ram_save (w : World) (b : Nat) (r : List Int) (a x : Int) (h : RamAt w b r) (h0 : 0 ≤ a) (h1 : a < 16) :
    Calls Try.prog 20 #[.pointer (some ⟨b, 0, none⟩), .int .i64 a, .int .u64 x] w fun e w' => e = .returned .nilIface ∧ RamAt w' b (r.set a.toNat x) ∧ Kept (· = b) w w' := by
  obtain ⟨n, rfl⟩ := Int.eq_ofNat_of_zero_le h0
  have hc := h.cell n (by omega)
  have hf := h.2.frozen n
  have H1 := Lib.hid (h.set n x)
  have H2 := Lib.hid ((Kept.refl _ w).own (k := b) n (.int .u64 x))
  rw [Int.toNat_natCast]
  generalize r[n]?.getD 0 = y at *
  clear h
  go_enter Try.func20, Try.ntmps20
  go_wp2
  go_ret
  exact ⟨rfl, H1.out, H2.out⟩
theorem ram_swap_yes (w : World) (b : Nat) (r : List Int) (a o x : Int) (h : RamAt w b r) (h0 : 0 ≤ a) (h1 : a < 16) (hx : r[a.toNat]?.getD 0 = o) :
    Calls Try.prog 22 #[.pointer (some ⟨b, 0, none⟩), .int .i64 a, .int .u64 o, .int .u64 x] w fun e w' => e = .returned (.tuple #[.bool true, .nilIface]) ∧ RamAt w' b (r.set a.toNat x) ∧ Kept (· = b) w w' := by
  obtain ⟨n, rfl⟩ := Int.eq_ofNat_of_zero_le h0
  have hc := h.cell n (by omega)
  have hf := h.2.frozen n
  have H1 := Lib.hid (h.set n x)
  have H2 := Lib.hid ((Kept.refl _ w).own (k := b) n (.int .u64 x))
  rw [Int.toNat_natCast] at *
  rw [hx] at hc
  clear h hx
  go_enter Try.func22, Try.ntmps22
  go_wp2
  go_ret2
  exact ⟨rfl, H1.out, H2.out⟩
theorem ram_swap_no (w : World) (b : Nat) (r : List Int) (a o x : Int) (h : RamAt w b r) (h0 : 0 ≤ a) (h1 : a < 16) (hx : r[a.toNat]?.getD 0 ≠ o) :
    Calls Try.prog 22 #[.pointer (some ⟨b, 0, none⟩), .int .i64 a, .int .u64 o, .int .u64 x] w fun e w' => e = .returned (.tuple #[.bool false, .nilIface]) ∧ w = w' := by
  obtain ⟨n, rfl⟩ := Int.eq_ofNat_of_zero_le h0
  have hc := h.cell n (by omega)
  rw [Int.toNat_natCast] at *
  generalize r[n]?.getD 0 = y at *
  have hn : (y == o) = false := by simpa using hx
  have hn' : (y != o) = true := by simpa using hx
  clear h hx
  go_enter Try.func22, Try.ntmps22
  go_wp2
  go_ret2
  exact ⟨rfl, rfl⟩
theorem clear16 (r : List Int) (h : r.length = 16) : ((((((((((((((((r.set 0 0).set 1 0).set 2 0).set 3 0).set 4 0).set 5 0).set 6 0).set 7 0).set 8 0).set 9 0).set 10 0).set 11 0).set 12 0).set 13 0).set 14 0).set 15 0) = List.replicate 16 0 := by
  match r, h with
  | [_, _, _, _, _, _, _, _, _, _, _, _, _, _, _, _], _ => rfl
theorem ram_clear (w : World) (b : Nat) (r : List Int) (h : RamAt w b r) :
    Calls Try.prog 23 #[.pointer (some ⟨b, 0, none⟩)] w fun e w' => e = .returned (.tuple #[]) ∧ RamAt w' b (List.replicate 16 0) ∧ Kept (· = b) w w' := by
  have hc := fun n (hn : n < 16) => h.cell n hn
  have hf := h.2.frozen
  go_enter Try.func23, Try.ntmps23
  go_wp2
  go_end0
  refine ⟨rfl, ?_, ?_⟩
  · rw [← clear16 r h.1]
    exact (((((((((((((((h.set 0 0).set 1 0).set 2 0).set 3 0).set 4 0).set 5 0).set 6 0).set 7 0).set 8 0).set 9 0).set 10 0).set 11 0).set 12 0).set 13 0).set 14 0).set 15 0
  · exact ((((((((((((((((Kept.refl _ w).own _ _).own _ _).own _ _).own _ _).own _ _).own _ _).own _ _).own _ _).own _ _).own _ _).own _ _).own _ _).own _ _).own _ _).own _ _).own _ _
end Go.Proofs.Ytpjdddoielhpjaa
