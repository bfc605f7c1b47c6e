/- Tables as lists of sixteen numbers, and the contracts of table.home, table.at and table.Len. -/
import Derived.Test.YtakemnpicokaiaaRows
import Derived.Test.YtakemnpicokaiaaKeep
import Derived.Test.YtakemnpicokaiaaTabLaws
namespace Go.Proofs.Ytakemnpicokaiaa
open Go.RowKit

/-- The array value of a table. -/
def tarr (t : List Int) : Array Value := (t.map (Value.int .i64)).toArray
/-- Block b is a variable that holds the table t. -/
def TabAt (w : World) (b : Nat) (t : List Int) : Prop := t.length = 16 ∧ Blk w b (t.map (Value.int .i64)) 27
theorem TabAt.cell {w : World} {b : Nat} {t : List Int} (h : TabAt w b t) (i : Nat) (hi : i < 16) : w.cell? ⟨b, i, none⟩ = some (.int .i64 (t.getD i 0)) := by
  have := h.1
  rw [h.2.cell, List.getElem?_map, List.getElem?_eq_getElem (by omega), List.getD_eq_getElem?_getD, List.getElem?_eq_getElem (by omega)]; rfl
theorem home_any (key : Int) (w : World) (h0 : 0 ≤ key) (h1 : key ≤ 1000) :
    Calls Try.prog 46 #[.int .i64 key] w fun e w' => e = .returned (.int .i64 (key * 5 % 8)) ∧ w = w' := by
  go_enter Try.func46, Try.ntmps46
  go_wp2
  go_ret
  exact ⟨rfl, rfl⟩

set_option maxHeartbeats 1000000 in
theorem at_any (key : Int) (w : World) (b : Nat) (t : List Int) (h : TabAt w b t) (h0 : 0 ≤ key) (h1 : key ≤ 1000) :
    Calls Try.prog 42 #[.pointer (some ⟨b, 0, none⟩), .int .i64 key] w fun e w' => e = .returned (.int .i64 (atI t key)) ∧ w = w' := by
  have HT := Lib.hid h
  clear h
  go_enter Try.func42, Try.ntmps42
  go_wp2_with fail
  go_loop [7] (fun i => ∃ k : Nat, k ≤ 8 ∧ i = .int .i64 k ∧ atFrom t key (8 - k) k = atI t key) (fun i => 8 - (intOf i).toNat)
  case atStart => exact ⟨0, by omega, rfl, rfl⟩
  case round =>
    obtain ⟨k, hk, rfl, hat⟩ := hrel
    have HAT := Lib.hid hat
    clear hat
    by_cases hlt : k < 8
    · obtain ⟨i, hi⟩ : ∃ i : Nat, (key * 5 % 8 + (k : Int)) % 8 = i := ⟨((key * 5 % 8 + k) % 8).toNat, by omega⟩
      have hi8 : i < 8 := by omega
      have c : w.cell? ⟨b, i * 2, none⟩ = some (.int .i64 (tk t i)) := HT.out.cell (i * 2) (by omega)
      have hs : slotOf key k = i := by unfold slotOf; omega
      have HS := Lib.hid hs
      clear hs
      have hstep : atI t key = if hit t key i then (i : Int) else atFrom t key (8 - (k + 1)) (k + 1) := by
        rw [← HAT.out, show 8 - k = (8 - (k + 1)) + 1 from by omega]
        simp only [atFrom, HS.out]
      have HST := Lib.hid hstep
      clear hstep
      by_cases g1 : tk t i = key
      · have b1 : (tk t i == key) = true := by simp [g1]
        have hh : hit t key i = true := by unfold hit; rw [b1]; rfl
        have HH := Lib.hid hh
        clear g1 hh
        go_wp2_with (go_at_call 46; refine (home_any _ _ h0 h1).mono ?_; rintro e w' ⟨rfl, rfl⟩)
        go_ret
        exact ⟨ret_int (by rw [HST.out, HH.out, if_pos rfl]; exact hi), rfl⟩
      · have b1 : (tk t i == key) = false := by simp [g1]
        by_cases h2 : tk t i = 0
        · have b2 : (tk t i == 0) = true := by simp [h2]
          have hh : hit t key i = true := by unfold hit; rw [b1, b2]; rfl
          have HH := Lib.hid hh
          clear g1 h2 hh
          go_wp2_with (go_at_call 46; refine (home_any _ _ h0 h1).mono ?_; rintro e w' ⟨rfl, rfl⟩)
          go_ret
          exact ⟨ret_int (by rw [HST.out, HH.out, if_pos rfl]; exact hi), rfl⟩
        · have b2 : (tk t i == 0) = false := by simp [h2]
          have hh : hit t key i = false := by unfold hit; rw [b1, b2]; rfl
          have HH := Lib.hid hh
          clear g1 h2 hh
          go_wp2_with (go_at_call 46; refine (home_any _ _ h0 h1).mono ?_; rintro e w' ⟨rfl, rfl⟩)
          go_round
          case rel => exact ⟨k + 1, by omega, by go_num, by rw [HST.out, HH.out]; rfl⟩
          case measure => simp [intOf]; omega
    · obtain rfl : k = 8 := by omega
      have hm : atI t key = -1 := by rw [← HAT.out]; rfl
      have HM := Lib.hid hm
      clear hm
      go_wp2_with fail
      go_ret
      exact ⟨ret_int HM.out.symm, rfl⟩

theorem sixteen {P : List Int → Prop} (h : ∀ a b c d e f g h i j k l m n o p : Int, P [a, b, c, d, e, f, g, h, i, j, k, l, m, n, o, p]) (t : List Int) (ht : t.length = 16) : P t := by
  match t, ht with
  | [_, _, _, _, _, _, _, _, _, _, _, _, _, _, _, _], _ => exact h _ _ _ _ _ _ _ _ _ _ _ _ _ _ _ _
theorem idx_slot (t : List Int) (ht : t.length = 16) (k : Nat) (hk : k < 8) (w : World) :
    (Instr.index 27 (.agg (t.map (Value.int .i64)).toArray) (.int .i64 k)).run Try.prog w = .ok (.agg #[.int .i64 (tk t k), .int .i64 (tv t k)]) w := by
  revert t
  refine fun t ht => sixteen (P := fun t => (Instr.index 27 (.agg (t.map (Value.int .i64)).toArray) (.int .i64 k)).run Try.prog w = .ok (.agg #[.int .i64 (tk t k), .int .i64 (tv t k)]) w) ?_ t ht
  intro a b c d e f g h i j k' l m n o p
  match k, hk with
  | 0, _ => rfl
  | 1, _ => rfl
  | 2, _ => rfl
  | 3, _ => rfl
  | 4, _ => rfl
  | 5, _ => rfl
  | 6, _ => rfl
  | 7, _ => rfl

theorem idx_lit (a b c d e f g h i j k l m n o p : Int) (q : Nat) (hq : q < 8) (w : World) :
    (Instr.index 27 (.agg #[.int .i64 a, .int .i64 b, .int .i64 c, .int .i64 d, .int .i64 e, .int .i64 f, .int .i64 g, .int .i64 h, .int .i64 i, .int .i64 j, .int .i64 k, .int .i64 l, .int .i64 m, .int .i64 n, .int .i64 o, .int .i64 p]) (.int .i64 q)).run Try.prog w = .ok (.agg #[.int .i64 (tk [a, b, c, d, e, f, g, h, i, j, k, l, m, n, o, p] q), .int .i64 (tv [a, b, c, d, e, f, g, h, i, j, k, l, m, n, o, p] q)]) w :=
  idx_slot [a, b, c, d, e, f, g, h, i, j, k, l, m, n, o, p] rfl q hq w

set_option maxHeartbeats 1000000 in
theorem len_any (t : List Int) (ht : t.length = 16) (w : World) :
    Calls Try.prog 24 #[.agg (t.map (Value.int .i64)).toArray] w fun e w' => e = .returned (.int .i64 (lenT t)) ∧ Below w.heap.size w w' := by
  refine sixteen (P := fun t => Calls Try.prog 24 #[.agg (t.map (Value.int .i64)).toArray] w fun e w' => e = .returned (.int .i64 (lenT t)) ∧ Below w.heap.size w w') ?_ t ht
  intro a b c d e f g h i j k l m n o p
  obtain ⟨T, hT⟩ : ∃ T, T = [a, b, c, d, e, f, g, h, i, j, k, l, m, n, o, p] := ⟨_, rfl⟩
  have hidx := idx_lit a b c d e f g h i j k l m n o p
  rw [← hT] at hidx
  have HX : Hid (∀ q, q < 8 → ∀ w, (Instr.index 27 (.agg #[.int .i64 a, .int .i64 b, .int .i64 c, .int .i64 d, .int .i64 e, .int .i64 f, .int .i64 g, .int .i64 h, .int .i64 i, .int .i64 j, .int .i64 k, .int .i64 l, .int .i64 m, .int .i64 n, .int .i64 o, .int .i64 p]) (.int .i64 (q : Nat))).run Try.prog w = .ok (.agg #[.int .i64 (tk T q), .int .i64 (tv T q)]) w) := hidx
  rw [← hT]
  have HT := Lib.hid hT
  rw [show (List.map (Value.int .i64) T).toArray = #[.int .i64 a, .int .i64 b, .int .i64 c, .int .i64 d, .int .i64 e, .int .i64 f, .int .i64 g, .int .i64 h, .int .i64 i, .int .i64 j, .int .i64 k, .int .i64 l, .int .i64 m, .int .i64 n, .int .i64 o, .int .i64 p] from by rw [hT]; rfl]
  clear hT hidx
  go_enter Try.func24, Try.ntmps24
  go_wp2_with fail
  have hb0 := balloc (Below.refl _ w) (Obj.cells #[.int .i64 a, .int .i64 b, .int .i64 c, .int .i64 d, .int .i64 e, .int .i64 f, .int .i64 g, .int .i64 h, .int .i64 i, .int .i64 j, .int .i64 k, .int .i64 l, .int .i64 m, .int .i64 n, .int .i64 o, .int .i64 p] 27)
  generalize w.alloc (Obj.cells #[.int .i64 a, .int .i64 b, .int .i64 c, .int .i64 d, .int .i64 e, .int .i64 f, .int .i64 g, .int .i64 h, .int .i64 i, .int .i64 j, .int .i64 k, .int .i64 l, .int .i64 m, .int .i64 n, .int .i64 o, .int .i64 p] 27) = w0 at *
  go_loopw [3, 7] (fun n i wr => ∃ k : Nat, k ≤ 8 ∧ i = .int .i64 k ∧ n = .int .i64 (cntTo T k) ∧ Below w.heap.size w wr) (fun _ i _ => 8 - (intOf i).toNat)
  case atStart => exact ⟨0, by omega, rfl, rfl, hb0⟩
  case round =>
    obtain ⟨q, hq, rfl, rfl, hbr⟩ := hrel
    have hle := cntTo_le T q
    by_cases hlt : q < 8
    · have hix := HX.out q hlt
      have hs : cntTo T (q + 1) = cntTo T q + if tk T q = 0 then 0 else 1 := rfl
      have HS := Lib.hid hs
      clear hs
      generalize cntTo T q = n at *
      by_cases g0 : tk T q = 0
      · have b0 : (tk T q != 0) = false := by simp [g0]
        rw [if_pos g0] at HS
        clear g0
        go_wp2_with fail
        go_roundw
        case rel => exact ⟨q + 1, by omega, by go_num, by rw [HS.out]; rfl, balloc hbr _⟩
        case measure => simp [intOf]; omega
      · have b0 : (tk T q != 0) = true := by simp [g0]
        rw [if_neg g0] at HS
        clear g0
        go_wp2_with fail
        go_roundw
        case rel => exact ⟨q + 1, by omega, by go_num, by rw [HS.out]; go_num, balloc hbr _⟩
        case measure => simp [intOf]; omega
    · obtain rfl : q = 8 := by omega
      go_wp2_with fail
      go_ret
      exact ⟨rfl, hbr⟩
end Go.Proofs.Ytakemnpicokaiaa
