/- The walk of the law StackOrder. -/
import Derived.Test.YtpjdddoielhpjaaStackLaws
import Derived.Test.YtpjdddoielhpjaaQueueOrder
import Derived.Deep.QuietTactic
import Derived.BigQuiet
namespace Go.Proofs.Ytpjdddoielhpjaa
open Go.RowKit
set_option linter.unusedVariables false
theorem take_last (fl : List Int) (k : Nat) (h : k < fl.length) : (fl.take (k + 1)).getD ((fl.take (k + 1)).length - 1) 0 = fl.getD k 0 ∧ (fl.take (k + 1)).take ((fl.take (k + 1)).length - 1) = fl.take k := by
  have hl : (fl.take (k + 1)).length = k + 1 := by simp; omega
  rw [hl]
  constructor
  · rw [List.getD_eq_getElem?_getD, List.getD_eq_getElem?_getD, List.getElem?_take, if_pos (by omega)]; rfl
  · rw [List.take_take]; congr 1; omega
set_option maxHeartbeats 2000000 in
theorem walk_StackOrder (a0 : Option Addr) (len0 cap0 : Nat) (z0 : List Int) (w : World) (w0 : IsRow .i64 w a0 len0 cap0 z0) :
    Calls Try.prog 9 #[.slice a0 len0 cap0] w fun e w' => e = .returned (.bool true) ∧ Below w.heap.size w w' := by
  obtain ⟨ys, hl, hs⟩ := row_sl w0
  clear w0
  have HS := Lib.hid hs
  clear hs
  go_enter Try.func9, Try.ntmps9
  go_wp2_with fail
  refine (stacked_any _).mono ?_
  rintro e w1 ⟨rfl, hb1⟩
  go_wp2_with fail
  refine (few_any _ _ _ ys _ hl (HS.out.below hb1)).mono ?_
  rintro e w2 ⟨v1, rfl, HF, hb2⟩
  have hfl := fewL_len ys
  have HB : Hid (Below w.heap.size w w2) := bcall hb1 hb2
  have HF1 : Hid (Own w2 w.heap.size v1 (fewL ys)) := HF.mono hb1.size
  generalize fewL ys = fl at *
  obtain ⟨p1, cap1, rfl⟩ := HF1.out.sl.slice
  clear hl HF hb1 hb2 HS
  go_wp2_with fail
  go_loopw [3, 16] (fun v i wr => ∃ k : Nat, k ≤ fl.length ∧ i = .int .i64 k ∧ Below w.heap.size w wr ∧ Hid (Own wr w.heap.size (.slice p1 fl.length cap1) fl) ∧ Hid (Own wr w.heap.size v (fl.take k)))
    (fun _ i _ => fl.length - (intOf i).toNat)
  case atStart => exact ⟨0, Nat.zero_le _, rfl, HB.out, HF1, Own.nil _ _⟩
  case round =>
    obtain ⟨k, hk, rfl, hbr, hF, hQ⟩ := hrel
    clear HF1 HB
    by_cases hlt : k < fl.length
    · obtain ⟨g, cap2, he, hg1, hg2, hg3, hg4, hc, hf⟩ := hF.out.head (by omega)
      simp only [Value.slice.injEq] at he
      obtain ⟨rfl, -, rfl⟩ := he
      have c1 := hc k hlt
      simp only [Nat.zero_add] at c1
      have HSN := Lib.hid (take_snoc fl k hlt)
      have htl : (fl.take k).length = k := by simp; omega
      generalize fl.getD k 0 = x at *
      clear hc hf
      obtain ⟨q1, qc, rfl⟩ := hQ.out.sl.slice
      rw [htl] at hQ
      rw [htl]
      go_wp2_with fail
      refine (put_any _ _).mono ?_
      rintro e w6 ⟨rfl, hb6⟩
      go_wp2_with fail
      refine (stack_put _ _ (fl.take k) 0 x (hQ.out.sl.below hb6) (by omega)).mono ?_
      rintro e w7 ⟨v7, rfl, ho7, hb7⟩
      have HR7 : Hid (Below wr.heap.size wr w7) := bcall hb6 hb7
      go_wp2_with fail
      go_roundw
      case rel =>
        refine ⟨k + 1, by omega, by go_num, bcall hbr HR7.out, hF.out.below HR7.out, ?_⟩
        rw [HSN.out]
        exact ho7.mono (Nat.le_trans hbr.size hb6.size)
      case measure => simp [intOf]; omega
    · obtain rfl : k = fl.length := by omega
      have hQ2 : Hid (Own wr w.heap.size u3 fl) := by have := hQ.out; rw [List.take_length] at this; exact this
      go_wp2_with fail
      clear hQ hlt hk
      obtain ⟨wo, rfl⟩ : ∃ wo : World, wo = wr := ⟨_, rfl⟩
      go_loopw [3, 6] (fun v i wr => ∃ k : Nat, k ≤ fl.length ∧ i = .int .i64 ((k : Int) - 1) ∧ Below w.heap.size w wr ∧ Hid (Own wr w.heap.size (.slice p1 fl.length cap1) fl) ∧ Hid (Own wr w.heap.size v (fl.take k)))
        (fun _ i _ => (intOf i + 1).toNat)
      case atStart => exact ⟨fl.length, Nat.le_refl _, rfl, hbr, hF, by rw [List.take_length]; exact hQ2⟩
      case round =>
        clear hbr hF hQ2
        obtain ⟨k, hk, rfl, hbr, hF, hQ⟩ := hrel
        rcases Nat.eq_zero_or_pos k with hk0 | hk0
        · subst hk0
          obtain ⟨q1, qc, rfl⟩ := hQ.out.sl.slice
          go_wp2_with fail
          refine (stack_nil _ _ [] 2 0 0 hQ.out.sl rfl (.inl rfl)).mono ?_
          rintro e w7 ⟨v7, rfl, ho7, hb7⟩
          go_wp2_with fail
          go_ret
          exact ⟨rfl, balloc (bcall hbr hb7) _⟩
        · obtain ⟨j, rfl⟩ : ∃ j, k = j + 1 := ⟨k - 1, by omega⟩
          have hlt : j < fl.length := by omega
          have e1 : ((j + 1 : Nat) : Int) - 1 = (j : Int) := by omega
          rw [e1]
          obtain ⟨g, cap2, he, hg1, hg2, hg3, hg4, hc, hf⟩ := hF.out.head (by omega)
          simp only [Value.slice.injEq] at he
          obtain ⟨rfl, -, rfl⟩ := he
          have c1 := hc j hlt
          simp only [Nat.zero_add] at c1
          obtain ⟨hd1, hd2⟩ := take_last fl j hlt
          have HD1 := Lib.hid hd1; have HD2 := Lib.hid hd2
          have hpos : 0 < (fl.take (j + 1)).length := by simp; omega
          have hle : (fl.take (j + 1)).length ≤ 1000 := by simp; omega
          have hjf : (j : Int) < fl.length := by omega
          generalize fl.getD j 0 = x at *
          clear hc hf hd1 hd2 e1
          go_wp2_with fail
          have HR : Hid (Below wr.heap.size wr (wr.alloc (Obj.cells #[.int .i64 0, .int .i64 0] 25))) := balloc (Below.refl _ wr) _
          have HA : Hid (Blk (wr.alloc (Obj.cells #[.int .i64 0, .int .i64 0] 25)) wr.heap.size [.int .i64 0, .int .i64 0] 25) := Blk.new _ _ _
          have HQ := Lib.hid (hQ.out.sl.below HR.out)
          generalize wr.alloc (Obj.cells #[.int .i64 0, .int .i64 0] 25) = w5 at *
          refine (stack_take _ _ (fl.take (j + 1)) 0 0 HQ.out hpos hle).mono ?_
          rw [HD1.out, HD2.out]
          rintro e w7 ⟨v7, rfl, ho7, hb7⟩
          have HA7 := Lib.hid (HA.out.below hb7)
          have HR7 : Hid (Below wr.heap.size wr w7) := bcall HR.out hb7
          have hz : wr.heap.size < w5.heap.size := HA.out.lt
          have cA0 : w7.cell? ⟨wr.heap.size, 0, none⟩ = some (.int .i64 0) := HA7.out.cell 0
          have cA1 : w7.cell? ⟨wr.heap.size, 1, none⟩ = some (.int .i64 0) := HA7.out.cell 1
          have fA0 := HA7.out.frozen 0
          have fA1 := HA7.out.frozen 1
          have c7 : w7.cell? ⟨g, j, none⟩ = some (.int .i64 x) := (HR7.out.cell (p := ⟨g, j, none⟩) hg2).trans c1
          have hgne : g ≠ wr.heap.size := by omega
          clear hb7 HR HA HQ
          go_wp2_with fail
          go_quiet (fail)
          go_wp2_with fail
          go_roundw
          case rel =>
            have hbe := bstore (bstore HR7.out (p := ⟨wr.heap.size, 0, none⟩) (Nat.le_refl _) (.int .i64 1)) (p := ⟨wr.heap.size, 1, none⟩) (Nat.le_refl _) (.int .i64 x)
            have hbd := bcall hbe (below_drewN _ nq)
            have ho8 := (((ho7.store (p := ⟨wr.heap.size, 0, none⟩) hz (.int .i64 1)).store (p := ⟨wr.heap.size, 1, none⟩) hz (.int .i64 x)).below (below_drewN _ nq)).mono (Nat.le_trans hbr.size (Nat.le_of_lt hz))
            exact ⟨j, by omega, rfl, bcall hbr hbd, hF.out.below hbd, ho8⟩
          case measure => simp [intOf]
end Go.Proofs.Ytpjdddoielhpjaa
