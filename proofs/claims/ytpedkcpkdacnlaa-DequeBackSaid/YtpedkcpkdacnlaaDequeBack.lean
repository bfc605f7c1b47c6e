/- The walk of the law DequeBack. -/
import Derived.Test.YtpedkcpkdacnlaaDequeQueue
import Derived.Deep.Cut
namespace Go.Proofs.Ytpedkcpkdacnlaa
open Go.RowKit
set_option linter.unusedVariables false
set_option maxRecDepth 20000 in
set_option maxHeartbeats 4000000 in
theorem walk_DequeBack (a0 : Option Addr) (len0 cap0 : Nat) (z0 : List Int) (a1 : Int) (b2 : Bool) (w : World) (w0 : IsRow .i64 w a0 len0 cap0 z0) (w1 : (Lit.int .i64 a1).wf = true) :
    Calls Try.prog 6 #[.slice a0 len0 cap0, .int .i64 a1, .bool b2] w fun e w' => e = .returned (.bool true) ∧ Below w.heap.size w w' := by
  obtain ⟨ys, hl, hs⟩ := row_sl w0
  clear w0 w1
  have HS := Lib.hid hs
  clear hs
  have HB := Lib.hid (Below.refl w.heap.size w)
  go_enter Try.func6, Try.ntmps6
  go_wp2_with fail
  refine (dealt_any _).mono ?_
  rintro e w1 ⟨rfl, hb1⟩
  replace HB := Lib.hid (bcall HB.out hb1)
  replace HS := Lib.hid (HS.out.below hb1)
  clear hb1
  go_wp2_with fail
  refine (few_any _ _ _ ys _ hl HS.out).mono ?_
  rintro e w2 ⟨v1, rfl, HF, hb2⟩
  replace HB := Lib.hid (bcall HB.out hb2)
  replace HS := Lib.hid (HS.out.below hb2)
  replace HF := Lib.hid HF
  clear hb2
  clear HS
  have hfl := fewL_len ys
  generalize fewL ys = fl at *
  obtain ⟨p1, cap1, rfl⟩ := HF.out.sl.slice
  clear hl
  go_wp2_with fail
  refine (pick_any _ _ _ (by decide) (by decide)).mono ?_
  rintro e w' ⟨rfl, rfl⟩
  generalize pickZ a1 4294967296 = x at *
  by_cases h6 : fl.length = 6
  · have g6 : ((fl.length : Int) == 6) = true := by simp [h6]
    cases b2
    · have HD : Hid (deqR fl 1 x = (fl, 3, 0)) := Lib.hid (by unfold deqR; simp [h6])
      clear h6
      go_wp2_with fail
      have hb3 := balloc (Below.refl _ w2) (Obj.cells #[.int .i64 1, .int .i64 0, .int .i64 x] 30)
      have P := Lib.hid (Blk.new w2 [.int .i64 1, .int .i64 0, .int .i64 x] 30)
      change Hid (Blk (w2.alloc (Obj.cells #[.int .i64 1, .int .i64 0, .int .i64 x] 30)) _ _ _) at P
      have ZP : Hid ((w2.alloc (Obj.cells #[.int .i64 1, .int .i64 0, .int .i64 x] 30)).heap.size = w2.heap.size + 1) := World.size_alloc _ _
      replace HB := Lib.hid (bcall HB.out hb3)
      replace HF := Lib.hid (HF.out.below hb3)
      clear hb3
      generalize w2.alloc (Obj.cells #[.int .i64 1, .int .i64 0, .int .i64 x] 30) = w3 at *
      generalize w2.heap.size = bP at *
      have P_c0 : w3.cell? ⟨bP, 0, none⟩ = some (.int .i64 1) := P.out.cell 0
      have P_c1 : w3.cell? ⟨bP, 1, none⟩ = some (.int .i64 0) := P.out.cell 1
      have P_c2 : w3.cell? ⟨bP, 2, none⟩ = some (.int .i64 x) := P.out.cell 2
      have P_z : bP < w3.heap.size := P.out.lt
      have hb4 := balloc (Below.refl _ w3) (Obj.cells #[.int .i64 4, .int .i64 0, .int .i64 0] 30)
      have Q := Lib.hid (Blk.new w3 [.int .i64 4, .int .i64 0, .int .i64 0] 30)
      change Hid (Blk (w3.alloc (Obj.cells #[.int .i64 4, .int .i64 0, .int .i64 0] 30)) _ _ _) at Q
      have ZQ : Hid ((w3.alloc (Obj.cells #[.int .i64 4, .int .i64 0, .int .i64 0] 30)).heap.size = w3.heap.size + 1) := World.size_alloc _ _
      clear P_c0 P_c1 P_c2 P_z
      replace HB := Lib.hid (bcall HB.out hb4)
      replace HF := Lib.hid (HF.out.below hb4)
      replace P := Lib.hid (P.out.below hb4)
      clear hb4
      rw [ZP.out] at Q ZQ
      clear ZP
      generalize w3.alloc (Obj.cells #[.int .i64 4, .int .i64 0, .int .i64 0] 30) = w4 at *
      have P_c0 : w4.cell? ⟨bP, 0, none⟩ = some (.int .i64 1) := P.out.cell 0
      have P_c1 : w4.cell? ⟨bP, 1, none⟩ = some (.int .i64 0) := P.out.cell 1
      have P_c2 : w4.cell? ⟨bP, 2, none⟩ = some (.int .i64 x) := P.out.cell 2
      have P_z : bP < w4.heap.size := P.out.lt
      have Q_c0 : w4.cell? ⟨(bP + 1), 0, none⟩ = some (.int .i64 4) := Q.out.cell 0
      have Q_c1 : w4.cell? ⟨(bP + 1), 1, none⟩ = some (.int .i64 0) := Q.out.cell 1
      have Q_c2 : w4.cell? ⟨(bP + 1), 2, none⟩ = some (.int .i64 0) := Q.out.cell 2
      have Q_z : (bP + 1) < w4.heap.size := Q.out.lt
      refine (deque_eq _ _ fl 1 0 x HF.out.sl (by omega) HD.out).mono ?_
      rintro e w5 ⟨v2, rfl, ho2, hb5⟩
      clear P_c0 P_c1 P_c2 P_z
      clear Q_c0 Q_c1 Q_c2 Q_z
      replace HB := Lib.hid (bcall HB.out hb5)
      replace HF := Lib.hid (HF.out.below hb5)
      replace P := Lib.hid (P.out.below hb5)
      replace Q := Lib.hid (Q.out.below hb5)
      replace ho2 := Lib.hid ho2
      clear hb5
      have P_c0 : w5.cell? ⟨bP, 0, none⟩ = some (.int .i64 1) := P.out.cell 0
      have P_c1 : w5.cell? ⟨bP, 1, none⟩ = some (.int .i64 0) := P.out.cell 1
      have P_c2 : w5.cell? ⟨bP, 2, none⟩ = some (.int .i64 x) := P.out.cell 2
      have P_z : bP < w5.heap.size := P.out.lt
      have Q_c0 : w5.cell? ⟨(bP + 1), 0, none⟩ = some (.int .i64 4) := Q.out.cell 0
      have Q_c1 : w5.cell? ⟨(bP + 1), 1, none⟩ = some (.int .i64 0) := Q.out.cell 1
      have Q_c2 : w5.cell? ⟨(bP + 1), 2, none⟩ = some (.int .i64 0) := Q.out.cell 2
      have Q_z : (bP + 1) < w5.heap.size := Q.out.lt
      go_wp2_with fail
      have hb6 := balloc (Below.refl _ w5) (Obj.cells #[.int .i64 3, .int .i64 0] 26)
      have A1 := Lib.hid (Blk.new w5 [.int .i64 3, .int .i64 0] 26)
      change Hid (Blk (w5.alloc (Obj.cells #[.int .i64 3, .int .i64 0] 26)) _ _ _) at A1
      have ZA1 : Hid ((w5.alloc (Obj.cells #[.int .i64 3, .int .i64 0] 26)).heap.size = w5.heap.size + 1) := World.size_alloc _ _
      clear P_c0 P_c1 P_c2 P_z
      clear Q_c0 Q_c1 Q_c2 Q_z
      replace HB := Lib.hid (bcall HB.out hb6)
      replace HF := Lib.hid (HF.out.below hb6)
      replace P := Lib.hid (P.out.below hb6)
      replace Q := Lib.hid (Q.out.below hb6)
      replace ho2 := Lib.hid (ho2.out.below hb6)
      clear hb6
      generalize w5.alloc (Obj.cells #[.int .i64 3, .int .i64 0] 26) = w6 at *
      generalize w5.heap.size = bA1 at *
      have P_c0 : w6.cell? ⟨bP, 0, none⟩ = some (.int .i64 1) := P.out.cell 0
      have P_c1 : w6.cell? ⟨bP, 1, none⟩ = some (.int .i64 0) := P.out.cell 1
      have P_c2 : w6.cell? ⟨bP, 2, none⟩ = some (.int .i64 x) := P.out.cell 2
      have P_z : bP < w6.heap.size := P.out.lt
      have Q_c0 : w6.cell? ⟨(bP + 1), 0, none⟩ = some (.int .i64 4) := Q.out.cell 0
      have Q_c1 : w6.cell? ⟨(bP + 1), 1, none⟩ = some (.int .i64 0) := Q.out.cell 1
      have Q_c2 : w6.cell? ⟨(bP + 1), 2, none⟩ = some (.int .i64 0) := Q.out.cell 2
      have Q_z : (bP + 1) < w6.heap.size := Q.out.lt
      have A1_c0 : w6.cell? ⟨bA1, 0, none⟩ = some (.int .i64 3) := A1.out.cell 0
      have A1_c1 : w6.cell? ⟨bA1, 1, none⟩ = some (.int .i64 0) := A1.out.cell 1
      have A1_z : bA1 < w6.heap.size := A1.out.lt
      go_wp2_with fail
      refine (equal_yes _ _ _ fl fl ho2.out.sl HF.out.sl rfl (by omega)).mono ?_
      rintro e w7 ⟨rfl, hb7⟩
      clear P_c0 P_c1 P_c2 P_z
      clear Q_c0 Q_c1 Q_c2 Q_z
      clear A1_c0 A1_c1 A1_z
      replace HB := Lib.hid (bcall HB.out hb7)
      replace HF := Lib.hid (HF.out.below hb7)
      replace P := Lib.hid (P.out.below hb7)
      replace Q := Lib.hid (Q.out.below hb7)
      replace ho2 := Lib.hid (ho2.out.below hb7)
      replace A1 := Lib.hid (A1.out.below hb7)
      clear hb7
      have P_c0 : w7.cell? ⟨bP, 0, none⟩ = some (.int .i64 1) := P.out.cell 0
      have P_c1 : w7.cell? ⟨bP, 1, none⟩ = some (.int .i64 0) := P.out.cell 1
      have P_c2 : w7.cell? ⟨bP, 2, none⟩ = some (.int .i64 x) := P.out.cell 2
      have P_z : bP < w7.heap.size := P.out.lt
      have Q_c0 : w7.cell? ⟨(bP + 1), 0, none⟩ = some (.int .i64 4) := Q.out.cell 0
      have Q_c1 : w7.cell? ⟨(bP + 1), 1, none⟩ = some (.int .i64 0) := Q.out.cell 1
      have Q_c2 : w7.cell? ⟨(bP + 1), 2, none⟩ = some (.int .i64 0) := Q.out.cell 2
      have Q_z : (bP + 1) < w7.heap.size := Q.out.lt
      have A1_c0 : w7.cell? ⟨bA1, 0, none⟩ = some (.int .i64 3) := A1.out.cell 0
      have A1_c1 : w7.cell? ⟨bA1, 1, none⟩ = some (.int .i64 0) := A1.out.cell 1
      have A1_z : bA1 < w7.heap.size := A1.out.lt
      go_wp2_with fail
      go_ret
      exact ⟨by first | rfl | simp, HB.out⟩
    · have HD : Hid (deqR fl 3 x = (fl, 3, 0)) := Lib.hid (by unfold deqR; simp [h6])
      clear h6
      go_wp2_with fail
      have hb3 := balloc (Below.refl _ w2) (Obj.cells #[.int .i64 3, .int .i64 0, .int .i64 x] 30)
      have P := Lib.hid (Blk.new w2 [.int .i64 3, .int .i64 0, .int .i64 x] 30)
      change Hid (Blk (w2.alloc (Obj.cells #[.int .i64 3, .int .i64 0, .int .i64 x] 30)) _ _ _) at P
      have ZP : Hid ((w2.alloc (Obj.cells #[.int .i64 3, .int .i64 0, .int .i64 x] 30)).heap.size = w2.heap.size + 1) := World.size_alloc _ _
      replace HB := Lib.hid (bcall HB.out hb3)
      replace HF := Lib.hid (HF.out.below hb3)
      clear hb3
      generalize w2.alloc (Obj.cells #[.int .i64 3, .int .i64 0, .int .i64 x] 30) = w3 at *
      generalize w2.heap.size = bP at *
      have P_c0 : w3.cell? ⟨bP, 0, none⟩ = some (.int .i64 3) := P.out.cell 0
      have P_c1 : w3.cell? ⟨bP, 1, none⟩ = some (.int .i64 0) := P.out.cell 1
      have P_c2 : w3.cell? ⟨bP, 2, none⟩ = some (.int .i64 x) := P.out.cell 2
      have P_z : bP < w3.heap.size := P.out.lt
      have hb4 := balloc (Below.refl _ w3) (Obj.cells #[.int .i64 2, .int .i64 0, .int .i64 0] 30)
      have Q := Lib.hid (Blk.new w3 [.int .i64 2, .int .i64 0, .int .i64 0] 30)
      change Hid (Blk (w3.alloc (Obj.cells #[.int .i64 2, .int .i64 0, .int .i64 0] 30)) _ _ _) at Q
      have ZQ : Hid ((w3.alloc (Obj.cells #[.int .i64 2, .int .i64 0, .int .i64 0] 30)).heap.size = w3.heap.size + 1) := World.size_alloc _ _
      clear P_c0 P_c1 P_c2 P_z
      replace HB := Lib.hid (bcall HB.out hb4)
      replace HF := Lib.hid (HF.out.below hb4)
      replace P := Lib.hid (P.out.below hb4)
      clear hb4
      rw [ZP.out] at Q ZQ
      clear ZP
      generalize w3.alloc (Obj.cells #[.int .i64 2, .int .i64 0, .int .i64 0] 30) = w4 at *
      have P_c0 : w4.cell? ⟨bP, 0, none⟩ = some (.int .i64 3) := P.out.cell 0
      have P_c1 : w4.cell? ⟨bP, 1, none⟩ = some (.int .i64 0) := P.out.cell 1
      have P_c2 : w4.cell? ⟨bP, 2, none⟩ = some (.int .i64 x) := P.out.cell 2
      have P_z : bP < w4.heap.size := P.out.lt
      have Q_c0 : w4.cell? ⟨(bP + 1), 0, none⟩ = some (.int .i64 2) := Q.out.cell 0
      have Q_c1 : w4.cell? ⟨(bP + 1), 1, none⟩ = some (.int .i64 0) := Q.out.cell 1
      have Q_c2 : w4.cell? ⟨(bP + 1), 2, none⟩ = some (.int .i64 0) := Q.out.cell 2
      have Q_z : (bP + 1) < w4.heap.size := Q.out.lt
      refine (deque_eq _ _ fl 3 0 x HF.out.sl (by omega) HD.out).mono ?_
      rintro e w5 ⟨v2, rfl, ho2, hb5⟩
      clear P_c0 P_c1 P_c2 P_z
      clear Q_c0 Q_c1 Q_c2 Q_z
      replace HB := Lib.hid (bcall HB.out hb5)
      replace HF := Lib.hid (HF.out.below hb5)
      replace P := Lib.hid (P.out.below hb5)
      replace Q := Lib.hid (Q.out.below hb5)
      replace ho2 := Lib.hid ho2
      clear hb5
      have P_c0 : w5.cell? ⟨bP, 0, none⟩ = some (.int .i64 3) := P.out.cell 0
      have P_c1 : w5.cell? ⟨bP, 1, none⟩ = some (.int .i64 0) := P.out.cell 1
      have P_c2 : w5.cell? ⟨bP, 2, none⟩ = some (.int .i64 x) := P.out.cell 2
      have P_z : bP < w5.heap.size := P.out.lt
      have Q_c0 : w5.cell? ⟨(bP + 1), 0, none⟩ = some (.int .i64 2) := Q.out.cell 0
      have Q_c1 : w5.cell? ⟨(bP + 1), 1, none⟩ = some (.int .i64 0) := Q.out.cell 1
      have Q_c2 : w5.cell? ⟨(bP + 1), 2, none⟩ = some (.int .i64 0) := Q.out.cell 2
      have Q_z : (bP + 1) < w5.heap.size := Q.out.lt
      go_wp2_with fail
      have hb6 := balloc (Below.refl _ w5) (Obj.cells #[.int .i64 3, .int .i64 0] 26)
      have A1 := Lib.hid (Blk.new w5 [.int .i64 3, .int .i64 0] 26)
      change Hid (Blk (w5.alloc (Obj.cells #[.int .i64 3, .int .i64 0] 26)) _ _ _) at A1
      have ZA1 : Hid ((w5.alloc (Obj.cells #[.int .i64 3, .int .i64 0] 26)).heap.size = w5.heap.size + 1) := World.size_alloc _ _
      clear P_c0 P_c1 P_c2 P_z
      clear Q_c0 Q_c1 Q_c2 Q_z
      replace HB := Lib.hid (bcall HB.out hb6)
      replace HF := Lib.hid (HF.out.below hb6)
      replace P := Lib.hid (P.out.below hb6)
      replace Q := Lib.hid (Q.out.below hb6)
      replace ho2 := Lib.hid (ho2.out.below hb6)
      clear hb6
      generalize w5.alloc (Obj.cells #[.int .i64 3, .int .i64 0] 26) = w6 at *
      generalize w5.heap.size = bA1 at *
      have P_c0 : w6.cell? ⟨bP, 0, none⟩ = some (.int .i64 3) := P.out.cell 0
      have P_c1 : w6.cell? ⟨bP, 1, none⟩ = some (.int .i64 0) := P.out.cell 1
      have P_c2 : w6.cell? ⟨bP, 2, none⟩ = some (.int .i64 x) := P.out.cell 2
      have P_z : bP < w6.heap.size := P.out.lt
      have Q_c0 : w6.cell? ⟨(bP + 1), 0, none⟩ = some (.int .i64 2) := Q.out.cell 0
      have Q_c1 : w6.cell? ⟨(bP + 1), 1, none⟩ = some (.int .i64 0) := Q.out.cell 1
      have Q_c2 : w6.cell? ⟨(bP + 1), 2, none⟩ = some (.int .i64 0) := Q.out.cell 2
      have Q_z : (bP + 1) < w6.heap.size := Q.out.lt
      have A1_c0 : w6.cell? ⟨bA1, 0, none⟩ = some (.int .i64 3) := A1.out.cell 0
      have A1_c1 : w6.cell? ⟨bA1, 1, none⟩ = some (.int .i64 0) := A1.out.cell 1
      have A1_z : bA1 < w6.heap.size := A1.out.lt
      go_wp2_with fail
      refine (equal_yes _ _ _ fl fl ho2.out.sl HF.out.sl rfl (by omega)).mono ?_
      rintro e w7 ⟨rfl, hb7⟩
      clear P_c0 P_c1 P_c2 P_z
      clear Q_c0 Q_c1 Q_c2 Q_z
      clear A1_c0 A1_c1 A1_z
      replace HB := Lib.hid (bcall HB.out hb7)
      replace HF := Lib.hid (HF.out.below hb7)
      replace P := Lib.hid (P.out.below hb7)
      replace Q := Lib.hid (Q.out.below hb7)
      replace ho2 := Lib.hid (ho2.out.below hb7)
      replace A1 := Lib.hid (A1.out.below hb7)
      clear hb7
      have P_c0 : w7.cell? ⟨bP, 0, none⟩ = some (.int .i64 3) := P.out.cell 0
      have P_c1 : w7.cell? ⟨bP, 1, none⟩ = some (.int .i64 0) := P.out.cell 1
      have P_c2 : w7.cell? ⟨bP, 2, none⟩ = some (.int .i64 x) := P.out.cell 2
      have P_z : bP < w7.heap.size := P.out.lt
      have Q_c0 : w7.cell? ⟨(bP + 1), 0, none⟩ = some (.int .i64 2) := Q.out.cell 0
      have Q_c1 : w7.cell? ⟨(bP + 1), 1, none⟩ = some (.int .i64 0) := Q.out.cell 1
      have Q_c2 : w7.cell? ⟨(bP + 1), 2, none⟩ = some (.int .i64 0) := Q.out.cell 2
      have Q_z : (bP + 1) < w7.heap.size := Q.out.lt
      have A1_c0 : w7.cell? ⟨bA1, 0, none⟩ = some (.int .i64 3) := A1.out.cell 0
      have A1_c1 : w7.cell? ⟨bA1, 1, none⟩ = some (.int .i64 0) := A1.out.cell 1
      have A1_z : bA1 < w7.heap.size := A1.out.lt
      go_wp2_with fail
      go_ret
      exact ⟨by first | rfl | simp, HB.out⟩
  · have g6 : ((fl.length : Int) == 6) = false := beq_eq_false_iff_ne.2 (by omega)
    cases b2
    · have HD : Hid (deqR fl 1 x = ((fl ++ [x]), 1, 0)) := Lib.hid (by unfold deqR; simp; omega)
      have HD2 : Hid (deqR (fl ++ [x]) 4 0 = (fl, 1, x)) := Lib.hid (by unfold deqR; simp; rw [List.eraseIdx_append_of_length_le (Nat.le_refl _)]; simp)
      clear h6
      go_wp2_with fail
      have hb3 := balloc (Below.refl _ w2) (Obj.cells #[.int .i64 1, .int .i64 0, .int .i64 x] 30)
      have P := Lib.hid (Blk.new w2 [.int .i64 1, .int .i64 0, .int .i64 x] 30)
      change Hid (Blk (w2.alloc (Obj.cells #[.int .i64 1, .int .i64 0, .int .i64 x] 30)) _ _ _) at P
      have ZP : Hid ((w2.alloc (Obj.cells #[.int .i64 1, .int .i64 0, .int .i64 x] 30)).heap.size = w2.heap.size + 1) := World.size_alloc _ _
      replace HB := Lib.hid (bcall HB.out hb3)
      replace HF := Lib.hid (HF.out.below hb3)
      clear hb3
      generalize w2.alloc (Obj.cells #[.int .i64 1, .int .i64 0, .int .i64 x] 30) = w3 at *
      generalize w2.heap.size = bP at *
      have P_c0 : w3.cell? ⟨bP, 0, none⟩ = some (.int .i64 1) := P.out.cell 0
      have P_c1 : w3.cell? ⟨bP, 1, none⟩ = some (.int .i64 0) := P.out.cell 1
      have P_c2 : w3.cell? ⟨bP, 2, none⟩ = some (.int .i64 x) := P.out.cell 2
      have P_z : bP < w3.heap.size := P.out.lt
      have hb4 := balloc (Below.refl _ w3) (Obj.cells #[.int .i64 4, .int .i64 0, .int .i64 0] 30)
      have Q := Lib.hid (Blk.new w3 [.int .i64 4, .int .i64 0, .int .i64 0] 30)
      change Hid (Blk (w3.alloc (Obj.cells #[.int .i64 4, .int .i64 0, .int .i64 0] 30)) _ _ _) at Q
      have ZQ : Hid ((w3.alloc (Obj.cells #[.int .i64 4, .int .i64 0, .int .i64 0] 30)).heap.size = w3.heap.size + 1) := World.size_alloc _ _
      clear P_c0 P_c1 P_c2 P_z
      replace HB := Lib.hid (bcall HB.out hb4)
      replace HF := Lib.hid (HF.out.below hb4)
      replace P := Lib.hid (P.out.below hb4)
      clear hb4
      rw [ZP.out] at Q ZQ
      clear ZP
      generalize w3.alloc (Obj.cells #[.int .i64 4, .int .i64 0, .int .i64 0] 30) = w4 at *
      have P_c0 : w4.cell? ⟨bP, 0, none⟩ = some (.int .i64 1) := P.out.cell 0
      have P_c1 : w4.cell? ⟨bP, 1, none⟩ = some (.int .i64 0) := P.out.cell 1
      have P_c2 : w4.cell? ⟨bP, 2, none⟩ = some (.int .i64 x) := P.out.cell 2
      have P_z : bP < w4.heap.size := P.out.lt
      have Q_c0 : w4.cell? ⟨(bP + 1), 0, none⟩ = some (.int .i64 4) := Q.out.cell 0
      have Q_c1 : w4.cell? ⟨(bP + 1), 1, none⟩ = some (.int .i64 0) := Q.out.cell 1
      have Q_c2 : w4.cell? ⟨(bP + 1), 2, none⟩ = some (.int .i64 0) := Q.out.cell 2
      have Q_z : (bP + 1) < w4.heap.size := Q.out.lt
      refine (deque_eq _ _ fl 1 0 x HF.out.sl (by omega) HD.out).mono ?_
      rintro e w5 ⟨v2, rfl, ho2, hb5⟩
      clear P_c0 P_c1 P_c2 P_z
      clear Q_c0 Q_c1 Q_c2 Q_z
      replace HB := Lib.hid (bcall HB.out hb5)
      replace HF := Lib.hid (HF.out.below hb5)
      replace P := Lib.hid (P.out.below hb5)
      replace Q := Lib.hid (Q.out.below hb5)
      replace ho2 := Lib.hid ho2
      clear hb5
      have P_c0 : w5.cell? ⟨bP, 0, none⟩ = some (.int .i64 1) := P.out.cell 0
      have P_c1 : w5.cell? ⟨bP, 1, none⟩ = some (.int .i64 0) := P.out.cell 1
      have P_c2 : w5.cell? ⟨bP, 2, none⟩ = some (.int .i64 x) := P.out.cell 2
      have P_z : bP < w5.heap.size := P.out.lt
      have Q_c0 : w5.cell? ⟨(bP + 1), 0, none⟩ = some (.int .i64 4) := Q.out.cell 0
      have Q_c1 : w5.cell? ⟨(bP + 1), 1, none⟩ = some (.int .i64 0) := Q.out.cell 1
      have Q_c2 : w5.cell? ⟨(bP + 1), 2, none⟩ = some (.int .i64 0) := Q.out.cell 2
      have Q_z : (bP + 1) < w5.heap.size := Q.out.lt
      go_wp2_with fail
      have hb6 := balloc (Below.refl _ w5) (Obj.cells #[.int .i64 1, .int .i64 0] 26)
      have A1 := Lib.hid (Blk.new w5 [.int .i64 1, .int .i64 0] 26)
      change Hid (Blk (w5.alloc (Obj.cells #[.int .i64 1, .int .i64 0] 26)) _ _ _) at A1
      have ZA1 : Hid ((w5.alloc (Obj.cells #[.int .i64 1, .int .i64 0] 26)).heap.size = w5.heap.size + 1) := World.size_alloc _ _
      clear P_c0 P_c1 P_c2 P_z
      clear Q_c0 Q_c1 Q_c2 Q_z
      replace HB := Lib.hid (bcall HB.out hb6)
      replace HF := Lib.hid (HF.out.below hb6)
      replace P := Lib.hid (P.out.below hb6)
      replace Q := Lib.hid (Q.out.below hb6)
      replace ho2 := Lib.hid (ho2.out.below hb6)
      clear hb6
      generalize w5.alloc (Obj.cells #[.int .i64 1, .int .i64 0] 26) = w6 at *
      generalize w5.heap.size = bA1 at *
      have P_c0 : w6.cell? ⟨bP, 0, none⟩ = some (.int .i64 1) := P.out.cell 0
      have P_c1 : w6.cell? ⟨bP, 1, none⟩ = some (.int .i64 0) := P.out.cell 1
      have P_c2 : w6.cell? ⟨bP, 2, none⟩ = some (.int .i64 x) := P.out.cell 2
      have P_z : bP < w6.heap.size := P.out.lt
      have Q_c0 : w6.cell? ⟨(bP + 1), 0, none⟩ = some (.int .i64 4) := Q.out.cell 0
      have Q_c1 : w6.cell? ⟨(bP + 1), 1, none⟩ = some (.int .i64 0) := Q.out.cell 1
      have Q_c2 : w6.cell? ⟨(bP + 1), 2, none⟩ = some (.int .i64 0) := Q.out.cell 2
      have Q_z : (bP + 1) < w6.heap.size := Q.out.lt
      have A1_c0 : w6.cell? ⟨bA1, 0, none⟩ = some (.int .i64 1) := A1.out.cell 0
      have A1_c1 : w6.cell? ⟨bA1, 1, none⟩ = some (.int .i64 0) := A1.out.cell 1
      have A1_z : bA1 < w6.heap.size := A1.out.lt
      go_wp2_with fail
      refine (deque_eq _ _ (fl ++ [x]) 4 0 0 ho2.out.sl (by simp; omega) HD2.out).mono ?_
      rintro e w7 ⟨v3, rfl, ho3, hb7⟩
      clear P_c0 P_c1 P_c2 P_z
      clear Q_c0 Q_c1 Q_c2 Q_z
      clear A1_c0 A1_c1 A1_z
      replace HB := Lib.hid (bcall HB.out hb7)
      replace HF := Lib.hid (HF.out.below hb7)
      replace P := Lib.hid (P.out.below hb7)
      replace Q := Lib.hid (Q.out.below hb7)
      replace ho2 := Lib.hid (ho2.out.below hb7)
      replace A1 := Lib.hid (A1.out.below hb7)
      replace ho3 := Lib.hid ho3
      clear hb7
      have P_c0 : w7.cell? ⟨bP, 0, none⟩ = some (.int .i64 1) := P.out.cell 0
      have P_c1 : w7.cell? ⟨bP, 1, none⟩ = some (.int .i64 0) := P.out.cell 1
      have P_c2 : w7.cell? ⟨bP, 2, none⟩ = some (.int .i64 x) := P.out.cell 2
      have P_z : bP < w7.heap.size := P.out.lt
      have Q_c0 : w7.cell? ⟨(bP + 1), 0, none⟩ = some (.int .i64 4) := Q.out.cell 0
      have Q_c1 : w7.cell? ⟨(bP + 1), 1, none⟩ = some (.int .i64 0) := Q.out.cell 1
      have Q_c2 : w7.cell? ⟨(bP + 1), 2, none⟩ = some (.int .i64 0) := Q.out.cell 2
      have Q_z : (bP + 1) < w7.heap.size := Q.out.lt
      have A1_c0 : w7.cell? ⟨bA1, 0, none⟩ = some (.int .i64 1) := A1.out.cell 0
      have A1_c1 : w7.cell? ⟨bA1, 1, none⟩ = some (.int .i64 0) := A1.out.cell 1
      have A1_z : bA1 < w7.heap.size := A1.out.lt
      go_wp2_with fail
      have hb8 := balloc (Below.refl _ w7) (Obj.cells #[.int .i64 1, .int .i64 x] 26)
      have A2 := Lib.hid (Blk.new w7 [.int .i64 1, .int .i64 x] 26)
      change Hid (Blk (w7.alloc (Obj.cells #[.int .i64 1, .int .i64 x] 26)) _ _ _) at A2
      have ZA2 : Hid ((w7.alloc (Obj.cells #[.int .i64 1, .int .i64 x] 26)).heap.size = w7.heap.size + 1) := World.size_alloc _ _
      clear P_c0 P_c1 P_c2 P_z
      clear Q_c0 Q_c1 Q_c2 Q_z
      clear A1_c0 A1_c1 A1_z
      replace HB := Lib.hid (bcall HB.out hb8)
      replace HF := Lib.hid (HF.out.below hb8)
      replace P := Lib.hid (P.out.below hb8)
      replace Q := Lib.hid (Q.out.below hb8)
      replace ho2 := Lib.hid (ho2.out.below hb8)
      replace A1 := Lib.hid (A1.out.below hb8)
      replace ho3 := Lib.hid (ho3.out.below hb8)
      clear hb8
      generalize w7.alloc (Obj.cells #[.int .i64 1, .int .i64 x] 26) = w8 at *
      generalize w7.heap.size = bA2 at *
      have P_c0 : w8.cell? ⟨bP, 0, none⟩ = some (.int .i64 1) := P.out.cell 0
      have P_c1 : w8.cell? ⟨bP, 1, none⟩ = some (.int .i64 0) := P.out.cell 1
      have P_c2 : w8.cell? ⟨bP, 2, none⟩ = some (.int .i64 x) := P.out.cell 2
      have P_z : bP < w8.heap.size := P.out.lt
      have Q_c0 : w8.cell? ⟨(bP + 1), 0, none⟩ = some (.int .i64 4) := Q.out.cell 0
      have Q_c1 : w8.cell? ⟨(bP + 1), 1, none⟩ = some (.int .i64 0) := Q.out.cell 1
      have Q_c2 : w8.cell? ⟨(bP + 1), 2, none⟩ = some (.int .i64 0) := Q.out.cell 2
      have Q_z : (bP + 1) < w8.heap.size := Q.out.lt
      have A1_c0 : w8.cell? ⟨bA1, 0, none⟩ = some (.int .i64 1) := A1.out.cell 0
      have A1_c1 : w8.cell? ⟨bA1, 1, none⟩ = some (.int .i64 0) := A1.out.cell 1
      have A1_z : bA1 < w8.heap.size := A1.out.lt
      have A2_c0 : w8.cell? ⟨bA2, 0, none⟩ = some (.int .i64 1) := A2.out.cell 0
      have A2_c1 : w8.cell? ⟨bA2, 1, none⟩ = some (.int .i64 x) := A2.out.cell 1
      have A2_z : bA2 < w8.heap.size := A2.out.lt
      go_wp2_with fail
      refine (equal_yes _ _ _ fl fl ho3.out.sl HF.out.sl rfl (by omega)).mono ?_
      rintro e w9 ⟨rfl, hb9⟩
      clear P_c0 P_c1 P_c2 P_z
      clear Q_c0 Q_c1 Q_c2 Q_z
      clear A1_c0 A1_c1 A1_z
      clear A2_c0 A2_c1 A2_z
      replace HB := Lib.hid (bcall HB.out hb9)
      replace HF := Lib.hid (HF.out.below hb9)
      replace P := Lib.hid (P.out.below hb9)
      replace Q := Lib.hid (Q.out.below hb9)
      replace ho2 := Lib.hid (ho2.out.below hb9)
      replace A1 := Lib.hid (A1.out.below hb9)
      replace ho3 := Lib.hid (ho3.out.below hb9)
      replace A2 := Lib.hid (A2.out.below hb9)
      clear hb9
      have P_c0 : w9.cell? ⟨bP, 0, none⟩ = some (.int .i64 1) := P.out.cell 0
      have P_c1 : w9.cell? ⟨bP, 1, none⟩ = some (.int .i64 0) := P.out.cell 1
      have P_c2 : w9.cell? ⟨bP, 2, none⟩ = some (.int .i64 x) := P.out.cell 2
      have P_z : bP < w9.heap.size := P.out.lt
      have Q_c0 : w9.cell? ⟨(bP + 1), 0, none⟩ = some (.int .i64 4) := Q.out.cell 0
      have Q_c1 : w9.cell? ⟨(bP + 1), 1, none⟩ = some (.int .i64 0) := Q.out.cell 1
      have Q_c2 : w9.cell? ⟨(bP + 1), 2, none⟩ = some (.int .i64 0) := Q.out.cell 2
      have Q_z : (bP + 1) < w9.heap.size := Q.out.lt
      have A1_c0 : w9.cell? ⟨bA1, 0, none⟩ = some (.int .i64 1) := A1.out.cell 0
      have A1_c1 : w9.cell? ⟨bA1, 1, none⟩ = some (.int .i64 0) := A1.out.cell 1
      have A1_z : bA1 < w9.heap.size := A1.out.lt
      have A2_c0 : w9.cell? ⟨bA2, 0, none⟩ = some (.int .i64 1) := A2.out.cell 0
      have A2_c1 : w9.cell? ⟨bA2, 1, none⟩ = some (.int .i64 x) := A2.out.cell 1
      have A2_z : bA2 < w9.heap.size := A2.out.lt
      go_wp2_with fail
      go_ret
      exact ⟨by first | rfl | simp, HB.out⟩
    · have HD : Hid (deqR fl 3 x = ((x :: fl), 1, 0)) := Lib.hid (by unfold deqR; simp; omega)
      have HD2 : Hid (deqR (x :: fl) 2 0 = (fl, 1, x)) := Lib.hid (by unfold deqR; simp)
      clear h6
      go_wp2_with fail
      have hb3 := balloc (Below.refl _ w2) (Obj.cells #[.int .i64 3, .int .i64 0, .int .i64 x] 30)
      have P := Lib.hid (Blk.new w2 [.int .i64 3, .int .i64 0, .int .i64 x] 30)
      change Hid (Blk (w2.alloc (Obj.cells #[.int .i64 3, .int .i64 0, .int .i64 x] 30)) _ _ _) at P
      have ZP : Hid ((w2.alloc (Obj.cells #[.int .i64 3, .int .i64 0, .int .i64 x] 30)).heap.size = w2.heap.size + 1) := World.size_alloc _ _
      replace HB := Lib.hid (bcall HB.out hb3)
      replace HF := Lib.hid (HF.out.below hb3)
      clear hb3
      generalize w2.alloc (Obj.cells #[.int .i64 3, .int .i64 0, .int .i64 x] 30) = w3 at *
      generalize w2.heap.size = bP at *
      have P_c0 : w3.cell? ⟨bP, 0, none⟩ = some (.int .i64 3) := P.out.cell 0
      have P_c1 : w3.cell? ⟨bP, 1, none⟩ = some (.int .i64 0) := P.out.cell 1
      have P_c2 : w3.cell? ⟨bP, 2, none⟩ = some (.int .i64 x) := P.out.cell 2
      have P_z : bP < w3.heap.size := P.out.lt
      have hb4 := balloc (Below.refl _ w3) (Obj.cells #[.int .i64 2, .int .i64 0, .int .i64 0] 30)
      have Q := Lib.hid (Blk.new w3 [.int .i64 2, .int .i64 0, .int .i64 0] 30)
      change Hid (Blk (w3.alloc (Obj.cells #[.int .i64 2, .int .i64 0, .int .i64 0] 30)) _ _ _) at Q
      have ZQ : Hid ((w3.alloc (Obj.cells #[.int .i64 2, .int .i64 0, .int .i64 0] 30)).heap.size = w3.heap.size + 1) := World.size_alloc _ _
      clear P_c0 P_c1 P_c2 P_z
      replace HB := Lib.hid (bcall HB.out hb4)
      replace HF := Lib.hid (HF.out.below hb4)
      replace P := Lib.hid (P.out.below hb4)
      clear hb4
      rw [ZP.out] at Q ZQ
      clear ZP
      generalize w3.alloc (Obj.cells #[.int .i64 2, .int .i64 0, .int .i64 0] 30) = w4 at *
      have P_c0 : w4.cell? ⟨bP, 0, none⟩ = some (.int .i64 3) := P.out.cell 0
      have P_c1 : w4.cell? ⟨bP, 1, none⟩ = some (.int .i64 0) := P.out.cell 1
      have P_c2 : w4.cell? ⟨bP, 2, none⟩ = some (.int .i64 x) := P.out.cell 2
      have P_z : bP < w4.heap.size := P.out.lt
      have Q_c0 : w4.cell? ⟨(bP + 1), 0, none⟩ = some (.int .i64 2) := Q.out.cell 0
      have Q_c1 : w4.cell? ⟨(bP + 1), 1, none⟩ = some (.int .i64 0) := Q.out.cell 1
      have Q_c2 : w4.cell? ⟨(bP + 1), 2, none⟩ = some (.int .i64 0) := Q.out.cell 2
      have Q_z : (bP + 1) < w4.heap.size := Q.out.lt
      refine (deque_eq _ _ fl 3 0 x HF.out.sl (by omega) HD.out).mono ?_
      rintro e w5 ⟨v2, rfl, ho2, hb5⟩
      clear P_c0 P_c1 P_c2 P_z
      clear Q_c0 Q_c1 Q_c2 Q_z
      replace HB := Lib.hid (bcall HB.out hb5)
      replace HF := Lib.hid (HF.out.below hb5)
      replace P := Lib.hid (P.out.below hb5)
      replace Q := Lib.hid (Q.out.below hb5)
      replace ho2 := Lib.hid ho2
      clear hb5
      have P_c0 : w5.cell? ⟨bP, 0, none⟩ = some (.int .i64 3) := P.out.cell 0
      have P_c1 : w5.cell? ⟨bP, 1, none⟩ = some (.int .i64 0) := P.out.cell 1
      have P_c2 : w5.cell? ⟨bP, 2, none⟩ = some (.int .i64 x) := P.out.cell 2
      have P_z : bP < w5.heap.size := P.out.lt
      have Q_c0 : w5.cell? ⟨(bP + 1), 0, none⟩ = some (.int .i64 2) := Q.out.cell 0
      have Q_c1 : w5.cell? ⟨(bP + 1), 1, none⟩ = some (.int .i64 0) := Q.out.cell 1
      have Q_c2 : w5.cell? ⟨(bP + 1), 2, none⟩ = some (.int .i64 0) := Q.out.cell 2
      have Q_z : (bP + 1) < w5.heap.size := Q.out.lt
      go_wp2_with fail
      have hb6 := balloc (Below.refl _ w5) (Obj.cells #[.int .i64 1, .int .i64 0] 26)
      have A1 := Lib.hid (Blk.new w5 [.int .i64 1, .int .i64 0] 26)
      change Hid (Blk (w5.alloc (Obj.cells #[.int .i64 1, .int .i64 0] 26)) _ _ _) at A1
      have ZA1 : Hid ((w5.alloc (Obj.cells #[.int .i64 1, .int .i64 0] 26)).heap.size = w5.heap.size + 1) := World.size_alloc _ _
      clear P_c0 P_c1 P_c2 P_z
      clear Q_c0 Q_c1 Q_c2 Q_z
      replace HB := Lib.hid (bcall HB.out hb6)
      replace HF := Lib.hid (HF.out.below hb6)
      replace P := Lib.hid (P.out.below hb6)
      replace Q := Lib.hid (Q.out.below hb6)
      replace ho2 := Lib.hid (ho2.out.below hb6)
      clear hb6
      generalize w5.alloc (Obj.cells #[.int .i64 1, .int .i64 0] 26) = w6 at *
      generalize w5.heap.size = bA1 at *
      have P_c0 : w6.cell? ⟨bP, 0, none⟩ = some (.int .i64 3) := P.out.cell 0
      have P_c1 : w6.cell? ⟨bP, 1, none⟩ = some (.int .i64 0) := P.out.cell 1
      have P_c2 : w6.cell? ⟨bP, 2, none⟩ = some (.int .i64 x) := P.out.cell 2
      have P_z : bP < w6.heap.size := P.out.lt
      have Q_c0 : w6.cell? ⟨(bP + 1), 0, none⟩ = some (.int .i64 2) := Q.out.cell 0
      have Q_c1 : w6.cell? ⟨(bP + 1), 1, none⟩ = some (.int .i64 0) := Q.out.cell 1
      have Q_c2 : w6.cell? ⟨(bP + 1), 2, none⟩ = some (.int .i64 0) := Q.out.cell 2
      have Q_z : (bP + 1) < w6.heap.size := Q.out.lt
      have A1_c0 : w6.cell? ⟨bA1, 0, none⟩ = some (.int .i64 1) := A1.out.cell 0
      have A1_c1 : w6.cell? ⟨bA1, 1, none⟩ = some (.int .i64 0) := A1.out.cell 1
      have A1_z : bA1 < w6.heap.size := A1.out.lt
      go_wp2_with fail
      refine (deque_eq _ _ (x :: fl) 2 0 0 ho2.out.sl (by simp; omega) HD2.out).mono ?_
      rintro e w7 ⟨v3, rfl, ho3, hb7⟩
      clear P_c0 P_c1 P_c2 P_z
      clear Q_c0 Q_c1 Q_c2 Q_z
      clear A1_c0 A1_c1 A1_z
      replace HB := Lib.hid (bcall HB.out hb7)
      replace HF := Lib.hid (HF.out.below hb7)
      replace P := Lib.hid (P.out.below hb7)
      replace Q := Lib.hid (Q.out.below hb7)
      replace ho2 := Lib.hid (ho2.out.below hb7)
      replace A1 := Lib.hid (A1.out.below hb7)
      replace ho3 := Lib.hid ho3
      clear hb7
      have P_c0 : w7.cell? ⟨bP, 0, none⟩ = some (.int .i64 3) := P.out.cell 0
      have P_c1 : w7.cell? ⟨bP, 1, none⟩ = some (.int .i64 0) := P.out.cell 1
      have P_c2 : w7.cell? ⟨bP, 2, none⟩ = some (.int .i64 x) := P.out.cell 2
      have P_z : bP < w7.heap.size := P.out.lt
      have Q_c0 : w7.cell? ⟨(bP + 1), 0, none⟩ = some (.int .i64 2) := Q.out.cell 0
      have Q_c1 : w7.cell? ⟨(bP + 1), 1, none⟩ = some (.int .i64 0) := Q.out.cell 1
      have Q_c2 : w7.cell? ⟨(bP + 1), 2, none⟩ = some (.int .i64 0) := Q.out.cell 2
      have Q_z : (bP + 1) < w7.heap.size := Q.out.lt
      have A1_c0 : w7.cell? ⟨bA1, 0, none⟩ = some (.int .i64 1) := A1.out.cell 0
      have A1_c1 : w7.cell? ⟨bA1, 1, none⟩ = some (.int .i64 0) := A1.out.cell 1
      have A1_z : bA1 < w7.heap.size := A1.out.lt
      go_wp2_with fail
      have hb8 := balloc (Below.refl _ w7) (Obj.cells #[.int .i64 1, .int .i64 x] 26)
      have A2 := Lib.hid (Blk.new w7 [.int .i64 1, .int .i64 x] 26)
      change Hid (Blk (w7.alloc (Obj.cells #[.int .i64 1, .int .i64 x] 26)) _ _ _) at A2
      have ZA2 : Hid ((w7.alloc (Obj.cells #[.int .i64 1, .int .i64 x] 26)).heap.size = w7.heap.size + 1) := World.size_alloc _ _
      clear P_c0 P_c1 P_c2 P_z
      clear Q_c0 Q_c1 Q_c2 Q_z
      clear A1_c0 A1_c1 A1_z
      replace HB := Lib.hid (bcall HB.out hb8)
      replace HF := Lib.hid (HF.out.below hb8)
      replace P := Lib.hid (P.out.below hb8)
      replace Q := Lib.hid (Q.out.below hb8)
      replace ho2 := Lib.hid (ho2.out.below hb8)
      replace A1 := Lib.hid (A1.out.below hb8)
      replace ho3 := Lib.hid (ho3.out.below hb8)
      clear hb8
      generalize w7.alloc (Obj.cells #[.int .i64 1, .int .i64 x] 26) = w8 at *
      generalize w7.heap.size = bA2 at *
      have P_c0 : w8.cell? ⟨bP, 0, none⟩ = some (.int .i64 3) := P.out.cell 0
      have P_c1 : w8.cell? ⟨bP, 1, none⟩ = some (.int .i64 0) := P.out.cell 1
      have P_c2 : w8.cell? ⟨bP, 2, none⟩ = some (.int .i64 x) := P.out.cell 2
      have P_z : bP < w8.heap.size := P.out.lt
      have Q_c0 : w8.cell? ⟨(bP + 1), 0, none⟩ = some (.int .i64 2) := Q.out.cell 0
      have Q_c1 : w8.cell? ⟨(bP + 1), 1, none⟩ = some (.int .i64 0) := Q.out.cell 1
      have Q_c2 : w8.cell? ⟨(bP + 1), 2, none⟩ = some (.int .i64 0) := Q.out.cell 2
      have Q_z : (bP + 1) < w8.heap.size := Q.out.lt
      have A1_c0 : w8.cell? ⟨bA1, 0, none⟩ = some (.int .i64 1) := A1.out.cell 0
      have A1_c1 : w8.cell? ⟨bA1, 1, none⟩ = some (.int .i64 0) := A1.out.cell 1
      have A1_z : bA1 < w8.heap.size := A1.out.lt
      have A2_c0 : w8.cell? ⟨bA2, 0, none⟩ = some (.int .i64 1) := A2.out.cell 0
      have A2_c1 : w8.cell? ⟨bA2, 1, none⟩ = some (.int .i64 x) := A2.out.cell 1
      have A2_z : bA2 < w8.heap.size := A2.out.lt
      go_wp2_with fail
      refine (equal_yes _ _ _ fl fl ho3.out.sl HF.out.sl rfl (by omega)).mono ?_
      rintro e w9 ⟨rfl, hb9⟩
      clear P_c0 P_c1 P_c2 P_z
      clear Q_c0 Q_c1 Q_c2 Q_z
      clear A1_c0 A1_c1 A1_z
      clear A2_c0 A2_c1 A2_z
      replace HB := Lib.hid (bcall HB.out hb9)
      replace HF := Lib.hid (HF.out.below hb9)
      replace P := Lib.hid (P.out.below hb9)
      replace Q := Lib.hid (Q.out.below hb9)
      replace ho2 := Lib.hid (ho2.out.below hb9)
      replace A1 := Lib.hid (A1.out.below hb9)
      replace ho3 := Lib.hid (ho3.out.below hb9)
      replace A2 := Lib.hid (A2.out.below hb9)
      clear hb9
      have P_c0 : w9.cell? ⟨bP, 0, none⟩ = some (.int .i64 3) := P.out.cell 0
      have P_c1 : w9.cell? ⟨bP, 1, none⟩ = some (.int .i64 0) := P.out.cell 1
      have P_c2 : w9.cell? ⟨bP, 2, none⟩ = some (.int .i64 x) := P.out.cell 2
      have P_z : bP < w9.heap.size := P.out.lt
      have Q_c0 : w9.cell? ⟨(bP + 1), 0, none⟩ = some (.int .i64 2) := Q.out.cell 0
      have Q_c1 : w9.cell? ⟨(bP + 1), 1, none⟩ = some (.int .i64 0) := Q.out.cell 1
      have Q_c2 : w9.cell? ⟨(bP + 1), 2, none⟩ = some (.int .i64 0) := Q.out.cell 2
      have Q_z : (bP + 1) < w9.heap.size := Q.out.lt
      have A1_c0 : w9.cell? ⟨bA1, 0, none⟩ = some (.int .i64 1) := A1.out.cell 0
      have A1_c1 : w9.cell? ⟨bA1, 1, none⟩ = some (.int .i64 0) := A1.out.cell 1
      have A1_z : bA1 < w9.heap.size := A1.out.lt
      have A2_c0 : w9.cell? ⟨bA2, 0, none⟩ = some (.int .i64 1) := A2.out.cell 0
      have A2_c1 : w9.cell? ⟨bA2, 1, none⟩ = some (.int .i64 x) := A2.out.cell 1
      have A2_z : bA2 < w9.heap.size := A2.out.lt
      go_wp2_with fail
      go_ret
      exact ⟨by first | rfl | simp, HB.out⟩
end Go.Proofs.Ytpedkcpkdacnlaa
