/- The walk of the law DequeStack. -/
import Derived.Test.YtpedkcpkdacnlaaDequeQueue
import Derived.Deep.Cut
namespace Go.Proofs.Ytpedkcpkdacnlaa
open Go.RowKit
set_option linter.unusedVariables false
set_option maxRecDepth 20000 in
set_option maxHeartbeats 4000000 in
theorem walk_DequeStack (a0 : Option Addr) (len0 cap0 : Nat) (z0 : List Int) (o0 o1 o2 : Int) (w : World) (w0 : IsRow .i64 w a0 len0 cap0 z0) :
    Calls Try.prog 7 #[.slice a0 len0 cap0, .agg #[.int .i64 o0, .int .i64 o1, .int .i64 o2]] w fun e w' => e = .returned (.bool true) ∧ Below w.heap.size w w' := by
  obtain ⟨ys, hl, hs⟩ := row_sl w0
  clear w0
  have HS := Lib.hid hs
  clear hs
  have HB := Lib.hid (Below.refl w.heap.size w)
  go_enter Try.func7, Try.ntmps7
  go_upto_region 1 with fail
  have hb1 := balloc (Below.refl _ w) (Obj.cells #[.int .i64 o0, .int .i64 o1, .int .i64 o2] 30)
  have P := Lib.hid (Blk.new w [.int .i64 o0, .int .i64 o1, .int .i64 o2] 30)
  change Hid (Blk (w.alloc (Obj.cells #[.int .i64 o0, .int .i64 o1, .int .i64 o2] 30)) _ _ _) at P
  have ZP : Hid ((w.alloc (Obj.cells #[.int .i64 o0, .int .i64 o1, .int .i64 o2] 30)).heap.size = w.heap.size + 1) := World.size_alloc _ _
  replace HB := Lib.hid (bcall HB.out hb1)
  replace HS := Lib.hid (HS.out.below hb1)
  clear hb1
  generalize w.alloc (Obj.cells #[.int .i64 o0, .int .i64 o1, .int .i64 o2] 30) = w1 at *
  have P_c0 : w1.cell? ⟨w.heap.size, 0, none⟩ = some (.int .i64 o0) := P.out.cell 0
  have P_c1 : w1.cell? ⟨w.heap.size, 1, none⟩ = some (.int .i64 o1) := P.out.cell 1
  have P_c2 : w1.cell? ⟨w.heap.size, 2, none⟩ = some (.int .i64 o2) := P.out.cell 2
  have P_z : w.heap.size < w1.heap.size := P.out.lt
  go_wp2_with fail
  refine (dealt_any _).mono ?_
  rintro e w2 ⟨rfl, hb2⟩
  clear P_c0 P_c1 P_c2 P_z
  replace HB := Lib.hid (bcall HB.out hb2)
  replace HS := Lib.hid (HS.out.below hb2)
  replace P := Lib.hid (P.out.below hb2)
  clear hb2
  have P_c0 : w2.cell? ⟨w.heap.size, 0, none⟩ = some (.int .i64 o0) := P.out.cell 0
  have P_c1 : w2.cell? ⟨w.heap.size, 1, none⟩ = some (.int .i64 o1) := P.out.cell 1
  have P_c2 : w2.cell? ⟨w.heap.size, 2, none⟩ = some (.int .i64 o2) := P.out.cell 2
  have P_z : w.heap.size < w2.heap.size := P.out.lt
  go_wp2_with fail
  refine (stacked_any _).mono ?_
  rintro e w3 ⟨rfl, hb3⟩
  clear P_c0 P_c1 P_c2 P_z
  replace HB := Lib.hid (bcall HB.out hb3)
  replace HS := Lib.hid (HS.out.below hb3)
  replace P := Lib.hid (P.out.below hb3)
  clear hb3
  have P_c0 : w3.cell? ⟨w.heap.size, 0, none⟩ = some (.int .i64 o0) := P.out.cell 0
  have P_c1 : w3.cell? ⟨w.heap.size, 1, none⟩ = some (.int .i64 o1) := P.out.cell 1
  have P_c2 : w3.cell? ⟨w.heap.size, 2, none⟩ = some (.int .i64 o2) := P.out.cell 2
  have P_z : w.heap.size < w3.heap.size := P.out.lt
  go_wp2_with fail
  refine (op_right o0 o1 o2 _).mono ?_
  rintro e w4 ⟨rfl, hb4⟩
  clear P_c0 P_c1 P_c2 P_z
  replace HB := Lib.hid (bcall HB.out hb4)
  replace HS := Lib.hid (HS.out.below hb4)
  replace P := Lib.hid (P.out.below hb4)
  clear hb4
  have P_c0 : w4.cell? ⟨w.heap.size, 0, none⟩ = some (.int .i64 o0) := P.out.cell 0
  have P_c1 : w4.cell? ⟨w.heap.size, 1, none⟩ = some (.int .i64 o1) := P.out.cell 1
  have P_c2 : w4.cell? ⟨w.heap.size, 2, none⟩ = some (.int .i64 o2) := P.out.cell 2
  have P_z : w.heap.size < w4.heap.size := P.out.lt
  by_cases hok : opOk o0 o1 o2 = true
  · rw [hok]
    simp only [opOk, decide_eq_true_eq] at hok
    obtain ⟨b1, b2, -⟩ := hok
    by_cases e1 : o0 = 1 ∨ o0 = 2 ∨ o0 = 6
    · have hdq : ∀ l : List Int, deqR l (if o0 = 2 then 4 else o0) o2 = stkR l o0 o2 := fun l => deq_stk l o0 o2 e1
      have HDQ := Lib.hid hdq
      clear hdq b1 b2
      rcases e1 with rfl | rfl | rfl
      · replace HDQ : Hid (∀ l : List Int, deqR l 1 o2 = stkR l 1 o2) := Lib.hid HDQ.out
        go_wp2_with fail
        refine (few_any _ _ _ ys _ hl HS.out).mono ?_
        rintro e w5 ⟨v1, rfl, HF, hb5⟩
        clear P_c0 P_c1 P_c2 P_z
        replace HB := Lib.hid (bcall HB.out hb5)
        replace HS := Lib.hid (HS.out.below hb5)
        replace P := Lib.hid (P.out.below hb5)
        replace HF := Lib.hid HF
        clear hb5
        have P_c0 : w5.cell? ⟨w.heap.size, 0, none⟩ = some (.int .i64 1) := P.out.cell 0
        have P_c1 : w5.cell? ⟨w.heap.size, 1, none⟩ = some (.int .i64 o1) := P.out.cell 1
        have P_c2 : w5.cell? ⟨w.heap.size, 2, none⟩ = some (.int .i64 o2) := P.out.cell 2
        have P_z : w.heap.size < w5.heap.size := P.out.lt
        clear HS
        have hfl := fewL_len ys
        generalize fewL ys = fl at *
        obtain ⟨p1, cap1, rfl⟩ := HF.out.sl.slice
        clear hl
        obtain ⟨zs, c, r, hd⟩ : ∃ zs c r, deqR fl 1 o2 = (zs, c, r) := ⟨_, _, _, rfl⟩
        have hzl : zs.length ≤ 1000 := by have := deqR_len fl 1 o2; rw [hd] at this; dsimp only at this; omega
        have hd2 := (HDQ.out fl).symm.trans hd
        have HD := Lib.hid hd
        have HD2 := Lib.hid hd2
        clear hd hd2
        go_wp2_with fail
        have hb6 := balloc (Below.refl _ w5) (Obj.cells #[.int .i64 1, .int .i64 o1, .int .i64 o2] 30)
        have Q := Lib.hid (Blk.new w5 [.int .i64 1, .int .i64 o1, .int .i64 o2] 30)
        change Hid (Blk (w5.alloc (Obj.cells #[.int .i64 1, .int .i64 o1, .int .i64 o2] 30)) _ _ _) at Q
        have ZQ : Hid ((w5.alloc (Obj.cells #[.int .i64 1, .int .i64 o1, .int .i64 o2] 30)).heap.size = w5.heap.size + 1) := World.size_alloc _ _
        clear P_c0 P_c1 P_c2 P_z
        replace HB := Lib.hid (bcall HB.out hb6)
        replace P := Lib.hid (P.out.below hb6)
        replace HF := Lib.hid (HF.out.below hb6)
        clear hb6
        generalize w5.alloc (Obj.cells #[.int .i64 1, .int .i64 o1, .int .i64 o2] 30) = w6 at *
        generalize w5.heap.size = bQ at *
        have P_c0 : w6.cell? ⟨w.heap.size, 0, none⟩ = some (.int .i64 1) := P.out.cell 0
        have P_c1 : w6.cell? ⟨w.heap.size, 1, none⟩ = some (.int .i64 o1) := P.out.cell 1
        have P_c2 : w6.cell? ⟨w.heap.size, 2, none⟩ = some (.int .i64 o2) := P.out.cell 2
        have P_z : w.heap.size < w6.heap.size := P.out.lt
        have Q_c0 : w6.cell? ⟨bQ, 0, none⟩ = some (.int .i64 1) := Q.out.cell 0
        have Q_c1 : w6.cell? ⟨bQ, 1, none⟩ = some (.int .i64 o1) := Q.out.cell 1
        have Q_c2 : w6.cell? ⟨bQ, 2, none⟩ = some (.int .i64 o2) := Q.out.cell 2
        have Q_z : bQ < w6.heap.size := Q.out.lt
        go_wp2_with fail
        refine (deque_eq _ _ fl 1 o1 o2 HF.out.sl (by omega) HD.out).mono ?_
        rintro e w7 ⟨v2, rfl, ho2, hb7⟩
        clear P_c0 P_c1 P_c2 P_z
        clear Q_c0 Q_c1 Q_c2 Q_z
        replace HB := Lib.hid (bcall HB.out hb7)
        replace P := Lib.hid (P.out.below hb7)
        replace HF := Lib.hid (HF.out.below hb7)
        replace Q := Lib.hid (Q.out.below hb7)
        replace ho2 := Lib.hid ho2
        clear hb7
        have P_c0 : w7.cell? ⟨w.heap.size, 0, none⟩ = some (.int .i64 1) := P.out.cell 0
        have P_c1 : w7.cell? ⟨w.heap.size, 1, none⟩ = some (.int .i64 o1) := P.out.cell 1
        have P_c2 : w7.cell? ⟨w.heap.size, 2, none⟩ = some (.int .i64 o2) := P.out.cell 2
        have P_z : w.heap.size < w7.heap.size := P.out.lt
        have Q_c0 : w7.cell? ⟨bQ, 0, none⟩ = some (.int .i64 1) := Q.out.cell 0
        have Q_c1 : w7.cell? ⟨bQ, 1, none⟩ = some (.int .i64 o1) := Q.out.cell 1
        have Q_c2 : w7.cell? ⟨bQ, 2, none⟩ = some (.int .i64 o2) := Q.out.cell 2
        have Q_z : bQ < w7.heap.size := Q.out.lt
        go_wp2_with fail
        have hb8 := balloc (Below.refl _ w7) (Obj.cells #[.int .i64 c, .int .i64 r] 26)
        have A1 := Lib.hid (Blk.new w7 [.int .i64 c, .int .i64 r] 26)
        change Hid (Blk (w7.alloc (Obj.cells #[.int .i64 c, .int .i64 r] 26)) _ _ _) at A1
        have ZA1 : Hid ((w7.alloc (Obj.cells #[.int .i64 c, .int .i64 r] 26)).heap.size = w7.heap.size + 1) := World.size_alloc _ _
        clear P_c0 P_c1 P_c2 P_z
        clear Q_c0 Q_c1 Q_c2 Q_z
        replace HB := Lib.hid (bcall HB.out hb8)
        replace P := Lib.hid (P.out.below hb8)
        replace HF := Lib.hid (HF.out.below hb8)
        replace Q := Lib.hid (Q.out.below hb8)
        replace ho2 := Lib.hid (ho2.out.below hb8)
        clear hb8
        generalize w7.alloc (Obj.cells #[.int .i64 c, .int .i64 r] 26) = w8 at *
        generalize w7.heap.size = bA1 at *
        have P_c0 : w8.cell? ⟨w.heap.size, 0, none⟩ = some (.int .i64 1) := P.out.cell 0
        have P_c1 : w8.cell? ⟨w.heap.size, 1, none⟩ = some (.int .i64 o1) := P.out.cell 1
        have P_c2 : w8.cell? ⟨w.heap.size, 2, none⟩ = some (.int .i64 o2) := P.out.cell 2
        have P_z : w.heap.size < w8.heap.size := P.out.lt
        have Q_c0 : w8.cell? ⟨bQ, 0, none⟩ = some (.int .i64 1) := Q.out.cell 0
        have Q_c1 : w8.cell? ⟨bQ, 1, none⟩ = some (.int .i64 o1) := Q.out.cell 1
        have Q_c2 : w8.cell? ⟨bQ, 2, none⟩ = some (.int .i64 o2) := Q.out.cell 2
        have Q_z : bQ < w8.heap.size := Q.out.lt
        have A1_c0 : w8.cell? ⟨bA1, 0, none⟩ = some (.int .i64 c) := A1.out.cell 0
        have A1_c1 : w8.cell? ⟨bA1, 1, none⟩ = some (.int .i64 r) := A1.out.cell 1
        have A1_z : bA1 < w8.heap.size := A1.out.lt
        go_wp2_with fail
        refine (stack_eq _ _ fl 1 o1 o2 HF.out.sl (by omega) HD2.out).mono ?_
        rintro e w9 ⟨v3, rfl, ho3, hb9⟩
        clear P_c0 P_c1 P_c2 P_z
        clear Q_c0 Q_c1 Q_c2 Q_z
        clear A1_c0 A1_c1 A1_z
        replace HB := Lib.hid (bcall HB.out hb9)
        replace P := Lib.hid (P.out.below hb9)
        replace HF := Lib.hid (HF.out.below hb9)
        replace Q := Lib.hid (Q.out.below hb9)
        replace ho2 := Lib.hid (ho2.out.below hb9)
        replace A1 := Lib.hid (A1.out.below hb9)
        replace ho3 := Lib.hid ho3
        clear hb9
        have P_c0 : w9.cell? ⟨w.heap.size, 0, none⟩ = some (.int .i64 1) := P.out.cell 0
        have P_c1 : w9.cell? ⟨w.heap.size, 1, none⟩ = some (.int .i64 o1) := P.out.cell 1
        have P_c2 : w9.cell? ⟨w.heap.size, 2, none⟩ = some (.int .i64 o2) := P.out.cell 2
        have P_z : w.heap.size < w9.heap.size := P.out.lt
        have Q_c0 : w9.cell? ⟨bQ, 0, none⟩ = some (.int .i64 1) := Q.out.cell 0
        have Q_c1 : w9.cell? ⟨bQ, 1, none⟩ = some (.int .i64 o1) := Q.out.cell 1
        have Q_c2 : w9.cell? ⟨bQ, 2, none⟩ = some (.int .i64 o2) := Q.out.cell 2
        have Q_z : bQ < w9.heap.size := Q.out.lt
        have A1_c0 : w9.cell? ⟨bA1, 0, none⟩ = some (.int .i64 c) := A1.out.cell 0
        have A1_c1 : w9.cell? ⟨bA1, 1, none⟩ = some (.int .i64 r) := A1.out.cell 1
        have A1_z : bA1 < w9.heap.size := A1.out.lt
        go_wp2_with fail
        have hb10 := balloc (Below.refl _ w9) (Obj.cells #[.int .i64 c, .int .i64 r] 26)
        have A2 := Lib.hid (Blk.new w9 [.int .i64 c, .int .i64 r] 26)
        change Hid (Blk (w9.alloc (Obj.cells #[.int .i64 c, .int .i64 r] 26)) _ _ _) at A2
        have ZA2 : Hid ((w9.alloc (Obj.cells #[.int .i64 c, .int .i64 r] 26)).heap.size = w9.heap.size + 1) := World.size_alloc _ _
        clear P_c0 P_c1 P_c2 P_z
        clear Q_c0 Q_c1 Q_c2 Q_z
        clear A1_c0 A1_c1 A1_z
        replace HB := Lib.hid (bcall HB.out hb10)
        replace P := Lib.hid (P.out.below hb10)
        replace HF := Lib.hid (HF.out.below hb10)
        replace Q := Lib.hid (Q.out.below hb10)
        replace ho2 := Lib.hid (ho2.out.below hb10)
        replace A1 := Lib.hid (A1.out.below hb10)
        replace ho3 := Lib.hid (ho3.out.below hb10)
        clear hb10
        generalize w9.alloc (Obj.cells #[.int .i64 c, .int .i64 r] 26) = w10 at *
        generalize w9.heap.size = bA2 at *
        have P_c0 : w10.cell? ⟨w.heap.size, 0, none⟩ = some (.int .i64 1) := P.out.cell 0
        have P_c1 : w10.cell? ⟨w.heap.size, 1, none⟩ = some (.int .i64 o1) := P.out.cell 1
        have P_c2 : w10.cell? ⟨w.heap.size, 2, none⟩ = some (.int .i64 o2) := P.out.cell 2
        have P_z : w.heap.size < w10.heap.size := P.out.lt
        have Q_c0 : w10.cell? ⟨bQ, 0, none⟩ = some (.int .i64 1) := Q.out.cell 0
        have Q_c1 : w10.cell? ⟨bQ, 1, none⟩ = some (.int .i64 o1) := Q.out.cell 1
        have Q_c2 : w10.cell? ⟨bQ, 2, none⟩ = some (.int .i64 o2) := Q.out.cell 2
        have Q_z : bQ < w10.heap.size := Q.out.lt
        have A1_c0 : w10.cell? ⟨bA1, 0, none⟩ = some (.int .i64 c) := A1.out.cell 0
        have A1_c1 : w10.cell? ⟨bA1, 1, none⟩ = some (.int .i64 r) := A1.out.cell 1
        have A1_z : bA1 < w10.heap.size := A1.out.lt
        have A2_c0 : w10.cell? ⟨bA2, 0, none⟩ = some (.int .i64 c) := A2.out.cell 0
        have A2_c1 : w10.cell? ⟨bA2, 1, none⟩ = some (.int .i64 r) := A2.out.cell 1
        have A2_z : bA2 < w10.heap.size := A2.out.lt
        go_wp2_with fail
        refine (equal_yes _ _ _ zs zs ho2.out.sl ho3.out.sl rfl hzl).mono ?_
        rintro e w11 ⟨rfl, hb11⟩
        clear P_c0 P_c1 P_c2 P_z
        clear Q_c0 Q_c1 Q_c2 Q_z
        clear A1_c0 A1_c1 A1_z
        clear A2_c0 A2_c1 A2_z
        replace HB := Lib.hid (bcall HB.out hb11)
        replace P := Lib.hid (P.out.below hb11)
        replace HF := Lib.hid (HF.out.below hb11)
        replace Q := Lib.hid (Q.out.below hb11)
        replace ho2 := Lib.hid (ho2.out.below hb11)
        replace A1 := Lib.hid (A1.out.below hb11)
        replace ho3 := Lib.hid (ho3.out.below hb11)
        replace A2 := Lib.hid (A2.out.below hb11)
        clear hb11
        have P_c0 : w11.cell? ⟨w.heap.size, 0, none⟩ = some (.int .i64 1) := P.out.cell 0
        have P_c1 : w11.cell? ⟨w.heap.size, 1, none⟩ = some (.int .i64 o1) := P.out.cell 1
        have P_c2 : w11.cell? ⟨w.heap.size, 2, none⟩ = some (.int .i64 o2) := P.out.cell 2
        have P_z : w.heap.size < w11.heap.size := P.out.lt
        have Q_c0 : w11.cell? ⟨bQ, 0, none⟩ = some (.int .i64 1) := Q.out.cell 0
        have Q_c1 : w11.cell? ⟨bQ, 1, none⟩ = some (.int .i64 o1) := Q.out.cell 1
        have Q_c2 : w11.cell? ⟨bQ, 2, none⟩ = some (.int .i64 o2) := Q.out.cell 2
        have Q_z : bQ < w11.heap.size := Q.out.lt
        have A1_c0 : w11.cell? ⟨bA1, 0, none⟩ = some (.int .i64 c) := A1.out.cell 0
        have A1_c1 : w11.cell? ⟨bA1, 1, none⟩ = some (.int .i64 r) := A1.out.cell 1
        have A1_z : bA1 < w11.heap.size := A1.out.lt
        have A2_c0 : w11.cell? ⟨bA2, 0, none⟩ = some (.int .i64 c) := A2.out.cell 0
        have A2_c1 : w11.cell? ⟨bA2, 1, none⟩ = some (.int .i64 r) := A2.out.cell 1
        have A2_z : bA2 < w11.heap.size := A2.out.lt
        go_wp2_with fail
        go_ret
        exact ⟨by first | rfl | simp, HB.out⟩
      · replace HDQ : Hid (∀ l : List Int, deqR l 4 o2 = stkR l 2 o2) := Lib.hid HDQ.out
        go_wp2_with fail
        refine (few_any _ _ _ ys _ hl HS.out).mono ?_
        rintro e w5 ⟨v1, rfl, HF, hb5⟩
        clear P_c0 P_c1 P_c2 P_z
        replace HB := Lib.hid (bcall HB.out hb5)
        replace HS := Lib.hid (HS.out.below hb5)
        replace P := Lib.hid (P.out.below hb5)
        replace HF := Lib.hid HF
        clear hb5
        have P_c0 : w5.cell? ⟨w.heap.size, 0, none⟩ = some (.int .i64 2) := P.out.cell 0
        have P_c1 : w5.cell? ⟨w.heap.size, 1, none⟩ = some (.int .i64 o1) := P.out.cell 1
        have P_c2 : w5.cell? ⟨w.heap.size, 2, none⟩ = some (.int .i64 o2) := P.out.cell 2
        have P_z : w.heap.size < w5.heap.size := P.out.lt
        clear HS
        have hfl := fewL_len ys
        generalize fewL ys = fl at *
        obtain ⟨p1, cap1, rfl⟩ := HF.out.sl.slice
        clear hl
        obtain ⟨zs, c, r, hd⟩ : ∃ zs c r, deqR fl 4 o2 = (zs, c, r) := ⟨_, _, _, rfl⟩
        have hzl : zs.length ≤ 1000 := by have := deqR_len fl 4 o2; rw [hd] at this; dsimp only at this; omega
        have hd2 := (HDQ.out fl).symm.trans hd
        have HD := Lib.hid hd
        have HD2 := Lib.hid hd2
        clear hd hd2
        go_wp2_with fail
        have hb6 := balloc (Below.refl _ w5) (Obj.cells #[.int .i64 4, .int .i64 o1, .int .i64 o2] 30)
        have Q := Lib.hid (Blk.new w5 [.int .i64 4, .int .i64 o1, .int .i64 o2] 30)
        change Hid (Blk (w5.alloc (Obj.cells #[.int .i64 4, .int .i64 o1, .int .i64 o2] 30)) _ _ _) at Q
        have ZQ : Hid ((w5.alloc (Obj.cells #[.int .i64 4, .int .i64 o1, .int .i64 o2] 30)).heap.size = w5.heap.size + 1) := World.size_alloc _ _
        clear P_c0 P_c1 P_c2 P_z
        replace HB := Lib.hid (bcall HB.out hb6)
        replace P := Lib.hid (P.out.below hb6)
        replace HF := Lib.hid (HF.out.below hb6)
        clear hb6
        generalize w5.alloc (Obj.cells #[.int .i64 4, .int .i64 o1, .int .i64 o2] 30) = w6 at *
        generalize w5.heap.size = bQ at *
        have P_c0 : w6.cell? ⟨w.heap.size, 0, none⟩ = some (.int .i64 2) := P.out.cell 0
        have P_c1 : w6.cell? ⟨w.heap.size, 1, none⟩ = some (.int .i64 o1) := P.out.cell 1
        have P_c2 : w6.cell? ⟨w.heap.size, 2, none⟩ = some (.int .i64 o2) := P.out.cell 2
        have P_z : w.heap.size < w6.heap.size := P.out.lt
        have Q_c0 : w6.cell? ⟨bQ, 0, none⟩ = some (.int .i64 4) := Q.out.cell 0
        have Q_c1 : w6.cell? ⟨bQ, 1, none⟩ = some (.int .i64 o1) := Q.out.cell 1
        have Q_c2 : w6.cell? ⟨bQ, 2, none⟩ = some (.int .i64 o2) := Q.out.cell 2
        have Q_z : bQ < w6.heap.size := Q.out.lt
        go_wp2_with fail
        refine (deque_eq _ _ fl 4 o1 o2 HF.out.sl (by omega) HD.out).mono ?_
        rintro e w7 ⟨v2, rfl, ho2, hb7⟩
        clear P_c0 P_c1 P_c2 P_z
        clear Q_c0 Q_c1 Q_c2 Q_z
        replace HB := Lib.hid (bcall HB.out hb7)
        replace P := Lib.hid (P.out.below hb7)
        replace HF := Lib.hid (HF.out.below hb7)
        replace Q := Lib.hid (Q.out.below hb7)
        replace ho2 := Lib.hid ho2
        clear hb7
        have P_c0 : w7.cell? ⟨w.heap.size, 0, none⟩ = some (.int .i64 2) := P.out.cell 0
        have P_c1 : w7.cell? ⟨w.heap.size, 1, none⟩ = some (.int .i64 o1) := P.out.cell 1
        have P_c2 : w7.cell? ⟨w.heap.size, 2, none⟩ = some (.int .i64 o2) := P.out.cell 2
        have P_z : w.heap.size < w7.heap.size := P.out.lt
        have Q_c0 : w7.cell? ⟨bQ, 0, none⟩ = some (.int .i64 4) := Q.out.cell 0
        have Q_c1 : w7.cell? ⟨bQ, 1, none⟩ = some (.int .i64 o1) := Q.out.cell 1
        have Q_c2 : w7.cell? ⟨bQ, 2, none⟩ = some (.int .i64 o2) := Q.out.cell 2
        have Q_z : bQ < w7.heap.size := Q.out.lt
        go_wp2_with fail
        have hb8 := balloc (Below.refl _ w7) (Obj.cells #[.int .i64 c, .int .i64 r] 26)
        have A1 := Lib.hid (Blk.new w7 [.int .i64 c, .int .i64 r] 26)
        change Hid (Blk (w7.alloc (Obj.cells #[.int .i64 c, .int .i64 r] 26)) _ _ _) at A1
        have ZA1 : Hid ((w7.alloc (Obj.cells #[.int .i64 c, .int .i64 r] 26)).heap.size = w7.heap.size + 1) := World.size_alloc _ _
        clear P_c0 P_c1 P_c2 P_z
        clear Q_c0 Q_c1 Q_c2 Q_z
        replace HB := Lib.hid (bcall HB.out hb8)
        replace P := Lib.hid (P.out.below hb8)
        replace HF := Lib.hid (HF.out.below hb8)
        replace Q := Lib.hid (Q.out.below hb8)
        replace ho2 := Lib.hid (ho2.out.below hb8)
        clear hb8
        generalize w7.alloc (Obj.cells #[.int .i64 c, .int .i64 r] 26) = w8 at *
        generalize w7.heap.size = bA1 at *
        have P_c0 : w8.cell? ⟨w.heap.size, 0, none⟩ = some (.int .i64 2) := P.out.cell 0
        have P_c1 : w8.cell? ⟨w.heap.size, 1, none⟩ = some (.int .i64 o1) := P.out.cell 1
        have P_c2 : w8.cell? ⟨w.heap.size, 2, none⟩ = some (.int .i64 o2) := P.out.cell 2
        have P_z : w.heap.size < w8.heap.size := P.out.lt
        have Q_c0 : w8.cell? ⟨bQ, 0, none⟩ = some (.int .i64 4) := Q.out.cell 0
        have Q_c1 : w8.cell? ⟨bQ, 1, none⟩ = some (.int .i64 o1) := Q.out.cell 1
        have Q_c2 : w8.cell? ⟨bQ, 2, none⟩ = some (.int .i64 o2) := Q.out.cell 2
        have Q_z : bQ < w8.heap.size := Q.out.lt
        have A1_c0 : w8.cell? ⟨bA1, 0, none⟩ = some (.int .i64 c) := A1.out.cell 0
        have A1_c1 : w8.cell? ⟨bA1, 1, none⟩ = some (.int .i64 r) := A1.out.cell 1
        have A1_z : bA1 < w8.heap.size := A1.out.lt
        go_wp2_with fail
        refine (stack_eq _ _ fl 2 o1 o2 HF.out.sl (by omega) HD2.out).mono ?_
        rintro e w9 ⟨v3, rfl, ho3, hb9⟩
        clear P_c0 P_c1 P_c2 P_z
        clear Q_c0 Q_c1 Q_c2 Q_z
        clear A1_c0 A1_c1 A1_z
        replace HB := Lib.hid (bcall HB.out hb9)
        replace P := Lib.hid (P.out.below hb9)
        replace HF := Lib.hid (HF.out.below hb9)
        replace Q := Lib.hid (Q.out.below hb9)
        replace ho2 := Lib.hid (ho2.out.below hb9)
        replace A1 := Lib.hid (A1.out.below hb9)
        replace ho3 := Lib.hid ho3
        clear hb9
        have P_c0 : w9.cell? ⟨w.heap.size, 0, none⟩ = some (.int .i64 2) := P.out.cell 0
        have P_c1 : w9.cell? ⟨w.heap.size, 1, none⟩ = some (.int .i64 o1) := P.out.cell 1
        have P_c2 : w9.cell? ⟨w.heap.size, 2, none⟩ = some (.int .i64 o2) := P.out.cell 2
        have P_z : w.heap.size < w9.heap.size := P.out.lt
        have Q_c0 : w9.cell? ⟨bQ, 0, none⟩ = some (.int .i64 4) := Q.out.cell 0
        have Q_c1 : w9.cell? ⟨bQ, 1, none⟩ = some (.int .i64 o1) := Q.out.cell 1
        have Q_c2 : w9.cell? ⟨bQ, 2, none⟩ = some (.int .i64 o2) := Q.out.cell 2
        have Q_z : bQ < w9.heap.size := Q.out.lt
        have A1_c0 : w9.cell? ⟨bA1, 0, none⟩ = some (.int .i64 c) := A1.out.cell 0
        have A1_c1 : w9.cell? ⟨bA1, 1, none⟩ = some (.int .i64 r) := A1.out.cell 1
        have A1_z : bA1 < w9.heap.size := A1.out.lt
        go_wp2_with fail
        have hb10 := balloc (Below.refl _ w9) (Obj.cells #[.int .i64 c, .int .i64 r] 26)
        have A2 := Lib.hid (Blk.new w9 [.int .i64 c, .int .i64 r] 26)
        change Hid (Blk (w9.alloc (Obj.cells #[.int .i64 c, .int .i64 r] 26)) _ _ _) at A2
        have ZA2 : Hid ((w9.alloc (Obj.cells #[.int .i64 c, .int .i64 r] 26)).heap.size = w9.heap.size + 1) := World.size_alloc _ _
        clear P_c0 P_c1 P_c2 P_z
        clear Q_c0 Q_c1 Q_c2 Q_z
        clear A1_c0 A1_c1 A1_z
        replace HB := Lib.hid (bcall HB.out hb10)
        replace P := Lib.hid (P.out.below hb10)
        replace HF := Lib.hid (HF.out.below hb10)
        replace Q := Lib.hid (Q.out.below hb10)
        replace ho2 := Lib.hid (ho2.out.below hb10)
        replace A1 := Lib.hid (A1.out.below hb10)
        replace ho3 := Lib.hid (ho3.out.below hb10)
        clear hb10
        generalize w9.alloc (Obj.cells #[.int .i64 c, .int .i64 r] 26) = w10 at *
        generalize w9.heap.size = bA2 at *
        have P_c0 : w10.cell? ⟨w.heap.size, 0, none⟩ = some (.int .i64 2) := P.out.cell 0
        have P_c1 : w10.cell? ⟨w.heap.size, 1, none⟩ = some (.int .i64 o1) := P.out.cell 1
        have P_c2 : w10.cell? ⟨w.heap.size, 2, none⟩ = some (.int .i64 o2) := P.out.cell 2
        have P_z : w.heap.size < w10.heap.size := P.out.lt
        have Q_c0 : w10.cell? ⟨bQ, 0, none⟩ = some (.int .i64 4) := Q.out.cell 0
        have Q_c1 : w10.cell? ⟨bQ, 1, none⟩ = some (.int .i64 o1) := Q.out.cell 1
        have Q_c2 : w10.cell? ⟨bQ, 2, none⟩ = some (.int .i64 o2) := Q.out.cell 2
        have Q_z : bQ < w10.heap.size := Q.out.lt
        have A1_c0 : w10.cell? ⟨bA1, 0, none⟩ = some (.int .i64 c) := A1.out.cell 0
        have A1_c1 : w10.cell? ⟨bA1, 1, none⟩ = some (.int .i64 r) := A1.out.cell 1
        have A1_z : bA1 < w10.heap.size := A1.out.lt
        have A2_c0 : w10.cell? ⟨bA2, 0, none⟩ = some (.int .i64 c) := A2.out.cell 0
        have A2_c1 : w10.cell? ⟨bA2, 1, none⟩ = some (.int .i64 r) := A2.out.cell 1
        have A2_z : bA2 < w10.heap.size := A2.out.lt
        go_wp2_with fail
        refine (equal_yes _ _ _ zs zs ho2.out.sl ho3.out.sl rfl hzl).mono ?_
        rintro e w11 ⟨rfl, hb11⟩
        clear P_c0 P_c1 P_c2 P_z
        clear Q_c0 Q_c1 Q_c2 Q_z
        clear A1_c0 A1_c1 A1_z
        clear A2_c0 A2_c1 A2_z
        replace HB := Lib.hid (bcall HB.out hb11)
        replace P := Lib.hid (P.out.below hb11)
        replace HF := Lib.hid (HF.out.below hb11)
        replace Q := Lib.hid (Q.out.below hb11)
        replace ho2 := Lib.hid (ho2.out.below hb11)
        replace A1 := Lib.hid (A1.out.below hb11)
        replace ho3 := Lib.hid (ho3.out.below hb11)
        replace A2 := Lib.hid (A2.out.below hb11)
        clear hb11
        have P_c0 : w11.cell? ⟨w.heap.size, 0, none⟩ = some (.int .i64 2) := P.out.cell 0
        have P_c1 : w11.cell? ⟨w.heap.size, 1, none⟩ = some (.int .i64 o1) := P.out.cell 1
        have P_c2 : w11.cell? ⟨w.heap.size, 2, none⟩ = some (.int .i64 o2) := P.out.cell 2
        have P_z : w.heap.size < w11.heap.size := P.out.lt
        have Q_c0 : w11.cell? ⟨bQ, 0, none⟩ = some (.int .i64 4) := Q.out.cell 0
        have Q_c1 : w11.cell? ⟨bQ, 1, none⟩ = some (.int .i64 o1) := Q.out.cell 1
        have Q_c2 : w11.cell? ⟨bQ, 2, none⟩ = some (.int .i64 o2) := Q.out.cell 2
        have Q_z : bQ < w11.heap.size := Q.out.lt
        have A1_c0 : w11.cell? ⟨bA1, 0, none⟩ = some (.int .i64 c) := A1.out.cell 0
        have A1_c1 : w11.cell? ⟨bA1, 1, none⟩ = some (.int .i64 r) := A1.out.cell 1
        have A1_z : bA1 < w11.heap.size := A1.out.lt
        have A2_c0 : w11.cell? ⟨bA2, 0, none⟩ = some (.int .i64 c) := A2.out.cell 0
        have A2_c1 : w11.cell? ⟨bA2, 1, none⟩ = some (.int .i64 r) := A2.out.cell 1
        have A2_z : bA2 < w11.heap.size := A2.out.lt
        go_wp2_with fail
        go_ret
        exact ⟨by first | rfl | simp, HB.out⟩
      · replace HDQ : Hid (∀ l : List Int, deqR l 6 o2 = stkR l 6 o2) := Lib.hid HDQ.out
        go_wp2_with fail
        refine (few_any _ _ _ ys _ hl HS.out).mono ?_
        rintro e w5 ⟨v1, rfl, HF, hb5⟩
        clear P_c0 P_c1 P_c2 P_z
        replace HB := Lib.hid (bcall HB.out hb5)
        replace HS := Lib.hid (HS.out.below hb5)
        replace P := Lib.hid (P.out.below hb5)
        replace HF := Lib.hid HF
        clear hb5
        have P_c0 : w5.cell? ⟨w.heap.size, 0, none⟩ = some (.int .i64 6) := P.out.cell 0
        have P_c1 : w5.cell? ⟨w.heap.size, 1, none⟩ = some (.int .i64 o1) := P.out.cell 1
        have P_c2 : w5.cell? ⟨w.heap.size, 2, none⟩ = some (.int .i64 o2) := P.out.cell 2
        have P_z : w.heap.size < w5.heap.size := P.out.lt
        clear HS
        have hfl := fewL_len ys
        generalize fewL ys = fl at *
        obtain ⟨p1, cap1, rfl⟩ := HF.out.sl.slice
        clear hl
        obtain ⟨zs, c, r, hd⟩ : ∃ zs c r, deqR fl 6 o2 = (zs, c, r) := ⟨_, _, _, rfl⟩
        have hzl : zs.length ≤ 1000 := by have := deqR_len fl 6 o2; rw [hd] at this; dsimp only at this; omega
        have hd2 := (HDQ.out fl).symm.trans hd
        have HD := Lib.hid hd
        have HD2 := Lib.hid hd2
        clear hd hd2
        go_wp2_with fail
        have hb6 := balloc (Below.refl _ w5) (Obj.cells #[.int .i64 6, .int .i64 o1, .int .i64 o2] 30)
        have Q := Lib.hid (Blk.new w5 [.int .i64 6, .int .i64 o1, .int .i64 o2] 30)
        change Hid (Blk (w5.alloc (Obj.cells #[.int .i64 6, .int .i64 o1, .int .i64 o2] 30)) _ _ _) at Q
        have ZQ : Hid ((w5.alloc (Obj.cells #[.int .i64 6, .int .i64 o1, .int .i64 o2] 30)).heap.size = w5.heap.size + 1) := World.size_alloc _ _
        clear P_c0 P_c1 P_c2 P_z
        replace HB := Lib.hid (bcall HB.out hb6)
        replace P := Lib.hid (P.out.below hb6)
        replace HF := Lib.hid (HF.out.below hb6)
        clear hb6
        generalize w5.alloc (Obj.cells #[.int .i64 6, .int .i64 o1, .int .i64 o2] 30) = w6 at *
        generalize w5.heap.size = bQ at *
        have P_c0 : w6.cell? ⟨w.heap.size, 0, none⟩ = some (.int .i64 6) := P.out.cell 0
        have P_c1 : w6.cell? ⟨w.heap.size, 1, none⟩ = some (.int .i64 o1) := P.out.cell 1
        have P_c2 : w6.cell? ⟨w.heap.size, 2, none⟩ = some (.int .i64 o2) := P.out.cell 2
        have P_z : w.heap.size < w6.heap.size := P.out.lt
        have Q_c0 : w6.cell? ⟨bQ, 0, none⟩ = some (.int .i64 6) := Q.out.cell 0
        have Q_c1 : w6.cell? ⟨bQ, 1, none⟩ = some (.int .i64 o1) := Q.out.cell 1
        have Q_c2 : w6.cell? ⟨bQ, 2, none⟩ = some (.int .i64 o2) := Q.out.cell 2
        have Q_z : bQ < w6.heap.size := Q.out.lt
        go_wp2_with fail
        refine (deque_eq _ _ fl 6 o1 o2 HF.out.sl (by omega) HD.out).mono ?_
        rintro e w7 ⟨v2, rfl, ho2, hb7⟩
        clear P_c0 P_c1 P_c2 P_z
        clear Q_c0 Q_c1 Q_c2 Q_z
        replace HB := Lib.hid (bcall HB.out hb7)
        replace P := Lib.hid (P.out.below hb7)
        replace HF := Lib.hid (HF.out.below hb7)
        replace Q := Lib.hid (Q.out.below hb7)
        replace ho2 := Lib.hid ho2
        clear hb7
        have P_c0 : w7.cell? ⟨w.heap.size, 0, none⟩ = some (.int .i64 6) := P.out.cell 0
        have P_c1 : w7.cell? ⟨w.heap.size, 1, none⟩ = some (.int .i64 o1) := P.out.cell 1
        have P_c2 : w7.cell? ⟨w.heap.size, 2, none⟩ = some (.int .i64 o2) := P.out.cell 2
        have P_z : w.heap.size < w7.heap.size := P.out.lt
        have Q_c0 : w7.cell? ⟨bQ, 0, none⟩ = some (.int .i64 6) := Q.out.cell 0
        have Q_c1 : w7.cell? ⟨bQ, 1, none⟩ = some (.int .i64 o1) := Q.out.cell 1
        have Q_c2 : w7.cell? ⟨bQ, 2, none⟩ = some (.int .i64 o2) := Q.out.cell 2
        have Q_z : bQ < w7.heap.size := Q.out.lt
        go_wp2_with fail
        have hb8 := balloc (Below.refl _ w7) (Obj.cells #[.int .i64 c, .int .i64 r] 26)
        have A1 := Lib.hid (Blk.new w7 [.int .i64 c, .int .i64 r] 26)
        change Hid (Blk (w7.alloc (Obj.cells #[.int .i64 c, .int .i64 r] 26)) _ _ _) at A1
        have ZA1 : Hid ((w7.alloc (Obj.cells #[.int .i64 c, .int .i64 r] 26)).heap.size = w7.heap.size + 1) := World.size_alloc _ _
        clear P_c0 P_c1 P_c2 P_z
        clear Q_c0 Q_c1 Q_c2 Q_z
        replace HB := Lib.hid (bcall HB.out hb8)
        replace P := Lib.hid (P.out.below hb8)
        replace HF := Lib.hid (HF.out.below hb8)
        replace Q := Lib.hid (Q.out.below hb8)
        replace ho2 := Lib.hid (ho2.out.below hb8)
        clear hb8
        generalize w7.alloc (Obj.cells #[.int .i64 c, .int .i64 r] 26) = w8 at *
        generalize w7.heap.size = bA1 at *
        have P_c0 : w8.cell? ⟨w.heap.size, 0, none⟩ = some (.int .i64 6) := P.out.cell 0
        have P_c1 : w8.cell? ⟨w.heap.size, 1, none⟩ = some (.int .i64 o1) := P.out.cell 1
        have P_c2 : w8.cell? ⟨w.heap.size, 2, none⟩ = some (.int .i64 o2) := P.out.cell 2
        have P_z : w.heap.size < w8.heap.size := P.out.lt
        have Q_c0 : w8.cell? ⟨bQ, 0, none⟩ = some (.int .i64 6) := Q.out.cell 0
        have Q_c1 : w8.cell? ⟨bQ, 1, none⟩ = some (.int .i64 o1) := Q.out.cell 1
        have Q_c2 : w8.cell? ⟨bQ, 2, none⟩ = some (.int .i64 o2) := Q.out.cell 2
        have Q_z : bQ < w8.heap.size := Q.out.lt
        have A1_c0 : w8.cell? ⟨bA1, 0, none⟩ = some (.int .i64 c) := A1.out.cell 0
        have A1_c1 : w8.cell? ⟨bA1, 1, none⟩ = some (.int .i64 r) := A1.out.cell 1
        have A1_z : bA1 < w8.heap.size := A1.out.lt
        go_wp2_with fail
        refine (stack_eq _ _ fl 6 o1 o2 HF.out.sl (by omega) HD2.out).mono ?_
        rintro e w9 ⟨v3, rfl, ho3, hb9⟩
        clear P_c0 P_c1 P_c2 P_z
        clear Q_c0 Q_c1 Q_c2 Q_z
        clear A1_c0 A1_c1 A1_z
        replace HB := Lib.hid (bcall HB.out hb9)
        replace P := Lib.hid (P.out.below hb9)
        replace HF := Lib.hid (HF.out.below hb9)
        replace Q := Lib.hid (Q.out.below hb9)
        replace ho2 := Lib.hid (ho2.out.below hb9)
        replace A1 := Lib.hid (A1.out.below hb9)
        replace ho3 := Lib.hid ho3
        clear hb9
        have P_c0 : w9.cell? ⟨w.heap.size, 0, none⟩ = some (.int .i64 6) := P.out.cell 0
        have P_c1 : w9.cell? ⟨w.heap.size, 1, none⟩ = some (.int .i64 o1) := P.out.cell 1
        have P_c2 : w9.cell? ⟨w.heap.size, 2, none⟩ = some (.int .i64 o2) := P.out.cell 2
        have P_z : w.heap.size < w9.heap.size := P.out.lt
        have Q_c0 : w9.cell? ⟨bQ, 0, none⟩ = some (.int .i64 6) := Q.out.cell 0
        have Q_c1 : w9.cell? ⟨bQ, 1, none⟩ = some (.int .i64 o1) := Q.out.cell 1
        have Q_c2 : w9.cell? ⟨bQ, 2, none⟩ = some (.int .i64 o2) := Q.out.cell 2
        have Q_z : bQ < w9.heap.size := Q.out.lt
        have A1_c0 : w9.cell? ⟨bA1, 0, none⟩ = some (.int .i64 c) := A1.out.cell 0
        have A1_c1 : w9.cell? ⟨bA1, 1, none⟩ = some (.int .i64 r) := A1.out.cell 1
        have A1_z : bA1 < w9.heap.size := A1.out.lt
        go_wp2_with fail
        have hb10 := balloc (Below.refl _ w9) (Obj.cells #[.int .i64 c, .int .i64 r] 26)
        have A2 := Lib.hid (Blk.new w9 [.int .i64 c, .int .i64 r] 26)
        change Hid (Blk (w9.alloc (Obj.cells #[.int .i64 c, .int .i64 r] 26)) _ _ _) at A2
        have ZA2 : Hid ((w9.alloc (Obj.cells #[.int .i64 c, .int .i64 r] 26)).heap.size = w9.heap.size + 1) := World.size_alloc _ _
        clear P_c0 P_c1 P_c2 P_z
        clear Q_c0 Q_c1 Q_c2 Q_z
        clear A1_c0 A1_c1 A1_z
        replace HB := Lib.hid (bcall HB.out hb10)
        replace P := Lib.hid (P.out.below hb10)
        replace HF := Lib.hid (HF.out.below hb10)
        replace Q := Lib.hid (Q.out.below hb10)
        replace ho2 := Lib.hid (ho2.out.below hb10)
        replace A1 := Lib.hid (A1.out.below hb10)
        replace ho3 := Lib.hid (ho3.out.below hb10)
        clear hb10
        generalize w9.alloc (Obj.cells #[.int .i64 c, .int .i64 r] 26) = w10 at *
        generalize w9.heap.size = bA2 at *
        have P_c0 : w10.cell? ⟨w.heap.size, 0, none⟩ = some (.int .i64 6) := P.out.cell 0
        have P_c1 : w10.cell? ⟨w.heap.size, 1, none⟩ = some (.int .i64 o1) := P.out.cell 1
        have P_c2 : w10.cell? ⟨w.heap.size, 2, none⟩ = some (.int .i64 o2) := P.out.cell 2
        have P_z : w.heap.size < w10.heap.size := P.out.lt
        have Q_c0 : w10.cell? ⟨bQ, 0, none⟩ = some (.int .i64 6) := Q.out.cell 0
        have Q_c1 : w10.cell? ⟨bQ, 1, none⟩ = some (.int .i64 o1) := Q.out.cell 1
        have Q_c2 : w10.cell? ⟨bQ, 2, none⟩ = some (.int .i64 o2) := Q.out.cell 2
        have Q_z : bQ < w10.heap.size := Q.out.lt
        have A1_c0 : w10.cell? ⟨bA1, 0, none⟩ = some (.int .i64 c) := A1.out.cell 0
        have A1_c1 : w10.cell? ⟨bA1, 1, none⟩ = some (.int .i64 r) := A1.out.cell 1
        have A1_z : bA1 < w10.heap.size := A1.out.lt
        have A2_c0 : w10.cell? ⟨bA2, 0, none⟩ = some (.int .i64 c) := A2.out.cell 0
        have A2_c1 : w10.cell? ⟨bA2, 1, none⟩ = some (.int .i64 r) := A2.out.cell 1
        have A2_z : bA2 < w10.heap.size := A2.out.lt
        go_wp2_with fail
        refine (equal_yes _ _ _ zs zs ho2.out.sl ho3.out.sl rfl hzl).mono ?_
        rintro e w11 ⟨rfl, hb11⟩
        clear P_c0 P_c1 P_c2 P_z
        clear Q_c0 Q_c1 Q_c2 Q_z
        clear A1_c0 A1_c1 A1_z
        clear A2_c0 A2_c1 A2_z
        replace HB := Lib.hid (bcall HB.out hb11)
        replace P := Lib.hid (P.out.below hb11)
        replace HF := Lib.hid (HF.out.below hb11)
        replace Q := Lib.hid (Q.out.below hb11)
        replace ho2 := Lib.hid (ho2.out.below hb11)
        replace A1 := Lib.hid (A1.out.below hb11)
        replace ho3 := Lib.hid (ho3.out.below hb11)
        replace A2 := Lib.hid (A2.out.below hb11)
        clear hb11
        have P_c0 : w11.cell? ⟨w.heap.size, 0, none⟩ = some (.int .i64 6) := P.out.cell 0
        have P_c1 : w11.cell? ⟨w.heap.size, 1, none⟩ = some (.int .i64 o1) := P.out.cell 1
        have P_c2 : w11.cell? ⟨w.heap.size, 2, none⟩ = some (.int .i64 o2) := P.out.cell 2
        have P_z : w.heap.size < w11.heap.size := P.out.lt
        have Q_c0 : w11.cell? ⟨bQ, 0, none⟩ = some (.int .i64 6) := Q.out.cell 0
        have Q_c1 : w11.cell? ⟨bQ, 1, none⟩ = some (.int .i64 o1) := Q.out.cell 1
        have Q_c2 : w11.cell? ⟨bQ, 2, none⟩ = some (.int .i64 o2) := Q.out.cell 2
        have Q_z : bQ < w11.heap.size := Q.out.lt
        have A1_c0 : w11.cell? ⟨bA1, 0, none⟩ = some (.int .i64 c) := A1.out.cell 0
        have A1_c1 : w11.cell? ⟨bA1, 1, none⟩ = some (.int .i64 r) := A1.out.cell 1
        have A1_z : bA1 < w11.heap.size := A1.out.lt
        have A2_c0 : w11.cell? ⟨bA2, 0, none⟩ = some (.int .i64 c) := A2.out.cell 0
        have A2_c1 : w11.cell? ⟨bA2, 1, none⟩ = some (.int .i64 r) := A2.out.cell 1
        have A2_z : bA2 < w11.heap.size := A2.out.lt
        go_wp2_with fail
        go_ret
        exact ⟨by first | rfl | simp, HB.out⟩
    · have n1 : (o0 != 1) = true := by simp; omega
      have n2 : (o0 != 2) = true := by simp; omega
      have n6 : (o0 != 6) = true := by simp; omega
      clear e1 b1 b2
      go_wp2_with fail
      go_ret
      exact ⟨by first | rfl | simp, HB.out⟩
  · rw [Bool.not_eq_true] at hok
    rw [hok]
    clear hok
    go_wp2_with fail
    go_ret
    exact ⟨by first | rfl | simp, HB.out⟩
end Go.Proofs.Ytpedkcpkdacnlaa
