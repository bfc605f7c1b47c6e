/- The walk of the law DequeQueue. -/
import Derived.Test.YtpedkcpkdacnlaaDealt
import Derived.Test.YtpedkcpkdacnlaaOpRight
import Derived.Deep.Cut
namespace Go.Proofs.Ytpedkcpkdacnlaa
open Go.RowKit
set_option linter.unusedVariables false
theorem deqR_len (xs : List Int) (k x : Int) : (deqR xs k x).1.length ≤ xs.length + 1 := by
  unfold deqR
  split
  · split
    · simp
    · split <;> simp
  · split
    · split
      · simp
      · split
        · simp
        · split
          · rw [List.length_eraseIdx]; split <;> omega
          · rw [List.length_eraseIdx]; split <;> omega
    · split <;> simp
set_option maxRecDepth 20000 in
set_option maxHeartbeats 4000000 in
theorem walk_DequeQueue (a0 : Option Addr) (len0 cap0 : Nat) (z0 : List Int) (o0 o1 o2 : Int) (w : World) (w0 : IsRow .i64 w a0 len0 cap0 z0) :
    Calls Try.prog 8 #[.slice a0 len0 cap0, .agg #[.int .i64 o0, .int .i64 o1, .int .i64 o2]] w fun e w' => e = .returned (.bool true) ∧ Below w.heap.size w w' := by
  obtain ⟨ys, hl, hs⟩ := row_sl w0
  clear w0
  have HS := Lib.hid hs
  clear hs
  have HB := Lib.hid (Below.refl w.heap.size w)
  go_enter Try.func8, Try.ntmps8
  go_upto_region 1 with fail
  have hb1 := balloc (Below.refl _ w) (Obj.cells #[.int .i64 o0, .int .i64 o1, .int .i64 o2] 30)
  have P := Lib.hid (Blk.new w [.int .i64 o0, .int .i64 o1, .int .i64 o2] 30)
  change Hid (Blk (w.alloc (Obj.cells #[.int .i64 o0, .int .i64 o1, .int .i64 o2] 30)) _ _ _) at P
  have ZP : Hid ((w.alloc (Obj.cells #[.int .i64 o0, .int .i64 o1, .int .i64 o2] 30)).heap.size = w.heap.size + 1) := World.size_alloc _ _
  replace HB := Lib.hid (bcall HB.out hb1)
  replace HS := Lib.hid (HS.out.below hb1)
  clear hb1
  generalize w.alloc (Obj.cells #[.int .i64 o0, .int .i64 o1, .int .i64 o2] 30) = w1 at *
  have P_c0 : w1.cell? ⟨w.heap.size, 0, none⟩ = some (.int .i64 o0) := P.out.cell 0
  have P_c1 : w1.cell? ⟨w.heap.size, 1, none⟩ = some (.int .i64 o1) := P.out.cell 1
  have P_c2 : w1.cell? ⟨w.heap.size, 2, none⟩ = some (.int .i64 o2) := P.out.cell 2
  have P_z : w.heap.size < w1.heap.size := P.out.lt
  go_wp2_with fail
  refine (dealt_any _).mono ?_
  rintro e w2 ⟨rfl, hb2⟩
  clear P_c0 P_c1 P_c2 P_z
  replace HB := Lib.hid (bcall HB.out hb2)
  replace HS := Lib.hid (HS.out.below hb2)
  replace P := Lib.hid (P.out.below hb2)
  clear hb2
  have P_c0 : w2.cell? ⟨w.heap.size, 0, none⟩ = some (.int .i64 o0) := P.out.cell 0
  have P_c1 : w2.cell? ⟨w.heap.size, 1, none⟩ = some (.int .i64 o1) := P.out.cell 1
  have P_c2 : w2.cell? ⟨w.heap.size, 2, none⟩ = some (.int .i64 o2) := P.out.cell 2
  have P_z : w.heap.size < w2.heap.size := P.out.lt
  go_wp2_with fail
  refine (queued_any _).mono ?_
  rintro e w3 ⟨rfl, hb3⟩
  clear P_c0 P_c1 P_c2 P_z
  replace HB := Lib.hid (bcall HB.out hb3)
  replace HS := Lib.hid (HS.out.below hb3)
  replace P := Lib.hid (P.out.below hb3)
  clear hb3
  have P_c0 : w3.cell? ⟨w.heap.size, 0, none⟩ = some (.int .i64 o0) := P.out.cell 0
  have P_c1 : w3.cell? ⟨w.heap.size, 1, none⟩ = some (.int .i64 o1) := P.out.cell 1
  have P_c2 : w3.cell? ⟨w.heap.size, 2, none⟩ = some (.int .i64 o2) := P.out.cell 2
  have P_z : w.heap.size < w3.heap.size := P.out.lt
  go_wp2_with fail
  refine (op_right o0 o1 o2 _).mono ?_
  rintro e w4 ⟨rfl, hb4⟩
  clear P_c0 P_c1 P_c2 P_z
  replace HB := Lib.hid (bcall HB.out hb4)
  replace HS := Lib.hid (HS.out.below hb4)
  replace P := Lib.hid (P.out.below hb4)
  clear hb4
  have P_c0 : w4.cell? ⟨w.heap.size, 0, none⟩ = some (.int .i64 o0) := P.out.cell 0
  have P_c1 : w4.cell? ⟨w.heap.size, 1, none⟩ = some (.int .i64 o1) := P.out.cell 1
  have P_c2 : w4.cell? ⟨w.heap.size, 2, none⟩ = some (.int .i64 o2) := P.out.cell 2
  have P_z : w.heap.size < w4.heap.size := P.out.lt
  by_cases hok : opOk o0 o1 o2 = true
  · rw [hok]
    simp only [opOk, decide_eq_true_eq] at hok
    obtain ⟨b1, b2, -⟩ := hok
    by_cases e3 : o0 = 3
    · have g3 : (o0 == 3) = true := by simp [e3]
      clear e3 b1 b2
      go_wp2_with fail
      go_ret
      exact ⟨by first | rfl | simp, HB.out⟩
    · have g3 : (o0 == 3) = false := by simp [e3]
      by_cases e4 : o0 = 4
      · have g4 : (o0 == 4) = true := by simp [e4]
        clear e3 e4 b1 b2
        go_wp2_with fail
        go_ret
        exact ⟨by first | rfl | simp, HB.out⟩
      · have g4 : (o0 == 4) = false := by simp [e4]
        have hdq : ∀ l : List Int, deqR l o0 o2 = queR l o0 o2 := fun l => deq_que l o0 o2 e3 e4
        have HDQ := Lib.hid hdq
        clear hdq e3 e4 b1 b2
        go_wp2_with fail
        refine (few_any _ _ _ ys _ hl HS.out).mono ?_
        rintro e w5 ⟨v1, rfl, HF, hb5⟩
        clear P_c0 P_c1 P_c2 P_z
        replace HB := Lib.hid (bcall HB.out hb5)
        replace HS := Lib.hid (HS.out.below hb5)
        replace P := Lib.hid (P.out.below hb5)
        replace HF := Lib.hid HF
        clear hb5
        have P_c0 : w5.cell? ⟨w.heap.size, 0, none⟩ = some (.int .i64 o0) := P.out.cell 0
        have P_c1 : w5.cell? ⟨w.heap.size, 1, none⟩ = some (.int .i64 o1) := P.out.cell 1
        have P_c2 : w5.cell? ⟨w.heap.size, 2, none⟩ = some (.int .i64 o2) := P.out.cell 2
        have P_z : w.heap.size < w5.heap.size := P.out.lt
        clear HS
        have hfl := fewL_len ys
        generalize fewL ys = fl at *
        obtain ⟨p1, cap1, rfl⟩ := HF.out.sl.slice
        clear hl
        obtain ⟨zs, c, r, hd⟩ : ∃ zs c r, deqR fl o0 o2 = (zs, c, r) := ⟨_, _, _, rfl⟩
        have hzl : zs.length ≤ 1000 := by have := deqR_len fl o0 o2; rw [hd] at this; dsimp only at this; omega
        have hd2 := (HDQ.out fl).symm.trans hd
        have HD := Lib.hid hd
        have HD2 := Lib.hid hd2
        clear hd hd2
        go_wp2_with fail
        refine (deque_eq _ _ fl o0 o1 o2 HF.out.sl (by omega) HD.out).mono ?_
        rintro e w6 ⟨v2, rfl, ho2, hb6⟩
        clear P_c0 P_c1 P_c2 P_z
        replace HB := Lib.hid (bcall HB.out hb6)
        replace P := Lib.hid (P.out.below hb6)
        replace HF := Lib.hid (HF.out.below hb6)
        replace ho2 := Lib.hid ho2
        clear hb6
        have P_c0 : w6.cell? ⟨w.heap.size, 0, none⟩ = some (.int .i64 o0) := P.out.cell 0
        have P_c1 : w6.cell? ⟨w.heap.size, 1, none⟩ = some (.int .i64 o1) := P.out.cell 1
        have P_c2 : w6.cell? ⟨w.heap.size, 2, none⟩ = some (.int .i64 o2) := P.out.cell 2
        have P_z : w.heap.size < w6.heap.size := P.out.lt
        go_wp2_with fail
        have hb7 := balloc (Below.refl _ w6) (Obj.cells #[.int .i64 c, .int .i64 r] 26)
        have A1 := Lib.hid (Blk.new w6 [.int .i64 c, .int .i64 r] 26)
        change Hid (Blk (w6.alloc (Obj.cells #[.int .i64 c, .int .i64 r] 26)) _ _ _) at A1
        have ZA1 : Hid ((w6.alloc (Obj.cells #[.int .i64 c, .int .i64 r] 26)).heap.size = w6.heap.size + 1) := World.size_alloc _ _
        clear P_c0 P_c1 P_c2 P_z
        replace HB := Lib.hid (bcall HB.out hb7)
        replace P := Lib.hid (P.out.below hb7)
        replace HF := Lib.hid (HF.out.below hb7)
        replace ho2 := Lib.hid (ho2.out.below hb7)
        clear hb7
        generalize w6.alloc (Obj.cells #[.int .i64 c, .int .i64 r] 26) = w7 at *
        generalize w6.heap.size = bA1 at *
        have P_c0 : w7.cell? ⟨w.heap.size, 0, none⟩ = some (.int .i64 o0) := P.out.cell 0
        have P_c1 : w7.cell? ⟨w.heap.size, 1, none⟩ = some (.int .i64 o1) := P.out.cell 1
        have P_c2 : w7.cell? ⟨w.heap.size, 2, none⟩ = some (.int .i64 o2) := P.out.cell 2
        have P_z : w.heap.size < w7.heap.size := P.out.lt
        have A1_c0 : w7.cell? ⟨bA1, 0, none⟩ = some (.int .i64 c) := A1.out.cell 0
        have A1_c1 : w7.cell? ⟨bA1, 1, none⟩ = some (.int .i64 r) := A1.out.cell 1
        have A1_z : bA1 < w7.heap.size := A1.out.lt
        go_wp2_with fail
        refine (queue_eq _ _ fl o0 o1 o2 HF.out.sl (by omega) HD2.out).mono ?_
        rintro e w8 ⟨v3, rfl, ho3, hb8⟩
        clear P_c0 P_c1 P_c2 P_z
        clear A1_c0 A1_c1 A1_z
        replace HB := Lib.hid (bcall HB.out hb8)
        replace P := Lib.hid (P.out.below hb8)
        replace HF := Lib.hid (HF.out.below hb8)
        replace ho2 := Lib.hid (ho2.out.below hb8)
        replace A1 := Lib.hid (A1.out.below hb8)
        replace ho3 := Lib.hid ho3
        clear hb8
        have P_c0 : w8.cell? ⟨w.heap.size, 0, none⟩ = some (.int .i64 o0) := P.out.cell 0
        have P_c1 : w8.cell? ⟨w.heap.size, 1, none⟩ = some (.int .i64 o1) := P.out.cell 1
        have P_c2 : w8.cell? ⟨w.heap.size, 2, none⟩ = some (.int .i64 o2) := P.out.cell 2
        have P_z : w.heap.size < w8.heap.size := P.out.lt
        have A1_c0 : w8.cell? ⟨bA1, 0, none⟩ = some (.int .i64 c) := A1.out.cell 0
        have A1_c1 : w8.cell? ⟨bA1, 1, none⟩ = some (.int .i64 r) := A1.out.cell 1
        have A1_z : bA1 < w8.heap.size := A1.out.lt
        go_wp2_with fail
        have hb9 := balloc (Below.refl _ w8) (Obj.cells #[.int .i64 c, .int .i64 r] 26)
        have A2 := Lib.hid (Blk.new w8 [.int .i64 c, .int .i64 r] 26)
        change Hid (Blk (w8.alloc (Obj.cells #[.int .i64 c, .int .i64 r] 26)) _ _ _) at A2
        have ZA2 : Hid ((w8.alloc (Obj.cells #[.int .i64 c, .int .i64 r] 26)).heap.size = w8.heap.size + 1) := World.size_alloc _ _
        clear P_c0 P_c1 P_c2 P_z
        clear A1_c0 A1_c1 A1_z
        replace HB := Lib.hid (bcall HB.out hb9)
        replace P := Lib.hid (P.out.below hb9)
        replace HF := Lib.hid (HF.out.below hb9)
        replace ho2 := Lib.hid (ho2.out.below hb9)
        replace A1 := Lib.hid (A1.out.below hb9)
        replace ho3 := Lib.hid (ho3.out.below hb9)
        clear hb9
        generalize w8.alloc (Obj.cells #[.int .i64 c, .int .i64 r] 26) = w9 at *
        generalize w8.heap.size = bA2 at *
        have P_c0 : w9.cell? ⟨w.heap.size, 0, none⟩ = some (.int .i64 o0) := P.out.cell 0
        have P_c1 : w9.cell? ⟨w.heap.size, 1, none⟩ = some (.int .i64 o1) := P.out.cell 1
        have P_c2 : w9.cell? ⟨w.heap.size, 2, none⟩ = some (.int .i64 o2) := P.out.cell 2
        have P_z : w.heap.size < w9.heap.size := P.out.lt
        have A1_c0 : w9.cell? ⟨bA1, 0, none⟩ = some (.int .i64 c) := A1.out.cell 0
        have A1_c1 : w9.cell? ⟨bA1, 1, none⟩ = some (.int .i64 r) := A1.out.cell 1
        have A1_z : bA1 < w9.heap.size := A1.out.lt
        have A2_c0 : w9.cell? ⟨bA2, 0, none⟩ = some (.int .i64 c) := A2.out.cell 0
        have A2_c1 : w9.cell? ⟨bA2, 1, none⟩ = some (.int .i64 r) := A2.out.cell 1
        have A2_z : bA2 < w9.heap.size := A2.out.lt
        go_wp2_with fail
        refine (equal_yes _ _ _ zs zs ho2.out.sl ho3.out.sl rfl hzl).mono ?_
        rintro e w10 ⟨rfl, hb10⟩
        clear P_c0 P_c1 P_c2 P_z
        clear A1_c0 A1_c1 A1_z
        clear A2_c0 A2_c1 A2_z
        replace HB := Lib.hid (bcall HB.out hb10)
        replace P := Lib.hid (P.out.below hb10)
        replace HF := Lib.hid (HF.out.below hb10)
        replace ho2 := Lib.hid (ho2.out.below hb10)
        replace A1 := Lib.hid (A1.out.below hb10)
        replace ho3 := Lib.hid (ho3.out.below hb10)
        replace A2 := Lib.hid (A2.out.below hb10)
        clear hb10
        have P_c0 : w10.cell? ⟨w.heap.size, 0, none⟩ = some (.int .i64 o0) := P.out.cell 0
        have P_c1 : w10.cell? ⟨w.heap.size, 1, none⟩ = some (.int .i64 o1) := P.out.cell 1
        have P_c2 : w10.cell? ⟨w.heap.size, 2, none⟩ = some (.int .i64 o2) := P.out.cell 2
        have P_z : w.heap.size < w10.heap.size := P.out.lt
        have A1_c0 : w10.cell? ⟨bA1, 0, none⟩ = some (.int .i64 c) := A1.out.cell 0
        have A1_c1 : w10.cell? ⟨bA1, 1, none⟩ = some (.int .i64 r) := A1.out.cell 1
        have A1_z : bA1 < w10.heap.size := A1.out.lt
        have A2_c0 : w10.cell? ⟨bA2, 0, none⟩ = some (.int .i64 c) := A2.out.cell 0
        have A2_c1 : w10.cell? ⟨bA2, 1, none⟩ = some (.int .i64 r) := A2.out.cell 1
        have A2_z : bA2 < w10.heap.size := A2.out.lt
        go_wp2_with fail
        go_ret
        exact ⟨by first | rfl | simp, HB.out⟩
  · rw [Bool.not_eq_true] at hok
    rw [hok]
    clear hok
    go_wp2_with fail
    go_ret
    exact ⟨by first | rfl | simp, HB.out⟩
end Go.Proofs.Ytpedkcpkdacnlaa
