/- The walk of the law DequeTurns. -/
import Derived.Test.YtpedkcpkdacnlaaDequeQueue
import Derived.Test.YtpedkcpkdacnlaaRev
import Derived.Deep.Cut
namespace Go.Proofs.Ytpedkcpkdacnlaa
open Go.RowKit
set_option linter.unusedVariables false
set_option maxRecDepth 20000 in
set_option maxHeartbeats 4000000 in
theorem walk_DequeTurns (a0 : Option Addr) (len0 cap0 : Nat) (z0 : List Int) (a1 : Int) (b2 b3 : Bool) (w : World) (w0 : IsRow .i64 w a0 len0 cap0 z0) (w1 : (Lit.int .i64 a1).wf = true) :
    Calls Try.prog 5 #[.slice a0 len0 cap0, .int .i64 a1, .bool b2, .bool b3] w fun e w' => e = .returned (.bool true) ∧ Below w.heap.size w w' := by
  obtain ⟨ys, hl, hs⟩ := row_sl w0
  clear w0 w1
  have HS := Lib.hid hs
  clear hs
  have HB := Lib.hid (Below.refl w.heap.size w)
  go_enter Try.func5, Try.ntmps5
  go_wp2_with fail
  refine (dealt_any _).mono ?_
  rintro e w1 ⟨rfl, hb1⟩
  replace HB := Lib.hid (bcall HB.out hb1)
  replace HS := Lib.hid (HS.out.below hb1)
  clear hb1
  go_wp2_with fail
  refine (few_any _ _ _ ys _ hl HS.out).mono ?_
  rintro e w2 ⟨v1, rfl, HF, hb2⟩
  replace HB := Lib.hid (bcall HB.out hb2)
  replace HS := Lib.hid (HS.out.below hb2)
  replace HF := Lib.hid HF
  clear hb2
  clear HS
  have hfl := fewL_len ys
  generalize fewL ys = fl at *
  obtain ⟨p1, cap1, rfl⟩ := HF.out.sl.slice
  clear hl
  go_wp2_with fail
  refine (pick_any _ _ _ (by decide) (by decide)).mono ?_
  rintro e w' ⟨rfl, rfl⟩
  generalize pickZ a1 4294967296 = x at *
  go_wp2_with fail
  refine (clone_any _ _ fl HF.out.sl (by omega)).mono ?_
  rintro e wc ⟨vb, rfl, hbk, hbc⟩
  go_wp2_with fail
  refine (reverse_kept _ _ vb fl hbk).mono ?_
  rintro e w3 ⟨rfl, hrv, hkr⟩
  have hbr : Below w2.heap.size w2 w3 := hbc.trans (hkr.below hbc.size (fun k hk => hbk.block hk))
  replace HB := Lib.hid (bcall HB.out hbr)
  replace HF := Lib.hid (HF.out.below hbr)
  have HR := Lib.hid hrv
  clear hrv hkr hbk hbc hbr
  cases b3 <;> cases b2
  · go_wp2_with fail
    have hb4 := balloc (Below.refl _ w3) (Obj.cells #[.int .i64 1, .int .i64 0, .int .i64 x] 30)
    have P := Lib.hid (Blk.new w3 [.int .i64 1, .int .i64 0, .int .i64 x] 30)
    change Hid (Blk (w3.alloc (Obj.cells #[.int .i64 1, .int .i64 0, .int .i64 x] 30)) _ _ _) at P
    have ZP : Hid ((w3.alloc (Obj.cells #[.int .i64 1, .int .i64 0, .int .i64 x] 30)).heap.size = w3.heap.size + 1) := World.size_alloc _ _
    replace HB := Lib.hid (bcall HB.out hb4)
    replace HF := Lib.hid (HF.out.below hb4)
    replace HR := Lib.hid (HR.out.below hb4)
    clear hb4
    generalize w3.alloc (Obj.cells #[.int .i64 1, .int .i64 0, .int .i64 x] 30) = w4 at *
    generalize w3.heap.size = bP at *
    have P_c0 : w4.cell? ⟨bP, 0, none⟩ = some (.int .i64 1) := P.out.cell 0
    have P_c1 : w4.cell? ⟨bP, 1, none⟩ = some (.int .i64 0) := P.out.cell 1
    have P_c2 : w4.cell? ⟨bP, 2, none⟩ = some (.int .i64 x) := P.out.cell 2
    have P_z : bP < w4.heap.size := P.out.lt
    have hb5 := balloc (Below.refl _ w4) (Obj.cells #[.int .i64 3, .int .i64 0, .int .i64 x] 30)
    have Q := Lib.hid (Blk.new w4 [.int .i64 3, .int .i64 0, .int .i64 x] 30)
    change Hid (Blk (w4.alloc (Obj.cells #[.int .i64 3, .int .i64 0, .int .i64 x] 30)) _ _ _) at Q
    have ZQ : Hid ((w4.alloc (Obj.cells #[.int .i64 3, .int .i64 0, .int .i64 x] 30)).heap.size = w4.heap.size + 1) := World.size_alloc _ _
    clear P_c0 P_c1 P_c2 P_z
    replace HB := Lib.hid (bcall HB.out hb5)
    replace HF := Lib.hid (HF.out.below hb5)
    replace HR := Lib.hid (HR.out.below hb5)
    replace P := Lib.hid (P.out.below hb5)
    clear hb5
    rw [ZP.out] at Q ZQ
    clear ZP
    generalize w4.alloc (Obj.cells #[.int .i64 3, .int .i64 0, .int .i64 x] 30) = w5 at *
    have P_c0 : w5.cell? ⟨bP, 0, none⟩ = some (.int .i64 1) := P.out.cell 0
    have P_c1 : w5.cell? ⟨bP, 1, none⟩ = some (.int .i64 0) := P.out.cell 1
    have P_c2 : w5.cell? ⟨bP, 2, none⟩ = some (.int .i64 x) := P.out.cell 2
    have P_z : bP < w5.heap.size := P.out.lt
    have Q_c0 : w5.cell? ⟨(bP + 1), 0, none⟩ = some (.int .i64 3) := Q.out.cell 0
    have Q_c1 : w5.cell? ⟨(bP + 1), 1, none⟩ = some (.int .i64 0) := Q.out.cell 1
    have Q_c2 : w5.cell? ⟨(bP + 1), 2, none⟩ = some (.int .i64 x) := Q.out.cell 2
    have Q_z : (bP + 1) < w5.heap.size := Q.out.lt
    obtain ⟨zs, c, r, hd⟩ : ∃ zs c r, deqR fl 1 x = (zs, c, r) := ⟨_, _, _, rfl⟩
    have hzl : zs.length ≤ 1000 := by have := deqR_len fl 1 x; rw [hd] at this; dsimp only at this; omega
    have hd2 : deqR fl.reverse 3 x = (zs.reverse, c, r) := by have := deq_turn fl 1 x (by decide); rw [hd] at this; exact this
    have HD := Lib.hid hd
    have HD2 := Lib.hid hd2
    clear hd hd2
    refine (deque_eq _ _ fl 1 0 x HF.out.sl (by omega) HD.out).mono ?_
    rintro e w6 ⟨v2, rfl, ho2, hb6⟩
    clear P_c0 P_c1 P_c2 P_z
    clear Q_c0 Q_c1 Q_c2 Q_z
    replace HB := Lib.hid (bcall HB.out hb6)
    replace HF := Lib.hid (HF.out.below hb6)
    replace HR := Lib.hid (HR.out.below hb6)
    replace P := Lib.hid (P.out.below hb6)
    replace Q := Lib.hid (Q.out.below hb6)
    replace ho2 := Lib.hid ho2
    clear hb6
    have P_c0 : w6.cell? ⟨bP, 0, none⟩ = some (.int .i64 1) := P.out.cell 0
    have P_c1 : w6.cell? ⟨bP, 1, none⟩ = some (.int .i64 0) := P.out.cell 1
    have P_c2 : w6.cell? ⟨bP, 2, none⟩ = some (.int .i64 x) := P.out.cell 2
    have P_z : bP < w6.heap.size := P.out.lt
    have Q_c0 : w6.cell? ⟨(bP + 1), 0, none⟩ = some (.int .i64 3) := Q.out.cell 0
    have Q_c1 : w6.cell? ⟨(bP + 1), 1, none⟩ = some (.int .i64 0) := Q.out.cell 1
    have Q_c2 : w6.cell? ⟨(bP + 1), 2, none⟩ = some (.int .i64 x) := Q.out.cell 2
    have Q_z : (bP + 1) < w6.heap.size := Q.out.lt
    go_wp2_with fail
    have hb7 := balloc (Below.refl _ w6) (Obj.cells #[.int .i64 c, .int .i64 r] 26)
    have A1 := Lib.hid (Blk.new w6 [.int .i64 c, .int .i64 r] 26)
    change Hid (Blk (w6.alloc (Obj.cells #[.int .i64 c, .int .i64 r] 26)) _ _ _) at A1
    have ZA1 : Hid ((w6.alloc (Obj.cells #[.int .i64 c, .int .i64 r] 26)).heap.size = w6.heap.size + 1) := World.size_alloc _ _
    clear P_c0 P_c1 P_c2 P_z
    clear Q_c0 Q_c1 Q_c2 Q_z
    replace HB := Lib.hid (bcall HB.out hb7)
    replace HF := Lib.hid (HF.out.below hb7)
    replace HR := Lib.hid (HR.out.below hb7)
    replace P := Lib.hid (P.out.below hb7)
    replace Q := Lib.hid (Q.out.below hb7)
    replace ho2 := Lib.hid (ho2.out.below hb7)
    clear hb7
    generalize w6.alloc (Obj.cells #[.int .i64 c, .int .i64 r] 26) = w7 at *
    generalize w6.heap.size = bA1 at *
    have P_c0 : w7.cell? ⟨bP, 0, none⟩ = some (.int .i64 1) := P.out.cell 0
    have P_c1 : w7.cell? ⟨bP, 1, none⟩ = some (.int .i64 0) := P.out.cell 1
    have P_c2 : w7.cell? ⟨bP, 2, none⟩ = some (.int .i64 x) := P.out.cell 2
    have P_z : bP < w7.heap.size := P.out.lt
    have Q_c0 : w7.cell? ⟨(bP + 1), 0, none⟩ = some (.int .i64 3) := Q.out.cell 0
    have Q_c1 : w7.cell? ⟨(bP + 1), 1, none⟩ = some (.int .i64 0) := Q.out.cell 1
    have Q_c2 : w7.cell? ⟨(bP + 1), 2, none⟩ = some (.int .i64 x) := Q.out.cell 2
    have Q_z : (bP + 1) < w7.heap.size := Q.out.lt
    have A1_c0 : w7.cell? ⟨bA1, 0, none⟩ = some (.int .i64 c) := A1.out.cell 0
    have A1_c1 : w7.cell? ⟨bA1, 1, none⟩ = some (.int .i64 r) := A1.out.cell 1
    have A1_z : bA1 < w7.heap.size := A1.out.lt
    go_wp2_with fail
    refine (deque_eq _ _ fl.reverse 3 0 x HR.out.sl (by rw [List.length_reverse]; omega) HD2.out).mono ?_
    rintro e w8 ⟨v5, rfl, ho5, hb5⟩
    clear P_c0 P_c1 P_c2 P_z
    clear Q_c0 Q_c1 Q_c2 Q_z
    clear A1_c0 A1_c1 A1_z
    go_wp2_with fail
    refine (reverse_kept _ _ v5 zs.reverse (World.ownsRow.alloc ho5 _)).mono ?_
    rintro e w9 ⟨rfl, ho7, hk7⟩
    rw [List.reverse_reverse] at ho7
    have hk7' : Below w7.heap.size (w8.alloc (Obj.cells #[.int .i64 c, .int .i64 r] 26)) w9 := hk7.below (by rw [World.size_alloc]; have := hb5.size; omega) (fun k hk => ho5.block hk)
    have hb7 : Below w7.heap.size w7 w9 := (hb5.alloc hb5.size _).trans hk7'
    have A2 := Lib.hid ((Blk.new w8 [.int .i64 c, .int .i64 r] 26).kept hk7 (fun h => absurd (ho5.ltb h) (Nat.lt_irrefl _)))
    replace HB := Lib.hid (bcall HB.out hb7)
    replace HF := Lib.hid (HF.out.below hb7)
    replace HR := Lib.hid (HR.out.below hb7)
    replace P := Lib.hid (P.out.below hb7)
    replace Q := Lib.hid (Q.out.below hb7)
    replace ho2 := Lib.hid (ho2.out.below hb7)
    replace A1 := Lib.hid (A1.out.below hb7)
    have ho3 := Lib.hid ho7
    clear ho7 hk7 hk7' hb7 ho5 hb5
    generalize w8.heap.size = bA2 at *
    have P_c0 : w9.cell? ⟨bP, 0, none⟩ = some (.int .i64 1) := P.out.cell 0
    have P_c1 : w9.cell? ⟨bP, 1, none⟩ = some (.int .i64 0) := P.out.cell 1
    have P_c2 : w9.cell? ⟨bP, 2, none⟩ = some (.int .i64 x) := P.out.cell 2
    have P_z : bP < w9.heap.size := P.out.lt
    have Q_c0 : w9.cell? ⟨(bP + 1), 0, none⟩ = some (.int .i64 3) := Q.out.cell 0
    have Q_c1 : w9.cell? ⟨(bP + 1), 1, none⟩ = some (.int .i64 0) := Q.out.cell 1
    have Q_c2 : w9.cell? ⟨(bP + 1), 2, none⟩ = some (.int .i64 x) := Q.out.cell 2
    have Q_z : (bP + 1) < w9.heap.size := Q.out.lt
    have A1_c0 : w9.cell? ⟨bA1, 0, none⟩ = some (.int .i64 c) := A1.out.cell 0
    have A1_c1 : w9.cell? ⟨bA1, 1, none⟩ = some (.int .i64 r) := A1.out.cell 1
    have A1_z : bA1 < w9.heap.size := A1.out.lt
    have A2_c0 : w9.cell? ⟨bA2, 0, none⟩ = some (.int .i64 c) := A2.out.cell 0
    have A2_c1 : w9.cell? ⟨bA2, 1, none⟩ = some (.int .i64 r) := A2.out.cell 1
    have A2_z : bA2 < w9.heap.size := A2.out.lt
    go_wp2_with fail
    refine (equal_yes _ _ _ zs zs ho2.out.sl ho3.out.sl rfl hzl).mono ?_
    rintro e w10 ⟨rfl, hb10⟩
    clear P_c0 P_c1 P_c2 P_z
    clear Q_c0 Q_c1 Q_c2 Q_z
    clear A1_c0 A1_c1 A1_z
    clear A2_c0 A2_c1 A2_z
    replace HB := Lib.hid (bcall HB.out hb10)
    replace HF := Lib.hid (HF.out.below hb10)
    replace HR := Lib.hid (HR.out.below hb10)
    replace P := Lib.hid (P.out.below hb10)
    replace Q := Lib.hid (Q.out.below hb10)
    replace ho2 := Lib.hid (ho2.out.below hb10)
    replace A1 := Lib.hid (A1.out.below hb10)
    replace ho3 := Lib.hid (ho3.out.below hb10)
    replace A2 := Lib.hid (A2.out.below hb10)
    clear hb10
    have P_c0 : w10.cell? ⟨bP, 0, none⟩ = some (.int .i64 1) := P.out.cell 0
    have P_c1 : w10.cell? ⟨bP, 1, none⟩ = some (.int .i64 0) := P.out.cell 1
    have P_c2 : w10.cell? ⟨bP, 2, none⟩ = some (.int .i64 x) := P.out.cell 2
    have P_z : bP < w10.heap.size := P.out.lt
    have Q_c0 : w10.cell? ⟨(bP + 1), 0, none⟩ = some (.int .i64 3) := Q.out.cell 0
    have Q_c1 : w10.cell? ⟨(bP + 1), 1, none⟩ = some (.int .i64 0) := Q.out.cell 1
    have Q_c2 : w10.cell? ⟨(bP + 1), 2, none⟩ = some (.int .i64 x) := Q.out.cell 2
    have Q_z : (bP + 1) < w10.heap.size := Q.out.lt
    have A1_c0 : w10.cell? ⟨bA1, 0, none⟩ = some (.int .i64 c) := A1.out.cell 0
    have A1_c1 : w10.cell? ⟨bA1, 1, none⟩ = some (.int .i64 r) := A1.out.cell 1
    have A1_z : bA1 < w10.heap.size := A1.out.lt
    have A2_c0 : w10.cell? ⟨bA2, 0, none⟩ = some (.int .i64 c) := A2.out.cell 0
    have A2_c1 : w10.cell? ⟨bA2, 1, none⟩ = some (.int .i64 r) := A2.out.cell 1
    have A2_z : bA2 < w10.heap.size := A2.out.lt
    go_wp2_with fail
    go_ret
    exact ⟨by first | rfl | simp, HB.out⟩
  · go_wp2_with fail
    have hb4 := balloc (Below.refl _ w3) (Obj.cells #[.int .i64 3, .int .i64 0, .int .i64 x] 30)
    have P := Lib.hid (Blk.new w3 [.int .i64 3, .int .i64 0, .int .i64 x] 30)
    change Hid (Blk (w3.alloc (Obj.cells #[.int .i64 3, .int .i64 0, .int .i64 x] 30)) _ _ _) at P
    have ZP : Hid ((w3.alloc (Obj.cells #[.int .i64 3, .int .i64 0, .int .i64 x] 30)).heap.size = w3.heap.size + 1) := World.size_alloc _ _
    replace HB := Lib.hid (bcall HB.out hb4)
    replace HF := Lib.hid (HF.out.below hb4)
    replace HR := Lib.hid (HR.out.below hb4)
    clear hb4
    generalize w3.alloc (Obj.cells #[.int .i64 3, .int .i64 0, .int .i64 x] 30) = w4 at *
    generalize w3.heap.size = bP at *
    have P_c0 : w4.cell? ⟨bP, 0, none⟩ = some (.int .i64 3) := P.out.cell 0
    have P_c1 : w4.cell? ⟨bP, 1, none⟩ = some (.int .i64 0) := P.out.cell 1
    have P_c2 : w4.cell? ⟨bP, 2, none⟩ = some (.int .i64 x) := P.out.cell 2
    have P_z : bP < w4.heap.size := P.out.lt
    have hb5 := balloc (Below.refl _ w4) (Obj.cells #[.int .i64 1, .int .i64 0, .int .i64 x] 30)
    have Q := Lib.hid (Blk.new w4 [.int .i64 1, .int .i64 0, .int .i64 x] 30)
    change Hid (Blk (w4.alloc (Obj.cells #[.int .i64 1, .int .i64 0, .int .i64 x] 30)) _ _ _) at Q
    have ZQ : Hid ((w4.alloc (Obj.cells #[.int .i64 1, .int .i64 0, .int .i64 x] 30)).heap.size = w4.heap.size + 1) := World.size_alloc _ _
    clear P_c0 P_c1 P_c2 P_z
    replace HB := Lib.hid (bcall HB.out hb5)
    replace HF := Lib.hid (HF.out.below hb5)
    replace HR := Lib.hid (HR.out.below hb5)
    replace P := Lib.hid (P.out.below hb5)
    clear hb5
    rw [ZP.out] at Q ZQ
    clear ZP
    generalize w4.alloc (Obj.cells #[.int .i64 1, .int .i64 0, .int .i64 x] 30) = w5 at *
    have P_c0 : w5.cell? ⟨bP, 0, none⟩ = some (.int .i64 3) := P.out.cell 0
    have P_c1 : w5.cell? ⟨bP, 1, none⟩ = some (.int .i64 0) := P.out.cell 1
    have P_c2 : w5.cell? ⟨bP, 2, none⟩ = some (.int .i64 x) := P.out.cell 2
    have P_z : bP < w5.heap.size := P.out.lt
    have Q_c0 : w5.cell? ⟨(bP + 1), 0, none⟩ = some (.int .i64 1) := Q.out.cell 0
    have Q_c1 : w5.cell? ⟨(bP + 1), 1, none⟩ = some (.int .i64 0) := Q.out.cell 1
    have Q_c2 : w5.cell? ⟨(bP + 1), 2, none⟩ = some (.int .i64 x) := Q.out.cell 2
    have Q_z : (bP + 1) < w5.heap.size := Q.out.lt
    obtain ⟨zs, c, r, hd⟩ : ∃ zs c r, deqR fl 3 x = (zs, c, r) := ⟨_, _, _, rfl⟩
    have hzl : zs.length ≤ 1000 := by have := deqR_len fl 3 x; rw [hd] at this; dsimp only at this; omega
    have hd2 : deqR fl.reverse 1 x = (zs.reverse, c, r) := by have := deq_turn fl 3 x (by decide); rw [hd] at this; exact this
    have HD := Lib.hid hd
    have HD2 := Lib.hid hd2
    clear hd hd2
    refine (deque_eq _ _ fl 3 0 x HF.out.sl (by omega) HD.out).mono ?_
    rintro e w6 ⟨v2, rfl, ho2, hb6⟩
    clear P_c0 P_c1 P_c2 P_z
    clear Q_c0 Q_c1 Q_c2 Q_z
    replace HB := Lib.hid (bcall HB.out hb6)
    replace HF := Lib.hid (HF.out.below hb6)
    replace HR := Lib.hid (HR.out.below hb6)
    replace P := Lib.hid (P.out.below hb6)
    replace Q := Lib.hid (Q.out.below hb6)
    replace ho2 := Lib.hid ho2
    clear hb6
    have P_c0 : w6.cell? ⟨bP, 0, none⟩ = some (.int .i64 3) := P.out.cell 0
    have P_c1 : w6.cell? ⟨bP, 1, none⟩ = some (.int .i64 0) := P.out.cell 1
    have P_c2 : w6.cell? ⟨bP, 2, none⟩ = some (.int .i64 x) := P.out.cell 2
    have P_z : bP < w6.heap.size := P.out.lt
    have Q_c0 : w6.cell? ⟨(bP + 1), 0, none⟩ = some (.int .i64 1) := Q.out.cell 0
    have Q_c1 : w6.cell? ⟨(bP + 1), 1, none⟩ = some (.int .i64 0) := Q.out.cell 1
    have Q_c2 : w6.cell? ⟨(bP + 1), 2, none⟩ = some (.int .i64 x) := Q.out.cell 2
    have Q_z : (bP + 1) < w6.heap.size := Q.out.lt
    go_wp2_with fail
    have hb7 := balloc (Below.refl _ w6) (Obj.cells #[.int .i64 c, .int .i64 r] 26)
    have A1 := Lib.hid (Blk.new w6 [.int .i64 c, .int .i64 r] 26)
    change Hid (Blk (w6.alloc (Obj.cells #[.int .i64 c, .int .i64 r] 26)) _ _ _) at A1
    have ZA1 : Hid ((w6.alloc (Obj.cells #[.int .i64 c, .int .i64 r] 26)).heap.size = w6.heap.size + 1) := World.size_alloc _ _
    clear P_c0 P_c1 P_c2 P_z
    clear Q_c0 Q_c1 Q_c2 Q_z
    replace HB := Lib.hid (bcall HB.out hb7)
    replace HF := Lib.hid (HF.out.below hb7)
    replace HR := Lib.hid (HR.out.below hb7)
    replace P := Lib.hid (P.out.below hb7)
    replace Q := Lib.hid (Q.out.below hb7)
    replace ho2 := Lib.hid (ho2.out.below hb7)
    clear hb7
    generalize w6.alloc (Obj.cells #[.int .i64 c, .int .i64 r] 26) = w7 at *
    generalize w6.heap.size = bA1 at *
    have P_c0 : w7.cell? ⟨bP, 0, none⟩ = some (.int .i64 3) := P.out.cell 0
    have P_c1 : w7.cell? ⟨bP, 1, none⟩ = some (.int .i64 0) := P.out.cell 1
    have P_c2 : w7.cell? ⟨bP, 2, none⟩ = some (.int .i64 x) := P.out.cell 2
    have P_z : bP < w7.heap.size := P.out.lt
    have Q_c0 : w7.cell? ⟨(bP + 1), 0, none⟩ = some (.int .i64 1) := Q.out.cell 0
    have Q_c1 : w7.cell? ⟨(bP + 1), 1, none⟩ = some (.int .i64 0) := Q.out.cell 1
    have Q_c2 : w7.cell? ⟨(bP + 1), 2, none⟩ = some (.int .i64 x) := Q.out.cell 2
    have Q_z : (bP + 1) < w7.heap.size := Q.out.lt
    have A1_c0 : w7.cell? ⟨bA1, 0, none⟩ = some (.int .i64 c) := A1.out.cell 0
    have A1_c1 : w7.cell? ⟨bA1, 1, none⟩ = some (.int .i64 r) := A1.out.cell 1
    have A1_z : bA1 < w7.heap.size := A1.out.lt
    go_wp2_with fail
    refine (deque_eq _ _ fl.reverse 1 0 x HR.out.sl (by rw [List.length_reverse]; omega) HD2.out).mono ?_
    rintro e w8 ⟨v5, rfl, ho5, hb5⟩
    clear P_c0 P_c1 P_c2 P_z
    clear Q_c0 Q_c1 Q_c2 Q_z
    clear A1_c0 A1_c1 A1_z
    go_wp2_with fail
    refine (reverse_kept _ _ v5 zs.reverse (World.ownsRow.alloc ho5 _)).mono ?_
    rintro e w9 ⟨rfl, ho7, hk7⟩
    rw [List.reverse_reverse] at ho7
    have hk7' : Below w7.heap.size (w8.alloc (Obj.cells #[.int .i64 c, .int .i64 r] 26)) w9 := hk7.below (by rw [World.size_alloc]; have := hb5.size; omega) (fun k hk => ho5.block hk)
    have hb7 : Below w7.heap.size w7 w9 := (hb5.alloc hb5.size _).trans hk7'
    have A2 := Lib.hid ((Blk.new w8 [.int .i64 c, .int .i64 r] 26).kept hk7 (fun h => absurd (ho5.ltb h) (Nat.lt_irrefl _)))
    replace HB := Lib.hid (bcall HB.out hb7)
    replace HF := Lib.hid (HF.out.below hb7)
    replace HR := Lib.hid (HR.out.below hb7)
    replace P := Lib.hid (P.out.below hb7)
    replace Q := Lib.hid (Q.out.below hb7)
    replace ho2 := Lib.hid (ho2.out.below hb7)
    replace A1 := Lib.hid (A1.out.below hb7)
    have ho3 := Lib.hid ho7
    clear ho7 hk7 hk7' hb7 ho5 hb5
    generalize w8.heap.size = bA2 at *
    have P_c0 : w9.cell? ⟨bP, 0, none⟩ = some (.int .i64 3) := P.out.cell 0
    have P_c1 : w9.cell? ⟨bP, 1, none⟩ = some (.int .i64 0) := P.out.cell 1
    have P_c2 : w9.cell? ⟨bP, 2, none⟩ = some (.int .i64 x) := P.out.cell 2
    have P_z : bP < w9.heap.size := P.out.lt
    have Q_c0 : w9.cell? ⟨(bP + 1), 0, none⟩ = some (.int .i64 1) := Q.out.cell 0
    have Q_c1 : w9.cell? ⟨(bP + 1), 1, none⟩ = some (.int .i64 0) := Q.out.cell 1
    have Q_c2 : w9.cell? ⟨(bP + 1), 2, none⟩ = some (.int .i64 x) := Q.out.cell 2
    have Q_z : (bP + 1) < w9.heap.size := Q.out.lt
    have A1_c0 : w9.cell? ⟨bA1, 0, none⟩ = some (.int .i64 c) := A1.out.cell 0
    have A1_c1 : w9.cell? ⟨bA1, 1, none⟩ = some (.int .i64 r) := A1.out.cell 1
    have A1_z : bA1 < w9.heap.size := A1.out.lt
    have A2_c0 : w9.cell? ⟨bA2, 0, none⟩ = some (.int .i64 c) := A2.out.cell 0
    have A2_c1 : w9.cell? ⟨bA2, 1, none⟩ = some (.int .i64 r) := A2.out.cell 1
    have A2_z : bA2 < w9.heap.size := A2.out.lt
    go_wp2_with fail
    refine (equal_yes _ _ _ zs zs ho2.out.sl ho3.out.sl rfl hzl).mono ?_
    rintro e w10 ⟨rfl, hb10⟩
    clear P_c0 P_c1 P_c2 P_z
    clear Q_c0 Q_c1 Q_c2 Q_z
    clear A1_c0 A1_c1 A1_z
    clear A2_c0 A2_c1 A2_z
    replace HB := Lib.hid (bcall HB.out hb10)
    replace HF := Lib.hid (HF.out.below hb10)
    replace HR := Lib.hid (HR.out.below hb10)
    replace P := Lib.hid (P.out.below hb10)
    replace Q := Lib.hid (Q.out.below hb10)
    replace ho2 := Lib.hid (ho2.out.below hb10)
    replace A1 := Lib.hid (A1.out.below hb10)
    replace ho3 := Lib.hid (ho3.out.below hb10)
    replace A2 := Lib.hid (A2.out.below hb10)
    clear hb10
    have P_c0 : w10.cell? ⟨bP, 0, none⟩ = some (.int .i64 3) := P.out.cell 0
    have P_c1 : w10.cell? ⟨bP, 1, none⟩ = some (.int .i64 0) := P.out.cell 1
    have P_c2 : w10.cell? ⟨bP, 2, none⟩ = some (.int .i64 x) := P.out.cell 2
    have P_z : bP < w10.heap.size := P.out.lt
    have Q_c0 : w10.cell? ⟨(bP + 1), 0, none⟩ = some (.int .i64 1) := Q.out.cell 0
    have Q_c1 : w10.cell? ⟨(bP + 1), 1, none⟩ = some (.int .i64 0) := Q.out.cell 1
    have Q_c2 : w10.cell? ⟨(bP + 1), 2, none⟩ = some (.int .i64 x) := Q.out.cell 2
    have Q_z : (bP + 1) < w10.heap.size := Q.out.lt
    have A1_c0 : w10.cell? ⟨bA1, 0, none⟩ = some (.int .i64 c) := A1.out.cell 0
    have A1_c1 : w10.cell? ⟨bA1, 1, none⟩ = some (.int .i64 r) := A1.out.cell 1
    have A1_z : bA1 < w10.heap.size := A1.out.lt
    have A2_c0 : w10.cell? ⟨bA2, 0, none⟩ = some (.int .i64 c) := A2.out.cell 0
    have A2_c1 : w10.cell? ⟨bA2, 1, none⟩ = some (.int .i64 r) := A2.out.cell 1
    have A2_z : bA2 < w10.heap.size := A2.out.lt
    go_wp2_with fail
    go_ret
    exact ⟨by first | rfl | simp, HB.out⟩
  · go_wp2_with fail
    have hb4 := balloc (Below.refl _ w3) (Obj.cells #[.int .i64 2, .int .i64 0, .int .i64 0] 30)
    have P := Lib.hid (Blk.new w3 [.int .i64 2, .int .i64 0, .int .i64 0] 30)
    change Hid (Blk (w3.alloc (Obj.cells #[.int .i64 2, .int .i64 0, .int .i64 0] 30)) _ _ _) at P
    have ZP : Hid ((w3.alloc (Obj.cells #[.int .i64 2, .int .i64 0, .int .i64 0] 30)).heap.size = w3.heap.size + 1) := World.size_alloc _ _
    replace HB := Lib.hid (bcall HB.out hb4)
    replace HF := Lib.hid (HF.out.below hb4)
    replace HR := Lib.hid (HR.out.below hb4)
    clear hb4
    generalize w3.alloc (Obj.cells #[.int .i64 2, .int .i64 0, .int .i64 0] 30) = w4 at *
    generalize w3.heap.size = bP at *
    have P_c0 : w4.cell? ⟨bP, 0, none⟩ = some (.int .i64 2) := P.out.cell 0
    have P_c1 : w4.cell? ⟨bP, 1, none⟩ = some (.int .i64 0) := P.out.cell 1
    have P_c2 : w4.cell? ⟨bP, 2, none⟩ = some (.int .i64 0) := P.out.cell 2
    have P_z : bP < w4.heap.size := P.out.lt
    have hb5 := balloc (Below.refl _ w4) (Obj.cells #[.int .i64 4, .int .i64 0, .int .i64 0] 30)
    have Q := Lib.hid (Blk.new w4 [.int .i64 4, .int .i64 0, .int .i64 0] 30)
    change Hid (Blk (w4.alloc (Obj.cells #[.int .i64 4, .int .i64 0, .int .i64 0] 30)) _ _ _) at Q
    have ZQ : Hid ((w4.alloc (Obj.cells #[.int .i64 4, .int .i64 0, .int .i64 0] 30)).heap.size = w4.heap.size + 1) := World.size_alloc _ _
    clear P_c0 P_c1 P_c2 P_z
    replace HB := Lib.hid (bcall HB.out hb5)
    replace HF := Lib.hid (HF.out.below hb5)
    replace HR := Lib.hid (HR.out.below hb5)
    replace P := Lib.hid (P.out.below hb5)
    clear hb5
    rw [ZP.out] at Q ZQ
    clear ZP
    generalize w4.alloc (Obj.cells #[.int .i64 4, .int .i64 0, .int .i64 0] 30) = w5 at *
    have P_c0 : w5.cell? ⟨bP, 0, none⟩ = some (.int .i64 2) := P.out.cell 0
    have P_c1 : w5.cell? ⟨bP, 1, none⟩ = some (.int .i64 0) := P.out.cell 1
    have P_c2 : w5.cell? ⟨bP, 2, none⟩ = some (.int .i64 0) := P.out.cell 2
    have P_z : bP < w5.heap.size := P.out.lt
    have Q_c0 : w5.cell? ⟨(bP + 1), 0, none⟩ = some (.int .i64 4) := Q.out.cell 0
    have Q_c1 : w5.cell? ⟨(bP + 1), 1, none⟩ = some (.int .i64 0) := Q.out.cell 1
    have Q_c2 : w5.cell? ⟨(bP + 1), 2, none⟩ = some (.int .i64 0) := Q.out.cell 2
    have Q_z : (bP + 1) < w5.heap.size := Q.out.lt
    obtain ⟨zs, c, r, hd⟩ : ∃ zs c r, deqR fl 2 0 = (zs, c, r) := ⟨_, _, _, rfl⟩
    have hzl : zs.length ≤ 1000 := by have := deqR_len fl 2 0; rw [hd] at this; dsimp only at this; omega
    have hd2 : deqR fl.reverse 4 0 = (zs.reverse, c, r) := by have := deq_turn fl 2 0 (by decide); rw [hd] at this; exact this
    have HD := Lib.hid hd
    have HD2 := Lib.hid hd2
    clear hd hd2
    refine (deque_eq _ _ fl 2 0 0 HF.out.sl (by omega) HD.out).mono ?_
    rintro e w6 ⟨v2, rfl, ho2, hb6⟩
    clear P_c0 P_c1 P_c2 P_z
    clear Q_c0 Q_c1 Q_c2 Q_z
    replace HB := Lib.hid (bcall HB.out hb6)
    replace HF := Lib.hid (HF.out.below hb6)
    replace HR := Lib.hid (HR.out.below hb6)
    replace P := Lib.hid (P.out.below hb6)
    replace Q := Lib.hid (Q.out.below hb6)
    replace ho2 := Lib.hid ho2
    clear hb6
    have P_c0 : w6.cell? ⟨bP, 0, none⟩ = some (.int .i64 2) := P.out.cell 0
    have P_c1 : w6.cell? ⟨bP, 1, none⟩ = some (.int .i64 0) := P.out.cell 1
    have P_c2 : w6.cell? ⟨bP, 2, none⟩ = some (.int .i64 0) := P.out.cell 2
    have P_z : bP < w6.heap.size := P.out.lt
    have Q_c0 : w6.cell? ⟨(bP + 1), 0, none⟩ = some (.int .i64 4) := Q.out.cell 0
    have Q_c1 : w6.cell? ⟨(bP + 1), 1, none⟩ = some (.int .i64 0) := Q.out.cell 1
    have Q_c2 : w6.cell? ⟨(bP + 1), 2, none⟩ = some (.int .i64 0) := Q.out.cell 2
    have Q_z : (bP + 1) < w6.heap.size := Q.out.lt
    go_wp2_with fail
    have hb7 := balloc (Below.refl _ w6) (Obj.cells #[.int .i64 c, .int .i64 r] 26)
    have A1 := Lib.hid (Blk.new w6 [.int .i64 c, .int .i64 r] 26)
    change Hid (Blk (w6.alloc (Obj.cells #[.int .i64 c, .int .i64 r] 26)) _ _ _) at A1
    have ZA1 : Hid ((w6.alloc (Obj.cells #[.int .i64 c, .int .i64 r] 26)).heap.size = w6.heap.size + 1) := World.size_alloc _ _
    clear P_c0 P_c1 P_c2 P_z
    clear Q_c0 Q_c1 Q_c2 Q_z
    replace HB := Lib.hid (bcall HB.out hb7)
    replace HF := Lib.hid (HF.out.below hb7)
    replace HR := Lib.hid (HR.out.below hb7)
    replace P := Lib.hid (P.out.below hb7)
    replace Q := Lib.hid (Q.out.below hb7)
    replace ho2 := Lib.hid (ho2.out.below hb7)
    clear hb7
    generalize w6.alloc (Obj.cells #[.int .i64 c, .int .i64 r] 26) = w7 at *
    generalize w6.heap.size = bA1 at *
    have P_c0 : w7.cell? ⟨bP, 0, none⟩ = some (.int .i64 2) := P.out.cell 0
    have P_c1 : w7.cell? ⟨bP, 1, none⟩ = some (.int .i64 0) := P.out.cell 1
    have P_c2 : w7.cell? ⟨bP, 2, none⟩ = some (.int .i64 0) := P.out.cell 2
    have P_z : bP < w7.heap.size := P.out.lt
    have Q_c0 : w7.cell? ⟨(bP + 1), 0, none⟩ = some (.int .i64 4) := Q.out.cell 0
    have Q_c1 : w7.cell? ⟨(bP + 1), 1, none⟩ = some (.int .i64 0) := Q.out.cell 1
    have Q_c2 : w7.cell? ⟨(bP + 1), 2, none⟩ = some (.int .i64 0) := Q.out.cell 2
    have Q_z : (bP + 1) < w7.heap.size := Q.out.lt
    have A1_c0 : w7.cell? ⟨bA1, 0, none⟩ = some (.int .i64 c) := A1.out.cell 0
    have A1_c1 : w7.cell? ⟨bA1, 1, none⟩ = some (.int .i64 r) := A1.out.cell 1
    have A1_z : bA1 < w7.heap.size := A1.out.lt
    go_wp2_with fail
    refine (deque_eq _ _ fl.reverse 4 0 0 HR.out.sl (by rw [List.length_reverse]; omega) HD2.out).mono ?_
    rintro e w8 ⟨v5, rfl, ho5, hb5⟩
    clear P_c0 P_c1 P_c2 P_z
    clear Q_c0 Q_c1 Q_c2 Q_z
    clear A1_c0 A1_c1 A1_z
    go_wp2_with fail
    refine (reverse_kept _ _ v5 zs.reverse (World.ownsRow.alloc ho5 _)).mono ?_
    rintro e w9 ⟨rfl, ho7, hk7⟩
    rw [List.reverse_reverse] at ho7
    have hk7' : Below w7.heap.size (w8.alloc (Obj.cells #[.int .i64 c, .int .i64 r] 26)) w9 := hk7.below (by rw [World.size_alloc]; have := hb5.size; omega) (fun k hk => ho5.block hk)
    have hb7 : Below w7.heap.size w7 w9 := (hb5.alloc hb5.size _).trans hk7'
    have A2 := Lib.hid ((Blk.new w8 [.int .i64 c, .int .i64 r] 26).kept hk7 (fun h => absurd (ho5.ltb h) (Nat.lt_irrefl _)))
    replace HB := Lib.hid (bcall HB.out hb7)
    replace HF := Lib.hid (HF.out.below hb7)
    replace HR := Lib.hid (HR.out.below hb7)
    replace P := Lib.hid (P.out.below hb7)
    replace Q := Lib.hid (Q.out.below hb7)
    replace ho2 := Lib.hid (ho2.out.below hb7)
    replace A1 := Lib.hid (A1.out.below hb7)
    have ho3 := Lib.hid ho7
    clear ho7 hk7 hk7' hb7 ho5 hb5
    generalize w8.heap.size = bA2 at *
    have P_c0 : w9.cell? ⟨bP, 0, none⟩ = some (.int .i64 2) := P.out.cell 0
    have P_c1 : w9.cell? ⟨bP, 1, none⟩ = some (.int .i64 0) := P.out.cell 1
    have P_c2 : w9.cell? ⟨bP, 2, none⟩ = some (.int .i64 0) := P.out.cell 2
    have P_z : bP < w9.heap.size := P.out.lt
    have Q_c0 : w9.cell? ⟨(bP + 1), 0, none⟩ = some (.int .i64 4) := Q.out.cell 0
    have Q_c1 : w9.cell? ⟨(bP + 1), 1, none⟩ = some (.int .i64 0) := Q.out.cell 1
    have Q_c2 : w9.cell? ⟨(bP + 1), 2, none⟩ = some (.int .i64 0) := Q.out.cell 2
    have Q_z : (bP + 1) < w9.heap.size := Q.out.lt
    have A1_c0 : w9.cell? ⟨bA1, 0, none⟩ = some (.int .i64 c) := A1.out.cell 0
    have A1_c1 : w9.cell? ⟨bA1, 1, none⟩ = some (.int .i64 r) := A1.out.cell 1
    have A1_z : bA1 < w9.heap.size := A1.out.lt
    have A2_c0 : w9.cell? ⟨bA2, 0, none⟩ = some (.int .i64 c) := A2.out.cell 0
    have A2_c1 : w9.cell? ⟨bA2, 1, none⟩ = some (.int .i64 r) := A2.out.cell 1
    have A2_z : bA2 < w9.heap.size := A2.out.lt
    go_wp2_with fail
    refine (equal_yes _ _ _ zs zs ho2.out.sl ho3.out.sl rfl hzl).mono ?_
    rintro e w10 ⟨rfl, hb10⟩
    clear P_c0 P_c1 P_c2 P_z
    clear Q_c0 Q_c1 Q_c2 Q_z
    clear A1_c0 A1_c1 A1_z
    clear A2_c0 A2_c1 A2_z
    replace HB := Lib.hid (bcall HB.out hb10)
    replace HF := Lib.hid (HF.out.below hb10)
    replace HR := Lib.hid (HR.out.below hb10)
    replace P := Lib.hid (P.out.below hb10)
    replace Q := Lib.hid (Q.out.below hb10)
    replace ho2 := Lib.hid (ho2.out.below hb10)
    replace A1 := Lib.hid (A1.out.below hb10)
    replace ho3 := Lib.hid (ho3.out.below hb10)
    replace A2 := Lib.hid (A2.out.below hb10)
    clear hb10
    have P_c0 : w10.cell? ⟨bP, 0, none⟩ = some (.int .i64 2) := P.out.cell 0
    have P_c1 : w10.cell? ⟨bP, 1, none⟩ = some (.int .i64 0) := P.out.cell 1
    have P_c2 : w10.cell? ⟨bP, 2, none⟩ = some (.int .i64 0) := P.out.cell 2
    have P_z : bP < w10.heap.size := P.out.lt
    have Q_c0 : w10.cell? ⟨(bP + 1), 0, none⟩ = some (.int .i64 4) := Q.out.cell 0
    have Q_c1 : w10.cell? ⟨(bP + 1), 1, none⟩ = some (.int .i64 0) := Q.out.cell 1
    have Q_c2 : w10.cell? ⟨(bP + 1), 2, none⟩ = some (.int .i64 0) := Q.out.cell 2
    have Q_z : (bP + 1) < w10.heap.size := Q.out.lt
    have A1_c0 : w10.cell? ⟨bA1, 0, none⟩ = some (.int .i64 c) := A1.out.cell 0
    have A1_c1 : w10.cell? ⟨bA1, 1, none⟩ = some (.int .i64 r) := A1.out.cell 1
    have A1_z : bA1 < w10.heap.size := A1.out.lt
    have A2_c0 : w10.cell? ⟨bA2, 0, none⟩ = some (.int .i64 c) := A2.out.cell 0
    have A2_c1 : w10.cell? ⟨bA2, 1, none⟩ = some (.int .i64 r) := A2.out.cell 1
    have A2_z : bA2 < w10.heap.size := A2.out.lt
    go_wp2_with fail
    go_ret
    exact ⟨by first | rfl | simp, HB.out⟩
  · go_wp2_with fail
    have hb4 := balloc (Below.refl _ w3) (Obj.cells #[.int .i64 4, .int .i64 0, .int .i64 0] 30)
    have P := Lib.hid (Blk.new w3 [.int .i64 4, .int .i64 0, .int .i64 0] 30)
    change Hid (Blk (w3.alloc (Obj.cells #[.int .i64 4, .int .i64 0, .int .i64 0] 30)) _ _ _) at P
    have ZP : Hid ((w3.alloc (Obj.cells #[.int .i64 4, .int .i64 0, .int .i64 0] 30)).heap.size = w3.heap.size + 1) := World.size_alloc _ _
    replace HB := Lib.hid (bcall HB.out hb4)
    replace HF := Lib.hid (HF.out.below hb4)
    replace HR := Lib.hid (HR.out.below hb4)
    clear hb4
    generalize w3.alloc (Obj.cells #[.int .i64 4, .int .i64 0, .int .i64 0] 30) = w4 at *
    generalize w3.heap.size = bP at *
    have P_c0 : w4.cell? ⟨bP, 0, none⟩ = some (.int .i64 4) := P.out.cell 0
    have P_c1 : w4.cell? ⟨bP, 1, none⟩ = some (.int .i64 0) := P.out.cell 1
    have P_c2 : w4.cell? ⟨bP, 2, none⟩ = some (.int .i64 0) := P.out.cell 2
    have P_z : bP < w4.heap.size := P.out.lt
    have hb5 := balloc (Below.refl _ w4) (Obj.cells #[.int .i64 2, .int .i64 0, .int .i64 0] 30)
    have Q := Lib.hid (Blk.new w4 [.int .i64 2, .int .i64 0, .int .i64 0] 30)
    change Hid (Blk (w4.alloc (Obj.cells #[.int .i64 2, .int .i64 0, .int .i64 0] 30)) _ _ _) at Q
    have ZQ : Hid ((w4.alloc (Obj.cells #[.int .i64 2, .int .i64 0, .int .i64 0] 30)).heap.size = w4.heap.size + 1) := World.size_alloc _ _
    clear P_c0 P_c1 P_c2 P_z
    replace HB := Lib.hid (bcall HB.out hb5)
    replace HF := Lib.hid (HF.out.below hb5)
    replace HR := Lib.hid (HR.out.below hb5)
    replace P := Lib.hid (P.out.below hb5)
    clear hb5
    rw [ZP.out] at Q ZQ
    clear ZP
    generalize w4.alloc (Obj.cells #[.int .i64 2, .int .i64 0, .int .i64 0] 30) = w5 at *
    have P_c0 : w5.cell? ⟨bP, 0, none⟩ = some (.int .i64 4) := P.out.cell 0
    have P_c1 : w5.cell? ⟨bP, 1, none⟩ = some (.int .i64 0) := P.out.cell 1
    have P_c2 : w5.cell? ⟨bP, 2, none⟩ = some (.int .i64 0) := P.out.cell 2
    have P_z : bP < w5.heap.size := P.out.lt
    have Q_c0 : w5.cell? ⟨(bP + 1), 0, none⟩ = some (.int .i64 2) := Q.out.cell 0
    have Q_c1 : w5.cell? ⟨(bP + 1), 1, none⟩ = some (.int .i64 0) := Q.out.cell 1
    have Q_c2 : w5.cell? ⟨(bP + 1), 2, none⟩ = some (.int .i64 0) := Q.out.cell 2
    have Q_z : (bP + 1) < w5.heap.size := Q.out.lt
    obtain ⟨zs, c, r, hd⟩ : ∃ zs c r, deqR fl 4 0 = (zs, c, r) := ⟨_, _, _, rfl⟩
    have hzl : zs.length ≤ 1000 := by have := deqR_len fl 4 0; rw [hd] at this; dsimp only at this; omega
    have hd2 : deqR fl.reverse 2 0 = (zs.reverse, c, r) := by have := deq_turn fl 4 0 (by decide); rw [hd] at this; exact this
    have HD := Lib.hid hd
    have HD2 := Lib.hid hd2
    clear hd hd2
    refine (deque_eq _ _ fl 4 0 0 HF.out.sl (by omega) HD.out).mono ?_
    rintro e w6 ⟨v2, rfl, ho2, hb6⟩
    clear P_c0 P_c1 P_c2 P_z
    clear Q_c0 Q_c1 Q_c2 Q_z
    replace HB := Lib.hid (bcall HB.out hb6)
    replace HF := Lib.hid (HF.out.below hb6)
    replace HR := Lib.hid (HR.out.below hb6)
    replace P := Lib.hid (P.out.below hb6)
    replace Q := Lib.hid (Q.out.below hb6)
    replace ho2 := Lib.hid ho2
    clear hb6
    have P_c0 : w6.cell? ⟨bP, 0, none⟩ = some (.int .i64 4) := P.out.cell 0
    have P_c1 : w6.cell? ⟨bP, 1, none⟩ = some (.int .i64 0) := P.out.cell 1
    have P_c2 : w6.cell? ⟨bP, 2, none⟩ = some (.int .i64 0) := P.out.cell 2
    have P_z : bP < w6.heap.size := P.out.lt
    have Q_c0 : w6.cell? ⟨(bP + 1), 0, none⟩ = some (.int .i64 2) := Q.out.cell 0
    have Q_c1 : w6.cell? ⟨(bP + 1), 1, none⟩ = some (.int .i64 0) := Q.out.cell 1
    have Q_c2 : w6.cell? ⟨(bP + 1), 2, none⟩ = some (.int .i64 0) := Q.out.cell 2
    have Q_z : (bP + 1) < w6.heap.size := Q.out.lt
    go_wp2_with fail
    have hb7 := balloc (Below.refl _ w6) (Obj.cells #[.int .i64 c, .int .i64 r] 26)
    have A1 := Lib.hid (Blk.new w6 [.int .i64 c, .int .i64 r] 26)
    change Hid (Blk (w6.alloc (Obj.cells #[.int .i64 c, .int .i64 r] 26)) _ _ _) at A1
    have ZA1 : Hid ((w6.alloc (Obj.cells #[.int .i64 c, .int .i64 r] 26)).heap.size = w6.heap.size + 1) := World.size_alloc _ _
    clear P_c0 P_c1 P_c2 P_z
    clear Q_c0 Q_c1 Q_c2 Q_z
    replace HB := Lib.hid (bcall HB.out hb7)
    replace HF := Lib.hid (HF.out.below hb7)
    replace HR := Lib.hid (HR.out.below hb7)
    replace P := Lib.hid (P.out.below hb7)
    replace Q := Lib.hid (Q.out.below hb7)
    replace ho2 := Lib.hid (ho2.out.below hb7)
    clear hb7
    generalize w6.alloc (Obj.cells #[.int .i64 c, .int .i64 r] 26) = w7 at *
    generalize w6.heap.size = bA1 at *
    have P_c0 : w7.cell? ⟨bP, 0, none⟩ = some (.int .i64 4) := P.out.cell 0
    have P_c1 : w7.cell? ⟨bP, 1, none⟩ = some (.int .i64 0) := P.out.cell 1
    have P_c2 : w7.cell? ⟨bP, 2, none⟩ = some (.int .i64 0) := P.out.cell 2
    have P_z : bP < w7.heap.size := P.out.lt
    have Q_c0 : w7.cell? ⟨(bP + 1), 0, none⟩ = some (.int .i64 2) := Q.out.cell 0
    have Q_c1 : w7.cell? ⟨(bP + 1), 1, none⟩ = some (.int .i64 0) := Q.out.cell 1
    have Q_c2 : w7.cell? ⟨(bP + 1), 2, none⟩ = some (.int .i64 0) := Q.out.cell 2
    have Q_z : (bP + 1) < w7.heap.size := Q.out.lt
    have A1_c0 : w7.cell? ⟨bA1, 0, none⟩ = some (.int .i64 c) := A1.out.cell 0
    have A1_c1 : w7.cell? ⟨bA1, 1, none⟩ = some (.int .i64 r) := A1.out.cell 1
    have A1_z : bA1 < w7.heap.size := A1.out.lt
    go_wp2_with fail
    refine (deque_eq _ _ fl.reverse 2 0 0 HR.out.sl (by rw [List.length_reverse]; omega) HD2.out).mono ?_
    rintro e w8 ⟨v5, rfl, ho5, hb5⟩
    clear P_c0 P_c1 P_c2 P_z
    clear Q_c0 Q_c1 Q_c2 Q_z
    clear A1_c0 A1_c1 A1_z
    go_wp2_with fail
    refine (reverse_kept _ _ v5 zs.reverse (World.ownsRow.alloc ho5 _)).mono ?_
    rintro e w9 ⟨rfl, ho7, hk7⟩
    rw [List.reverse_reverse] at ho7
    have hk7' : Below w7.heap.size (w8.alloc (Obj.cells #[.int .i64 c, .int .i64 r] 26)) w9 := hk7.below (by rw [World.size_alloc]; have := hb5.size; omega) (fun k hk => ho5.block hk)
    have hb7 : Below w7.heap.size w7 w9 := (hb5.alloc hb5.size _).trans hk7'
    have A2 := Lib.hid ((Blk.new w8 [.int .i64 c, .int .i64 r] 26).kept hk7 (fun h => absurd (ho5.ltb h) (Nat.lt_irrefl _)))
    replace HB := Lib.hid (bcall HB.out hb7)
    replace HF := Lib.hid (HF.out.below hb7)
    replace HR := Lib.hid (HR.out.below hb7)
    replace P := Lib.hid (P.out.below hb7)
    replace Q := Lib.hid (Q.out.below hb7)
    replace ho2 := Lib.hid (ho2.out.below hb7)
    replace A1 := Lib.hid (A1.out.below hb7)
    have ho3 := Lib.hid ho7
    clear ho7 hk7 hk7' hb7 ho5 hb5
    generalize w8.heap.size = bA2 at *
    have P_c0 : w9.cell? ⟨bP, 0, none⟩ = some (.int .i64 4) := P.out.cell 0
    have P_c1 : w9.cell? ⟨bP, 1, none⟩ = some (.int .i64 0) := P.out.cell 1
    have P_c2 : w9.cell? ⟨bP, 2, none⟩ = some (.int .i64 0) := P.out.cell 2
    have P_z : bP < w9.heap.size := P.out.lt
    have Q_c0 : w9.cell? ⟨(bP + 1), 0, none⟩ = some (.int .i64 2) := Q.out.cell 0
    have Q_c1 : w9.cell? ⟨(bP + 1), 1, none⟩ = some (.int .i64 0) := Q.out.cell 1
    have Q_c2 : w9.cell? ⟨(bP + 1), 2, none⟩ = some (.int .i64 0) := Q.out.cell 2
    have Q_z : (bP + 1) < w9.heap.size := Q.out.lt
    have A1_c0 : w9.cell? ⟨bA1, 0, none⟩ = some (.int .i64 c) := A1.out.cell 0
    have A1_c1 : w9.cell? ⟨bA1, 1, none⟩ = some (.int .i64 r) := A1.out.cell 1
    have A1_z : bA1 < w9.heap.size := A1.out.lt
    have A2_c0 : w9.cell? ⟨bA2, 0, none⟩ = some (.int .i64 c) := A2.out.cell 0
    have A2_c1 : w9.cell? ⟨bA2, 1, none⟩ = some (.int .i64 r) := A2.out.cell 1
    have A2_z : bA2 < w9.heap.size := A2.out.lt
    go_wp2_with fail
    refine (equal_yes _ _ _ zs zs ho2.out.sl ho3.out.sl rfl hzl).mono ?_
    rintro e w10 ⟨rfl, hb10⟩
    clear P_c0 P_c1 P_c2 P_z
    clear Q_c0 Q_c1 Q_c2 Q_z
    clear A1_c0 A1_c1 A1_z
    clear A2_c0 A2_c1 A2_z
    replace HB := Lib.hid (bcall HB.out hb10)
    replace HF := Lib.hid (HF.out.below hb10)
    replace HR := Lib.hid (HR.out.below hb10)
    replace P := Lib.hid (P.out.below hb10)
    replace Q := Lib.hid (Q.out.below hb10)
    replace ho2 := Lib.hid (ho2.out.below hb10)
    replace A1 := Lib.hid (A1.out.below hb10)
    replace ho3 := Lib.hid (ho3.out.below hb10)
    replace A2 := Lib.hid (A2.out.below hb10)
    clear hb10
    have P_c0 : w10.cell? ⟨bP, 0, none⟩ = some (.int .i64 4) := P.out.cell 0
    have P_c1 : w10.cell? ⟨bP, 1, none⟩ = some (.int .i64 0) := P.out.cell 1
    have P_c2 : w10.cell? ⟨bP, 2, none⟩ = some (.int .i64 0) := P.out.cell 2
    have P_z : bP < w10.heap.size := P.out.lt
    have Q_c0 : w10.cell? ⟨(bP + 1), 0, none⟩ = some (.int .i64 2) := Q.out.cell 0
    have Q_c1 : w10.cell? ⟨(bP + 1), 1, none⟩ = some (.int .i64 0) := Q.out.cell 1
    have Q_c2 : w10.cell? ⟨(bP + 1), 2, none⟩ = some (.int .i64 0) := Q.out.cell 2
    have Q_z : (bP + 1) < w10.heap.size := Q.out.lt
    have A1_c0 : w10.cell? ⟨bA1, 0, none⟩ = some (.int .i64 c) := A1.out.cell 0
    have A1_c1 : w10.cell? ⟨bA1, 1, none⟩ = some (.int .i64 r) := A1.out.cell 1
    have A1_z : bA1 < w10.heap.size := A1.out.lt
    have A2_c0 : w10.cell? ⟨bA2, 0, none⟩ = some (.int .i64 c) := A2.out.cell 0
    have A2_c1 : w10.cell? ⟨bA2, 1, none⟩ = some (.int .i64 r) := A2.out.cell 1
    have A2_z : bA2 < w10.heap.size := A2.out.lt
    go_wp2_with fail
    go_ret
    exact ⟨by first | rfl | simp, HB.out⟩
end Go.Proofs.Ytpedkcpkdacnlaa
