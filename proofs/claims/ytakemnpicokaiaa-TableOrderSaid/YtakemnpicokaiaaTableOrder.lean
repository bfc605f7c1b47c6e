/- The walk of the law TableOrder. -/
import Derived.Test.YtakemnpicokaiaaTabEq
import Derived.Test.YtakemnpicokaiaaTabled
import Derived.Test.YtakemnpicokaiaaStableAllOps
import Derived.Deep.Cut
namespace Go.Proofs.Ytakemnpicokaiaa
open Go.RowKit
set_option linter.unusedVariables false
theorem order_plain {t : List Int} (g : Good t) (a b v x : Int) (ha : 1 ≤ a) (ha' : a ≤ 1000) (hb : 1 ≤ b) (hb' : b ≤ 1000) (hv : 0 ≤ v) (hv' : v ≤ 4294967295) (hx : 0 ≤ x) (hx' : x ≤ 4294967295) (hne : a ≠ b) (hl : lenT t ≤ 4) :
    ∃ p1 p q1 q, doT t 1 a v = (p1, 1, 0) ∧ doT p1 1 b x = (p, 1, 0) ∧ doT t 1 b x = (q1, 1, 0) ∧ doT q1 1 a v = (q, 1, 0) ∧ Good p1 ∧ Good p ∧ Good q1 ∧ Good q ∧ lenT p = lenT q ∧ ∀ l, l ≠ 0 → peekA p l = peekA q l := by
  rcases put_cases g a v ha ha' hv hv' with ⟨-, h, -⟩ | ⟨p1, e1, g1, k1, o1, n1⟩
  · omega
  rcases put_cases g b x hb hb' hx hx' with ⟨-, h, -⟩ | ⟨q1, e3, g3, k3, o3, n3⟩
  · omega
  rcases put_cases g1 b x hb hb' hx hx' with ⟨-, h, -⟩ | ⟨p, e2, g2, k2, o2, n2⟩
  · omega
  rcases put_cases g3 a v ha ha' hv hv' with ⟨-, h, -⟩ | ⟨q, e4, g4, k4, o4, n4⟩
  · omega
  refine ⟨p1, p, q1, q, e1, e2, e3, e4, g1, g2, g3, g4, ?_, fun l hl0 => ?_⟩
  · rw [o1 b (by omega) (Ne.symm hne)] at n2
    rw [o3 a (by omega) hne] at n4
    omega
  · by_cases la : l = a
    · subst la; rw [o2 l hl0 hne, k1, k4]
    · by_cases lb : l = b
      · subst lb; rw [k2, o4 l hl0 la, k3]
      · rw [o2 l hl0 lb, o1 l hl0 la, o4 l hl0 la, o3 l hl0 lb]
set_option maxHeartbeats 4000000 in
theorem walk_TableOrder (a0 : Option Addr) (len0 cap0 : Nat) (f0 : Nat → Nat → Int) (a1 a2 a3 a4 a5 : Int) (w : World) (h0 : Rws 3 (fun _ => .i64) w a0 len0 cap0 f0) (w1 : (Lit.int .i64 a1).wf = true) (w2 : (Lit.int .i64 a2).wf = true) (w3 : (Lit.int .i64 a3).wf = true) (w4 : (Lit.int .i64 a4).wf = true) (w5 : (Lit.int .i64 a5).wf = true) :
    Calls Try.prog 5 #[.slice a0 len0 cap0, .int .i64 a1, .int .i64 a2, .int .i64 a3, .int .i64 a4, .int .i64 a5] w fun e w' => e = .returned (.bool true) ∧ Below w.heap.size w w' := by
  clear w1 w2 w3 w4 w5
  have H0 := Lib.hid h0
  clear h0
  have HB := Lib.hid (Below.refl w.heap.size w)
  go_enter Try.func5, Try.ntmps5
  go_wp2_with fail
  refine (tabled_any _).mono ?_
  rintro e w1 ⟨rfl, hb1⟩
  replace HB := Lib.hid (bcall HB.out hb1)
  clear hb1
  have hbt := HB.out
  go_wp2_with fail
  refine (filled_any _ a0 len0 cap0 f0 (H0.out.below hbt)).mono ?_
  rintro e w2 ⟨t, gt, rfl, hb2⟩
  replace HB := Lib.hid (bcall HB.out hb2)
  clear hb2 hbt H0
  have HLt : Hid ((tcells t).length = 16) := Lib.hid (by rw [tcells_len]; exact gt.len)
  have HCt := Lib.hid (tcells_take t gt.len)
  have HOt := Lib.hid (tcells_one t)
  have Gt := Lib.hid gt
  clear gt
  go_upto_region 4 with (first | (refine wpList_store_part rfl 27 _ _ rfl w2.heap.size 0 16 (tcells t) rfl rfl 27 _ (Blk.new w2 [.int .i64 0, .int .i64 0, .int .i64 0, .int .i64 0, .int .i64 0, .int .i64 0, .int .i64 0, .int .i64 0, .int .i64 0, .int .i64 0, .int .i64 0, .int .i64 0, .int .i64 0, .int .i64 0, .int .i64 0, .int .i64 0] 27) HLt.out (by decide) (by kernel_rfl) HOt.out ?_; rw [spl_z16 _ HLt.out]))
  have hge_T := HB.out.size
  have hBB : Below w2.heap.size w2 (setBlk (w2.alloc (Obj.cells #[.int .i64 0, .int .i64 0, .int .i64 0, .int .i64 0, .int .i64 0, .int .i64 0, .int .i64 0, .int .i64 0, .int .i64 0, .int .i64 0, .int .i64 0, .int .i64 0, .int .i64 0, .int .i64 0, .int .i64 0, .int .i64 0] 27)) w2.heap.size (tcells t)) := bsetBlk (balloc (Below.refl _ _) _) (Nat.le_refl _) _
  have T : Hid (Blk (setBlk (w2.alloc (Obj.cells #[.int .i64 0, .int .i64 0, .int .i64 0, .int .i64 0, .int .i64 0, .int .i64 0, .int .i64 0, .int .i64 0, .int .i64 0, .int .i64 0, .int .i64 0, .int .i64 0, .int .i64 0, .int .i64 0, .int .i64 0, .int .i64 0] 27)) w2.heap.size (tcells t)) w2.heap.size (tcells t) 27) := Lib.hid ((Blk.new w2 [.int .i64 0, .int .i64 0, .int .i64 0, .int .i64 0, .int .i64 0, .int .i64 0, .int .i64 0, .int .i64 0, .int .i64 0, .int .i64 0, .int .i64 0, .int .i64 0, .int .i64 0, .int .i64 0, .int .i64 0, .int .i64 0] 27).setBlk _)
  replace HB := Lib.hid (bcall HB.out hBB)
  clear hBB
  generalize setBlk (w2.alloc (Obj.cells #[.int .i64 0, .int .i64 0, .int .i64 0, .int .i64 0, .int .i64 0, .int .i64 0, .int .i64 0, .int .i64 0, .int .i64 0, .int .i64 0, .int .i64 0, .int .i64 0, .int .i64 0, .int .i64 0, .int .i64 0, .int .i64 0] 27)) w2.heap.size (tcells t) = w3 at *
  generalize w2.heap.size = bT at *
  have ka0 := pickZ_nonneg a1 1000 (by decide)
  have ka1 := pickZ_lt a1 1000 (by decide)
  have kb0 := pickZ_nonneg a2 1000 (by decide)
  have kb1 := pickZ_lt a2 1000 (by decide)
  have v0 := pickZ_nonneg a3 100 (by decide)
  have v1 := pickZ_lt a3 100 (by decide)
  have x0 := pickZ_nonneg a4 100 (by decide)
  have x1 := pickZ_lt a4 100 (by decide)
  have l0 := pickZ_nonneg a5 1000 (by decide)
  have l1 := pickZ_lt a5 1000 (by decide)
  go_upto_region 5 with (go_at_call 25; refine (key_any _ _).mono ?_; rintro e w' ⟨rfl, rfl⟩)
  generalize hgka : 1 + pickZ a1 1000 = ka at *
  have ka2 : 1 ≤ ka := by omega
  have ka3 : ka ≤ 1000 := by omega
  clear ka0 ka1 hgka
  generalize hgkb : 1 + pickZ a2 1000 = kb at *
  have kb2 : 1 ≤ kb := by omega
  have kb3 : kb ≤ 1000 := by omega
  clear kb0 kb1 hgkb
  by_cases hab : ka = kb
  · have e0 : (ka == kb) = true := by simp [hab]
    clear hab
    go_wp2_with fail
    go_ret
    exact ⟨by first | rfl | simp, HB.out⟩
  · have e0 : (ka == kb) = false := by simp [hab]
    by_cases hl4 : 4 < lenT t
    · have g4 : decide (4 < lenT t) = true := by simp [hl4]
      have g4' : decide ((4 : Int) < (lenT t : Int)) = true := by simp; omega
      clear hab hl4
      go_wp2_with (refine wpList_load_part_g (by kernel_rfl) 27 _ rfl (bT) 0 16 rfl 27 (tcells t) _ T.out (by rw [HLt.out]; decide) Try.underlying27 rfl (by kernel_rfl) ?_; rw [HCt.out])
      refine (len_eq _ t Gt.out (lenT t) rfl).mono ?_
      rintro e w4 ⟨rfl, hb4⟩
      replace HB := Lib.hid (bcall HB.out hb4)
      replace T := Lib.hid (T.out.below hb4)
      clear hb4
      go_wp2_with fail
      go_ret
      exact ⟨by first | rfl | simp, HB.out⟩
    · have g4 : decide (4 < lenT t) = false := by simp; omega
      have g4' : decide ((4 : Int) < (lenT t : Int)) = false := by simp; omega
      obtain ⟨p1, p, q1, q, d1, d2, d3, d4, gp1, gp, gq1, gq, hlen, hpk⟩ := order_plain Gt.out ka kb (pickZ a3 100) (pickZ a4 100) ka2 ka3 kb2 kb3 v0 (by omega) x0 (by omega) hab (by omega)
      have D1 := Lib.hid d1
      have D2 := Lib.hid d2
      have D3 := Lib.hid d3
      have D4 := Lib.hid d4
      have HLp1 : Hid ((tcells p1).length = 16) := Lib.hid (by rw [tcells_len]; exact gp1.len)
      have HCp1 := Lib.hid (tcells_take p1 gp1.len)
      have HOp1 := Lib.hid (tcells_one p1)
      have Gp1 := Lib.hid gp1
      have HLp : Hid ((tcells p).length = 16) := Lib.hid (by rw [tcells_len]; exact gp.len)
      have HCp := Lib.hid (tcells_take p gp.len)
      have HOp := Lib.hid (tcells_one p)
      have Gp := Lib.hid gp
      have HLq1 : Hid ((tcells q1).length = 16) := Lib.hid (by rw [tcells_len]; exact gq1.len)
      have HCq1 := Lib.hid (tcells_take q1 gq1.len)
      have HOq1 := Lib.hid (tcells_one q1)
      have Gq1 := Lib.hid gq1
      have HLq : Hid ((tcells q).length = 16) := Lib.hid (by rw [tcells_len]; exact gq.len)
      have HCq := Lib.hid (tcells_take q gq.len)
      have HOq := Lib.hid (tcells_one q)
      have Gq := Lib.hid gq
      have HLEN : Hid ((lenT p : Int) = lenT q) := Lib.hid (by rw [hlen])
      have HPK := Lib.hid hpk
      clear hab hl4 d1 d2 d3 d4 gp1 gp gq1 gq hlen hpk
      go_wp2_with (refine wpList_load_part_g (by kernel_rfl) 27 _ rfl (bT) 0 16 rfl 27 (tcells t) _ T.out (by rw [HLt.out]; decide) Try.underlying27 rfl (by kernel_rfl) ?_; rw [HCt.out])
      refine (len_eq _ t Gt.out (lenT t) rfl).mono ?_
      rintro e w4 ⟨rfl, hb4⟩
      replace HB := Lib.hid (bcall HB.out hb4)
      replace T := Lib.hid (T.out.below hb4)
      clear hb4
      go_upto_region 8 with (go_at_call 21; refine (pick_any _ _ _ (by decide) (by decide)).mono ?_; rintro e w' ⟨rfl, rfl⟩)
      generalize pickZ a3 100 = v at *
      generalize pickZ a4 100 = x at *
      have hb5 := balloc (Below.refl _ w4) (Obj.cells #[.int .i64 1, .int .i64 ka, .int .i64 v] 36)
      have P := Lib.hid (Blk.new w4 [.int .i64 1, .int .i64 ka, .int .i64 v] 36)
      change Hid (Blk (w4.alloc (Obj.cells #[.int .i64 1, .int .i64 ka, .int .i64 v] 36)) _ _ _) at P
      have ZP : Hid ((w4.alloc (Obj.cells #[.int .i64 1, .int .i64 ka, .int .i64 v] 36)).heap.size = w4.heap.size + 1) := World.size_alloc _ _
      replace HB := Lib.hid (bcall HB.out hb5)
      replace T := Lib.hid (T.out.below hb5)
      clear hb5
      generalize w4.alloc (Obj.cells #[.int .i64 1, .int .i64 ka, .int .i64 v] 36) = w5 at *
      generalize w4.heap.size = bP at *
      have P_c0 : w5.cell? ⟨bP, 0, none⟩ = some (.int .i64 1) := P.out.cell 0
      have P_c1 : w5.cell? ⟨bP, 1, none⟩ = some (.int .i64 ka) := P.out.cell 1
      have P_c2 : w5.cell? ⟨bP, 2, none⟩ = some (.int .i64 v) := P.out.cell 2
      have P_z : bP < w5.heap.size := P.out.lt
      have hb6 := balloc (Below.refl _ w5) (Obj.cells #[.int .i64 1, .int .i64 kb, .int .i64 x] 36)
      have Q := Lib.hid (Blk.new w5 [.int .i64 1, .int .i64 kb, .int .i64 x] 36)
      change Hid (Blk (w5.alloc (Obj.cells #[.int .i64 1, .int .i64 kb, .int .i64 x] 36)) _ _ _) at Q
      have ZQ : Hid ((w5.alloc (Obj.cells #[.int .i64 1, .int .i64 kb, .int .i64 x] 36)).heap.size = w5.heap.size + 1) := World.size_alloc _ _
      clear P_c0 P_c1 P_c2 P_z
      replace HB := Lib.hid (bcall HB.out hb6)
      replace T := Lib.hid (T.out.below hb6)
      replace P := Lib.hid (P.out.below hb6)
      clear hb6
      rw [ZP.out] at Q ZQ
      clear ZP
      generalize w5.alloc (Obj.cells #[.int .i64 1, .int .i64 kb, .int .i64 x] 36) = w6 at *
      have P_c0 : w6.cell? ⟨bP, 0, none⟩ = some (.int .i64 1) := P.out.cell 0
      have P_c1 : w6.cell? ⟨bP, 1, none⟩ = some (.int .i64 ka) := P.out.cell 1
      have P_c2 : w6.cell? ⟨bP, 2, none⟩ = some (.int .i64 v) := P.out.cell 2
      have P_z : bP < w6.heap.size := P.out.lt
      have Q_c0 : w6.cell? ⟨(bP + 1), 0, none⟩ = some (.int .i64 1) := Q.out.cell 0
      have Q_c1 : w6.cell? ⟨(bP + 1), 1, none⟩ = some (.int .i64 kb) := Q.out.cell 1
      have Q_c2 : w6.cell? ⟨(bP + 1), 2, none⟩ = some (.int .i64 x) := Q.out.cell 2
      have Q_z : (bP + 1) < w6.heap.size := Q.out.lt
      go_upto_region 9 with ((refine wpList_load_part rfl 27 _ rfl (bT) 0 16 rfl 27 (tcells t) _ T.out (by rw [HLt.out]; decide) Try.underlying27 rfl (by kernel_rfl) ?_; rw [HCt.out]))
      refine (do_eq _ t Gt.out 1 ka v p1 1 0 D1.out).mono ?_
      rintro e w7 ⟨rfl, hb7⟩
      clear P_c0 P_c1 P_c2 P_z
      clear Q_c0 Q_c1 Q_c2 Q_z
      replace HB := Lib.hid (bcall HB.out hb7)
      replace T := Lib.hid (T.out.below hb7)
      replace P := Lib.hid (P.out.below hb7)
      replace Q := Lib.hid (Q.out.below hb7)
      clear hb7
      have P_c0 : w7.cell? ⟨bP, 0, none⟩ = some (.int .i64 1) := P.out.cell 0
      have P_c1 : w7.cell? ⟨bP, 1, none⟩ = some (.int .i64 ka) := P.out.cell 1
      have P_c2 : w7.cell? ⟨bP, 2, none⟩ = some (.int .i64 v) := P.out.cell 2
      have P_z : bP < w7.heap.size := P.out.lt
      have Q_c0 : w7.cell? ⟨(bP + 1), 0, none⟩ = some (.int .i64 1) := Q.out.cell 0
      have Q_c1 : w7.cell? ⟨(bP + 1), 1, none⟩ = some (.int .i64 kb) := Q.out.cell 1
      have Q_c2 : w7.cell? ⟨(bP + 1), 2, none⟩ = some (.int .i64 x) := Q.out.cell 2
      have Q_z : (bP + 1) < w7.heap.size := Q.out.lt
      go_upto_region 9 with (first | (refine wpList_store_part rfl 27 _ _ rfl w7.heap.size 0 16 (tcells p1) rfl rfl 27 _ ((Blk.new w7 [.int .i64 0, .int .i64 0, .int .i64 0, .int .i64 0, .int .i64 0, .int .i64 0, .int .i64 0, .int .i64 0, .int .i64 0, .int .i64 0, .int .i64 0, .int .i64 0, .int .i64 0, .int .i64 0, .int .i64 0, .int .i64 0] 27).alloc _) HLp1.out (by decide) (by kernel_rfl) HOp1.out ?_; rw [spl_z16 _ HLp1.out]; have hP := def_pair w7 (tcells p1) [.int .i64 0, .int .i64 0, .int .i64 0, .int .i64 0, .int .i64 0, .int .i64 0, .int .i64 0, .int .i64 0, .int .i64 0, .int .i64 0, .int .i64 0, .int .i64 0, .int .i64 0, .int .i64 0, .int .i64 0, .int .i64 0] [.int .i64 0, .int .i64 0] 27 31; have aa0 := hP.2.1.cell 0; have aa1 := hP.2.1.cell 1; have af0 := hP.2.1.frozen 0; have af1 := hP.2.1.frozen 1))
      have hP := def_pair w7 (tcells p1) [.int .i64 0, .int .i64 0, .int .i64 0, .int .i64 0, .int .i64 0, .int .i64 0, .int .i64 0, .int .i64 0, .int .i64 0, .int .i64 0, .int .i64 0, .int .i64 0, .int .i64 0, .int .i64 0, .int .i64 0, .int .i64 0] [.int .i64 0, .int .i64 0] 27 31
      have hge_X := HB.out.size
      have hBB : Below w7.heap.size w7 (((setBlk ((w7.alloc (Obj.cells #[.int .i64 0, .int .i64 0, .int .i64 0, .int .i64 0, .int .i64 0, .int .i64 0, .int .i64 0, .int .i64 0, .int .i64 0, .int .i64 0, .int .i64 0, .int .i64 0, .int .i64 0, .int .i64 0, .int .i64 0, .int .i64 0] 27)).alloc (Obj.cells #[.int .i64 0, .int .i64 0] 31)) w7.heap.size (tcells p1)).setCell ⟨w7.heap.size + 1, 0, none⟩ (.int .i64 1)).setCell ⟨w7.heap.size + 1, 1, none⟩ (.int .i64 0)) := bstore (bstore hP.2.2 (Nat.le_succ _) _) (Nat.le_succ _) _
      have X : Hid (Blk (((setBlk ((w7.alloc (Obj.cells #[.int .i64 0, .int .i64 0, .int .i64 0, .int .i64 0, .int .i64 0, .int .i64 0, .int .i64 0, .int .i64 0, .int .i64 0, .int .i64 0, .int .i64 0, .int .i64 0, .int .i64 0, .int .i64 0, .int .i64 0, .int .i64 0] 27)).alloc (Obj.cells #[.int .i64 0, .int .i64 0] 31)) w7.heap.size (tcells p1)).setCell ⟨w7.heap.size + 1, 0, none⟩ (.int .i64 1)).setCell ⟨w7.heap.size + 1, 1, none⟩ (.int .i64 0)) w7.heap.size (tcells p1) 27) := Lib.hid ((hP.1.other _ (by show w7.heap.size ≠ w7.heap.size + 1; omega)).other _ (by show w7.heap.size ≠ w7.heap.size + 1; omega))
      have A1 : Hid (Blk (((setBlk ((w7.alloc (Obj.cells #[.int .i64 0, .int .i64 0, .int .i64 0, .int .i64 0, .int .i64 0, .int .i64 0, .int .i64 0, .int .i64 0, .int .i64 0, .int .i64 0, .int .i64 0, .int .i64 0, .int .i64 0, .int .i64 0, .int .i64 0, .int .i64 0] 27)).alloc (Obj.cells #[.int .i64 0, .int .i64 0] 31)) w7.heap.size (tcells p1)).setCell ⟨w7.heap.size + 1, 0, none⟩ (.int .i64 1)).setCell ⟨w7.heap.size + 1, 1, none⟩ (.int .i64 0)) (w7.heap.size + 1) [.int .i64 1, .int .i64 0] 31) := Lib.hid (Blk.pair hP.2.1)
      clear P_c0 P_c1 P_c2 P_z
      clear Q_c0 Q_c1 Q_c2 Q_z
      have hlt_X_T := T.out.lt
      have hlt_X_P := P.out.lt
      have hlt_X_Q := Q.out.lt
      replace HB := Lib.hid (bcall HB.out hBB)
      replace T := Lib.hid (T.out.below hBB)
      replace P := Lib.hid (P.out.below hBB)
      replace Q := Lib.hid (Q.out.below hBB)
      clear hBB hP aa0 aa1 af0 af1
      generalize ((setBlk ((w7.alloc (Obj.cells #[.int .i64 0, .int .i64 0, .int .i64 0, .int .i64 0, .int .i64 0, .int .i64 0, .int .i64 0, .int .i64 0, .int .i64 0, .int .i64 0, .int .i64 0, .int .i64 0, .int .i64 0, .int .i64 0, .int .i64 0, .int .i64 0] 27)).alloc (Obj.cells #[.int .i64 0, .int .i64 0] 31)) w7.heap.size (tcells p1)).setCell ⟨w7.heap.size + 1, 0, none⟩ (.int .i64 1)).setCell ⟨w7.heap.size + 1, 1, none⟩ (.int .i64 0) = w8 at *
      generalize w7.heap.size = bX at *
      have P_c0 : w8.cell? ⟨bP, 0, none⟩ = some (.int .i64 1) := P.out.cell 0
      have P_c1 : w8.cell? ⟨bP, 1, none⟩ = some (.int .i64 ka) := P.out.cell 1
      have P_c2 : w8.cell? ⟨bP, 2, none⟩ = some (.int .i64 v) := P.out.cell 2
      have P_z : bP < w8.heap.size := P.out.lt
      have Q_c0 : w8.cell? ⟨(bP + 1), 0, none⟩ = some (.int .i64 1) := Q.out.cell 0
      have Q_c1 : w8.cell? ⟨(bP + 1), 1, none⟩ = some (.int .i64 kb) := Q.out.cell 1
      have Q_c2 : w8.cell? ⟨(bP + 1), 2, none⟩ = some (.int .i64 x) := Q.out.cell 2
      have Q_z : (bP + 1) < w8.heap.size := Q.out.lt
      have A1_c0 : w8.cell? ⟨(bX + 1), 0, none⟩ = some (.int .i64 1) := A1.out.cell 0
      have A1_c1 : w8.cell? ⟨(bX + 1), 1, none⟩ = some (.int .i64 0) := A1.out.cell 1
      have A1_z : (bX + 1) < w8.heap.size := A1.out.lt
      go_upto_region 10 with ((refine wpList_load_part rfl 27 _ rfl (bX) 0 16 rfl 27 (tcells p1) _ X.out (by rw [HLp1.out]; decide) Try.underlying27 rfl (by kernel_rfl) ?_; rw [HCp1.out]))
      refine (do_eq _ p1 Gp1.out 1 kb x p 1 0 D2.out).mono ?_
      rintro e w9 ⟨rfl, hb9⟩
      clear P_c0 P_c1 P_c2 P_z
      clear Q_c0 Q_c1 Q_c2 Q_z
      clear A1_c0 A1_c1 A1_z
      replace HB := Lib.hid (bcall HB.out hb9)
      replace T := Lib.hid (T.out.below hb9)
      replace P := Lib.hid (P.out.below hb9)
      replace Q := Lib.hid (Q.out.below hb9)
      replace X := Lib.hid (X.out.below hb9)
      replace A1 := Lib.hid (A1.out.below hb9)
      clear hb9
      have P_c0 : w9.cell? ⟨bP, 0, none⟩ = some (.int .i64 1) := P.out.cell 0
      have P_c1 : w9.cell? ⟨bP, 1, none⟩ = some (.int .i64 ka) := P.out.cell 1
      have P_c2 : w9.cell? ⟨bP, 2, none⟩ = some (.int .i64 v) := P.out.cell 2
      have P_z : bP < w9.heap.size := P.out.lt
      have Q_c0 : w9.cell? ⟨(bP + 1), 0, none⟩ = some (.int .i64 1) := Q.out.cell 0
      have Q_c1 : w9.cell? ⟨(bP + 1), 1, none⟩ = some (.int .i64 kb) := Q.out.cell 1
      have Q_c2 : w9.cell? ⟨(bP + 1), 2, none⟩ = some (.int .i64 x) := Q.out.cell 2
      have Q_z : (bP + 1) < w9.heap.size := Q.out.lt
      have A1_c0 : w9.cell? ⟨(bX + 1), 0, none⟩ = some (.int .i64 1) := A1.out.cell 0
      have A1_c1 : w9.cell? ⟨(bX + 1), 1, none⟩ = some (.int .i64 0) := A1.out.cell 1
      have A1_z : (bX + 1) < w9.heap.size := A1.out.lt
      go_upto_region 10 with (first | (refine wpList_store_part rfl 27 _ _ rfl (bX) 0 16 (tcells p) rfl rfl 27 (tcells p1) X.out HLp.out (by rw [HLp1.out]; decide) (by kernel_rfl) HOp.out ?_; rw [spl_whole (tcells p1) (tcells p) (by rw [HLp1.out, HLp.out])]))
      have hK0 := Kept.setBlk w9 (bX) (tcells p)
      have Xn := Lib.hid (X.out.setBlk (tcells p))
      clear P_c0 P_c1 P_c2 P_z
      clear Q_c0 Q_c1 Q_c2 Q_z
      clear A1_c0 A1_c1 A1_z
      replace HB := Lib.hid (bkept HB.out hK0 (by rintro n rfl; omega))
      replace T := Lib.hid (T.out.kept hK0 (by intro hh; omega))
      replace P := Lib.hid (P.out.kept hK0 (by intro hh; omega))
      replace Q := Lib.hid (Q.out.kept hK0 (by intro hh; omega))
      replace A1 := Lib.hid (A1.out.kept hK0 (by intro hh; omega))
      replace X := Xn
      clear Xn hK0
      generalize setBlk w9 (bX) (tcells p) = w10 at *
      have P_c0 : w10.cell? ⟨bP, 0, none⟩ = some (.int .i64 1) := P.out.cell 0
      have P_c1 : w10.cell? ⟨bP, 1, none⟩ = some (.int .i64 ka) := P.out.cell 1
      have P_c2 : w10.cell? ⟨bP, 2, none⟩ = some (.int .i64 v) := P.out.cell 2
      have P_z : bP < w10.heap.size := P.out.lt
      have Q_c0 : w10.cell? ⟨(bP + 1), 0, none⟩ = some (.int .i64 1) := Q.out.cell 0
      have Q_c1 : w10.cell? ⟨(bP + 1), 1, none⟩ = some (.int .i64 kb) := Q.out.cell 1
      have Q_c2 : w10.cell? ⟨(bP + 1), 2, none⟩ = some (.int .i64 x) := Q.out.cell 2
      have Q_z : (bP + 1) < w10.heap.size := Q.out.lt
      have A1_c0 : w10.cell? ⟨(bX + 1), 0, none⟩ = some (.int .i64 1) := A1.out.cell 0
      have A1_c1 : w10.cell? ⟨(bX + 1), 1, none⟩ = some (.int .i64 0) := A1.out.cell 1
      have A1_z : (bX + 1) < w10.heap.size := A1.out.lt
      go_upto_region 11 with ((refine wpList_load_part rfl 27 _ rfl (bT) 0 16 rfl 27 (tcells t) _ T.out (by rw [HLt.out]; decide) Try.underlying27 rfl (by kernel_rfl) ?_; rw [HCt.out]))
      refine (do_eq _ t Gt.out 1 kb x q1 1 0 D3.out).mono ?_
      rintro e w11 ⟨rfl, hb11⟩
      clear P_c0 P_c1 P_c2 P_z
      clear Q_c0 Q_c1 Q_c2 Q_z
      clear A1_c0 A1_c1 A1_z
      replace HB := Lib.hid (bcall HB.out hb11)
      replace T := Lib.hid (T.out.below hb11)
      replace P := Lib.hid (P.out.below hb11)
      replace Q := Lib.hid (Q.out.below hb11)
      replace X := Lib.hid (X.out.below hb11)
      replace A1 := Lib.hid (A1.out.below hb11)
      clear hb11
      have P_c0 : w11.cell? ⟨bP, 0, none⟩ = some (.int .i64 1) := P.out.cell 0
      have P_c1 : w11.cell? ⟨bP, 1, none⟩ = some (.int .i64 ka) := P.out.cell 1
      have P_c2 : w11.cell? ⟨bP, 2, none⟩ = some (.int .i64 v) := P.out.cell 2
      have P_z : bP < w11.heap.size := P.out.lt
      have Q_c0 : w11.cell? ⟨(bP + 1), 0, none⟩ = some (.int .i64 1) := Q.out.cell 0
      have Q_c1 : w11.cell? ⟨(bP + 1), 1, none⟩ = some (.int .i64 kb) := Q.out.cell 1
      have Q_c2 : w11.cell? ⟨(bP + 1), 2, none⟩ = some (.int .i64 x) := Q.out.cell 2
      have Q_z : (bP + 1) < w11.heap.size := Q.out.lt
      have A1_c0 : w11.cell? ⟨(bX + 1), 0, none⟩ = some (.int .i64 1) := A1.out.cell 0
      have A1_c1 : w11.cell? ⟨(bX + 1), 1, none⟩ = some (.int .i64 0) := A1.out.cell 1
      have A1_z : (bX + 1) < w11.heap.size := A1.out.lt
      go_upto_region 11 with (first | (refine wpList_store_part rfl 27 _ _ rfl w11.heap.size 0 16 (tcells q1) rfl rfl 27 _ ((Blk.new w11 [.int .i64 0, .int .i64 0, .int .i64 0, .int .i64 0, .int .i64 0, .int .i64 0, .int .i64 0, .int .i64 0, .int .i64 0, .int .i64 0, .int .i64 0, .int .i64 0, .int .i64 0, .int .i64 0, .int .i64 0, .int .i64 0] 27).alloc _) HLq1.out (by decide) (by kernel_rfl) HOq1.out ?_; rw [spl_z16 _ HLq1.out]; have hP := def_pair w11 (tcells q1) [.int .i64 0, .int .i64 0, .int .i64 0, .int .i64 0, .int .i64 0, .int .i64 0, .int .i64 0, .int .i64 0, .int .i64 0, .int .i64 0, .int .i64 0, .int .i64 0, .int .i64 0, .int .i64 0, .int .i64 0, .int .i64 0] [.int .i64 0, .int .i64 0] 27 31; have aa0 := hP.2.1.cell 0; have aa1 := hP.2.1.cell 1; have af0 := hP.2.1.frozen 0; have af1 := hP.2.1.frozen 1))
      have hP := def_pair w11 (tcells q1) [.int .i64 0, .int .i64 0, .int .i64 0, .int .i64 0, .int .i64 0, .int .i64 0, .int .i64 0, .int .i64 0, .int .i64 0, .int .i64 0, .int .i64 0, .int .i64 0, .int .i64 0, .int .i64 0, .int .i64 0, .int .i64 0] [.int .i64 0, .int .i64 0] 27 31
      have hge_Y := HB.out.size
      have hBB : Below w11.heap.size w11 (((setBlk ((w11.alloc (Obj.cells #[.int .i64 0, .int .i64 0, .int .i64 0, .int .i64 0, .int .i64 0, .int .i64 0, .int .i64 0, .int .i64 0, .int .i64 0, .int .i64 0, .int .i64 0, .int .i64 0, .int .i64 0, .int .i64 0, .int .i64 0, .int .i64 0] 27)).alloc (Obj.cells #[.int .i64 0, .int .i64 0] 31)) w11.heap.size (tcells q1)).setCell ⟨w11.heap.size + 1, 0, none⟩ (.int .i64 1)).setCell ⟨w11.heap.size + 1, 1, none⟩ (.int .i64 0)) := bstore (bstore hP.2.2 (Nat.le_succ _) _) (Nat.le_succ _) _
      have Y : Hid (Blk (((setBlk ((w11.alloc (Obj.cells #[.int .i64 0, .int .i64 0, .int .i64 0, .int .i64 0, .int .i64 0, .int .i64 0, .int .i64 0, .int .i64 0, .int .i64 0, .int .i64 0, .int .i64 0, .int .i64 0, .int .i64 0, .int .i64 0, .int .i64 0, .int .i64 0] 27)).alloc (Obj.cells #[.int .i64 0, .int .i64 0] 31)) w11.heap.size (tcells q1)).setCell ⟨w11.heap.size + 1, 0, none⟩ (.int .i64 1)).setCell ⟨w11.heap.size + 1, 1, none⟩ (.int .i64 0)) w11.heap.size (tcells q1) 27) := Lib.hid ((hP.1.other _ (by show w11.heap.size ≠ w11.heap.size + 1; omega)).other _ (by show w11.heap.size ≠ w11.heap.size + 1; omega))
      have A2 : Hid (Blk (((setBlk ((w11.alloc (Obj.cells #[.int .i64 0, .int .i64 0, .int .i64 0, .int .i64 0, .int .i64 0, .int .i64 0, .int .i64 0, .int .i64 0, .int .i64 0, .int .i64 0, .int .i64 0, .int .i64 0, .int .i64 0, .int .i64 0, .int .i64 0, .int .i64 0] 27)).alloc (Obj.cells #[.int .i64 0, .int .i64 0] 31)) w11.heap.size (tcells q1)).setCell ⟨w11.heap.size + 1, 0, none⟩ (.int .i64 1)).setCell ⟨w11.heap.size + 1, 1, none⟩ (.int .i64 0)) (w11.heap.size + 1) [.int .i64 1, .int .i64 0] 31) := Lib.hid (Blk.pair hP.2.1)
      clear P_c0 P_c1 P_c2 P_z
      clear Q_c0 Q_c1 Q_c2 Q_z
      clear A1_c0 A1_c1 A1_z
      have hlt_Y_T := T.out.lt
      have hlt_Y_P := P.out.lt
      have hlt_Y_Q := Q.out.lt
      have hlt_Y_X := X.out.lt
      have hlt_Y_A1 := A1.out.lt
      replace HB := Lib.hid (bcall HB.out hBB)
      replace T := Lib.hid (T.out.below hBB)
      replace P := Lib.hid (P.out.below hBB)
      replace Q := Lib.hid (Q.out.below hBB)
      replace X := Lib.hid (X.out.below hBB)
      replace A1 := Lib.hid (A1.out.below hBB)
      clear hBB hP aa0 aa1 af0 af1
      generalize ((setBlk ((w11.alloc (Obj.cells #[.int .i64 0, .int .i64 0, .int .i64 0, .int .i64 0, .int .i64 0, .int .i64 0, .int .i64 0, .int .i64 0, .int .i64 0, .int .i64 0, .int .i64 0, .int .i64 0, .int .i64 0, .int .i64 0, .int .i64 0, .int .i64 0] 27)).alloc (Obj.cells #[.int .i64 0, .int .i64 0] 31)) w11.heap.size (tcells q1)).setCell ⟨w11.heap.size + 1, 0, none⟩ (.int .i64 1)).setCell ⟨w11.heap.size + 1, 1, none⟩ (.int .i64 0) = w12 at *
      generalize w11.heap.size = bY at *
      have P_c0 : w12.cell? ⟨bP, 0, none⟩ = some (.int .i64 1) := P.out.cell 0
      have P_c1 : w12.cell? ⟨bP, 1, none⟩ = some (.int .i64 ka) := P.out.cell 1
      have P_c2 : w12.cell? ⟨bP, 2, none⟩ = some (.int .i64 v) := P.out.cell 2
      have P_z : bP < w12.heap.size := P.out.lt
      have Q_c0 : w12.cell? ⟨(bP + 1), 0, none⟩ = some (.int .i64 1) := Q.out.cell 0
      have Q_c1 : w12.cell? ⟨(bP + 1), 1, none⟩ = some (.int .i64 kb) := Q.out.cell 1
      have Q_c2 : w12.cell? ⟨(bP + 1), 2, none⟩ = some (.int .i64 x) := Q.out.cell 2
      have Q_z : (bP + 1) < w12.heap.size := Q.out.lt
      have A1_c0 : w12.cell? ⟨(bX + 1), 0, none⟩ = some (.int .i64 1) := A1.out.cell 0
      have A1_c1 : w12.cell? ⟨(bX + 1), 1, none⟩ = some (.int .i64 0) := A1.out.cell 1
      have A1_z : (bX + 1) < w12.heap.size := A1.out.lt
      have A2_c0 : w12.cell? ⟨(bY + 1), 0, none⟩ = some (.int .i64 1) := A2.out.cell 0
      have A2_c1 : w12.cell? ⟨(bY + 1), 1, none⟩ = some (.int .i64 0) := A2.out.cell 1
      have A2_z : (bY + 1) < w12.heap.size := A2.out.lt
      go_upto_region 12 with ((refine wpList_load_part rfl 27 _ rfl (bY) 0 16 rfl 27 (tcells q1) _ Y.out (by rw [HLq1.out]; decide) Try.underlying27 rfl (by kernel_rfl) ?_; rw [HCq1.out]))
      refine (do_eq _ q1 Gq1.out 1 ka v q 1 0 D4.out).mono ?_
      rintro e w13 ⟨rfl, hb13⟩
      clear P_c0 P_c1 P_c2 P_z
      clear Q_c0 Q_c1 Q_c2 Q_z
      clear A1_c0 A1_c1 A1_z
      clear A2_c0 A2_c1 A2_z
      replace HB := Lib.hid (bcall HB.out hb13)
      replace T := Lib.hid (T.out.below hb13)
      replace P := Lib.hid (P.out.below hb13)
      replace Q := Lib.hid (Q.out.below hb13)
      replace X := Lib.hid (X.out.below hb13)
      replace A1 := Lib.hid (A1.out.below hb13)
      replace Y := Lib.hid (Y.out.below hb13)
      replace A2 := Lib.hid (A2.out.below hb13)
      clear hb13
      have P_c0 : w13.cell? ⟨bP, 0, none⟩ = some (.int .i64 1) := P.out.cell 0
      have P_c1 : w13.cell? ⟨bP, 1, none⟩ = some (.int .i64 ka) := P.out.cell 1
      have P_c2 : w13.cell? ⟨bP, 2, none⟩ = some (.int .i64 v) := P.out.cell 2
      have P_z : bP < w13.heap.size := P.out.lt
      have Q_c0 : w13.cell? ⟨(bP + 1), 0, none⟩ = some (.int .i64 1) := Q.out.cell 0
      have Q_c1 : w13.cell? ⟨(bP + 1), 1, none⟩ = some (.int .i64 kb) := Q.out.cell 1
      have Q_c2 : w13.cell? ⟨(bP + 1), 2, none⟩ = some (.int .i64 x) := Q.out.cell 2
      have Q_z : (bP + 1) < w13.heap.size := Q.out.lt
      have A1_c0 : w13.cell? ⟨(bX + 1), 0, none⟩ = some (.int .i64 1) := A1.out.cell 0
      have A1_c1 : w13.cell? ⟨(bX + 1), 1, none⟩ = some (.int .i64 0) := A1.out.cell 1
      have A1_z : (bX + 1) < w13.heap.size := A1.out.lt
      have A2_c0 : w13.cell? ⟨(bY + 1), 0, none⟩ = some (.int .i64 1) := A2.out.cell 0
      have A2_c1 : w13.cell? ⟨(bY + 1), 1, none⟩ = some (.int .i64 0) := A2.out.cell 1
      have A2_z : (bY + 1) < w13.heap.size := A2.out.lt
      go_upto_region 12 with (first | (refine wpList_store_part rfl 27 _ _ rfl (bY) 0 16 (tcells q) rfl rfl 27 (tcells q1) Y.out HLq.out (by rw [HLq1.out]; decide) (by kernel_rfl) HOq.out ?_; rw [spl_whole (tcells q1) (tcells q) (by rw [HLq1.out, HLq.out])]))
      have hK0 := Kept.setBlk w13 (bY) (tcells q)
      have Yn := Lib.hid (Y.out.setBlk (tcells q))
      clear P_c0 P_c1 P_c2 P_z
      clear Q_c0 Q_c1 Q_c2 Q_z
      clear A1_c0 A1_c1 A1_z
      clear A2_c0 A2_c1 A2_z
      replace HB := Lib.hid (bkept HB.out hK0 (by rintro n rfl; omega))
      replace T := Lib.hid (T.out.kept hK0 (by intro hh; omega))
      replace P := Lib.hid (P.out.kept hK0 (by intro hh; omega))
      replace Q := Lib.hid (Q.out.kept hK0 (by intro hh; omega))
      replace X := Lib.hid (X.out.kept hK0 (by intro hh; omega))
      replace A1 := Lib.hid (A1.out.kept hK0 (by intro hh; omega))
      replace A2 := Lib.hid (A2.out.kept hK0 (by intro hh; omega))
      replace Y := Yn
      clear Yn hK0
      generalize setBlk w13 (bY) (tcells q) = w14 at *
      have P_c0 : w14.cell? ⟨bP, 0, none⟩ = some (.int .i64 1) := P.out.cell 0
      have P_c1 : w14.cell? ⟨bP, 1, none⟩ = some (.int .i64 ka) := P.out.cell 1
      have P_c2 : w14.cell? ⟨bP, 2, none⟩ = some (.int .i64 v) := P.out.cell 2
      have P_z : bP < w14.heap.size := P.out.lt
      have Q_c0 : w14.cell? ⟨(bP + 1), 0, none⟩ = some (.int .i64 1) := Q.out.cell 0
      have Q_c1 : w14.cell? ⟨(bP + 1), 1, none⟩ = some (.int .i64 kb) := Q.out.cell 1
      have Q_c2 : w14.cell? ⟨(bP + 1), 2, none⟩ = some (.int .i64 x) := Q.out.cell 2
      have Q_z : (bP + 1) < w14.heap.size := Q.out.lt
      have A1_c0 : w14.cell? ⟨(bX + 1), 0, none⟩ = some (.int .i64 1) := A1.out.cell 0
      have A1_c1 : w14.cell? ⟨(bX + 1), 1, none⟩ = some (.int .i64 0) := A1.out.cell 1
      have A1_z : (bX + 1) < w14.heap.size := A1.out.lt
      have A2_c0 : w14.cell? ⟨(bY + 1), 0, none⟩ = some (.int .i64 1) := A2.out.cell 0
      have A2_c1 : w14.cell? ⟨(bY + 1), 1, none⟩ = some (.int .i64 0) := A2.out.cell 1
      have A2_z : (bY + 1) < w14.heap.size := A2.out.lt
      have hk0 : (1 : Int) ≤ 1 + pickZ a5 1000 := by omega
      have hk1 : 1 + pickZ a5 1000 ≤ 1000 := by omega
      obtain ⟨c1, v1, hp1⟩ : ∃ c1 v1 : Int, peekA p ka = (c1, v1) := ⟨_, _, rfl⟩
      obtain ⟨c2, v2, hp2⟩ : ∃ c1 v1 : Int, peekA p kb = (c1, v1) := ⟨_, _, rfl⟩
      obtain ⟨c3, v3, hp3⟩ : ∃ c1 v1 : Int, peekA p (1 + pickZ a5 1000) = (c1, v1) := ⟨_, _, rfl⟩
      have HP1 := Lib.hid hp1
      have HP2 := Lib.hid hp2
      have HP3 := Lib.hid hp3
      rw [HPK.out _ (by omega)] at hp1 hp2 hp3
      have HQ1 := Lib.hid hp1
      have HQ2 := Lib.hid hp2
      have HQ3 := Lib.hid hp3
      clear hp1 hp2 hp3
      have KEYC : Hid (∀ w, Calls Try.prog 25 #[.int .i64 a5] w fun e w' => e = .returned (.int .i64 (1 + pickZ a5 1000)) ∧ w = w') := Lib.hid (fun w => key_any a5 w)
      clear P_c0 P_c1 P_c2 P_z
      clear Q_c0 Q_c1 Q_c2 Q_z
      clear A1_c0 A1_c1 A1_z
      clear A2_c0 A2_c1 A2_z
      have FP0 : ∀ w' : World, Below w14.heap.size w14 w' → w'.cell? ⟨bP, 0, none⟩ = some (.int .i64 1) := fun w' h => (P.out.below h).cell 0
      have FP1 : ∀ w' : World, Below w14.heap.size w14 w' → w'.cell? ⟨bP, 1, none⟩ = some (.int .i64 ka) := fun w' h => (P.out.below h).cell 1
      have FP2 : ∀ w' : World, Below w14.heap.size w14 w' → w'.cell? ⟨bP, 2, none⟩ = some (.int .i64 v) := fun w' h => (P.out.below h).cell 2
      have FQ0 : ∀ w' : World, Below w14.heap.size w14 w' → w'.cell? ⟨(bP + 1), 0, none⟩ = some (.int .i64 1) := fun w' h => (Q.out.below h).cell 0
      have FQ1 : ∀ w' : World, Below w14.heap.size w14 w' → w'.cell? ⟨(bP + 1), 1, none⟩ = some (.int .i64 kb) := fun w' h => (Q.out.below h).cell 1
      have FQ2 : ∀ w' : World, Below w14.heap.size w14 w' → w'.cell? ⟨(bP + 1), 2, none⟩ = some (.int .i64 x) := fun w' h => (Q.out.below h).cell 2
      have FA10 : ∀ w' : World, Below w14.heap.size w14 w' → w'.cell? ⟨(bX + 1), 0, none⟩ = some (.int .i64 1) := fun w' h => (A1.out.below h).cell 0
      have FA11 : ∀ w' : World, Below w14.heap.size w14 w' → w'.cell? ⟨(bX + 1), 1, none⟩ = some (.int .i64 0) := fun w' h => (A1.out.below h).cell 1
      have FA20 : ∀ w' : World, Below w14.heap.size w14 w' → w'.cell? ⟨(bY + 1), 0, none⟩ = some (.int .i64 1) := fun w' h => (A2.out.below h).cell 0
      have FA21 : ∀ w' : World, Below w14.heap.size w14 w' → w'.cell? ⟨(bY + 1), 1, none⟩ = some (.int .i64 0) := fun w' h => (A2.out.below h).cell 1
      refine wp_region_stable (fun _ w' => Below w14.heap.size w14 w') (by kernel_rfl) (by kernel_rfl) (Below.drew (Below.refl _ _)) ?_
      refine wpB_load 27 _ rfl (bX) (0) (tcells p) _ (by kernel_rfl) rfl 0 (by kernel_rfl) (fun j w' hj hS => (X.out.below hS).range) Try.underlying27 rfl (by rw [HLp.out]; kernel_rfl) (fun K hK => ?_)
      go_simp
      refine hK _ ?_
      clear hK K
      refine wpB_call _ _ (by kernel_rfl) (by kernel_rfl) (fun w' => by kernel_rfl) 0 (by kernel_rfl) (fun j w' hj hS => (len_eq w' p Gp.out (lenT q) HLEN.out).mono (fun e w2 h => ⟨h.1, Below.trans hS (Below.mono h.2 hS.size)⟩)) (fun K hK => ?_)
      go_simp
      refine hK _ ?_
      clear hK K
      refine wpB_load 27 _ rfl (bY) (0) (tcells q) _ (by kernel_rfl) rfl 0 (by kernel_rfl) (fun j w' hj hS => (Y.out.below hS).range) Try.underlying27 rfl (by rw [HLq.out]; kernel_rfl) (fun K hK => ?_)
      go_simp
      refine hK _ ?_
      clear hK K
      refine wpB_call _ _ (by kernel_rfl) (by kernel_rfl) (fun w' => by kernel_rfl) 0 (by kernel_rfl) (fun j w' hj hS => (len_eq w' q Gq.out (lenT q) rfl).mono (fun e w2 h => ⟨h.1, Below.trans hS (Below.mono h.2 hS.size)⟩)) (fun K hK => ?_)
      go_simp
      refine hK _ ?_
      clear hK K
      refine wpB_val (v := ?v143) (by kernel_rfl) (by kernel_rfl) _ rfl (fun j w' hj hS => ?h143) (fun K hK => ?k143)
      case h143 =>
        go_simp
        try rfl
      go_simp
      refine hK _ ?_
      clear hK K
      refine wpB_val (v := ?v144) (by kernel_rfl) (by kernel_rfl) _ rfl (fun j w' hj hS => ?h144) (fun K hK => ?k144)
      case h144 =>
        go_simp
        try rfl
      go_simp
      refine hK _ ?_
      clear hK K
      refine wpB_load 27 _ rfl (bX) (0) (tcells p) _ (by kernel_rfl) rfl 0 (by kernel_rfl) (fun j w' hj hS => (X.out.below hS).range) Try.underlying27 rfl (by rw [HLp.out]; kernel_rfl) (fun K hK => ?_)
      go_simp
      refine hK _ ?_
      clear hK K
      refine wpB_val (v := ?v145) (by kernel_rfl) (by kernel_rfl) _ rfl (fun j w' hj hS => ?h145) (fun K hK => ?k145)
      case h145 =>
        go_simp
        try rfl
      go_simp
      refine hK _ ?_
      clear hK K
      refine wpB_call _ _ (by kernel_rfl) (by kernel_rfl) (fun w' => by kernel_rfl) 0 (by kernel_rfl) (fun j w' hj hS => (peek_eq w' p Gp.out ka ka2 ka3 HP1.out).mono (fun e w2 h => ⟨h.1, Below.trans hS (Below.mono h.2 hS.size)⟩)) (fun K hK => ?_)
      go_simp
      refine hK _ ?_
      clear hK K
      refine wpB_load 27 _ rfl (bY) (0) (tcells q) _ (by kernel_rfl) rfl 0 (by kernel_rfl) (fun j w' hj hS => (Y.out.below hS).range) Try.underlying27 rfl (by rw [HLq.out]; kernel_rfl) (fun K hK => ?_)
      go_simp
      refine hK _ ?_
      clear hK K
      refine wpB_val (v := ?v146) (by kernel_rfl) (by kernel_rfl) _ rfl (fun j w' hj hS => ?h146) (fun K hK => ?k146)
      case h146 =>
        go_simp
        try rfl
      go_simp
      refine hK _ ?_
      clear hK K
      refine wpB_call _ _ (by kernel_rfl) (by kernel_rfl) (fun w' => by kernel_rfl) 0 (by kernel_rfl) (fun j w' hj hS => (peek_eq w' q Gq.out ka ka2 ka3 HQ1.out).mono (fun e w2 h => ⟨h.1, Below.trans hS (Below.mono h.2 hS.size)⟩)) (fun K hK => ?_)
      go_simp
      refine hK _ ?_
      clear hK K
      refine wpB_val (v := ?v147) (by kernel_rfl) (by kernel_rfl) _ rfl (fun j w' hj hS => ?h147) (fun K hK => ?k147)
      case h147 =>
        go_simp
        try rfl
      go_simp
      refine hK _ ?_
      clear hK K
      refine wpB_val (v := ?v148) (by kernel_rfl) (by kernel_rfl) _ rfl (fun j w' hj hS => ?h148) (fun K hK => ?k148)
      case h148 =>
        go_simp
        try rfl
      go_simp
      refine hK _ ?_
      clear hK K
      refine wpB_val (v := ?v149) (by kernel_rfl) (by kernel_rfl) _ rfl (fun j w' hj hS => ?h149) (fun K hK => ?k149)
      case h149 =>
        go_simp
        try rfl
      go_simp
      refine hK _ ?_
      clear hK K
      refine wpB_load 27 _ rfl (bX) (0) (tcells p) _ (by kernel_rfl) rfl 0 (by kernel_rfl) (fun j w' hj hS => (X.out.below hS).range) Try.underlying27 rfl (by rw [HLp.out]; kernel_rfl) (fun K hK => ?_)
      go_simp
      refine hK _ ?_
      clear hK K
      refine wpB_val (v := ?v150) (by kernel_rfl) (by kernel_rfl) _ rfl (fun j w' hj hS => ?h150) (fun K hK => ?k150)
      case h150 =>
        go_simp
        try rfl
      go_simp
      refine hK _ ?_
      clear hK K
      refine wpB_call _ _ (by kernel_rfl) (by kernel_rfl) (fun w' => by kernel_rfl) 0 (by kernel_rfl) (fun j w' hj hS => (peek_eq w' p Gp.out kb kb2 kb3 HP2.out).mono (fun e w2 h => ⟨h.1, Below.trans hS (Below.mono h.2 hS.size)⟩)) (fun K hK => ?_)
      go_simp
      refine hK _ ?_
      clear hK K
      refine wpB_load 27 _ rfl (bY) (0) (tcells q) _ (by kernel_rfl) rfl 0 (by kernel_rfl) (fun j w' hj hS => (Y.out.below hS).range) Try.underlying27 rfl (by rw [HLq.out]; kernel_rfl) (fun K hK => ?_)
      go_simp
      refine hK _ ?_
      clear hK K
      refine wpB_val (v := ?v151) (by kernel_rfl) (by kernel_rfl) _ rfl (fun j w' hj hS => ?h151) (fun K hK => ?k151)
      case h151 =>
        go_simp
        try rfl
      go_simp
      refine hK _ ?_
      clear hK K
      refine wpB_call _ _ (by kernel_rfl) (by kernel_rfl) (fun w' => by kernel_rfl) 0 (by kernel_rfl) (fun j w' hj hS => (peek_eq w' q Gq.out kb kb2 kb3 HQ2.out).mono (fun e w2 h => ⟨h.1, Below.trans hS (Below.mono h.2 hS.size)⟩)) (fun K hK => ?_)
      go_simp
      refine hK _ ?_
      clear hK K
      refine wpB_val (v := ?v152) (by kernel_rfl) (by kernel_rfl) _ rfl (fun j w' hj hS => ?h152) (fun K hK => ?k152)
      case h152 =>
        go_simp
        try rfl
      go_simp
      refine hK _ ?_
      clear hK K
      refine wpB_val (v := ?v153) (by kernel_rfl) (by kernel_rfl) _ rfl (fun j w' hj hS => ?h153) (fun K hK => ?k153)
      case h153 =>
        go_simp
        try rfl
      go_simp
      refine hK _ ?_
      clear hK K
      refine wpB_val (v := ?v154) (by kernel_rfl) (by kernel_rfl) _ rfl (fun j w' hj hS => ?h154) (fun K hK => ?k154)
      case h154 =>
        go_simp
        try rfl
      go_simp
      refine hK _ ?_
      clear hK K
      refine wpB_load 27 _ rfl (bX) (0) (tcells p) _ (by kernel_rfl) rfl 0 (by kernel_rfl) (fun j w' hj hS => (X.out.below hS).range) Try.underlying27 rfl (by rw [HLp.out]; kernel_rfl) (fun K hK => ?_)
      go_simp
      refine hK _ ?_
      clear hK K
      refine wpB_val (v := ?v155) (by kernel_rfl) (by kernel_rfl) _ rfl (fun j w' hj hS => ?h155) (fun K hK => ?k155)
      case h155 =>
        go_simp
        try rfl
      go_simp
      refine hK _ ?_
      clear hK K
      refine wpB_call _ _ (by kernel_rfl) (by kernel_rfl) (fun w' => by kernel_rfl) 0 (by kernel_rfl) (fun j w' hj hS => (KEYC.out w').mono (fun e w2 h => ⟨h.1, h.2 ▸ hS⟩)) (fun K hK => ?_)
      go_simp
      refine hK _ ?_
      clear hK K
      refine wpB_call _ _ (by kernel_rfl) (by kernel_rfl) (fun w' => by kernel_rfl) 0 (by kernel_rfl) (fun j w' hj hS => (peek_eq w' p Gp.out (1 + pickZ a5 1000) hk0 hk1 HP3.out).mono (fun e w2 h => ⟨h.1, Below.trans hS (Below.mono h.2 hS.size)⟩)) (fun K hK => ?_)
      go_simp
      refine hK _ ?_
      clear hK K
      refine wpB_load 27 _ rfl (bY) (0) (tcells q) _ (by kernel_rfl) rfl 0 (by kernel_rfl) (fun j w' hj hS => (Y.out.below hS).range) Try.underlying27 rfl (by rw [HLq.out]; kernel_rfl) (fun K hK => ?_)
      go_simp
      refine hK _ ?_
      clear hK K
      refine wpB_val (v := ?v156) (by kernel_rfl) (by kernel_rfl) _ rfl (fun j w' hj hS => ?h156) (fun K hK => ?k156)
      case h156 =>
        go_simp
        try rfl
      go_simp
      refine hK _ ?_
      clear hK K
      refine wpB_call _ _ (by kernel_rfl) (by kernel_rfl) (fun w' => by kernel_rfl) 0 (by kernel_rfl) (fun j w' hj hS => (KEYC.out w').mono (fun e w2 h => ⟨h.1, h.2 ▸ hS⟩)) (fun K hK => ?_)
      go_simp
      refine hK _ ?_
      clear hK K
      refine wpB_call _ _ (by kernel_rfl) (by kernel_rfl) (fun w' => by kernel_rfl) 0 (by kernel_rfl) (fun j w' hj hS => (peek_eq w' q Gq.out (1 + pickZ a5 1000) hk0 hk1 HQ3.out).mono (fun e w2 h => ⟨h.1, Below.trans hS (Below.mono h.2 hS.size)⟩)) (fun K hK => ?_)
      go_simp
      refine hK _ ?_
      clear hK K
      refine wpB_val (v := ?v157) (by kernel_rfl) (by kernel_rfl) _ rfl (fun j w' hj hS => ?h157) (fun K hK => ?k157)
      case h157 =>
        go_simp
        try rfl
      go_simp
      refine hK _ ?_
      clear hK K
      refine wpB_val (v := ?v158) (by kernel_rfl) (by kernel_rfl) _ rfl (fun j w' hj hS => ?h158) (fun K hK => ?k158)
      case h158 =>
        go_simp
        try rfl
      go_simp
      refine hK _ ?_
      clear hK K
      refine wpB_val (v := ?v159) (by kernel_rfl) (by kernel_rfl) _ rfl (fun j w' hj hS => ?h159) (fun K hK => ?k159)
      case h159 =>
        go_simp
        try rfl
      go_simp
      refine hK _ ?_
      clear hK K
      refine wpB_nil (fun w' hS => ?_)
      go_wp2_with fail
      go_ret
      exact ⟨by first | rfl | simp, bcall HB.out hS⟩
end Go.Proofs.Ytakemnpicokaiaa
