/- The walk of the law TableTakes. -/
import Derived.Test.YtakemnpicokaiaaTabEq
import Derived.Test.YtakemnpicokaiaaTabled
import Derived.Test.YtakemnpicokaiaaStableAlloc
import Derived.Deep.Cut
namespace Go.Proofs.Ytakemnpicokaiaa
open Go.RowKit
set_option linter.unusedVariables false
set_option maxHeartbeats 4000000 in
theorem walk_TableTakes (a0 : Option Addr) (len0 cap0 : Nat) (f0 : Nat → Nat → Int) (a1 a2 : Int) (w : World) (h0 : Rws 3 (fun _ => .i64) w a0 len0 cap0 f0) (w1 : (Lit.int .i64 a1).wf = true) (w2 : (Lit.int .i64 a2).wf = true) :
    Calls Try.prog 4 #[.slice a0 len0 cap0, .int .i64 a1, .int .i64 a2] w fun e w' => e = .returned (.bool true) ∧ Below w.heap.size w w' := by
  clear w1 w2
  have H0 := Lib.hid h0
  clear h0
  have HB := Lib.hid (Below.refl w.heap.size w)
  go_enter Try.func4, Try.ntmps4
  go_wp2_with fail
  refine (tabled_any _).mono ?_
  rintro e w1 ⟨rfl, hb1⟩
  replace HB := Lib.hid (bcall HB.out hb1)
  clear hb1
  have hbt := HB.out
  go_wp2_with fail
  refine (filled_any _ a0 len0 cap0 f0 (H0.out.below hbt)).mono ?_
  rintro e w2 ⟨t, gt, rfl, hb2⟩
  replace HB := Lib.hid (bcall HB.out hb2)
  clear hb2 hbt H0
  have HLt : Hid ((tcells t).length = 16) := Lib.hid (by rw [tcells_len]; exact gt.len)
  have HCt := Lib.hid (tcells_take t gt.len)
  have HOt := Lib.hid (tcells_one t)
  have Gt := Lib.hid gt
  clear gt
  go_upto_region 4 with (first | (refine wpList_store_part rfl 27 _ _ rfl w2.heap.size 0 16 (tcells t) rfl rfl 27 _ (Blk.new w2 [.int .i64 0, .int .i64 0, .int .i64 0, .int .i64 0, .int .i64 0, .int .i64 0, .int .i64 0, .int .i64 0, .int .i64 0, .int .i64 0, .int .i64 0, .int .i64 0, .int .i64 0, .int .i64 0, .int .i64 0, .int .i64 0] 27) HLt.out (by decide) (by kernel_rfl) HOt.out ?_; rw [spl_z16 _ HLt.out]))
  have hBB : Below w2.heap.size w2 (setBlk (w2.alloc (Obj.cells #[.int .i64 0, .int .i64 0, .int .i64 0, .int .i64 0, .int .i64 0, .int .i64 0, .int .i64 0, .int .i64 0, .int .i64 0, .int .i64 0, .int .i64 0, .int .i64 0, .int .i64 0, .int .i64 0, .int .i64 0, .int .i64 0] 27)) w2.heap.size (tcells t)) := bsetBlk (balloc (Below.refl _ _) _) (Nat.le_refl _) _
  have T : Hid (Blk (setBlk (w2.alloc (Obj.cells #[.int .i64 0, .int .i64 0, .int .i64 0, .int .i64 0, .int .i64 0, .int .i64 0, .int .i64 0, .int .i64 0, .int .i64 0, .int .i64 0, .int .i64 0, .int .i64 0, .int .i64 0, .int .i64 0, .int .i64 0, .int .i64 0] 27)) w2.heap.size (tcells t)) w2.heap.size (tcells t) 27) := Lib.hid ((Blk.new w2 [.int .i64 0, .int .i64 0, .int .i64 0, .int .i64 0, .int .i64 0, .int .i64 0, .int .i64 0, .int .i64 0, .int .i64 0, .int .i64 0, .int .i64 0, .int .i64 0, .int .i64 0, .int .i64 0, .int .i64 0, .int .i64 0] 27).setBlk _)
  replace HB := Lib.hid (bcall HB.out hBB)
  clear hBB
  generalize setBlk (w2.alloc (Obj.cells #[.int .i64 0, .int .i64 0, .int .i64 0, .int .i64 0, .int .i64 0, .int .i64 0, .int .i64 0, .int .i64 0, .int .i64 0, .int .i64 0, .int .i64 0, .int .i64 0, .int .i64 0, .int .i64 0, .int .i64 0, .int .i64 0] 27)) w2.heap.size (tcells t) = w3 at *
  generalize w2.heap.size = bT at *
  have k0 := pickZ_nonneg a1 12 (by decide)
  have k1 := pickZ_lt a1 12 (by decide)
  have l0 := pickZ_nonneg a2 12 (by decide)
  have l1 := pickZ_lt a2 12 (by decide)
  go_upto_region 5 with (go_at_call 21; refine (pick_any _ _ _ (by decide) (by decide)).mono ?_; rintro e w' ⟨rfl, rfl⟩)
  generalize hgk : 1 + pickZ a1 12 = k at *
  have k2 : 1 ≤ k := by omega
  have k3 : k ≤ 12 := by omega
  clear k0 k1 hgk
  generalize hgl : 1 + pickZ a2 12 = l at *
  have l2 : 1 ≤ l := by omega
  have l3 : l ≤ 12 := by omega
  clear l0 l1 hgl
  obtain ⟨cl, vl, hpl⟩ : ∃ c1 v1 : Int, peekA t l = (c1, v1) := ⟨_, _, rfl⟩
  have HPL := Lib.hid hpl
  clear hpl
  rcases take_cases Gt.out k 0 k2 (by omega) with ⟨hpk, hd⟩ | ⟨u, x, hpk, hd, gu, hpu, hpo, -⟩
  · have HPK := Lib.hid hpk
    have HD := Lib.hid hd
    have HPU := Lib.hid hpk
    have HPO : Hid (l ≠ k → peekA t l = (cl, vl)) := Lib.hid (fun _ => HPL.out)
    clear hpk hd
    refine wp_region_alloc 8 (by kernel_rfl) (by kernel_rfl) (by kernel_rfl) (by kernel_rfl) (by kernel_rfl) (by decide) (by kernel_rfl) ?_
    simp only [List.take_succ_cons, List.take_zero, List.drop_succ_cons, List.drop_zero]
    refine wpC_load 27 _ rfl (bT) 0 (tcells t) _ (by kernel_rfl) rfl (fun w' hS => ((Blk.drew T.out).below hS).range) Try.underlying27 rfl (by rw [HLt.out]; kernel_rfl) (fun K hK => ?_)
    go_simp
    refine hK _ ?_
    clear hK K
    refine wpC_val (v := ?v38) (by kernel_rfl) (by kernel_rfl) (fun w' hS => ?h38) (fun K hK => ?k38)
    case h38 =>
      go_simp
      try rfl
    go_simp
    refine hK _ ?_
    clear hK K
    refine wpC_call _ _ (by kernel_rfl) (by kernel_rfl) (fun w' => by kernel_rfl) (fun w' hS => peek_eq w' t Gt.out k k2 (by omega) HPK.out) (fun K hK => ?_)
    go_simp
    refine hK _ ?_
    clear hK K
    refine wpC_load 27 _ rfl (bT) 0 (tcells t) _ (by kernel_rfl) rfl (fun w' hS => ((Blk.drew T.out).below hS).range) Try.underlying27 rfl (by rw [HLt.out]; kernel_rfl) (fun K hK => ?_)
    go_simp
    refine hK _ ?_
    clear hK K
    refine wpC_val (v := ?v39) (by kernel_rfl) (by kernel_rfl) (fun w' hS => ?h39) (fun K hK => ?k39)
    case h39 =>
      go_simp
      try rfl
    go_simp
    refine hK _ ?_
    clear hK K
    refine wpC_call _ _ (by kernel_rfl) (by kernel_rfl) (fun w' => by kernel_rfl) (fun w' hS => peek_eq w' t Gt.out l l2 (by omega) HPL.out) (fun K hK => ?_)
    go_simp
    refine hK _ ?_
    clear hK K
    refine wpC_alloc (.cells #[.int .i64 0, .int .i64 0] 31) (by kernel_rfl) ⟨rfl, fun ρ w' => by kernel_rfl⟩ ?_
    refine wpC_alloc (.cells #[.int .i64 0, .int .i64 0] 31) (by kernel_rfl) ⟨rfl, fun ρ w' => by kernel_rfl⟩ ?_
    refine wpC_nil (fun bs w4 hbS hF => ?_)
    simp only [List.nil_append, List.cons_append, putsC, ptrB]
    obtain ⟨hwP, hdP, hhP, hwR, hdR, hhR, -⟩ := hF
    generalize bs 6 = bP at *
    generalize bs 7 = bR at *
    have hne_P_R : bP ≠ bR := hdR _ (by simp)
    clear hdP hdR
    change w3.heap.size ≤ _ at hwP hwR
    have hlt_P_T := T.out.lt
    have hsz_P := HB.out.size
    replace HB := Lib.hid (bcall HB.out (Below.trans (Below.drew (Below.refl _ _)) hbS))
    replace T := Lib.hid ((Blk.drew T.out).below hbS)
    have P : Hid (Blk w4 bP [.int .i64 0, .int .i64 0] 31) := Lib.hid hhP
    clear hhP
    have R : Hid (Blk w4 bR [.int .i64 0, .int .i64 0] 31) := Lib.hid hhR
    clear hhR
    clear hbS
    have P_c0 : w4.cell? ⟨bP, 0, none⟩ = some (.int .i64 0) := P.out.cell 0
    have P_c1 : w4.cell? ⟨bP, 1, none⟩ = some (.int .i64 0) := P.out.cell 1
    have P_z : bP < w4.heap.size := P.out.lt
    have R_c0 : w4.cell? ⟨bR, 0, none⟩ = some (.int .i64 0) := R.out.cell 0
    have R_c1 : w4.cell? ⟨bR, 1, none⟩ = some (.int .i64 0) := R.out.cell 1
    have R_z : bR < w4.heap.size := R.out.lt
    have f_P0 := P.out.frozen 0
    have f_P1 := P.out.frozen 1
    have f_R0 := R.out.frozen 0
    have f_R1 := R.out.frozen 1
    go_upto_region 6 with fail
    clear f_P0 f_P1 f_R0 f_R1
    clear P_c0 P_c1 P_z
    clear R_c0 R_c1 R_z
    have HBN : Hid (Below w.heap.size w ((((w4.setCell ⟨bP, 0, none⟩ (.int .i64 4)).setCell ⟨bP, 1, none⟩ (.int .i64 0)).setCell ⟨bR, 0, none⟩ (.int .i64 cl)).setCell ⟨bR, 1, none⟩ (.int .i64 vl))) := Lib.hid (bstore (bstore (bstore (bstore HB.out (by show w.heap.size ≤ bP; omega) _) (by show w.heap.size ≤ bP; omega) _) (by show w.heap.size ≤ bR; omega) _) (by show w.heap.size ≤ bR; omega) _)
    have TN := Lib.hid (show Blk ((((w4.setCell ⟨bP, 0, none⟩ (.int .i64 4)).setCell ⟨bP, 1, none⟩ (.int .i64 0)).setCell ⟨bR, 0, none⟩ (.int .i64 cl)).setCell ⟨bR, 1, none⟩ (.int .i64 vl)) _ _ _ from ((((T.out.other (p := ⟨bP, 0, none⟩) (.int .i64 4) (by show bT ≠ bP; omega)).other (p := ⟨bP, 1, none⟩) (.int .i64 0) (by show bT ≠ bP; omega)).other (p := ⟨bR, 0, none⟩) (.int .i64 cl) (by show bT ≠ bR; omega)).other (p := ⟨bR, 1, none⟩) (.int .i64 vl) (by show bT ≠ bR; omega)))
    have PN : Hid (Blk ((((w4.setCell ⟨bP, 0, none⟩ (.int .i64 4)).setCell ⟨bP, 1, none⟩ (.int .i64 0)).setCell ⟨bR, 0, none⟩ (.int .i64 cl)).setCell ⟨bR, 1, none⟩ (.int .i64 vl)) bP [.int .i64 4, .int .i64 0] 31) := Lib.hid ((((P.out.set 0 (.int .i64 4)).set 1 (.int .i64 0)).other (p := ⟨bR, 0, none⟩) (.int .i64 cl) (by show bP ≠ bR; omega)).other (p := ⟨bR, 1, none⟩) (.int .i64 vl) (by show bP ≠ bR; omega))
    have RN : Hid (Blk ((((w4.setCell ⟨bP, 0, none⟩ (.int .i64 4)).setCell ⟨bP, 1, none⟩ (.int .i64 0)).setCell ⟨bR, 0, none⟩ (.int .i64 cl)).setCell ⟨bR, 1, none⟩ (.int .i64 vl)) bR [.int .i64 cl, .int .i64 vl] 31) := Lib.hid ((((R.out.other (p := ⟨bP, 0, none⟩) (.int .i64 4) (by show bR ≠ bP; omega)).other (p := ⟨bP, 1, none⟩) (.int .i64 0) (by show bR ≠ bP; omega)).set 0 (.int .i64 cl)).set 1 (.int .i64 vl))
    replace HB := HBN
    clear HBN
    replace T := TN
    clear TN
    replace P := PN
    clear PN
    replace R := RN
    clear RN
    generalize ((((w4.setCell ⟨bP, 0, none⟩ (.int .i64 4)).setCell ⟨bP, 1, none⟩ (.int .i64 0)).setCell ⟨bR, 0, none⟩ (.int .i64 cl)).setCell ⟨bR, 1, none⟩ (.int .i64 vl)) = w5 at *
    have P_c0 : w5.cell? ⟨bP, 0, none⟩ = some (.int .i64 4) := P.out.cell 0
    have P_c1 : w5.cell? ⟨bP, 1, none⟩ = some (.int .i64 0) := P.out.cell 1
    have P_z : bP < w5.heap.size := P.out.lt
    have R_c0 : w5.cell? ⟨bR, 0, none⟩ = some (.int .i64 cl) := R.out.cell 0
    have R_c1 : w5.cell? ⟨bR, 1, none⟩ = some (.int .i64 vl) := R.out.cell 1
    have R_z : bR < w5.heap.size := R.out.lt
    go_upto_region 7 with ((refine wpList_load_part rfl 27 _ rfl (bT) 0 16 rfl 27 (tcells t) _ T.out (by rw [HLt.out]; decide) Try.underlying27 rfl (by kernel_rfl) ?_; rw [HCt.out]))
    refine (do_eq _ t Gt.out 2 k 0 t 4 0 HD.out).mono ?_
    rintro e w6 ⟨rfl, hb6⟩
    clear P_c0 P_c1 P_z
    clear R_c0 R_c1 R_z
    replace HB := Lib.hid (bcall HB.out hb6)
    replace T := Lib.hid (T.out.below hb6)
    replace P := Lib.hid (P.out.below hb6)
    replace R := Lib.hid (R.out.below hb6)
    clear hb6
    have P_c0 : w6.cell? ⟨bP, 0, none⟩ = some (.int .i64 4) := P.out.cell 0
    have P_c1 : w6.cell? ⟨bP, 1, none⟩ = some (.int .i64 0) := P.out.cell 1
    have P_z : bP < w6.heap.size := P.out.lt
    have R_c0 : w6.cell? ⟨bR, 0, none⟩ = some (.int .i64 cl) := R.out.cell 0
    have R_c1 : w6.cell? ⟨bR, 1, none⟩ = some (.int .i64 vl) := R.out.cell 1
    have R_z : bR < w6.heap.size := R.out.lt
    go_upto_region 7 with (first | (refine wpList_store_part rfl 27 _ _ rfl w6.heap.size 0 16 (tcells t) rfl rfl 27 _ ((Blk.new w6 [.int .i64 0, .int .i64 0, .int .i64 0, .int .i64 0, .int .i64 0, .int .i64 0, .int .i64 0, .int .i64 0, .int .i64 0, .int .i64 0, .int .i64 0, .int .i64 0, .int .i64 0, .int .i64 0, .int .i64 0, .int .i64 0] 27).alloc _) HLt.out (by decide) (by kernel_rfl) HOt.out ?_; rw [spl_z16 _ HLt.out]; have hP := def_pair w6 (tcells t) [.int .i64 0, .int .i64 0, .int .i64 0, .int .i64 0, .int .i64 0, .int .i64 0, .int .i64 0, .int .i64 0, .int .i64 0, .int .i64 0, .int .i64 0, .int .i64 0, .int .i64 0, .int .i64 0, .int .i64 0, .int .i64 0] [.int .i64 0, .int .i64 0] 27 31; have aa0 := hP.2.1.cell 0; have aa1 := hP.2.1.cell 1; have af0 := hP.2.1.frozen 0; have af1 := hP.2.1.frozen 1))
    have hP := def_pair w6 (tcells t) [.int .i64 0, .int .i64 0, .int .i64 0, .int .i64 0, .int .i64 0, .int .i64 0, .int .i64 0, .int .i64 0, .int .i64 0, .int .i64 0, .int .i64 0, .int .i64 0, .int .i64 0, .int .i64 0, .int .i64 0, .int .i64 0] [.int .i64 0, .int .i64 0] 27 31
    have hBB : Below w6.heap.size w6 (((setBlk ((w6.alloc (Obj.cells #[.int .i64 0, .int .i64 0, .int .i64 0, .int .i64 0, .int .i64 0, .int .i64 0, .int .i64 0, .int .i64 0, .int .i64 0, .int .i64 0, .int .i64 0, .int .i64 0, .int .i64 0, .int .i64 0, .int .i64 0, .int .i64 0] 27)).alloc (Obj.cells #[.int .i64 0, .int .i64 0] 31)) w6.heap.size (tcells t)).setCell ⟨w6.heap.size + 1, 0, none⟩ (.int .i64 4)).setCell ⟨w6.heap.size + 1, 1, none⟩ (.int .i64 0)) := bstore (bstore hP.2.2 (Nat.le_succ _) _) (Nat.le_succ _) _
    have U : Hid (Blk (((setBlk ((w6.alloc (Obj.cells #[.int .i64 0, .int .i64 0, .int .i64 0, .int .i64 0, .int .i64 0, .int .i64 0, .int .i64 0, .int .i64 0, .int .i64 0, .int .i64 0, .int .i64 0, .int .i64 0, .int .i64 0, .int .i64 0, .int .i64 0, .int .i64 0] 27)).alloc (Obj.cells #[.int .i64 0, .int .i64 0] 31)) w6.heap.size (tcells t)).setCell ⟨w6.heap.size + 1, 0, none⟩ (.int .i64 4)).setCell ⟨w6.heap.size + 1, 1, none⟩ (.int .i64 0)) w6.heap.size (tcells t) 27) := Lib.hid ((hP.1.other _ (by show w6.heap.size ≠ w6.heap.size + 1; omega)).other _ (by show w6.heap.size ≠ w6.heap.size + 1; omega))
    have A : Hid (Blk (((setBlk ((w6.alloc (Obj.cells #[.int .i64 0, .int .i64 0, .int .i64 0, .int .i64 0, .int .i64 0, .int .i64 0, .int .i64 0, .int .i64 0, .int .i64 0, .int .i64 0, .int .i64 0, .int .i64 0, .int .i64 0, .int .i64 0, .int .i64 0, .int .i64 0] 27)).alloc (Obj.cells #[.int .i64 0, .int .i64 0] 31)) w6.heap.size (tcells t)).setCell ⟨w6.heap.size + 1, 0, none⟩ (.int .i64 4)).setCell ⟨w6.heap.size + 1, 1, none⟩ (.int .i64 0)) (w6.heap.size + 1) [.int .i64 4, .int .i64 0] 31) := Lib.hid (Blk.pair hP.2.1)
    clear P_c0 P_c1 P_z
    clear R_c0 R_c1 R_z
    have hlt_U_T := T.out.lt
    have hlt_U_P := P.out.lt
    have hlt_U_R := R.out.lt
    replace HB := Lib.hid (bcall HB.out hBB)
    replace T := Lib.hid (T.out.below hBB)
    replace P := Lib.hid (P.out.below hBB)
    replace R := Lib.hid (R.out.below hBB)
    clear hBB hP aa0 aa1 af0 af1
    generalize ((setBlk ((w6.alloc (Obj.cells #[.int .i64 0, .int .i64 0, .int .i64 0, .int .i64 0, .int .i64 0, .int .i64 0, .int .i64 0, .int .i64 0, .int .i64 0, .int .i64 0, .int .i64 0, .int .i64 0, .int .i64 0, .int .i64 0, .int .i64 0, .int .i64 0] 27)).alloc (Obj.cells #[.int .i64 0, .int .i64 0] 31)) w6.heap.size (tcells t)).setCell ⟨w6.heap.size + 1, 0, none⟩ (.int .i64 4)).setCell ⟨w6.heap.size + 1, 1, none⟩ (.int .i64 0) = w7 at *
    generalize w6.heap.size = bU at *
    have P_c0 : w7.cell? ⟨bP, 0, none⟩ = some (.int .i64 4) := P.out.cell 0
    have P_c1 : w7.cell? ⟨bP, 1, none⟩ = some (.int .i64 0) := P.out.cell 1
    have P_z : bP < w7.heap.size := P.out.lt
    have R_c0 : w7.cell? ⟨bR, 0, none⟩ = some (.int .i64 cl) := R.out.cell 0
    have R_c1 : w7.cell? ⟨bR, 1, none⟩ = some (.int .i64 vl) := R.out.cell 1
    have R_z : bR < w7.heap.size := R.out.lt
    have A_c0 : w7.cell? ⟨(bU + 1), 0, none⟩ = some (.int .i64 4) := A.out.cell 0
    have A_c1 : w7.cell? ⟨(bU + 1), 1, none⟩ = some (.int .i64 0) := A.out.cell 1
    have A_z : (bU + 1) < w7.heap.size := A.out.lt
    by_cases hlk : l = k
    · have hb0 : (l == k) = true := by simp [hlk]
      clear hlk
      clear P_c0 P_c1 P_z
      clear R_c0 R_c1 R_z
      clear A_c0 A_c1 A_z
      have FP0 : ∀ w' : World, Below w7.heap.size w7 w' → w'.cell? ⟨bP, 0, none⟩ = some (.int .i64 4) := fun w' h => (P.out.below h).cell 0
      have FP1 : ∀ w' : World, Below w7.heap.size w7 w' → w'.cell? ⟨bP, 1, none⟩ = some (.int .i64 0) := fun w' h => (P.out.below h).cell 1
      have FR0 : ∀ w' : World, Below w7.heap.size w7 w' → w'.cell? ⟨bR, 0, none⟩ = some (.int .i64 cl) := fun w' h => (R.out.below h).cell 0
      have FR1 : ∀ w' : World, Below w7.heap.size w7 w' → w'.cell? ⟨bR, 1, none⟩ = some (.int .i64 vl) := fun w' h => (R.out.below h).cell 1
      have FA0 : ∀ w' : World, Below w7.heap.size w7 w' → w'.cell? ⟨(bU + 1), 0, none⟩ = some (.int .i64 4) := fun w' h => (A.out.below h).cell 0
      have FA1 : ∀ w' : World, Below w7.heap.size w7 w' → w'.cell? ⟨(bU + 1), 1, none⟩ = some (.int .i64 0) := fun w' h => (A.out.below h).cell 1
      refine wp_region_stable (fun _ w' => Below w7.heap.size w7 w') (by kernel_rfl) (by kernel_rfl) (Below.drew (Below.refl _ _)) ?_
      refine wpB_val (v := ?v40) (by kernel_rfl) (by kernel_rfl) 0 (by kernel_rfl) (fun j w' hj hS => ?h40) (fun K hK => ?k40)
      case h40 =>
        have c_P0 := FP0 w' hS
        have c_P1 := FP1 w' hS
        have c_R0 := FR0 w' hS
        have c_R1 := FR1 w' hS
        have c_A0 := FA0 w' hS
        have c_A1 := FA1 w' hS
        go_simp
        try rfl
      go_simp
      refine hK _ ?_
      clear hK K
      refine wpB_val (v := ?v41) (by kernel_rfl) (by kernel_rfl) 0 (by kernel_rfl) (fun j w' hj hS => ?h41) (fun K hK => ?k41)
      case h41 =>
        have c_P0 := FP0 w' hS
        have c_P1 := FP1 w' hS
        have c_R0 := FR0 w' hS
        have c_R1 := FR1 w' hS
        have c_A0 := FA0 w' hS
        have c_A1 := FA1 w' hS
        go_simp
        try rfl
      go_simp
      refine hK _ ?_
      clear hK K
      refine wpB_val (v := ?v42) (by kernel_rfl) (by kernel_rfl) _ rfl (fun j w' hj hS => ?h42) (fun K hK => ?k42)
      case h42 =>
        go_simp
        try rfl
      go_simp
      refine hK _ ?_
      clear hK K
      refine wpB_val (v := ?v43) (by kernel_rfl) (by kernel_rfl) _ rfl (fun j w' hj hS => ?h43) (fun K hK => ?k43)
      case h43 =>
        go_simp
        try rfl
      go_simp
      refine hK _ ?_
      clear hK K
      refine wpB_load 27 _ rfl (bU) (0) (tcells t) _ (by kernel_rfl) rfl 0 (by kernel_rfl) (fun j w' hj hS => (U.out.below hS).range) Try.underlying27 rfl (by rw [HLt.out]; kernel_rfl) (fun K hK => ?_)
      go_simp
      refine hK _ ?_
      clear hK K
      refine wpB_val (v := ?v44) (by kernel_rfl) (by kernel_rfl) _ rfl (fun j w' hj hS => ?h44) (fun K hK => ?k44)
      case h44 =>
        go_simp
        try rfl
      go_simp
      refine hK _ ?_
      clear hK K
      refine wpB_call _ _ (by kernel_rfl) (by kernel_rfl) (fun w' => by kernel_rfl) 0 (by kernel_rfl) (fun j w' hj hS => (peek_eq w' t Gt.out k k2 (by omega) HPU.out).mono (fun e w2 h => ⟨h.1, Below.trans hS (Below.mono h.2 hS.size)⟩)) (fun K hK => ?_)
      go_simp
      refine hK _ ?_
      clear hK K
      refine wpB_val (v := ?v45) (by kernel_rfl) (by kernel_rfl) _ rfl (fun j w' hj hS => ?h45) (fun K hK => ?k45)
      case h45 =>
        go_simp
        try rfl
      go_simp
      refine hK _ ?_
      clear hK K
      refine wpB_val (v := ?v46) (by kernel_rfl) (by kernel_rfl) _ rfl (fun j w' hj hS => ?h46) (fun K hK => ?k46)
      case h46 =>
        go_simp
        try rfl
      go_simp
      refine hK _ ?_
      clear hK K
      refine wpB_val (v := ?v47) (by kernel_rfl) (by kernel_rfl) _ rfl (fun j w' hj hS => ?h47) (fun K hK => ?k47)
      case h47 =>
        go_simp
        try rfl
      go_simp
      refine hK _ ?_
      clear hK K
      refine wpB_val (v := ?v48) (by kernel_rfl) (by kernel_rfl) _ rfl (fun j w' hj hS => ?h48) (fun K hK => ?k48)
      case h48 =>
        go_simp
        try rfl
      go_simp
      refine hK _ ?_
      clear hK K
      refine wpB_val (v := ?v49) (by kernel_rfl) (by kernel_rfl) _ rfl (fun j w' hj hS => ?h49) (fun K hK => ?k49)
      case h49 =>
        go_simp
        try rfl
      go_simp
      refine hK _ ?_
      clear hK K
      refine wpB_val (v := ?v50) (by kernel_rfl) (by kernel_rfl) _ rfl (fun j w' hj hS => ?h50) (fun K hK => ?k50)
      case h50 =>
        go_simp
        try rfl
      go_simp
      refine hK _ ?_
      clear hK K
      refine wpB_val (v := ?v51) (by kernel_rfl) (by kernel_rfl) _ rfl (fun j w' hj hS => ?h51) (fun K hK => ?k51)
      case h51 =>
        go_simp
        try rfl
      go_simp
      refine hK _ ?_
      clear hK K
      refine wpB_val (v := ?v52) (by kernel_rfl) (by kernel_rfl) _ rfl (fun j w' hj hS => ?h52) (fun K hK => ?k52)
      case h52 =>
        go_simp
        try rfl
      go_simp
      refine hK _ ?_
      clear hK K
      refine wpB_skip (by kernel_rfl) (by kernel_rfl) (fun K hK => ?_)
      go_simp
      refine hK _ ?_
      clear hK K
      refine wpB_skip (by kernel_rfl) (by kernel_rfl) (fun K hK => ?_)
      go_simp
      refine hK _ ?_
      clear hK K
      refine wpB_skip (by kernel_rfl) (by kernel_rfl) (fun K hK => ?_)
      go_simp
      refine hK _ ?_
      clear hK K
      refine wpB_skip (by kernel_rfl) (by kernel_rfl) (fun K hK => ?_)
      go_simp
      refine hK _ ?_
      clear hK K
      refine wpB_skip (by kernel_rfl) (by kernel_rfl) (fun K hK => ?_)
      go_simp
      refine hK _ ?_
      clear hK K
      refine wpB_val (v := ?v53) (by kernel_rfl) (by kernel_rfl) _ rfl (fun j w' hj hS => ?h53) (fun K hK => ?k53)
      case h53 =>
        go_simp
        try rfl
      go_simp
      refine hK _ ?_
      clear hK K
      refine wpB_val (v := ?v54) (by kernel_rfl) (by kernel_rfl) _ rfl (fun j w' hj hS => ?h54) (fun K hK => ?k54)
      case h54 =>
        go_simp
        try rfl
      go_simp
      refine hK _ ?_
      clear hK K
      refine wpB_val (v := ?v55) (by kernel_rfl) (by kernel_rfl) _ rfl (fun j w' hj hS => ?h55) (fun K hK => ?k55)
      case h55 =>
        go_simp
        try rfl
      go_simp
      refine hK _ ?_
      clear hK K
      refine wpB_nil (fun w' hS => ?_)
      go_wp2_with fail
      go_ret
      exact ⟨by first | rfl | simp, bcall HB.out hS⟩
    · have hb0 : (l == k) = false := by simp [hlk]
      have HQ := Lib.hid (HPO.out hlk)
      clear hlk
      clear P_c0 P_c1 P_z
      clear R_c0 R_c1 R_z
      clear A_c0 A_c1 A_z
      have FP0 : ∀ w' : World, Below w7.heap.size w7 w' → w'.cell? ⟨bP, 0, none⟩ = some (.int .i64 4) := fun w' h => (P.out.below h).cell 0
      have FP1 : ∀ w' : World, Below w7.heap.size w7 w' → w'.cell? ⟨bP, 1, none⟩ = some (.int .i64 0) := fun w' h => (P.out.below h).cell 1
      have FR0 : ∀ w' : World, Below w7.heap.size w7 w' → w'.cell? ⟨bR, 0, none⟩ = some (.int .i64 cl) := fun w' h => (R.out.below h).cell 0
      have FR1 : ∀ w' : World, Below w7.heap.size w7 w' → w'.cell? ⟨bR, 1, none⟩ = some (.int .i64 vl) := fun w' h => (R.out.below h).cell 1
      have FA0 : ∀ w' : World, Below w7.heap.size w7 w' → w'.cell? ⟨(bU + 1), 0, none⟩ = some (.int .i64 4) := fun w' h => (A.out.below h).cell 0
      have FA1 : ∀ w' : World, Below w7.heap.size w7 w' → w'.cell? ⟨(bU + 1), 1, none⟩ = some (.int .i64 0) := fun w' h => (A.out.below h).cell 1
      refine wp_region_stable (fun _ w' => Below w7.heap.size w7 w') (by kernel_rfl) (by kernel_rfl) (Below.drew (Below.refl _ _)) ?_
      refine wpB_val (v := ?v56) (by kernel_rfl) (by kernel_rfl) 0 (by kernel_rfl) (fun j w' hj hS => ?h56) (fun K hK => ?k56)
      case h56 =>
        have c_P0 := FP0 w' hS
        have c_P1 := FP1 w' hS
        have c_R0 := FR0 w' hS
        have c_R1 := FR1 w' hS
        have c_A0 := FA0 w' hS
        have c_A1 := FA1 w' hS
        go_simp
        try rfl
      go_simp
      refine hK _ ?_
      clear hK K
      refine wpB_val (v := ?v57) (by kernel_rfl) (by kernel_rfl) 0 (by kernel_rfl) (fun j w' hj hS => ?h57) (fun K hK => ?k57)
      case h57 =>
        have c_P0 := FP0 w' hS
        have c_P1 := FP1 w' hS
        have c_R0 := FR0 w' hS
        have c_R1 := FR1 w' hS
        have c_A0 := FA0 w' hS
        have c_A1 := FA1 w' hS
        go_simp
        try rfl
      go_simp
      refine hK _ ?_
      clear hK K
      refine wpB_val (v := ?v58) (by kernel_rfl) (by kernel_rfl) _ rfl (fun j w' hj hS => ?h58) (fun K hK => ?k58)
      case h58 =>
        go_simp
        try rfl
      go_simp
      refine hK _ ?_
      clear hK K
      refine wpB_val (v := ?v59) (by kernel_rfl) (by kernel_rfl) _ rfl (fun j w' hj hS => ?h59) (fun K hK => ?k59)
      case h59 =>
        go_simp
        try rfl
      go_simp
      refine hK _ ?_
      clear hK K
      refine wpB_load 27 _ rfl (bU) (0) (tcells t) _ (by kernel_rfl) rfl 0 (by kernel_rfl) (fun j w' hj hS => (U.out.below hS).range) Try.underlying27 rfl (by rw [HLt.out]; kernel_rfl) (fun K hK => ?_)
      go_simp
      refine hK _ ?_
      clear hK K
      refine wpB_val (v := ?v60) (by kernel_rfl) (by kernel_rfl) _ rfl (fun j w' hj hS => ?h60) (fun K hK => ?k60)
      case h60 =>
        go_simp
        try rfl
      go_simp
      refine hK _ ?_
      clear hK K
      refine wpB_call _ _ (by kernel_rfl) (by kernel_rfl) (fun w' => by kernel_rfl) 0 (by kernel_rfl) (fun j w' hj hS => (peek_eq w' t Gt.out k k2 (by omega) HPU.out).mono (fun e w2 h => ⟨h.1, Below.trans hS (Below.mono h.2 hS.size)⟩)) (fun K hK => ?_)
      go_simp
      refine hK _ ?_
      clear hK K
      refine wpB_val (v := ?v61) (by kernel_rfl) (by kernel_rfl) _ rfl (fun j w' hj hS => ?h61) (fun K hK => ?k61)
      case h61 =>
        go_simp
        try rfl
      go_simp
      refine hK _ ?_
      clear hK K
      refine wpB_val (v := ?v62) (by kernel_rfl) (by kernel_rfl) _ rfl (fun j w' hj hS => ?h62) (fun K hK => ?k62)
      case h62 =>
        go_simp
        try rfl
      go_simp
      refine hK _ ?_
      clear hK K
      refine wpB_val (v := ?v63) (by kernel_rfl) (by kernel_rfl) _ rfl (fun j w' hj hS => ?h63) (fun K hK => ?k63)
      case h63 =>
        go_simp
        try rfl
      go_simp
      refine hK _ ?_
      clear hK K
      refine wpB_val (v := ?v64) (by kernel_rfl) (by kernel_rfl) _ rfl (fun j w' hj hS => ?h64) (fun K hK => ?k64)
      case h64 =>
        go_simp
        try rfl
      go_simp
      refine hK _ ?_
      clear hK K
      refine wpB_val (v := ?v65) (by kernel_rfl) (by kernel_rfl) _ rfl (fun j w' hj hS => ?h65) (fun K hK => ?k65)
      case h65 =>
        go_simp
        try rfl
      go_simp
      refine hK _ ?_
      clear hK K
      refine wpB_val (v := ?v66) (by kernel_rfl) (by kernel_rfl) _ rfl (fun j w' hj hS => ?h66) (fun K hK => ?k66)
      case h66 =>
        go_simp
        try rfl
      go_simp
      refine hK _ ?_
      clear hK K
      refine wpB_val (v := ?v67) (by kernel_rfl) (by kernel_rfl) _ rfl (fun j w' hj hS => ?h67) (fun K hK => ?k67)
      case h67 =>
        go_simp
        try rfl
      go_simp
      refine hK _ ?_
      clear hK K
      refine wpB_val (v := ?v68) (by kernel_rfl) (by kernel_rfl) _ rfl (fun j w' hj hS => ?h68) (fun K hK => ?k68)
      case h68 =>
        go_simp
        try rfl
      go_simp
      refine hK _ ?_
      clear hK K
      refine wpB_load 27 _ rfl (bU) (0) (tcells t) _ (by kernel_rfl) rfl 0 (by kernel_rfl) (fun j w' hj hS => (U.out.below hS).range) Try.underlying27 rfl (by rw [HLt.out]; kernel_rfl) (fun K hK => ?_)
      go_simp
      refine hK _ ?_
      clear hK K
      refine wpB_val (v := ?v69) (by kernel_rfl) (by kernel_rfl) _ rfl (fun j w' hj hS => ?h69) (fun K hK => ?k69)
      case h69 =>
        go_simp
        try rfl
      go_simp
      refine hK _ ?_
      clear hK K
      refine wpB_call _ _ (by kernel_rfl) (by kernel_rfl) (fun w' => by kernel_rfl) 0 (by kernel_rfl) (fun j w' hj hS => (peek_eq w' t Gt.out l l2 (by omega) HQ.out).mono (fun e w2 h => ⟨h.1, Below.trans hS (Below.mono h.2 hS.size)⟩)) (fun K hK => ?_)
      go_simp
      refine hK _ ?_
      clear hK K
      refine wpB_val (v := ?v70) (by kernel_rfl) (by kernel_rfl) 0 (by kernel_rfl) (fun j w' hj hS => ?h70) (fun K hK => ?k70)
      case h70 =>
        have c_P0 := FP0 w' hS
        have c_P1 := FP1 w' hS
        have c_R0 := FR0 w' hS
        have c_R1 := FR1 w' hS
        have c_A0 := FA0 w' hS
        have c_A1 := FA1 w' hS
        go_simp
        try rfl
      go_simp
      refine hK _ ?_
      clear hK K
      refine wpB_val (v := ?v71) (by kernel_rfl) (by kernel_rfl) _ rfl (fun j w' hj hS => ?h71) (fun K hK => ?k71)
      case h71 =>
        go_simp
        try rfl
      go_simp
      refine hK _ ?_
      clear hK K
      refine wpB_val (v := ?v72) (by kernel_rfl) (by kernel_rfl) _ rfl (fun j w' hj hS => ?h72) (fun K hK => ?k72)
      case h72 =>
        go_simp
        try rfl
      go_simp
      refine hK _ ?_
      clear hK K
      refine wpB_val (v := ?v73) (by kernel_rfl) (by kernel_rfl) _ rfl (fun j w' hj hS => ?h73) (fun K hK => ?k73)
      case h73 =>
        go_simp
        try rfl
      go_simp
      refine hK _ ?_
      clear hK K
      refine wpB_val (v := ?v74) (by kernel_rfl) (by kernel_rfl) _ rfl (fun j w' hj hS => ?h74) (fun K hK => ?k74)
      case h74 =>
        go_simp
        try rfl
      go_simp
      refine hK _ ?_
      clear hK K
      refine wpB_nil (fun w' hS => ?_)
      go_wp2_with fail
      go_ret
      exact ⟨by first | rfl | simp, bcall HB.out hS⟩
  · have HPK := Lib.hid hpk
    have HD := Lib.hid hd
    have HPU := Lib.hid hpu
    have HPO : Hid (l ≠ k → peekA u l = (cl, vl)) := Lib.hid (fun hne => (hpo l (by omega) hne).trans HPL.out)
    have HLu : Hid ((tcells u).length = 16) := Lib.hid (by rw [tcells_len]; exact gu.len)
    have HCu := Lib.hid (tcells_take u gu.len)
    have HOu := Lib.hid (tcells_one u)
    have Gu := Lib.hid gu
    clear hpk hd hpu hpo gu
    refine wp_region_alloc 8 (by kernel_rfl) (by kernel_rfl) (by kernel_rfl) (by kernel_rfl) (by kernel_rfl) (by decide) (by kernel_rfl) ?_
    simp only [List.take_succ_cons, List.take_zero, List.drop_succ_cons, List.drop_zero]
    refine wpC_load 27 _ rfl (bT) 0 (tcells t) _ (by kernel_rfl) rfl (fun w' hS => ((Blk.drew T.out).below hS).range) Try.underlying27 rfl (by rw [HLt.out]; kernel_rfl) (fun K hK => ?_)
    go_simp
    refine hK _ ?_
    clear hK K
    refine wpC_val (v := ?v75) (by kernel_rfl) (by kernel_rfl) (fun w' hS => ?h75) (fun K hK => ?k75)
    case h75 =>
      go_simp
      try rfl
    go_simp
    refine hK _ ?_
    clear hK K
    refine wpC_call _ _ (by kernel_rfl) (by kernel_rfl) (fun w' => by kernel_rfl) (fun w' hS => peek_eq w' t Gt.out k k2 (by omega) HPK.out) (fun K hK => ?_)
    go_simp
    refine hK _ ?_
    clear hK K
    refine wpC_load 27 _ rfl (bT) 0 (tcells t) _ (by kernel_rfl) rfl (fun w' hS => ((Blk.drew T.out).below hS).range) Try.underlying27 rfl (by rw [HLt.out]; kernel_rfl) (fun K hK => ?_)
    go_simp
    refine hK _ ?_
    clear hK K
    refine wpC_val (v := ?v76) (by kernel_rfl) (by kernel_rfl) (fun w' hS => ?h76) (fun K hK => ?k76)
    case h76 =>
      go_simp
      try rfl
    go_simp
    refine hK _ ?_
    clear hK K
    refine wpC_call _ _ (by kernel_rfl) (by kernel_rfl) (fun w' => by kernel_rfl) (fun w' hS => peek_eq w' t Gt.out l l2 (by omega) HPL.out) (fun K hK => ?_)
    go_simp
    refine hK _ ?_
    clear hK K
    refine wpC_alloc (.cells #[.int .i64 0, .int .i64 0] 31) (by kernel_rfl) ⟨rfl, fun ρ w' => by kernel_rfl⟩ ?_
    refine wpC_alloc (.cells #[.int .i64 0, .int .i64 0] 31) (by kernel_rfl) ⟨rfl, fun ρ w' => by kernel_rfl⟩ ?_
    refine wpC_nil (fun bs w4 hbS hF => ?_)
    simp only [List.nil_append, List.cons_append, putsC, ptrB]
    obtain ⟨hwP, hdP, hhP, hwR, hdR, hhR, -⟩ := hF
    generalize bs 6 = bP at *
    generalize bs 7 = bR at *
    have hne_P_R : bP ≠ bR := hdR _ (by simp)
    clear hdP hdR
    change w3.heap.size ≤ _ at hwP hwR
    have hlt_P_T := T.out.lt
    have hsz_P := HB.out.size
    replace HB := Lib.hid (bcall HB.out (Below.trans (Below.drew (Below.refl _ _)) hbS))
    replace T := Lib.hid ((Blk.drew T.out).below hbS)
    have P : Hid (Blk w4 bP [.int .i64 0, .int .i64 0] 31) := Lib.hid hhP
    clear hhP
    have R : Hid (Blk w4 bR [.int .i64 0, .int .i64 0] 31) := Lib.hid hhR
    clear hhR
    clear hbS
    have P_c0 : w4.cell? ⟨bP, 0, none⟩ = some (.int .i64 0) := P.out.cell 0
    have P_c1 : w4.cell? ⟨bP, 1, none⟩ = some (.int .i64 0) := P.out.cell 1
    have P_z : bP < w4.heap.size := P.out.lt
    have R_c0 : w4.cell? ⟨bR, 0, none⟩ = some (.int .i64 0) := R.out.cell 0
    have R_c1 : w4.cell? ⟨bR, 1, none⟩ = some (.int .i64 0) := R.out.cell 1
    have R_z : bR < w4.heap.size := R.out.lt
    have f_P0 := P.out.frozen 0
    have f_P1 := P.out.frozen 1
    have f_R0 := R.out.frozen 0
    have f_R1 := R.out.frozen 1
    go_upto_region 6 with fail
    clear f_P0 f_P1 f_R0 f_R1
    clear P_c0 P_c1 P_z
    clear R_c0 R_c1 R_z
    have HBN : Hid (Below w.heap.size w ((((w4.setCell ⟨bP, 0, none⟩ (.int .i64 1)).setCell ⟨bP, 1, none⟩ (.int .i64 x)).setCell ⟨bR, 0, none⟩ (.int .i64 cl)).setCell ⟨bR, 1, none⟩ (.int .i64 vl))) := Lib.hid (bstore (bstore (bstore (bstore HB.out (by show w.heap.size ≤ bP; omega) _) (by show w.heap.size ≤ bP; omega) _) (by show w.heap.size ≤ bR; omega) _) (by show w.heap.size ≤ bR; omega) _)
    have TN := Lib.hid (show Blk ((((w4.setCell ⟨bP, 0, none⟩ (.int .i64 1)).setCell ⟨bP, 1, none⟩ (.int .i64 x)).setCell ⟨bR, 0, none⟩ (.int .i64 cl)).setCell ⟨bR, 1, none⟩ (.int .i64 vl)) _ _ _ from ((((T.out.other (p := ⟨bP, 0, none⟩) (.int .i64 1) (by show bT ≠ bP; omega)).other (p := ⟨bP, 1, none⟩) (.int .i64 x) (by show bT ≠ bP; omega)).other (p := ⟨bR, 0, none⟩) (.int .i64 cl) (by show bT ≠ bR; omega)).other (p := ⟨bR, 1, none⟩) (.int .i64 vl) (by show bT ≠ bR; omega)))
    have PN : Hid (Blk ((((w4.setCell ⟨bP, 0, none⟩ (.int .i64 1)).setCell ⟨bP, 1, none⟩ (.int .i64 x)).setCell ⟨bR, 0, none⟩ (.int .i64 cl)).setCell ⟨bR, 1, none⟩ (.int .i64 vl)) bP [.int .i64 1, .int .i64 x] 31) := Lib.hid ((((P.out.set 0 (.int .i64 1)).set 1 (.int .i64 x)).other (p := ⟨bR, 0, none⟩) (.int .i64 cl) (by show bP ≠ bR; omega)).other (p := ⟨bR, 1, none⟩) (.int .i64 vl) (by show bP ≠ bR; omega))
    have RN : Hid (Blk ((((w4.setCell ⟨bP, 0, none⟩ (.int .i64 1)).setCell ⟨bP, 1, none⟩ (.int .i64 x)).setCell ⟨bR, 0, none⟩ (.int .i64 cl)).setCell ⟨bR, 1, none⟩ (.int .i64 vl)) bR [.int .i64 cl, .int .i64 vl] 31) := Lib.hid ((((R.out.other (p := ⟨bP, 0, none⟩) (.int .i64 1) (by show bR ≠ bP; omega)).other (p := ⟨bP, 1, none⟩) (.int .i64 x) (by show bR ≠ bP; omega)).set 0 (.int .i64 cl)).set 1 (.int .i64 vl))
    replace HB := HBN
    clear HBN
    replace T := TN
    clear TN
    replace P := PN
    clear PN
    replace R := RN
    clear RN
    generalize ((((w4.setCell ⟨bP, 0, none⟩ (.int .i64 1)).setCell ⟨bP, 1, none⟩ (.int .i64 x)).setCell ⟨bR, 0, none⟩ (.int .i64 cl)).setCell ⟨bR, 1, none⟩ (.int .i64 vl)) = w5 at *
    have P_c0 : w5.cell? ⟨bP, 0, none⟩ = some (.int .i64 1) := P.out.cell 0
    have P_c1 : w5.cell? ⟨bP, 1, none⟩ = some (.int .i64 x) := P.out.cell 1
    have P_z : bP < w5.heap.size := P.out.lt
    have R_c0 : w5.cell? ⟨bR, 0, none⟩ = some (.int .i64 cl) := R.out.cell 0
    have R_c1 : w5.cell? ⟨bR, 1, none⟩ = some (.int .i64 vl) := R.out.cell 1
    have R_z : bR < w5.heap.size := R.out.lt
    go_upto_region 7 with ((refine wpList_load_part rfl 27 _ rfl (bT) 0 16 rfl 27 (tcells t) _ T.out (by rw [HLt.out]; decide) Try.underlying27 rfl (by kernel_rfl) ?_; rw [HCt.out]))
    refine (do_eq _ t Gt.out 2 k 0 u 1 x HD.out).mono ?_
    rintro e w6 ⟨rfl, hb6⟩
    clear P_c0 P_c1 P_z
    clear R_c0 R_c1 R_z
    replace HB := Lib.hid (bcall HB.out hb6)
    replace T := Lib.hid (T.out.below hb6)
    replace P := Lib.hid (P.out.below hb6)
    replace R := Lib.hid (R.out.below hb6)
    clear hb6
    have P_c0 : w6.cell? ⟨bP, 0, none⟩ = some (.int .i64 1) := P.out.cell 0
    have P_c1 : w6.cell? ⟨bP, 1, none⟩ = some (.int .i64 x) := P.out.cell 1
    have P_z : bP < w6.heap.size := P.out.lt
    have R_c0 : w6.cell? ⟨bR, 0, none⟩ = some (.int .i64 cl) := R.out.cell 0
    have R_c1 : w6.cell? ⟨bR, 1, none⟩ = some (.int .i64 vl) := R.out.cell 1
    have R_z : bR < w6.heap.size := R.out.lt
    go_upto_region 7 with (first | (refine wpList_store_part rfl 27 _ _ rfl w6.heap.size 0 16 (tcells u) rfl rfl 27 _ ((Blk.new w6 [.int .i64 0, .int .i64 0, .int .i64 0, .int .i64 0, .int .i64 0, .int .i64 0, .int .i64 0, .int .i64 0, .int .i64 0, .int .i64 0, .int .i64 0, .int .i64 0, .int .i64 0, .int .i64 0, .int .i64 0, .int .i64 0] 27).alloc _) HLu.out (by decide) (by kernel_rfl) HOu.out ?_; rw [spl_z16 _ HLu.out]; have hP := def_pair w6 (tcells u) [.int .i64 0, .int .i64 0, .int .i64 0, .int .i64 0, .int .i64 0, .int .i64 0, .int .i64 0, .int .i64 0, .int .i64 0, .int .i64 0, .int .i64 0, .int .i64 0, .int .i64 0, .int .i64 0, .int .i64 0, .int .i64 0] [.int .i64 0, .int .i64 0] 27 31; have aa0 := hP.2.1.cell 0; have aa1 := hP.2.1.cell 1; have af0 := hP.2.1.frozen 0; have af1 := hP.2.1.frozen 1))
    have hP := def_pair w6 (tcells u) [.int .i64 0, .int .i64 0, .int .i64 0, .int .i64 0, .int .i64 0, .int .i64 0, .int .i64 0, .int .i64 0, .int .i64 0, .int .i64 0, .int .i64 0, .int .i64 0, .int .i64 0, .int .i64 0, .int .i64 0, .int .i64 0] [.int .i64 0, .int .i64 0] 27 31
    have hBB : Below w6.heap.size w6 (((setBlk ((w6.alloc (Obj.cells #[.int .i64 0, .int .i64 0, .int .i64 0, .int .i64 0, .int .i64 0, .int .i64 0, .int .i64 0, .int .i64 0, .int .i64 0, .int .i64 0, .int .i64 0, .int .i64 0, .int .i64 0, .int .i64 0, .int .i64 0, .int .i64 0] 27)).alloc (Obj.cells #[.int .i64 0, .int .i64 0] 31)) w6.heap.size (tcells u)).setCell ⟨w6.heap.size + 1, 0, none⟩ (.int .i64 1)).setCell ⟨w6.heap.size + 1, 1, none⟩ (.int .i64 x)) := bstore (bstore hP.2.2 (Nat.le_succ _) _) (Nat.le_succ _) _
    have U : Hid (Blk (((setBlk ((w6.alloc (Obj.cells #[.int .i64 0, .int .i64 0, .int .i64 0, .int .i64 0, .int .i64 0, .int .i64 0, .int .i64 0, .int .i64 0, .int .i64 0, .int .i64 0, .int .i64 0, .int .i64 0, .int .i64 0, .int .i64 0, .int .i64 0, .int .i64 0] 27)).alloc (Obj.cells #[.int .i64 0, .int .i64 0] 31)) w6.heap.size (tcells u)).setCell ⟨w6.heap.size + 1, 0, none⟩ (.int .i64 1)).setCell ⟨w6.heap.size + 1, 1, none⟩ (.int .i64 x)) w6.heap.size (tcells u) 27) := Lib.hid ((hP.1.other _ (by show w6.heap.size ≠ w6.heap.size + 1; omega)).other _ (by show w6.heap.size ≠ w6.heap.size + 1; omega))
    have A : Hid (Blk (((setBlk ((w6.alloc (Obj.cells #[.int .i64 0, .int .i64 0, .int .i64 0, .int .i64 0, .int .i64 0, .int .i64 0, .int .i64 0, .int .i64 0, .int .i64 0, .int .i64 0, .int .i64 0, .int .i64 0, .int .i64 0, .int .i64 0, .int .i64 0, .int .i64 0] 27)).alloc (Obj.cells #[.int .i64 0, .int .i64 0] 31)) w6.heap.size (tcells u)).setCell ⟨w6.heap.size + 1, 0, none⟩ (.int .i64 1)).setCell ⟨w6.heap.size + 1, 1, none⟩ (.int .i64 x)) (w6.heap.size + 1) [.int .i64 1, .int .i64 x] 31) := Lib.hid (Blk.pair hP.2.1)
    clear P_c0 P_c1 P_z
    clear R_c0 R_c1 R_z
    have hlt_U_T := T.out.lt
    have hlt_U_P := P.out.lt
    have hlt_U_R := R.out.lt
    replace HB := Lib.hid (bcall HB.out hBB)
    replace T := Lib.hid (T.out.below hBB)
    replace P := Lib.hid (P.out.below hBB)
    replace R := Lib.hid (R.out.below hBB)
    clear hBB hP aa0 aa1 af0 af1
    generalize ((setBlk ((w6.alloc (Obj.cells #[.int .i64 0, .int .i64 0, .int .i64 0, .int .i64 0, .int .i64 0, .int .i64 0, .int .i64 0, .int .i64 0, .int .i64 0, .int .i64 0, .int .i64 0, .int .i64 0, .int .i64 0, .int .i64 0, .int .i64 0, .int .i64 0] 27)).alloc (Obj.cells #[.int .i64 0, .int .i64 0] 31)) w6.heap.size (tcells u)).setCell ⟨w6.heap.size + 1, 0, none⟩ (.int .i64 1)).setCell ⟨w6.heap.size + 1, 1, none⟩ (.int .i64 x) = w7 at *
    generalize w6.heap.size = bU at *
    have P_c0 : w7.cell? ⟨bP, 0, none⟩ = some (.int .i64 1) := P.out.cell 0
    have P_c1 : w7.cell? ⟨bP, 1, none⟩ = some (.int .i64 x) := P.out.cell 1
    have P_z : bP < w7.heap.size := P.out.lt
    have R_c0 : w7.cell? ⟨bR, 0, none⟩ = some (.int .i64 cl) := R.out.cell 0
    have R_c1 : w7.cell? ⟨bR, 1, none⟩ = some (.int .i64 vl) := R.out.cell 1
    have R_z : bR < w7.heap.size := R.out.lt
    have A_c0 : w7.cell? ⟨(bU + 1), 0, none⟩ = some (.int .i64 1) := A.out.cell 0
    have A_c1 : w7.cell? ⟨(bU + 1), 1, none⟩ = some (.int .i64 x) := A.out.cell 1
    have A_z : (bU + 1) < w7.heap.size := A.out.lt
    by_cases hlk : l = k
    · have hb0 : (l == k) = true := by simp [hlk]
      clear hlk
      clear P_c0 P_c1 P_z
      clear R_c0 R_c1 R_z
      clear A_c0 A_c1 A_z
      have FP0 : ∀ w' : World, Below w7.heap.size w7 w' → w'.cell? ⟨bP, 0, none⟩ = some (.int .i64 1) := fun w' h => (P.out.below h).cell 0
      have FP1 : ∀ w' : World, Below w7.heap.size w7 w' → w'.cell? ⟨bP, 1, none⟩ = some (.int .i64 x) := fun w' h => (P.out.below h).cell 1
      have FR0 : ∀ w' : World, Below w7.heap.size w7 w' → w'.cell? ⟨bR, 0, none⟩ = some (.int .i64 cl) := fun w' h => (R.out.below h).cell 0
      have FR1 : ∀ w' : World, Below w7.heap.size w7 w' → w'.cell? ⟨bR, 1, none⟩ = some (.int .i64 vl) := fun w' h => (R.out.below h).cell 1
      have FA0 : ∀ w' : World, Below w7.heap.size w7 w' → w'.cell? ⟨(bU + 1), 0, none⟩ = some (.int .i64 1) := fun w' h => (A.out.below h).cell 0
      have FA1 : ∀ w' : World, Below w7.heap.size w7 w' → w'.cell? ⟨(bU + 1), 1, none⟩ = some (.int .i64 x) := fun w' h => (A.out.below h).cell 1
      refine wp_region_stable (fun _ w' => Below w7.heap.size w7 w') (by kernel_rfl) (by kernel_rfl) (Below.drew (Below.refl _ _)) ?_
      refine wpB_val (v := ?v77) (by kernel_rfl) (by kernel_rfl) 0 (by kernel_rfl) (fun j w' hj hS => ?h77) (fun K hK => ?k77)
      case h77 =>
        have c_P0 := FP0 w' hS
        have c_P1 := FP1 w' hS
        have c_R0 := FR0 w' hS
        have c_R1 := FR1 w' hS
        have c_A0 := FA0 w' hS
        have c_A1 := FA1 w' hS
        go_simp
        try rfl
      go_simp
      refine hK _ ?_
      clear hK K
      refine wpB_val (v := ?v78) (by kernel_rfl) (by kernel_rfl) 0 (by kernel_rfl) (fun j w' hj hS => ?h78) (fun K hK => ?k78)
      case h78 =>
        have c_P0 := FP0 w' hS
        have c_P1 := FP1 w' hS
        have c_R0 := FR0 w' hS
        have c_R1 := FR1 w' hS
        have c_A0 := FA0 w' hS
        have c_A1 := FA1 w' hS
        go_simp
        try rfl
      go_simp
      refine hK _ ?_
      clear hK K
      refine wpB_val (v := ?v79) (by kernel_rfl) (by kernel_rfl) _ rfl (fun j w' hj hS => ?h79) (fun K hK => ?k79)
      case h79 =>
        go_simp
        try rfl
      go_simp
      refine hK _ ?_
      clear hK K
      refine wpB_val (v := ?v80) (by kernel_rfl) (by kernel_rfl) _ rfl (fun j w' hj hS => ?h80) (fun K hK => ?k80)
      case h80 =>
        go_simp
        try rfl
      go_simp
      refine hK _ ?_
      clear hK K
      refine wpB_load 27 _ rfl (bU) (0) (tcells u) _ (by kernel_rfl) rfl 0 (by kernel_rfl) (fun j w' hj hS => (U.out.below hS).range) Try.underlying27 rfl (by rw [HLu.out]; kernel_rfl) (fun K hK => ?_)
      go_simp
      refine hK _ ?_
      clear hK K
      refine wpB_val (v := ?v81) (by kernel_rfl) (by kernel_rfl) _ rfl (fun j w' hj hS => ?h81) (fun K hK => ?k81)
      case h81 =>
        go_simp
        try rfl
      go_simp
      refine hK _ ?_
      clear hK K
      refine wpB_call _ _ (by kernel_rfl) (by kernel_rfl) (fun w' => by kernel_rfl) 0 (by kernel_rfl) (fun j w' hj hS => (peek_eq w' u Gu.out k k2 (by omega) HPU.out).mono (fun e w2 h => ⟨h.1, Below.trans hS (Below.mono h.2 hS.size)⟩)) (fun K hK => ?_)
      go_simp
      refine hK _ ?_
      clear hK K
      refine wpB_val (v := ?v82) (by kernel_rfl) (by kernel_rfl) _ rfl (fun j w' hj hS => ?h82) (fun K hK => ?k82)
      case h82 =>
        go_simp
        try rfl
      go_simp
      refine hK _ ?_
      clear hK K
      refine wpB_val (v := ?v83) (by kernel_rfl) (by kernel_rfl) _ rfl (fun j w' hj hS => ?h83) (fun K hK => ?k83)
      case h83 =>
        go_simp
        try rfl
      go_simp
      refine hK _ ?_
      clear hK K
      refine wpB_val (v := ?v84) (by kernel_rfl) (by kernel_rfl) _ rfl (fun j w' hj hS => ?h84) (fun K hK => ?k84)
      case h84 =>
        go_simp
        try rfl
      go_simp
      refine hK _ ?_
      clear hK K
      refine wpB_val (v := ?v85) (by kernel_rfl) (by kernel_rfl) _ rfl (fun j w' hj hS => ?h85) (fun K hK => ?k85)
      case h85 =>
        go_simp
        try rfl
      go_simp
      refine hK _ ?_
      clear hK K
      refine wpB_val (v := ?v86) (by kernel_rfl) (by kernel_rfl) _ rfl (fun j w' hj hS => ?h86) (fun K hK => ?k86)
      case h86 =>
        go_simp
        try rfl
      go_simp
      refine hK _ ?_
      clear hK K
      refine wpB_val (v := ?v87) (by kernel_rfl) (by kernel_rfl) _ rfl (fun j w' hj hS => ?h87) (fun K hK => ?k87)
      case h87 =>
        go_simp
        try rfl
      go_simp
      refine hK _ ?_
      clear hK K
      refine wpB_val (v := ?v88) (by kernel_rfl) (by kernel_rfl) _ rfl (fun j w' hj hS => ?h88) (fun K hK => ?k88)
      case h88 =>
        go_simp
        try rfl
      go_simp
      refine hK _ ?_
      clear hK K
      refine wpB_val (v := ?v89) (by kernel_rfl) (by kernel_rfl) _ rfl (fun j w' hj hS => ?h89) (fun K hK => ?k89)
      case h89 =>
        go_simp
        try rfl
      go_simp
      refine hK _ ?_
      clear hK K
      refine wpB_skip (by kernel_rfl) (by kernel_rfl) (fun K hK => ?_)
      go_simp
      refine hK _ ?_
      clear hK K
      refine wpB_skip (by kernel_rfl) (by kernel_rfl) (fun K hK => ?_)
      go_simp
      refine hK _ ?_
      clear hK K
      refine wpB_skip (by kernel_rfl) (by kernel_rfl) (fun K hK => ?_)
      go_simp
      refine hK _ ?_
      clear hK K
      refine wpB_skip (by kernel_rfl) (by kernel_rfl) (fun K hK => ?_)
      go_simp
      refine hK _ ?_
      clear hK K
      refine wpB_skip (by kernel_rfl) (by kernel_rfl) (fun K hK => ?_)
      go_simp
      refine hK _ ?_
      clear hK K
      refine wpB_val (v := ?v90) (by kernel_rfl) (by kernel_rfl) _ rfl (fun j w' hj hS => ?h90) (fun K hK => ?k90)
      case h90 =>
        go_simp
        try rfl
      go_simp
      refine hK _ ?_
      clear hK K
      refine wpB_val (v := ?v91) (by kernel_rfl) (by kernel_rfl) _ rfl (fun j w' hj hS => ?h91) (fun K hK => ?k91)
      case h91 =>
        go_simp
        try rfl
      go_simp
      refine hK _ ?_
      clear hK K
      refine wpB_val (v := ?v92) (by kernel_rfl) (by kernel_rfl) _ rfl (fun j w' hj hS => ?h92) (fun K hK => ?k92)
      case h92 =>
        go_simp
        try rfl
      go_simp
      refine hK _ ?_
      clear hK K
      refine wpB_nil (fun w' hS => ?_)
      go_wp2_with fail
      go_ret
      exact ⟨by first | rfl | simp, bcall HB.out hS⟩
    · have hb0 : (l == k) = false := by simp [hlk]
      have HQ := Lib.hid (HPO.out hlk)
      clear hlk
      clear P_c0 P_c1 P_z
      clear R_c0 R_c1 R_z
      clear A_c0 A_c1 A_z
      have FP0 : ∀ w' : World, Below w7.heap.size w7 w' → w'.cell? ⟨bP, 0, none⟩ = some (.int .i64 1) := fun w' h => (P.out.below h).cell 0
      have FP1 : ∀ w' : World, Below w7.heap.size w7 w' → w'.cell? ⟨bP, 1, none⟩ = some (.int .i64 x) := fun w' h => (P.out.below h).cell 1
      have FR0 : ∀ w' : World, Below w7.heap.size w7 w' → w'.cell? ⟨bR, 0, none⟩ = some (.int .i64 cl) := fun w' h => (R.out.below h).cell 0
      have FR1 : ∀ w' : World, Below w7.heap.size w7 w' → w'.cell? ⟨bR, 1, none⟩ = some (.int .i64 vl) := fun w' h => (R.out.below h).cell 1
      have FA0 : ∀ w' : World, Below w7.heap.size w7 w' → w'.cell? ⟨(bU + 1), 0, none⟩ = some (.int .i64 1) := fun w' h => (A.out.below h).cell 0
      have FA1 : ∀ w' : World, Below w7.heap.size w7 w' → w'.cell? ⟨(bU + 1), 1, none⟩ = some (.int .i64 x) := fun w' h => (A.out.below h).cell 1
      refine wp_region_stable (fun _ w' => Below w7.heap.size w7 w') (by kernel_rfl) (by kernel_rfl) (Below.drew (Below.refl _ _)) ?_
      refine wpB_val (v := ?v93) (by kernel_rfl) (by kernel_rfl) 0 (by kernel_rfl) (fun j w' hj hS => ?h93) (fun K hK => ?k93)
      case h93 =>
        have c_P0 := FP0 w' hS
        have c_P1 := FP1 w' hS
        have c_R0 := FR0 w' hS
        have c_R1 := FR1 w' hS
        have c_A0 := FA0 w' hS
        have c_A1 := FA1 w' hS
        go_simp
        try rfl
      go_simp
      refine hK _ ?_
      clear hK K
      refine wpB_val (v := ?v94) (by kernel_rfl) (by kernel_rfl) 0 (by kernel_rfl) (fun j w' hj hS => ?h94) (fun K hK => ?k94)
      case h94 =>
        have c_P0 := FP0 w' hS
        have c_P1 := FP1 w' hS
        have c_R0 := FR0 w' hS
        have c_R1 := FR1 w' hS
        have c_A0 := FA0 w' hS
        have c_A1 := FA1 w' hS
        go_simp
        try rfl
      go_simp
      refine hK _ ?_
      clear hK K
      refine wpB_val (v := ?v95) (by kernel_rfl) (by kernel_rfl) _ rfl (fun j w' hj hS => ?h95) (fun K hK => ?k95)
      case h95 =>
        go_simp
        try rfl
      go_simp
      refine hK _ ?_
      clear hK K
      refine wpB_val (v := ?v96) (by kernel_rfl) (by kernel_rfl) _ rfl (fun j w' hj hS => ?h96) (fun K hK => ?k96)
      case h96 =>
        go_simp
        try rfl
      go_simp
      refine hK _ ?_
      clear hK K
      refine wpB_load 27 _ rfl (bU) (0) (tcells u) _ (by kernel_rfl) rfl 0 (by kernel_rfl) (fun j w' hj hS => (U.out.below hS).range) Try.underlying27 rfl (by rw [HLu.out]; kernel_rfl) (fun K hK => ?_)
      go_simp
      refine hK _ ?_
      clear hK K
      refine wpB_val (v := ?v97) (by kernel_rfl) (by kernel_rfl) _ rfl (fun j w' hj hS => ?h97) (fun K hK => ?k97)
      case h97 =>
        go_simp
        try rfl
      go_simp
      refine hK _ ?_
      clear hK K
      refine wpB_call _ _ (by kernel_rfl) (by kernel_rfl) (fun w' => by kernel_rfl) 0 (by kernel_rfl) (fun j w' hj hS => (peek_eq w' u Gu.out k k2 (by omega) HPU.out).mono (fun e w2 h => ⟨h.1, Below.trans hS (Below.mono h.2 hS.size)⟩)) (fun K hK => ?_)
      go_simp
      refine hK _ ?_
      clear hK K
      refine wpB_val (v := ?v98) (by kernel_rfl) (by kernel_rfl) _ rfl (fun j w' hj hS => ?h98) (fun K hK => ?k98)
      case h98 =>
        go_simp
        try rfl
      go_simp
      refine hK _ ?_
      clear hK K
      refine wpB_val (v := ?v99) (by kernel_rfl) (by kernel_rfl) _ rfl (fun j w' hj hS => ?h99) (fun K hK => ?k99)
      case h99 =>
        go_simp
        try rfl
      go_simp
      refine hK _ ?_
      clear hK K
      refine wpB_val (v := ?v100) (by kernel_rfl) (by kernel_rfl) _ rfl (fun j w' hj hS => ?h100) (fun K hK => ?k100)
      case h100 =>
        go_simp
        try rfl
      go_simp
      refine hK _ ?_
      clear hK K
      refine wpB_val (v := ?v101) (by kernel_rfl) (by kernel_rfl) _ rfl (fun j w' hj hS => ?h101) (fun K hK => ?k101)
      case h101 =>
        go_simp
        try rfl
      go_simp
      refine hK _ ?_
      clear hK K
      refine wpB_val (v := ?v102) (by kernel_rfl) (by kernel_rfl) _ rfl (fun j w' hj hS => ?h102) (fun K hK => ?k102)
      case h102 =>
        go_simp
        try rfl
      go_simp
      refine hK _ ?_
      clear hK K
      refine wpB_val (v := ?v103) (by kernel_rfl) (by kernel_rfl) _ rfl (fun j w' hj hS => ?h103) (fun K hK => ?k103)
      case h103 =>
        go_simp
        try rfl
      go_simp
      refine hK _ ?_
      clear hK K
      refine wpB_val (v := ?v104) (by kernel_rfl) (by kernel_rfl) _ rfl (fun j w' hj hS => ?h104) (fun K hK => ?k104)
      case h104 =>
        go_simp
        try rfl
      go_simp
      refine hK _ ?_
      clear hK K
      refine wpB_val (v := ?v105) (by kernel_rfl) (by kernel_rfl) _ rfl (fun j w' hj hS => ?h105) (fun K hK => ?k105)
      case h105 =>
        go_simp
        try rfl
      go_simp
      refine hK _ ?_
      clear hK K
      refine wpB_load 27 _ rfl (bU) (0) (tcells u) _ (by kernel_rfl) rfl 0 (by kernel_rfl) (fun j w' hj hS => (U.out.below hS).range) Try.underlying27 rfl (by rw [HLu.out]; kernel_rfl) (fun K hK => ?_)
      go_simp
      refine hK _ ?_
      clear hK K
      refine wpB_val (v := ?v106) (by kernel_rfl) (by kernel_rfl) _ rfl (fun j w' hj hS => ?h106) (fun K hK => ?k106)
      case h106 =>
        go_simp
        try rfl
      go_simp
      refine hK _ ?_
      clear hK K
      refine wpB_call _ _ (by kernel_rfl) (by kernel_rfl) (fun w' => by kernel_rfl) 0 (by kernel_rfl) (fun j w' hj hS => (peek_eq w' u Gu.out l l2 (by omega) HQ.out).mono (fun e w2 h => ⟨h.1, Below.trans hS (Below.mono h.2 hS.size)⟩)) (fun K hK => ?_)
      go_simp
      refine hK _ ?_
      clear hK K
      refine wpB_val (v := ?v107) (by kernel_rfl) (by kernel_rfl) 0 (by kernel_rfl) (fun j w' hj hS => ?h107) (fun K hK => ?k107)
      case h107 =>
        have c_P0 := FP0 w' hS
        have c_P1 := FP1 w' hS
        have c_R0 := FR0 w' hS
        have c_R1 := FR1 w' hS
        have c_A0 := FA0 w' hS
        have c_A1 := FA1 w' hS
        go_simp
        try rfl
      go_simp
      refine hK _ ?_
      clear hK K
      refine wpB_val (v := ?v108) (by kernel_rfl) (by kernel_rfl) _ rfl (fun j w' hj hS => ?h108) (fun K hK => ?k108)
      case h108 =>
        go_simp
        try rfl
      go_simp
      refine hK _ ?_
      clear hK K
      refine wpB_val (v := ?v109) (by kernel_rfl) (by kernel_rfl) _ rfl (fun j w' hj hS => ?h109) (fun K hK => ?k109)
      case h109 =>
        go_simp
        try rfl
      go_simp
      refine hK _ ?_
      clear hK K
      refine wpB_val (v := ?v110) (by kernel_rfl) (by kernel_rfl) _ rfl (fun j w' hj hS => ?h110) (fun K hK => ?k110)
      case h110 =>
        go_simp
        try rfl
      go_simp
      refine hK _ ?_
      clear hK K
      refine wpB_val (v := ?v111) (by kernel_rfl) (by kernel_rfl) _ rfl (fun j w' hj hS => ?h111) (fun K hK => ?k111)
      case h111 =>
        go_simp
        try rfl
      go_simp
      refine hK _ ?_
      clear hK K
      refine wpB_nil (fun w' hS => ?_)
      go_wp2_with fail
      go_ret
      exact ⟨by first | rfl | simp, bcall HB.out hS⟩
end Go.Proofs.Ytakemnpicokaiaa
