/- The walk of the law TableStays. -/
import Derived.Test.YtakemnpicokaiaaTabEq
import Derived.Test.YtakemnpicokaiaaTabled
import Derived.Test.YtakemnpicokaiaaStableOps
import Derived.Test.YtakemnpicokaiaaOpRight
import Derived.Deep.Cut
namespace Go.Proofs.Ytakemnpicokaiaa
open Go.RowKit
set_option linter.unusedVariables false
set_option maxHeartbeats 4000000 in
theorem walk_TableStays (a0 : Option Addr) (len0 cap0 : Nat) (f0 : Nat → Nat → Int) (o0 o1 o2 : Int) (w : World) (h0 : Rws 3 (fun _ => .i64) w a0 len0 cap0 f0) :
    Calls Try.prog 9 #[.slice a0 len0 cap0, .agg #[.int .i64 o0, .int .i64 o1, .int .i64 o2]] w fun e w' => e = .returned (.bool true) ∧ Below w.heap.size w w' := by
  have H0 := Lib.hid h0
  clear h0
  have HB := Lib.hid (Below.refl w.heap.size w)
  go_enter Try.func9, Try.ntmps9
  go_upto_region 1 with fail
  have hb1 := balloc (Below.refl _ w) (Obj.cells #[.int .i64 o0, .int .i64 o1, .int .i64 o2] 36)
  have P := Lib.hid (Blk.new w [.int .i64 o0, .int .i64 o1, .int .i64 o2] 36)
  change Hid (Blk (w.alloc (Obj.cells #[.int .i64 o0, .int .i64 o1, .int .i64 o2] 36)) _ _ _) at P
  have ZP : Hid ((w.alloc (Obj.cells #[.int .i64 o0, .int .i64 o1, .int .i64 o2] 36)).heap.size = w.heap.size + 1) := World.size_alloc _ _
  replace HB := Lib.hid (bcall HB.out hb1)
  clear hb1
  generalize w.alloc (Obj.cells #[.int .i64 o0, .int .i64 o1, .int .i64 o2] 36) = w1 at *
  have P_c0 : w1.cell? ⟨w.heap.size, 0, none⟩ = some (.int .i64 o0) := P.out.cell 0
  have P_c1 : w1.cell? ⟨w.heap.size, 1, none⟩ = some (.int .i64 o1) := P.out.cell 1
  have P_c2 : w1.cell? ⟨w.heap.size, 2, none⟩ = some (.int .i64 o2) := P.out.cell 2
  have P_z : w.heap.size < w1.heap.size := P.out.lt
  go_wp2_with fail
  refine (tabled_any _).mono ?_
  rintro e w2 ⟨rfl, hb2⟩
  clear P_c0 P_c1 P_c2 P_z
  replace HB := Lib.hid (bcall HB.out hb2)
  replace P := Lib.hid (P.out.below hb2)
  clear hb2
  have P_c0 : w2.cell? ⟨w.heap.size, 0, none⟩ = some (.int .i64 o0) := P.out.cell 0
  have P_c1 : w2.cell? ⟨w.heap.size, 1, none⟩ = some (.int .i64 o1) := P.out.cell 1
  have P_c2 : w2.cell? ⟨w.heap.size, 2, none⟩ = some (.int .i64 o2) := P.out.cell 2
  have P_z : w.heap.size < w2.heap.size := P.out.lt
  have hbt := HB.out
  go_wp2_with fail
  refine (filled_any _ a0 len0 cap0 f0 (H0.out.below hbt)).mono ?_
  rintro e w3 ⟨t, gt, rfl, hb3⟩
  clear P_c0 P_c1 P_c2 P_z
  replace HB := Lib.hid (bcall HB.out hb3)
  replace P := Lib.hid (P.out.below hb3)
  clear hb3 hbt H0
  have P_c0 : w3.cell? ⟨w.heap.size, 0, none⟩ = some (.int .i64 o0) := P.out.cell 0
  have P_c1 : w3.cell? ⟨w.heap.size, 1, none⟩ = some (.int .i64 o1) := P.out.cell 1
  have P_c2 : w3.cell? ⟨w.heap.size, 2, none⟩ = some (.int .i64 o2) := P.out.cell 2
  have P_z : w.heap.size < w3.heap.size := P.out.lt
  have HLt : Hid ((tcells t).length = 16) := Lib.hid (by rw [tcells_len]; exact gt.len)
  have HCt := Lib.hid (tcells_take t gt.len)
  have HOt := Lib.hid (tcells_one t)
  have Gt := Lib.hid gt
  clear gt
  have HRt : Hid (rightB t = true) := Lib.hid ((rightB_iff t Gt.out.len (fun j hj => ⟨Gt.out.key0 j hj, Gt.out.key1 j hj⟩)).2 Gt.out)
  go_upto_region 4 with (first | (refine wpList_store_part rfl 27 _ _ rfl w3.heap.size 0 16 (tcells t) rfl rfl 27 _ (Blk.new w3 [.int .i64 0, .int .i64 0, .int .i64 0, .int .i64 0, .int .i64 0, .int .i64 0, .int .i64 0, .int .i64 0, .int .i64 0, .int .i64 0, .int .i64 0, .int .i64 0, .int .i64 0, .int .i64 0, .int .i64 0, .int .i64 0] 27) HLt.out (by decide) (by kernel_rfl) HOt.out ?_; rw [spl_z16 _ HLt.out]))
  have hge_T := HB.out.size
  have hBB : Below w3.heap.size w3 (setBlk (w3.alloc (Obj.cells #[.int .i64 0, .int .i64 0, .int .i64 0, .int .i64 0, .int .i64 0, .int .i64 0, .int .i64 0, .int .i64 0, .int .i64 0, .int .i64 0, .int .i64 0, .int .i64 0, .int .i64 0, .int .i64 0, .int .i64 0, .int .i64 0] 27)) w3.heap.size (tcells t)) := bsetBlk (balloc (Below.refl _ _) _) (Nat.le_refl _) _
  have T : Hid (Blk (setBlk (w3.alloc (Obj.cells #[.int .i64 0, .int .i64 0, .int .i64 0, .int .i64 0, .int .i64 0, .int .i64 0, .int .i64 0, .int .i64 0, .int .i64 0, .int .i64 0, .int .i64 0, .int .i64 0, .int .i64 0, .int .i64 0, .int .i64 0, .int .i64 0] 27)) w3.heap.size (tcells t)) w3.heap.size (tcells t) 27) := Lib.hid ((Blk.new w3 [.int .i64 0, .int .i64 0, .int .i64 0, .int .i64 0, .int .i64 0, .int .i64 0, .int .i64 0, .int .i64 0, .int .i64 0, .int .i64 0, .int .i64 0, .int .i64 0, .int .i64 0, .int .i64 0, .int .i64 0, .int .i64 0] 27).setBlk _)
  clear P_c0 P_c1 P_c2 P_z
  have hlt_T_P := P.out.lt
  replace HB := Lib.hid (bcall HB.out hBB)
  replace P := Lib.hid (P.out.below hBB)
  clear hBB
  generalize setBlk (w3.alloc (Obj.cells #[.int .i64 0, .int .i64 0, .int .i64 0, .int .i64 0, .int .i64 0, .int .i64 0, .int .i64 0, .int .i64 0, .int .i64 0, .int .i64 0, .int .i64 0, .int .i64 0, .int .i64 0, .int .i64 0, .int .i64 0, .int .i64 0] 27)) w3.heap.size (tcells t) = w4 at *
  generalize w3.heap.size = bT at *
  have P_c0 : w4.cell? ⟨w.heap.size, 0, none⟩ = some (.int .i64 o0) := P.out.cell 0
  have P_c1 : w4.cell? ⟨w.heap.size, 1, none⟩ = some (.int .i64 o1) := P.out.cell 1
  have P_c2 : w4.cell? ⟨w.heap.size, 2, none⟩ = some (.int .i64 o2) := P.out.cell 2
  have P_z : w.heap.size < w4.heap.size := P.out.lt
  go_wp2_with (refine wpList_load_part rfl 27 _ rfl (bT) 0 16 rfl 27 (tcells t) _ T.out (by rw [HLt.out]; decide) Try.underlying27 rfl (by kernel_rfl) ?_; rw [HCt.out])
  refine (right_eq _ t Gt.out HRt.out).mono ?_
  rintro e w5 ⟨rfl, hb5⟩
  clear P_c0 P_c1 P_c2 P_z
  replace HB := Lib.hid (bcall HB.out hb5)
  replace P := Lib.hid (P.out.below hb5)
  replace T := Lib.hid (T.out.below hb5)
  clear hb5
  have P_c0 : w5.cell? ⟨w.heap.size, 0, none⟩ = some (.int .i64 o0) := P.out.cell 0
  have P_c1 : w5.cell? ⟨w.heap.size, 1, none⟩ = some (.int .i64 o1) := P.out.cell 1
  have P_c2 : w5.cell? ⟨w.heap.size, 2, none⟩ = some (.int .i64 o2) := P.out.cell 2
  have P_z : w.heap.size < w5.heap.size := P.out.lt
  go_upto_region 6 with fail
  go_wp2_with fail
  refine (op_right o0 o1 o2 _).mono ?_
  rintro e w6 ⟨rfl, hb6⟩
  clear P_c0 P_c1 P_c2 P_z
  replace HB := Lib.hid (bcall HB.out hb6)
  replace P := Lib.hid (P.out.below hb6)
  replace T := Lib.hid (T.out.below hb6)
  clear hb6
  have P_c0 : w6.cell? ⟨w.heap.size, 0, none⟩ = some (.int .i64 o0) := P.out.cell 0
  have P_c1 : w6.cell? ⟨w.heap.size, 1, none⟩ = some (.int .i64 o1) := P.out.cell 1
  have P_c2 : w6.cell? ⟨w.heap.size, 2, none⟩ = some (.int .i64 o2) := P.out.cell 2
  have P_z : w.heap.size < w6.heap.size := P.out.lt
  by_cases hok : opOk o0 o1 o2 = true
  · rw [hok]
    simp only [opOk, decide_eq_true_eq] at hok
    have hs := doT_stays Gt.out o0 o1 o2 hok.2.2.2.2.1 hok.2.2.2.2.2
    have gu := doT_good Gt.out o0 o1 o2 hok.2.2.2.2.1 hok.2.2.2.2.2
    clear hok
    obtain ⟨u, c, v, hd⟩ : ∃ u c v, doT t o0 o1 o2 = (u, c, v) := ⟨_, _, _, rfl⟩
    rw [hd] at hs gu
    dsimp only at hs gu
    obtain ⟨s1, s2, s3⟩ := hs
    have HD := Lib.hid hd
    clear hd
    have HLu : Hid ((tcells u).length = 16) := Lib.hid (by rw [tcells_len]; exact gu.len)
    have HCu := Lib.hid (tcells_take u gu.len)
    have HOu := Lib.hid (tcells_one u)
    have Gu := Lib.hid gu
    have HRu : Hid (rightB u = true) := Lib.hid ((rightB_iff u Gu.out.len (fun j hj => ⟨Gu.out.key0 j hj, Gu.out.key1 j hj⟩)).2 Gu.out)
    clear gu
    generalize hnu : (lenT u : Int) = nu at s1 s2
    generalize hnt : (lenT t : Int) = nt at s1 s2
    have bu : nu ≤ 8 := by have := cntTo_le u 8; unfold lenT at hnu; omega
    have bt : nt ≤ 8 := by have := cntTo_le t 8; unfold lenT at hnt; omega
    have bu0 : 0 ≤ nu := by omega
    have bt0 : 0 ≤ nt := by omega
    have HNU := Lib.hid hnu
    have HNT := Lib.hid hnt
    clear hnu hnt
    have hw : IntKind.i64.wrap (nu - nt) = nu - nt := IntWalk.i64_in _ (by omega)
    have d1 : decide (-1 ≤ nu - nt) = true := decide_eq_true s2
    have d2 : decide (nu - nt ≤ 1) = true := decide_eq_true s1
    clear bu bt bu0 bt0 s1 s2
    have heq := fun w => tab_eql t Gt.out.len w
    by_cases hc : c = 1
    · have hc0 : (c == 1) = true := by simp [hc]
      clear hc s3
      go_upto_region 8 with fail
      have hfc := field_code
      go_wp2_with ((refine wpList_load_part rfl 27 _ rfl (bT) 0 16 rfl 27 (tcells t) _ T.out (by rw [HLt.out]; decide) Try.underlying27 rfl (by kernel_rfl) ?_; rw [HCt.out]))
      refine (do_eq _ t Gt.out o0 o1 o2 u c v HD.out).mono ?_
      rintro e w7 ⟨rfl, hb7⟩
      clear P_c0 P_c1 P_c2 P_z
      replace HB := Lib.hid (bcall HB.out hb7)
      replace P := Lib.hid (P.out.below hb7)
      replace T := Lib.hid (T.out.below hb7)
      clear hb7
      have P_c0 : w7.cell? ⟨w.heap.size, 0, none⟩ = some (.int .i64 o0) := P.out.cell 0
      have P_c1 : w7.cell? ⟨w.heap.size, 1, none⟩ = some (.int .i64 o1) := P.out.cell 1
      have P_c2 : w7.cell? ⟨w.heap.size, 2, none⟩ = some (.int .i64 o2) := P.out.cell 2
      have P_z : w.heap.size < w7.heap.size := P.out.lt
      go_upto_region 9 with (first | (refine wpList_store_part rfl 27 _ _ rfl w7.heap.size 0 16 (tcells u) rfl rfl 27 _ ((Blk.new w7 [.int .i64 0, .int .i64 0, .int .i64 0, .int .i64 0, .int .i64 0, .int .i64 0, .int .i64 0, .int .i64 0, .int .i64 0, .int .i64 0, .int .i64 0, .int .i64 0, .int .i64 0, .int .i64 0, .int .i64 0, .int .i64 0] 27).alloc _) HLu.out (by decide) (by kernel_rfl) HOu.out ?_; rw [spl_z16 _ HLu.out]; have hP := def_pair w7 (tcells u) [.int .i64 0, .int .i64 0, .int .i64 0, .int .i64 0, .int .i64 0, .int .i64 0, .int .i64 0, .int .i64 0, .int .i64 0, .int .i64 0, .int .i64 0, .int .i64 0, .int .i64 0, .int .i64 0, .int .i64 0, .int .i64 0] [.int .i64 0, .int .i64 0] 27 31; have aa0 := hP.2.1.cell 0; have aa1 := hP.2.1.cell 1; have af0 := hP.2.1.frozen 0; have af1 := hP.2.1.frozen 1))
      have hP := def_pair w7 (tcells u) [.int .i64 0, .int .i64 0, .int .i64 0, .int .i64 0, .int .i64 0, .int .i64 0, .int .i64 0, .int .i64 0, .int .i64 0, .int .i64 0, .int .i64 0, .int .i64 0, .int .i64 0, .int .i64 0, .int .i64 0, .int .i64 0] [.int .i64 0, .int .i64 0] 27 31
      have hge_U := HB.out.size
      have hBB : Below w7.heap.size w7 (((setBlk ((w7.alloc (Obj.cells #[.int .i64 0, .int .i64 0, .int .i64 0, .int .i64 0, .int .i64 0, .int .i64 0, .int .i64 0, .int .i64 0, .int .i64 0, .int .i64 0, .int .i64 0, .int .i64 0, .int .i64 0, .int .i64 0, .int .i64 0, .int .i64 0] 27)).alloc (Obj.cells #[.int .i64 0, .int .i64 0] 31)) w7.heap.size (tcells u)).setCell ⟨w7.heap.size + 1, 0, none⟩ (.int .i64 c)).setCell ⟨w7.heap.size + 1, 1, none⟩ (.int .i64 v)) := bstore (bstore hP.2.2 (Nat.le_succ _) _) (Nat.le_succ _) _
      have U : Hid (Blk (((setBlk ((w7.alloc (Obj.cells #[.int .i64 0, .int .i64 0, .int .i64 0, .int .i64 0, .int .i64 0, .int .i64 0, .int .i64 0, .int .i64 0, .int .i64 0, .int .i64 0, .int .i64 0, .int .i64 0, .int .i64 0, .int .i64 0, .int .i64 0, .int .i64 0] 27)).alloc (Obj.cells #[.int .i64 0, .int .i64 0] 31)) w7.heap.size (tcells u)).setCell ⟨w7.heap.size + 1, 0, none⟩ (.int .i64 c)).setCell ⟨w7.heap.size + 1, 1, none⟩ (.int .i64 v)) w7.heap.size (tcells u) 27) := Lib.hid ((hP.1.other _ (by show w7.heap.size ≠ w7.heap.size + 1; omega)).other _ (by show w7.heap.size ≠ w7.heap.size + 1; omega))
      have A : Hid (Blk (((setBlk ((w7.alloc (Obj.cells #[.int .i64 0, .int .i64 0, .int .i64 0, .int .i64 0, .int .i64 0, .int .i64 0, .int .i64 0, .int .i64 0, .int .i64 0, .int .i64 0, .int .i64 0, .int .i64 0, .int .i64 0, .int .i64 0, .int .i64 0, .int .i64 0] 27)).alloc (Obj.cells #[.int .i64 0, .int .i64 0] 31)) w7.heap.size (tcells u)).setCell ⟨w7.heap.size + 1, 0, none⟩ (.int .i64 c)).setCell ⟨w7.heap.size + 1, 1, none⟩ (.int .i64 v)) (w7.heap.size + 1) [.int .i64 c, .int .i64 v] 31) := Lib.hid (Blk.pair hP.2.1)
      clear P_c0 P_c1 P_c2 P_z
      have hlt_U_P := P.out.lt
      have hlt_U_T := T.out.lt
      replace HB := Lib.hid (bcall HB.out hBB)
      replace P := Lib.hid (P.out.below hBB)
      replace T := Lib.hid (T.out.below hBB)
      clear hBB hP aa0 aa1 af0 af1
      generalize ((setBlk ((w7.alloc (Obj.cells #[.int .i64 0, .int .i64 0, .int .i64 0, .int .i64 0, .int .i64 0, .int .i64 0, .int .i64 0, .int .i64 0, .int .i64 0, .int .i64 0, .int .i64 0, .int .i64 0, .int .i64 0, .int .i64 0, .int .i64 0, .int .i64 0] 27)).alloc (Obj.cells #[.int .i64 0, .int .i64 0] 31)) w7.heap.size (tcells u)).setCell ⟨w7.heap.size + 1, 0, none⟩ (.int .i64 c)).setCell ⟨w7.heap.size + 1, 1, none⟩ (.int .i64 v) = w8 at *
      generalize w7.heap.size = bU at *
      have P_c0 : w8.cell? ⟨w.heap.size, 0, none⟩ = some (.int .i64 o0) := P.out.cell 0
      have P_c1 : w8.cell? ⟨w.heap.size, 1, none⟩ = some (.int .i64 o1) := P.out.cell 1
      have P_c2 : w8.cell? ⟨w.heap.size, 2, none⟩ = some (.int .i64 o2) := P.out.cell 2
      have P_z : w.heap.size < w8.heap.size := P.out.lt
      have A_c0 : w8.cell? ⟨(bU + 1), 0, none⟩ = some (.int .i64 c) := A.out.cell 0
      have A_c1 : w8.cell? ⟨(bU + 1), 1, none⟩ = some (.int .i64 v) := A.out.cell 1
      have A_z : (bU + 1) < w8.heap.size := A.out.lt
      clear P_c0 P_c1 P_c2 P_z
      clear A_c0 A_c1 A_z
      have FP0 : ∀ w' : World, Below w8.heap.size w8 w' → w'.cell? ⟨w.heap.size, 0, none⟩ = some (.int .i64 o0) := fun w' h => (P.out.below h).cell 0
      have FP1 : ∀ w' : World, Below w8.heap.size w8 w' → w'.cell? ⟨w.heap.size, 1, none⟩ = some (.int .i64 o1) := fun w' h => (P.out.below h).cell 1
      have FP2 : ∀ w' : World, Below w8.heap.size w8 w' → w'.cell? ⟨w.heap.size, 2, none⟩ = some (.int .i64 o2) := fun w' h => (P.out.below h).cell 2
      have FA0 : ∀ w' : World, Below w8.heap.size w8 w' → w'.cell? ⟨(bU + 1), 0, none⟩ = some (.int .i64 c) := fun w' h => (A.out.below h).cell 0
      have FA1 : ∀ w' : World, Below w8.heap.size w8 w' → w'.cell? ⟨(bU + 1), 1, none⟩ = some (.int .i64 v) := fun w' h => (A.out.below h).cell 1
      refine wp_region_stable (fun _ w' => Below w8.heap.size w8 w') (by kernel_rfl) (by kernel_rfl) (Below.drew (Below.refl _ _)) ?_
      refine wpB_load 27 _ rfl (bU) (0) (tcells u) _ (by kernel_rfl) rfl 0 (by kernel_rfl) (fun j w' hj hS => (U.out.below hS).range) Try.underlying27 rfl (by rw [HLu.out]; kernel_rfl) (fun K hK => ?_)
      go_simp
      refine hK _ ?_
      clear hK K
      refine wpB_call _ _ (by kernel_rfl) (by kernel_rfl) (fun w' => by kernel_rfl) 0 (by kernel_rfl) (fun j w' hj hS => (len_eq w' u Gu.out nu HNU.out).mono (fun e w2 h => ⟨h.1, Below.trans hS (Below.mono h.2 hS.size)⟩)) (fun K hK => ?_)
      go_simp
      refine hK _ ?_
      clear hK K
      refine wpB_load 27 _ rfl (bT) (0) (tcells t) _ (by kernel_rfl) rfl 0 (by kernel_rfl) (fun j w' hj hS => (T.out.below hS).range) Try.underlying27 rfl (by rw [HLt.out]; kernel_rfl) (fun K hK => ?_)
      go_simp
      refine hK _ ?_
      clear hK K
      refine wpB_call _ _ (by kernel_rfl) (by kernel_rfl) (fun w' => by kernel_rfl) 0 (by kernel_rfl) (fun j w' hj hS => (len_eq w' t Gt.out nt HNT.out).mono (fun e w2 h => ⟨h.1, Below.trans hS (Below.mono h.2 hS.size)⟩)) (fun K hK => ?_)
      go_simp
      refine hK _ ?_
      clear hK K
      refine wpB_val (v := ?v208) (by kernel_rfl) (by kernel_rfl) _ rfl (fun j w' hj hS => ?h208) (fun K hK => ?k208)
      case h208 =>
        go_simp
        try rfl
      go_simp
      refine hK _ ?_
      clear hK K
      refine wpB_val (v := ?v209) (by kernel_rfl) (by kernel_rfl) _ rfl (fun j w' hj hS => ?h209) (fun K hK => ?k209)
      case h209 =>
        go_simp
        try rfl
      go_simp
      refine hK _ ?_
      clear hK K
      refine wpB_nil (fun w' hS => ?_)
      replace HB := Lib.hid (bcall HB.out hS)
      replace P := Lib.hid (P.out.below hS)
      replace T := Lib.hid (T.out.below hS)
      replace U := Lib.hid (U.out.below hS)
      replace A := Lib.hid (A.out.below hS)
      clear hS
      have P_c0 : w'.cell? ⟨w.heap.size, 0, none⟩ = some (.int .i64 o0) := P.out.cell 0
      have P_c1 : w'.cell? ⟨w.heap.size, 1, none⟩ = some (.int .i64 o1) := P.out.cell 1
      have P_c2 : w'.cell? ⟨w.heap.size, 2, none⟩ = some (.int .i64 o2) := P.out.cell 2
      have P_z : w.heap.size < w'.heap.size := P.out.lt
      have A_c0 : w'.cell? ⟨(bU + 1), 0, none⟩ = some (.int .i64 c) := A.out.cell 0
      have A_c1 : w'.cell? ⟨(bU + 1), 1, none⟩ = some (.int .i64 v) := A.out.cell 1
      have A_z : (bU + 1) < w'.heap.size := A.out.lt
      go_wp2_with (refine wpList_load_part rfl 27 _ rfl (bU) 0 16 rfl 27 (tcells u) _ U.out (by rw [HLu.out]; decide) Try.underlying27 rfl (by kernel_rfl) ?_; rw [HCu.out])
      refine (right_eq _ u Gu.out HRu.out).mono ?_
      rintro e w9 ⟨rfl, hb9⟩
      clear P_c0 P_c1 P_c2 P_z
      clear A_c0 A_c1 A_z
      replace HB := Lib.hid (bcall HB.out hb9)
      replace P := Lib.hid (P.out.below hb9)
      replace T := Lib.hid (T.out.below hb9)
      replace U := Lib.hid (U.out.below hb9)
      replace A := Lib.hid (A.out.below hb9)
      clear hb9
      have P_c0 : w9.cell? ⟨w.heap.size, 0, none⟩ = some (.int .i64 o0) := P.out.cell 0
      have P_c1 : w9.cell? ⟨w.heap.size, 1, none⟩ = some (.int .i64 o1) := P.out.cell 1
      have P_c2 : w9.cell? ⟨w.heap.size, 2, none⟩ = some (.int .i64 o2) := P.out.cell 2
      have P_z : w.heap.size < w9.heap.size := P.out.lt
      have A_c0 : w9.cell? ⟨(bU + 1), 0, none⟩ = some (.int .i64 c) := A.out.cell 0
      have A_c1 : w9.cell? ⟨(bU + 1), 1, none⟩ = some (.int .i64 v) := A.out.cell 1
      have A_z : (bU + 1) < w9.heap.size := A.out.lt
      go_wp2_with fail
      go_ret
      exact ⟨by first | rfl | simp, HB.out⟩
    · have hc0 : (c == 1) = false := by simp [hc]
      obtain rfl : u = t := by rcases s3 with h | h; exact absurd h hc; exact h
      clear hc s3
      go_upto_region 8 with fail
      have hfc := field_code
      go_wp2_with ((refine wpList_load_part rfl 27 _ rfl (bT) 0 16 rfl 27 (tcells u) _ T.out (by rw [HLu.out]; decide) Try.underlying27 rfl (by kernel_rfl) ?_; rw [HCu.out]))
      refine (do_eq _ u Gu.out o0 o1 o2 u c v HD.out).mono ?_
      rintro e w7 ⟨rfl, hb7⟩
      clear P_c0 P_c1 P_c2 P_z
      replace HB := Lib.hid (bcall HB.out hb7)
      replace P := Lib.hid (P.out.below hb7)
      replace T := Lib.hid (T.out.below hb7)
      clear hb7
      have P_c0 : w7.cell? ⟨w.heap.size, 0, none⟩ = some (.int .i64 o0) := P.out.cell 0
      have P_c1 : w7.cell? ⟨w.heap.size, 1, none⟩ = some (.int .i64 o1) := P.out.cell 1
      have P_c2 : w7.cell? ⟨w.heap.size, 2, none⟩ = some (.int .i64 o2) := P.out.cell 2
      have P_z : w.heap.size < w7.heap.size := P.out.lt
      go_upto_region 9 with (first | (refine wpList_store_part rfl 27 _ _ rfl w7.heap.size 0 16 (tcells u) rfl rfl 27 _ ((Blk.new w7 [.int .i64 0, .int .i64 0, .int .i64 0, .int .i64 0, .int .i64 0, .int .i64 0, .int .i64 0, .int .i64 0, .int .i64 0, .int .i64 0, .int .i64 0, .int .i64 0, .int .i64 0, .int .i64 0, .int .i64 0, .int .i64 0] 27).alloc _) HLu.out (by decide) (by kernel_rfl) HOu.out ?_; rw [spl_z16 _ HLu.out]; have hP := def_pair w7 (tcells u) [.int .i64 0, .int .i64 0, .int .i64 0, .int .i64 0, .int .i64 0, .int .i64 0, .int .i64 0, .int .i64 0, .int .i64 0, .int .i64 0, .int .i64 0, .int .i64 0, .int .i64 0, .int .i64 0, .int .i64 0, .int .i64 0] [.int .i64 0, .int .i64 0] 27 31; have aa0 := hP.2.1.cell 0; have aa1 := hP.2.1.cell 1; have af0 := hP.2.1.frozen 0; have af1 := hP.2.1.frozen 1))
      have hP := def_pair w7 (tcells u) [.int .i64 0, .int .i64 0, .int .i64 0, .int .i64 0, .int .i64 0, .int .i64 0, .int .i64 0, .int .i64 0, .int .i64 0, .int .i64 0, .int .i64 0, .int .i64 0, .int .i64 0, .int .i64 0, .int .i64 0, .int .i64 0] [.int .i64 0, .int .i64 0] 27 31
      have hge_U := HB.out.size
      have hBB : Below w7.heap.size w7 (((setBlk ((w7.alloc (Obj.cells #[.int .i64 0, .int .i64 0, .int .i64 0, .int .i64 0, .int .i64 0, .int .i64 0, .int .i64 0, .int .i64 0, .int .i64 0, .int .i64 0, .int .i64 0, .int .i64 0, .int .i64 0, .int .i64 0, .int .i64 0, .int .i64 0] 27)).alloc (Obj.cells #[.int .i64 0, .int .i64 0] 31)) w7.heap.size (tcells u)).setCell ⟨w7.heap.size + 1, 0, none⟩ (.int .i64 c)).setCell ⟨w7.heap.size + 1, 1, none⟩ (.int .i64 v)) := bstore (bstore hP.2.2 (Nat.le_succ _) _) (Nat.le_succ _) _
      have U : Hid (Blk (((setBlk ((w7.alloc (Obj.cells #[.int .i64 0, .int .i64 0, .int .i64 0, .int .i64 0, .int .i64 0, .int .i64 0, .int .i64 0, .int .i64 0, .int .i64 0, .int .i64 0, .int .i64 0, .int .i64 0, .int .i64 0, .int .i64 0, .int .i64 0, .int .i64 0] 27)).alloc (Obj.cells #[.int .i64 0, .int .i64 0] 31)) w7.heap.size (tcells u)).setCell ⟨w7.heap.size + 1, 0, none⟩ (.int .i64 c)).setCell ⟨w7.heap.size + 1, 1, none⟩ (.int .i64 v)) w7.heap.size (tcells u) 27) := Lib.hid ((hP.1.other _ (by show w7.heap.size ≠ w7.heap.size + 1; omega)).other _ (by show w7.heap.size ≠ w7.heap.size + 1; omega))
      have A : Hid (Blk (((setBlk ((w7.alloc (Obj.cells #[.int .i64 0, .int .i64 0, .int .i64 0, .int .i64 0, .int .i64 0, .int .i64 0, .int .i64 0, .int .i64 0, .int .i64 0, .int .i64 0, .int .i64 0, .int .i64 0, .int .i64 0, .int .i64 0, .int .i64 0, .int .i64 0] 27)).alloc (Obj.cells #[.int .i64 0, .int .i64 0] 31)) w7.heap.size (tcells u)).setCell ⟨w7.heap.size + 1, 0, none⟩ (.int .i64 c)).setCell ⟨w7.heap.size + 1, 1, none⟩ (.int .i64 v)) (w7.heap.size + 1) [.int .i64 c, .int .i64 v] 31) := Lib.hid (Blk.pair hP.2.1)
      clear P_c0 P_c1 P_c2 P_z
      have hlt_U_P := P.out.lt
      have hlt_U_T := T.out.lt
      replace HB := Lib.hid (bcall HB.out hBB)
      replace P := Lib.hid (P.out.below hBB)
      replace T := Lib.hid (T.out.below hBB)
      clear hBB hP aa0 aa1 af0 af1
      generalize ((setBlk ((w7.alloc (Obj.cells #[.int .i64 0, .int .i64 0, .int .i64 0, .int .i64 0, .int .i64 0, .int .i64 0, .int .i64 0, .int .i64 0, .int .i64 0, .int .i64 0, .int .i64 0, .int .i64 0, .int .i64 0, .int .i64 0, .int .i64 0, .int .i64 0] 27)).alloc (Obj.cells #[.int .i64 0, .int .i64 0] 31)) w7.heap.size (tcells u)).setCell ⟨w7.heap.size + 1, 0, none⟩ (.int .i64 c)).setCell ⟨w7.heap.size + 1, 1, none⟩ (.int .i64 v) = w8 at *
      generalize w7.heap.size = bU at *
      have P_c0 : w8.cell? ⟨w.heap.size, 0, none⟩ = some (.int .i64 o0) := P.out.cell 0
      have P_c1 : w8.cell? ⟨w.heap.size, 1, none⟩ = some (.int .i64 o1) := P.out.cell 1
      have P_c2 : w8.cell? ⟨w.heap.size, 2, none⟩ = some (.int .i64 o2) := P.out.cell 2
      have P_z : w.heap.size < w8.heap.size := P.out.lt
      have A_c0 : w8.cell? ⟨(bU + 1), 0, none⟩ = some (.int .i64 c) := A.out.cell 0
      have A_c1 : w8.cell? ⟨(bU + 1), 1, none⟩ = some (.int .i64 v) := A.out.cell 1
      have A_z : (bU + 1) < w8.heap.size := A.out.lt
      clear P_c0 P_c1 P_c2 P_z
      clear A_c0 A_c1 A_z
      have FP0 : ∀ w' : World, Below w8.heap.size w8 w' → w'.cell? ⟨w.heap.size, 0, none⟩ = some (.int .i64 o0) := fun w' h => (P.out.below h).cell 0
      have FP1 : ∀ w' : World, Below w8.heap.size w8 w' → w'.cell? ⟨w.heap.size, 1, none⟩ = some (.int .i64 o1) := fun w' h => (P.out.below h).cell 1
      have FP2 : ∀ w' : World, Below w8.heap.size w8 w' → w'.cell? ⟨w.heap.size, 2, none⟩ = some (.int .i64 o2) := fun w' h => (P.out.below h).cell 2
      have FA0 : ∀ w' : World, Below w8.heap.size w8 w' → w'.cell? ⟨(bU + 1), 0, none⟩ = some (.int .i64 c) := fun w' h => (A.out.below h).cell 0
      have FA1 : ∀ w' : World, Below w8.heap.size w8 w' → w'.cell? ⟨(bU + 1), 1, none⟩ = some (.int .i64 v) := fun w' h => (A.out.below h).cell 1
      refine wp_region_stable (fun _ w' => Below w8.heap.size w8 w') (by kernel_rfl) (by kernel_rfl) (Below.drew (Below.refl _ _)) ?_
      refine wpB_load 27 _ rfl (bU) (0) (tcells u) _ (by kernel_rfl) rfl 0 (by kernel_rfl) (fun j w' hj hS => (U.out.below hS).range) Try.underlying27 rfl (by rw [HLu.out]; kernel_rfl) (fun K hK => ?_)
      go_simp
      refine hK _ ?_
      clear hK K
      refine wpB_call _ _ (by kernel_rfl) (by kernel_rfl) (fun w' => by kernel_rfl) 0 (by kernel_rfl) (fun j w' hj hS => (len_eq w' u Gu.out nu HNU.out).mono (fun e w2 h => ⟨h.1, Below.trans hS (Below.mono h.2 hS.size)⟩)) (fun K hK => ?_)
      go_simp
      refine hK _ ?_
      clear hK K
      refine wpB_load 27 _ rfl (bT) (0) (tcells u) _ (by kernel_rfl) rfl 0 (by kernel_rfl) (fun j w' hj hS => (T.out.below hS).range) Try.underlying27 rfl (by rw [HLu.out]; kernel_rfl) (fun K hK => ?_)
      go_simp
      refine hK _ ?_
      clear hK K
      refine wpB_call _ _ (by kernel_rfl) (by kernel_rfl) (fun w' => by kernel_rfl) 0 (by kernel_rfl) (fun j w' hj hS => (len_eq w' u Gu.out nt HNT.out).mono (fun e w2 h => ⟨h.1, Below.trans hS (Below.mono h.2 hS.size)⟩)) (fun K hK => ?_)
      go_simp
      refine hK _ ?_
      clear hK K
      refine wpB_val (v := ?v210) (by kernel_rfl) (by kernel_rfl) _ rfl (fun j w' hj hS => ?h210) (fun K hK => ?k210)
      case h210 =>
        go_simp
        try rfl
      go_simp
      refine hK _ ?_
      clear hK K
      refine wpB_val (v := ?v211) (by kernel_rfl) (by kernel_rfl) _ rfl (fun j w' hj hS => ?h211) (fun K hK => ?k211)
      case h211 =>
        go_simp
        try rfl
      go_simp
      refine hK _ ?_
      clear hK K
      refine wpB_nil (fun w' hS => ?_)
      replace HB := Lib.hid (bcall HB.out hS)
      replace P := Lib.hid (P.out.below hS)
      replace T := Lib.hid (T.out.below hS)
      replace U := Lib.hid (U.out.below hS)
      replace A := Lib.hid (A.out.below hS)
      clear hS
      have P_c0 : w'.cell? ⟨w.heap.size, 0, none⟩ = some (.int .i64 o0) := P.out.cell 0
      have P_c1 : w'.cell? ⟨w.heap.size, 1, none⟩ = some (.int .i64 o1) := P.out.cell 1
      have P_c2 : w'.cell? ⟨w.heap.size, 2, none⟩ = some (.int .i64 o2) := P.out.cell 2
      have P_z : w.heap.size < w'.heap.size := P.out.lt
      have A_c0 : w'.cell? ⟨(bU + 1), 0, none⟩ = some (.int .i64 c) := A.out.cell 0
      have A_c1 : w'.cell? ⟨(bU + 1), 1, none⟩ = some (.int .i64 v) := A.out.cell 1
      have A_z : (bU + 1) < w'.heap.size := A.out.lt
      go_wp2_with (refine wpList_load_part rfl 27 _ rfl (bU) 0 16 rfl 27 (tcells u) _ U.out (by rw [HLu.out]; decide) Try.underlying27 rfl (by kernel_rfl) ?_; rw [HCu.out])
      refine (right_eq _ u Gu.out HRu.out).mono ?_
      rintro e w9 ⟨rfl, hb9⟩
      clear P_c0 P_c1 P_c2 P_z
      clear A_c0 A_c1 A_z
      replace HB := Lib.hid (bcall HB.out hb9)
      replace P := Lib.hid (P.out.below hb9)
      replace T := Lib.hid (T.out.below hb9)
      replace U := Lib.hid (U.out.below hb9)
      replace A := Lib.hid (A.out.below hb9)
      clear hb9
      have P_c0 : w9.cell? ⟨w.heap.size, 0, none⟩ = some (.int .i64 o0) := P.out.cell 0
      have P_c1 : w9.cell? ⟨w.heap.size, 1, none⟩ = some (.int .i64 o1) := P.out.cell 1
      have P_c2 : w9.cell? ⟨w.heap.size, 2, none⟩ = some (.int .i64 o2) := P.out.cell 2
      have P_z : w.heap.size < w9.heap.size := P.out.lt
      have A_c0 : w9.cell? ⟨(bU + 1), 0, none⟩ = some (.int .i64 c) := A.out.cell 0
      have A_c1 : w9.cell? ⟨(bU + 1), 1, none⟩ = some (.int .i64 v) := A.out.cell 1
      have A_z : (bU + 1) < w9.heap.size := A.out.lt
      go_wp2_with (first | (refine wpList_load_part_g (by kernel_rfl) 27 _ rfl (bU) 0 16 rfl 27 (tcells u) _ U.out (by rw [HLu.out]; decide) Try.underlying27 rfl (by kernel_rfl) ?_; rw [HCu.out]) | (refine wpList_load_part_g (by kernel_rfl) 27 _ rfl (bT) 0 16 rfl 27 (tcells u) _ T.out (by rw [HLu.out]; decide) Try.underlying27 rfl (by kernel_rfl) ?_; rw [HCu.out]))
      go_ret
      exact ⟨by first | rfl | simp, HB.out⟩
  · rw [Bool.not_eq_true] at hok
    rw [hok]
    clear hok
    go_wp2_with fail
    go_ret
    exact ⟨by first | rfl | simp, HB.out⟩
end Go.Proofs.Ytakemnpicokaiaa
