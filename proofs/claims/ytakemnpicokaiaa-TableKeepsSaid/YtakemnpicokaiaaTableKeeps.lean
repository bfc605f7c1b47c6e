/- The walk of the law TableKeeps. -/
import Derived.Test.YtakemnpicokaiaaTabEq
import Derived.Test.YtakemnpicokaiaaTabled
import Derived.Deep.Cut
namespace Go.Proofs.Ytakemnpicokaiaa
open Go.RowKit
set_option linter.unusedVariables false
set_option maxHeartbeats 4000000 in
theorem walk_TableKeeps (a0 : Option Addr) (len0 cap0 : Nat) (f0 : Nat → Nat → Int) (a1 a2 a3 : Int) (w : World) (h0 : Rws 3 (fun _ => .i64) w a0 len0 cap0 f0) (w1 : (Lit.int .i64 a1).wf = true) (w2 : (Lit.int .i64 a2).wf = true) (w3 : (Lit.int .i64 a3).wf = true) :
    Calls Try.prog 3 #[.slice a0 len0 cap0, .int .i64 a1, .int .i64 a2, .int .i64 a3] w fun e w' => e = .returned (.bool true) ∧ Below w.heap.size w w' := by
  clear w1 w2 w3
  have H0 := Lib.hid h0
  clear h0
  have HB := Lib.hid (Below.refl w.heap.size w)
  go_enter Try.func3, Try.ntmps3
  go_wp2_with fail
  refine (tabled_any _).mono ?_
  rintro e w1 ⟨rfl, hb1⟩
  replace HB := Lib.hid (bcall HB.out hb1)
  clear hb1
  have hbt := HB.out
  go_wp2_with fail
  refine (filled_any _ a0 len0 cap0 f0 (H0.out.below hbt)).mono ?_
  rintro e w2 ⟨t, gt, rfl, hb2⟩
  replace HB := Lib.hid (bcall HB.out hb2)
  clear hb2 hbt H0
  have HLt : Hid ((tcells t).length = 16) := Lib.hid (by rw [tcells_len]; exact gt.len)
  have HCt := Lib.hid (tcells_take t gt.len)
  have HOt := Lib.hid (tcells_one t)
  have Gt := Lib.hid gt
  clear gt
  go_upto_region 4 with (first | (refine wpList_store_part rfl 27 _ _ rfl w2.heap.size 0 16 (tcells t) rfl rfl 27 _ (Blk.new w2 [.int .i64 0, .int .i64 0, .int .i64 0, .int .i64 0, .int .i64 0, .int .i64 0, .int .i64 0, .int .i64 0, .int .i64 0, .int .i64 0, .int .i64 0, .int .i64 0, .int .i64 0, .int .i64 0, .int .i64 0, .int .i64 0] 27) HLt.out (by decide) (by kernel_rfl) HOt.out ?_; rw [spl_z16 _ HLt.out]))
  have hBB : Below w2.heap.size w2 (setBlk (w2.alloc (Obj.cells #[.int .i64 0, .int .i64 0, .int .i64 0, .int .i64 0, .int .i64 0, .int .i64 0, .int .i64 0, .int .i64 0, .int .i64 0, .int .i64 0, .int .i64 0, .int .i64 0, .int .i64 0, .int .i64 0, .int .i64 0, .int .i64 0] 27)) w2.heap.size (tcells t)) := bsetBlk (balloc (Below.refl _ _) _) (Nat.le_refl _) _
  have T : Hid (Blk (setBlk (w2.alloc (Obj.cells #[.int .i64 0, .int .i64 0, .int .i64 0, .int .i64 0, .int .i64 0, .int .i64 0, .int .i64 0, .int .i64 0, .int .i64 0, .int .i64 0, .int .i64 0, .int .i64 0, .int .i64 0, .int .i64 0, .int .i64 0, .int .i64 0] 27)) w2.heap.size (tcells t)) w2.heap.size (tcells t) 27) := Lib.hid ((Blk.new w2 [.int .i64 0, .int .i64 0, .int .i64 0, .int .i64 0, .int .i64 0, .int .i64 0, .int .i64 0, .int .i64 0, .int .i64 0, .int .i64 0, .int .i64 0, .int .i64 0, .int .i64 0, .int .i64 0, .int .i64 0, .int .i64 0] 27).setBlk _)
  replace HB := Lib.hid (bcall HB.out hBB)
  clear hBB
  generalize setBlk (w2.alloc (Obj.cells #[.int .i64 0, .int .i64 0, .int .i64 0, .int .i64 0, .int .i64 0, .int .i64 0, .int .i64 0, .int .i64 0, .int .i64 0, .int .i64 0, .int .i64 0, .int .i64 0, .int .i64 0, .int .i64 0, .int .i64 0, .int .i64 0] 27)) w2.heap.size (tcells t) = w3 at *
  generalize w2.heap.size = bT at *
  have k0 := pickZ_nonneg a1 12 (by decide)
  have k1 := pickZ_lt a1 12 (by decide)
  have l0 := pickZ_nonneg a2 12 (by decide)
  have l1 := pickZ_lt a2 12 (by decide)
  have v0 := pickZ_nonneg a3 4294967296 (by decide)
  have v1 := pickZ_lt a3 4294967296 (by decide)
  go_upto_region 5 with (go_at_call 21; refine (pick_any _ _ _ (by decide) (by decide)).mono ?_; rintro e w' ⟨rfl, rfl⟩)
  generalize hgk : 1 + pickZ a1 12 = k at *
  have k2 : 1 ≤ k := by omega
  have k3 : k ≤ 12 := by omega
  clear k0 k1 hgk
  generalize hgl : 1 + pickZ a2 12 = l at *
  have l2 : 1 ≤ l := by omega
  have l3 : l ≤ 12 := by omega
  clear l0 l1 hgl
  generalize pickZ a3 4294967296 = v at *
  obtain ⟨c1, v1, hpl⟩ : ∃ c1 v1 : Int, peekA t l = (c1, v1) := ⟨_, _, rfl⟩
  have HPL := Lib.hid hpl
  clear hpl
  go_upto_region 6 with ((refine wpList_load_part rfl 27 _ rfl (bT) 0 16 rfl 27 (tcells t) _ T.out (by rw [HLt.out]; decide) Try.underlying27 rfl (by kernel_rfl) ?_; rw [HCt.out]))
  refine (peek_eq _ t Gt.out l l2 (by omega) HPL.out).mono ?_
  rintro e w4 ⟨rfl, hb4⟩
  replace HB := Lib.hid (bcall HB.out hb4)
  replace T := Lib.hid (T.out.below hb4)
  clear hb4
  go_upto_region 6 with fail
  have hb5 := balloc (Below.refl _ w4) (Obj.cells #[.int .i64 c1, .int .i64 v1] 31)
  have P := Lib.hid (Blk.new w4 [.int .i64 c1, .int .i64 v1] 31)
  change Hid (Blk (w4.alloc (Obj.cells #[.int .i64 c1, .int .i64 v1] 31)) _ _ _) at P
  have ZP : Hid ((w4.alloc (Obj.cells #[.int .i64 c1, .int .i64 v1] 31)).heap.size = w4.heap.size + 1) := World.size_alloc _ _
  replace HB := Lib.hid (bcall HB.out hb5)
  replace T := Lib.hid (T.out.below hb5)
  clear hb5
  generalize w4.alloc (Obj.cells #[.int .i64 c1, .int .i64 v1] 31) = w5 at *
  generalize w4.heap.size = bP at *
  have P_c0 : w5.cell? ⟨bP, 0, none⟩ = some (.int .i64 c1) := P.out.cell 0
  have P_c1 : w5.cell? ⟨bP, 1, none⟩ = some (.int .i64 v1) := P.out.cell 1
  have P_z : bP < w5.heap.size := P.out.lt
  go_upto_region 7 with ((refine wpList_load_part rfl 27 _ rfl (bT) 0 16 rfl 27 (tcells t) _ T.out (by rw [HLt.out]; decide) Try.underlying27 rfl (by kernel_rfl) ?_; rw [HCt.out]))
  rcases put_cases Gt.out k v k2 (by omega) v0 (by omega) with ⟨hd, h6, hp⟩ | ⟨u, hd, gu, hpk, hpo, -⟩
  · have HP := Lib.hid hp
    have H6 := Lib.hid h6
    have heq := fun w => tab_eql t (by have := HLt.out; rwa [tcells_len] at this) w
    have hfld := field_code
    refine (do_eq _ t Gt.out 1 k v t 3 0 hd).mono ?_
    rintro e w6 ⟨rfl, hb6⟩
    clear P_c0 P_c1 P_z
    replace HB := Lib.hid (bcall HB.out hb6)
    replace T := Lib.hid (T.out.below hb6)
    replace P := Lib.hid (P.out.below hb6)
    clear hb6
    have P_c0 : w6.cell? ⟨bP, 0, none⟩ = some (.int .i64 c1) := P.out.cell 0
    have P_c1 : w6.cell? ⟨bP, 1, none⟩ = some (.int .i64 v1) := P.out.cell 1
    have P_z : bP < w6.heap.size := P.out.lt
    clear hp h6 hd
    go_upto_region 7 with (first | (refine wpList_store_part rfl 27 _ _ rfl w6.heap.size 0 16 (tcells t) rfl rfl 27 _ ((Blk.new w6 [.int .i64 0, .int .i64 0, .int .i64 0, .int .i64 0, .int .i64 0, .int .i64 0, .int .i64 0, .int .i64 0, .int .i64 0, .int .i64 0, .int .i64 0, .int .i64 0, .int .i64 0, .int .i64 0, .int .i64 0, .int .i64 0] 27).alloc _) HLt.out (by decide) (by kernel_rfl) HOt.out ?_; rw [spl_z16 _ HLt.out]; have hP := def_pair w6 (tcells t) [.int .i64 0, .int .i64 0, .int .i64 0, .int .i64 0, .int .i64 0, .int .i64 0, .int .i64 0, .int .i64 0, .int .i64 0, .int .i64 0, .int .i64 0, .int .i64 0, .int .i64 0, .int .i64 0, .int .i64 0, .int .i64 0] [.int .i64 0, .int .i64 0] 27 31; have aa0 := hP.2.1.cell 0; have aa1 := hP.2.1.cell 1; have af0 := hP.2.1.frozen 0; have af1 := hP.2.1.frozen 1))
    have hP := def_pair w6 (tcells t) [.int .i64 0, .int .i64 0, .int .i64 0, .int .i64 0, .int .i64 0, .int .i64 0, .int .i64 0, .int .i64 0, .int .i64 0, .int .i64 0, .int .i64 0, .int .i64 0, .int .i64 0, .int .i64 0, .int .i64 0, .int .i64 0] [.int .i64 0, .int .i64 0] 27 31
    have hBB : Below w6.heap.size w6 (((setBlk ((w6.alloc (Obj.cells #[.int .i64 0, .int .i64 0, .int .i64 0, .int .i64 0, .int .i64 0, .int .i64 0, .int .i64 0, .int .i64 0, .int .i64 0, .int .i64 0, .int .i64 0, .int .i64 0, .int .i64 0, .int .i64 0, .int .i64 0, .int .i64 0] 27)).alloc (Obj.cells #[.int .i64 0, .int .i64 0] 31)) w6.heap.size (tcells t)).setCell ⟨w6.heap.size + 1, 0, none⟩ (.int .i64 3)).setCell ⟨w6.heap.size + 1, 1, none⟩ (.int .i64 0)) := bstore (bstore hP.2.2 (Nat.le_succ _) _) (Nat.le_succ _) _
    have U : Hid (Blk (((setBlk ((w6.alloc (Obj.cells #[.int .i64 0, .int .i64 0, .int .i64 0, .int .i64 0, .int .i64 0, .int .i64 0, .int .i64 0, .int .i64 0, .int .i64 0, .int .i64 0, .int .i64 0, .int .i64 0, .int .i64 0, .int .i64 0, .int .i64 0, .int .i64 0] 27)).alloc (Obj.cells #[.int .i64 0, .int .i64 0] 31)) w6.heap.size (tcells t)).setCell ⟨w6.heap.size + 1, 0, none⟩ (.int .i64 3)).setCell ⟨w6.heap.size + 1, 1, none⟩ (.int .i64 0)) w6.heap.size (tcells t) 27) := Lib.hid ((hP.1.other _ (by show w6.heap.size ≠ w6.heap.size + 1; omega)).other _ (by show w6.heap.size ≠ w6.heap.size + 1; omega))
    have A : Hid (Blk (((setBlk ((w6.alloc (Obj.cells #[.int .i64 0, .int .i64 0, .int .i64 0, .int .i64 0, .int .i64 0, .int .i64 0, .int .i64 0, .int .i64 0, .int .i64 0, .int .i64 0, .int .i64 0, .int .i64 0, .int .i64 0, .int .i64 0, .int .i64 0, .int .i64 0] 27)).alloc (Obj.cells #[.int .i64 0, .int .i64 0] 31)) w6.heap.size (tcells t)).setCell ⟨w6.heap.size + 1, 0, none⟩ (.int .i64 3)).setCell ⟨w6.heap.size + 1, 1, none⟩ (.int .i64 0)) (w6.heap.size + 1) [.int .i64 3, .int .i64 0] 31) := Lib.hid (Blk.pair hP.2.1)
    clear P_c0 P_c1 P_z
    have hlt_U_T := T.out.lt
    have hlt_U_P := P.out.lt
    replace HB := Lib.hid (bcall HB.out hBB)
    replace T := Lib.hid (T.out.below hBB)
    replace P := Lib.hid (P.out.below hBB)
    clear hBB hP aa0 aa1 af0 af1
    generalize ((setBlk ((w6.alloc (Obj.cells #[.int .i64 0, .int .i64 0, .int .i64 0, .int .i64 0, .int .i64 0, .int .i64 0, .int .i64 0, .int .i64 0, .int .i64 0, .int .i64 0, .int .i64 0, .int .i64 0, .int .i64 0, .int .i64 0, .int .i64 0, .int .i64 0] 27)).alloc (Obj.cells #[.int .i64 0, .int .i64 0] 31)) w6.heap.size (tcells t)).setCell ⟨w6.heap.size + 1, 0, none⟩ (.int .i64 3)).setCell ⟨w6.heap.size + 1, 1, none⟩ (.int .i64 0) = w7 at *
    generalize w6.heap.size = bU at *
    have P_c0 : w7.cell? ⟨bP, 0, none⟩ = some (.int .i64 c1) := P.out.cell 0
    have P_c1 : w7.cell? ⟨bP, 1, none⟩ = some (.int .i64 v1) := P.out.cell 1
    have P_z : bP < w7.heap.size := P.out.lt
    have A_c0 : w7.cell? ⟨(bU + 1), 0, none⟩ = some (.int .i64 3) := A.out.cell 0
    have A_c1 : w7.cell? ⟨(bU + 1), 1, none⟩ = some (.int .i64 0) := A.out.cell 1
    have A_z : (bU + 1) < w7.heap.size := A.out.lt
    go_wp2_with (refine wpList_load_part rfl 27 _ rfl (bT) 0 16 rfl 27 (tcells t) _ T.out (by rw [HLt.out]; decide) Try.underlying27 rfl (by kernel_rfl) ?_; rw [HCt.out])
    refine (len_eq _ t Gt.out 6 (by rw [H6.out]; rfl)).mono ?_
    rintro e w8 ⟨rfl, hb8⟩
    clear P_c0 P_c1 P_z
    clear A_c0 A_c1 A_z
    replace HB := Lib.hid (bcall HB.out hb8)
    replace T := Lib.hid (T.out.below hb8)
    replace P := Lib.hid (P.out.below hb8)
    replace U := Lib.hid (U.out.below hb8)
    replace A := Lib.hid (A.out.below hb8)
    clear hb8
    have P_c0 : w8.cell? ⟨bP, 0, none⟩ = some (.int .i64 c1) := P.out.cell 0
    have P_c1 : w8.cell? ⟨bP, 1, none⟩ = some (.int .i64 v1) := P.out.cell 1
    have P_z : bP < w8.heap.size := P.out.lt
    have A_c0 : w8.cell? ⟨(bU + 1), 0, none⟩ = some (.int .i64 3) := A.out.cell 0
    have A_c1 : w8.cell? ⟨(bU + 1), 1, none⟩ = some (.int .i64 0) := A.out.cell 1
    have A_z : (bU + 1) < w8.heap.size := A.out.lt
    go_wp2_with (first | (refine wpList_load_part_g (by kernel_rfl) 27 _ rfl (bU) 0 16 rfl 27 (tcells t) _ U.out (by rw [HLt.out]; decide) Try.underlying27 rfl (by kernel_rfl) ?_; rw [HCt.out]) | (refine wpList_load_part_g (by kernel_rfl) 27 _ rfl (bT) 0 16 rfl 27 (tcells t) _ T.out (by rw [HLt.out]; decide) Try.underlying27 rfl (by kernel_rfl) ?_; rw [HCt.out]))
    refine (peek_eq _ t Gt.out k k2 (by omega) HP.out).mono ?_
    rintro e w9 ⟨rfl, hb9⟩
    clear P_c0 P_c1 P_z
    clear A_c0 A_c1 A_z
    replace HB := Lib.hid (bcall HB.out hb9)
    replace T := Lib.hid (T.out.below hb9)
    replace P := Lib.hid (P.out.below hb9)
    replace U := Lib.hid (U.out.below hb9)
    replace A := Lib.hid (A.out.below hb9)
    clear hb9
    have P_c0 : w9.cell? ⟨bP, 0, none⟩ = some (.int .i64 c1) := P.out.cell 0
    have P_c1 : w9.cell? ⟨bP, 1, none⟩ = some (.int .i64 v1) := P.out.cell 1
    have P_z : bP < w9.heap.size := P.out.lt
    have A_c0 : w9.cell? ⟨(bU + 1), 0, none⟩ = some (.int .i64 3) := A.out.cell 0
    have A_c1 : w9.cell? ⟨(bU + 1), 1, none⟩ = some (.int .i64 0) := A.out.cell 1
    have A_z : (bU + 1) < w9.heap.size := A.out.lt
    go_wp2_with fail
    go_ret
    exact ⟨by first | rfl | simp, HB.out⟩
  · have HPK := Lib.hid hpk
    have HPO : Hid (l ≠ k → peekA u l = (c1, v1)) := Lib.hid (fun hne => (hpo l (by omega) hne).trans HPL.out)
    have HLu : Hid ((tcells u).length = 16) := Lib.hid (by rw [tcells_len]; exact gu.len)
    have HCu := Lib.hid (tcells_take u gu.len)
    have HOu := Lib.hid (tcells_one u)
    have Gu := Lib.hid gu
    refine (do_eq _ t Gt.out 1 k v u 1 0 hd).mono ?_
    rintro e w6 ⟨rfl, hb6⟩
    clear P_c0 P_c1 P_z
    replace HB := Lib.hid (bcall HB.out hb6)
    replace T := Lib.hid (T.out.below hb6)
    replace P := Lib.hid (P.out.below hb6)
    clear hb6
    have P_c0 : w6.cell? ⟨bP, 0, none⟩ = some (.int .i64 c1) := P.out.cell 0
    have P_c1 : w6.cell? ⟨bP, 1, none⟩ = some (.int .i64 v1) := P.out.cell 1
    have P_z : bP < w6.heap.size := P.out.lt
    clear gu hpk hpo hd
    go_upto_region 7 with (first | (refine wpList_store_part rfl 27 _ _ rfl w6.heap.size 0 16 (tcells u) rfl rfl 27 _ ((Blk.new w6 [.int .i64 0, .int .i64 0, .int .i64 0, .int .i64 0, .int .i64 0, .int .i64 0, .int .i64 0, .int .i64 0, .int .i64 0, .int .i64 0, .int .i64 0, .int .i64 0, .int .i64 0, .int .i64 0, .int .i64 0, .int .i64 0] 27).alloc _) HLu.out (by decide) (by kernel_rfl) HOu.out ?_; rw [spl_z16 _ HLu.out]; have hP := def_pair w6 (tcells u) [.int .i64 0, .int .i64 0, .int .i64 0, .int .i64 0, .int .i64 0, .int .i64 0, .int .i64 0, .int .i64 0, .int .i64 0, .int .i64 0, .int .i64 0, .int .i64 0, .int .i64 0, .int .i64 0, .int .i64 0, .int .i64 0] [.int .i64 0, .int .i64 0] 27 31; have aa0 := hP.2.1.cell 0; have aa1 := hP.2.1.cell 1; have af0 := hP.2.1.frozen 0; have af1 := hP.2.1.frozen 1))
    have hP := def_pair w6 (tcells u) [.int .i64 0, .int .i64 0, .int .i64 0, .int .i64 0, .int .i64 0, .int .i64 0, .int .i64 0, .int .i64 0, .int .i64 0, .int .i64 0, .int .i64 0, .int .i64 0, .int .i64 0, .int .i64 0, .int .i64 0, .int .i64 0] [.int .i64 0, .int .i64 0] 27 31
    have hBB : Below w6.heap.size w6 (((setBlk ((w6.alloc (Obj.cells #[.int .i64 0, .int .i64 0, .int .i64 0, .int .i64 0, .int .i64 0, .int .i64 0, .int .i64 0, .int .i64 0, .int .i64 0, .int .i64 0, .int .i64 0, .int .i64 0, .int .i64 0, .int .i64 0, .int .i64 0, .int .i64 0] 27)).alloc (Obj.cells #[.int .i64 0, .int .i64 0] 31)) w6.heap.size (tcells u)).setCell ⟨w6.heap.size + 1, 0, none⟩ (.int .i64 1)).setCell ⟨w6.heap.size + 1, 1, none⟩ (.int .i64 0)) := bstore (bstore hP.2.2 (Nat.le_succ _) _) (Nat.le_succ _) _
    have U : Hid (Blk (((setBlk ((w6.alloc (Obj.cells #[.int .i64 0, .int .i64 0, .int .i64 0, .int .i64 0, .int .i64 0, .int .i64 0, .int .i64 0, .int .i64 0, .int .i64 0, .int .i64 0, .int .i64 0, .int .i64 0, .int .i64 0, .int .i64 0, .int .i64 0, .int .i64 0] 27)).alloc (Obj.cells #[.int .i64 0, .int .i64 0] 31)) w6.heap.size (tcells u)).setCell ⟨w6.heap.size + 1, 0, none⟩ (.int .i64 1)).setCell ⟨w6.heap.size + 1, 1, none⟩ (.int .i64 0)) w6.heap.size (tcells u) 27) := Lib.hid ((hP.1.other _ (by show w6.heap.size ≠ w6.heap.size + 1; omega)).other _ (by show w6.heap.size ≠ w6.heap.size + 1; omega))
    have A : Hid (Blk (((setBlk ((w6.alloc (Obj.cells #[.int .i64 0, .int .i64 0, .int .i64 0, .int .i64 0, .int .i64 0, .int .i64 0, .int .i64 0, .int .i64 0, .int .i64 0, .int .i64 0, .int .i64 0, .int .i64 0, .int .i64 0, .int .i64 0, .int .i64 0, .int .i64 0] 27)).alloc (Obj.cells #[.int .i64 0, .int .i64 0] 31)) w6.heap.size (tcells u)).setCell ⟨w6.heap.size + 1, 0, none⟩ (.int .i64 1)).setCell ⟨w6.heap.size + 1, 1, none⟩ (.int .i64 0)) (w6.heap.size + 1) [.int .i64 1, .int .i64 0] 31) := Lib.hid (Blk.pair hP.2.1)
    clear P_c0 P_c1 P_z
    have hlt_U_T := T.out.lt
    have hlt_U_P := P.out.lt
    replace HB := Lib.hid (bcall HB.out hBB)
    replace T := Lib.hid (T.out.below hBB)
    replace P := Lib.hid (P.out.below hBB)
    clear hBB hP aa0 aa1 af0 af1
    generalize ((setBlk ((w6.alloc (Obj.cells #[.int .i64 0, .int .i64 0, .int .i64 0, .int .i64 0, .int .i64 0, .int .i64 0, .int .i64 0, .int .i64 0, .int .i64 0, .int .i64 0, .int .i64 0, .int .i64 0, .int .i64 0, .int .i64 0, .int .i64 0, .int .i64 0] 27)).alloc (Obj.cells #[.int .i64 0, .int .i64 0] 31)) w6.heap.size (tcells u)).setCell ⟨w6.heap.size + 1, 0, none⟩ (.int .i64 1)).setCell ⟨w6.heap.size + 1, 1, none⟩ (.int .i64 0) = w7 at *
    generalize w6.heap.size = bU at *
    have P_c0 : w7.cell? ⟨bP, 0, none⟩ = some (.int .i64 c1) := P.out.cell 0
    have P_c1 : w7.cell? ⟨bP, 1, none⟩ = some (.int .i64 v1) := P.out.cell 1
    have P_z : bP < w7.heap.size := P.out.lt
    have A_c0 : w7.cell? ⟨(bU + 1), 0, none⟩ = some (.int .i64 1) := A.out.cell 0
    have A_c1 : w7.cell? ⟨(bU + 1), 1, none⟩ = some (.int .i64 0) := A.out.cell 1
    have A_z : (bU + 1) < w7.heap.size := A.out.lt
    go_upto_region 9 with fail
    by_cases hlk : l = k
    · have hb0 : (l == k) = true := by simp [hlk]
      clear hlk
      clear P_c0 P_c1 P_z
      clear A_c0 A_c1 A_z
      have FP0 : ∀ w' : World, Below w7.heap.size w7 w' → w'.cell? ⟨bP, 0, none⟩ = some (.int .i64 c1) := fun w' h => (P.out.below h).cell 0
      have FP1 : ∀ w' : World, Below w7.heap.size w7 w' → w'.cell? ⟨bP, 1, none⟩ = some (.int .i64 v1) := fun w' h => (P.out.below h).cell 1
      have FA0 : ∀ w' : World, Below w7.heap.size w7 w' → w'.cell? ⟨(bU + 1), 0, none⟩ = some (.int .i64 1) := fun w' h => (A.out.below h).cell 0
      have FA1 : ∀ w' : World, Below w7.heap.size w7 w' → w'.cell? ⟨(bU + 1), 1, none⟩ = some (.int .i64 0) := fun w' h => (A.out.below h).cell 1
      refine wp_region_stable (fun _ w' => Below w7.heap.size w7 w') (by kernel_rfl) (by kernel_rfl) (Below.drew (Below.refl _ _)) ?_
      refine wpB_val (v := ?v1) (by kernel_rfl) (by kernel_rfl) 0 (by kernel_rfl) (fun j w' hj hS => ?h1) (fun K hK => ?k1)
      case h1 =>
        have c_P0 := FP0 w' hS
        have c_P1 := FP1 w' hS
        have c_A0 := FA0 w' hS
        have c_A1 := FA1 w' hS
        go_simp
        try rfl
      go_simp
      refine hK _ ?_
      clear hK K
      refine wpB_val (v := ?v2) (by kernel_rfl) (by kernel_rfl) _ rfl (fun j w' hj hS => ?h2) (fun K hK => ?k2)
      case h2 =>
        go_simp
        try rfl
      go_simp
      refine hK _ ?_
      clear hK K
      refine wpB_val (v := ?v3) (by kernel_rfl) (by kernel_rfl) _ rfl (fun j w' hj hS => ?h3) (fun K hK => ?k3)
      case h3 =>
        go_simp
        try rfl
      go_simp
      refine hK _ ?_
      clear hK K
      refine wpB_val (v := ?v4) (by kernel_rfl) (by kernel_rfl) _ rfl (fun j w' hj hS => ?h4) (fun K hK => ?k4)
      case h4 =>
        go_simp
        try rfl
      go_simp
      refine hK _ ?_
      clear hK K
      refine wpB_load 27 _ rfl (bU) (0) (tcells u) _ (by kernel_rfl) rfl 0 (by kernel_rfl) (fun j w' hj hS => (U.out.below hS).range) Try.underlying27 rfl (by rw [HLu.out]; kernel_rfl) (fun K hK => ?_)
      go_simp
      refine hK _ ?_
      clear hK K
      refine wpB_val (v := ?v5) (by kernel_rfl) (by kernel_rfl) _ rfl (fun j w' hj hS => ?h5) (fun K hK => ?k5)
      case h5 =>
        go_simp
        try rfl
      go_simp
      refine hK _ ?_
      clear hK K
      refine wpB_call _ _ (by kernel_rfl) (by kernel_rfl) (fun w' => by kernel_rfl) 0 (by kernel_rfl) (fun j w' hj hS => (peek_eq w' u Gu.out k k2 (by omega) HPK.out).mono (fun e w2 h => ⟨h.1, Below.trans hS (Below.mono h.2 hS.size)⟩)) (fun K hK => ?_)
      go_simp
      refine hK _ ?_
      clear hK K
      refine wpB_val (v := ?v6) (by kernel_rfl) (by kernel_rfl) _ rfl (fun j w' hj hS => ?h6) (fun K hK => ?k6)
      case h6 =>
        go_simp
        try rfl
      go_simp
      refine hK _ ?_
      clear hK K
      refine wpB_val (v := ?v7) (by kernel_rfl) (by kernel_rfl) _ rfl (fun j w' hj hS => ?h7) (fun K hK => ?k7)
      case h7 =>
        go_simp
        try rfl
      go_simp
      refine hK _ ?_
      clear hK K
      refine wpB_val (v := ?v8) (by kernel_rfl) (by kernel_rfl) _ rfl (fun j w' hj hS => ?h8) (fun K hK => ?k8)
      case h8 =>
        go_simp
        try rfl
      go_simp
      refine hK _ ?_
      clear hK K
      refine wpB_val (v := ?v9) (by kernel_rfl) (by kernel_rfl) _ rfl (fun j w' hj hS => ?h9) (fun K hK => ?k9)
      case h9 =>
        go_simp
        try rfl
      go_simp
      refine hK _ ?_
      clear hK K
      refine wpB_val (v := ?v10) (by kernel_rfl) (by kernel_rfl) _ rfl (fun j w' hj hS => ?h10) (fun K hK => ?k10)
      case h10 =>
        go_simp
        try rfl
      go_simp
      refine hK _ ?_
      clear hK K
      refine wpB_val (v := ?v11) (by kernel_rfl) (by kernel_rfl) _ rfl (fun j w' hj hS => ?h11) (fun K hK => ?k11)
      case h11 =>
        go_simp
        try rfl
      go_simp
      refine hK _ ?_
      clear hK K
      refine wpB_val (v := ?v12) (by kernel_rfl) (by kernel_rfl) _ rfl (fun j w' hj hS => ?h12) (fun K hK => ?k12)
      case h12 =>
        go_simp
        try rfl
      go_simp
      refine hK _ ?_
      clear hK K
      refine wpB_val (v := ?v13) (by kernel_rfl) (by kernel_rfl) _ rfl (fun j w' hj hS => ?h13) (fun K hK => ?k13)
      case h13 =>
        go_simp
        try rfl
      go_simp
      refine hK _ ?_
      clear hK K
      refine wpB_val (v := ?v14) (by kernel_rfl) (by kernel_rfl) _ rfl (fun j w' hj hS => ?h14) (fun K hK => ?k14)
      case h14 =>
        go_simp
        try rfl
      go_simp
      refine hK _ ?_
      clear hK K
      refine wpB_skip (by kernel_rfl) (by kernel_rfl) (fun K hK => ?_)
      go_simp
      refine hK _ ?_
      clear hK K
      refine wpB_skip (by kernel_rfl) (by kernel_rfl) (fun K hK => ?_)
      go_simp
      refine hK _ ?_
      clear hK K
      refine wpB_skip (by kernel_rfl) (by kernel_rfl) (fun K hK => ?_)
      go_simp
      refine hK _ ?_
      clear hK K
      refine wpB_skip (by kernel_rfl) (by kernel_rfl) (fun K hK => ?_)
      go_simp
      refine hK _ ?_
      clear hK K
      refine wpB_skip (by kernel_rfl) (by kernel_rfl) (fun K hK => ?_)
      go_simp
      refine hK _ ?_
      clear hK K
      refine wpB_val (v := ?v15) (by kernel_rfl) (by kernel_rfl) _ rfl (fun j w' hj hS => ?h15) (fun K hK => ?k15)
      case h15 =>
        go_simp
        try rfl
      go_simp
      refine hK _ ?_
      clear hK K
      refine wpB_val (v := ?v16) (by kernel_rfl) (by kernel_rfl) _ rfl (fun j w' hj hS => ?h16) (fun K hK => ?k16)
      case h16 =>
        go_simp
        try rfl
      go_simp
      refine hK _ ?_
      clear hK K
      refine wpB_val (v := ?v17) (by kernel_rfl) (by kernel_rfl) _ rfl (fun j w' hj hS => ?h17) (fun K hK => ?k17)
      case h17 =>
        go_simp
        try rfl
      go_simp
      refine hK _ ?_
      clear hK K
      refine wpB_nil (fun w' hS => ?_)
      go_wp2_with fail
      go_ret
      exact ⟨by first | rfl | simp, bcall HB.out hS⟩
    · have hb0 : (l == k) = false := by simp [hlk]
      have HQ := Lib.hid (HPO.out hlk)
      clear hlk
      clear P_c0 P_c1 P_z
      clear A_c0 A_c1 A_z
      have FP0 : ∀ w' : World, Below w7.heap.size w7 w' → w'.cell? ⟨bP, 0, none⟩ = some (.int .i64 c1) := fun w' h => (P.out.below h).cell 0
      have FP1 : ∀ w' : World, Below w7.heap.size w7 w' → w'.cell? ⟨bP, 1, none⟩ = some (.int .i64 v1) := fun w' h => (P.out.below h).cell 1
      have FA0 : ∀ w' : World, Below w7.heap.size w7 w' → w'.cell? ⟨(bU + 1), 0, none⟩ = some (.int .i64 1) := fun w' h => (A.out.below h).cell 0
      have FA1 : ∀ w' : World, Below w7.heap.size w7 w' → w'.cell? ⟨(bU + 1), 1, none⟩ = some (.int .i64 0) := fun w' h => (A.out.below h).cell 1
      refine wp_region_stable (fun _ w' => Below w7.heap.size w7 w') (by kernel_rfl) (by kernel_rfl) (Below.drew (Below.refl _ _)) ?_
      refine wpB_val (v := ?v18) (by kernel_rfl) (by kernel_rfl) 0 (by kernel_rfl) (fun j w' hj hS => ?h18) (fun K hK => ?k18)
      case h18 =>
        have c_P0 := FP0 w' hS
        have c_P1 := FP1 w' hS
        have c_A0 := FA0 w' hS
        have c_A1 := FA1 w' hS
        go_simp
        try rfl
      go_simp
      refine hK _ ?_
      clear hK K
      refine wpB_val (v := ?v19) (by kernel_rfl) (by kernel_rfl) _ rfl (fun j w' hj hS => ?h19) (fun K hK => ?k19)
      case h19 =>
        go_simp
        try rfl
      go_simp
      refine hK _ ?_
      clear hK K
      refine wpB_val (v := ?v20) (by kernel_rfl) (by kernel_rfl) _ rfl (fun j w' hj hS => ?h20) (fun K hK => ?k20)
      case h20 =>
        go_simp
        try rfl
      go_simp
      refine hK _ ?_
      clear hK K
      refine wpB_val (v := ?v21) (by kernel_rfl) (by kernel_rfl) _ rfl (fun j w' hj hS => ?h21) (fun K hK => ?k21)
      case h21 =>
        go_simp
        try rfl
      go_simp
      refine hK _ ?_
      clear hK K
      refine wpB_load 27 _ rfl (bU) (0) (tcells u) _ (by kernel_rfl) rfl 0 (by kernel_rfl) (fun j w' hj hS => (U.out.below hS).range) Try.underlying27 rfl (by rw [HLu.out]; kernel_rfl) (fun K hK => ?_)
      go_simp
      refine hK _ ?_
      clear hK K
      refine wpB_val (v := ?v22) (by kernel_rfl) (by kernel_rfl) _ rfl (fun j w' hj hS => ?h22) (fun K hK => ?k22)
      case h22 =>
        go_simp
        try rfl
      go_simp
      refine hK _ ?_
      clear hK K
      refine wpB_call _ _ (by kernel_rfl) (by kernel_rfl) (fun w' => by kernel_rfl) 0 (by kernel_rfl) (fun j w' hj hS => (peek_eq w' u Gu.out k k2 (by omega) HPK.out).mono (fun e w2 h => ⟨h.1, Below.trans hS (Below.mono h.2 hS.size)⟩)) (fun K hK => ?_)
      go_simp
      refine hK _ ?_
      clear hK K
      refine wpB_val (v := ?v23) (by kernel_rfl) (by kernel_rfl) _ rfl (fun j w' hj hS => ?h23) (fun K hK => ?k23)
      case h23 =>
        go_simp
        try rfl
      go_simp
      refine hK _ ?_
      clear hK K
      refine wpB_val (v := ?v24) (by kernel_rfl) (by kernel_rfl) _ rfl (fun j w' hj hS => ?h24) (fun K hK => ?k24)
      case h24 =>
        go_simp
        try rfl
      go_simp
      refine hK _ ?_
      clear hK K
      refine wpB_val (v := ?v25) (by kernel_rfl) (by kernel_rfl) _ rfl (fun j w' hj hS => ?h25) (fun K hK => ?k25)
      case h25 =>
        go_simp
        try rfl
      go_simp
      refine hK _ ?_
      clear hK K
      refine wpB_val (v := ?v26) (by kernel_rfl) (by kernel_rfl) _ rfl (fun j w' hj hS => ?h26) (fun K hK => ?k26)
      case h26 =>
        go_simp
        try rfl
      go_simp
      refine hK _ ?_
      clear hK K
      refine wpB_val (v := ?v27) (by kernel_rfl) (by kernel_rfl) _ rfl (fun j w' hj hS => ?h27) (fun K hK => ?k27)
      case h27 =>
        go_simp
        try rfl
      go_simp
      refine hK _ ?_
      clear hK K
      refine wpB_val (v := ?v28) (by kernel_rfl) (by kernel_rfl) _ rfl (fun j w' hj hS => ?h28) (fun K hK => ?k28)
      case h28 =>
        go_simp
        try rfl
      go_simp
      refine hK _ ?_
      clear hK K
      refine wpB_val (v := ?v29) (by kernel_rfl) (by kernel_rfl) _ rfl (fun j w' hj hS => ?h29) (fun K hK => ?k29)
      case h29 =>
        go_simp
        try rfl
      go_simp
      refine hK _ ?_
      clear hK K
      refine wpB_val (v := ?v30) (by kernel_rfl) (by kernel_rfl) _ rfl (fun j w' hj hS => ?h30) (fun K hK => ?k30)
      case h30 =>
        go_simp
        try rfl
      go_simp
      refine hK _ ?_
      clear hK K
      refine wpB_val (v := ?v31) (by kernel_rfl) (by kernel_rfl) _ rfl (fun j w' hj hS => ?h31) (fun K hK => ?k31)
      case h31 =>
        go_simp
        try rfl
      go_simp
      refine hK _ ?_
      clear hK K
      refine wpB_load 27 _ rfl (bU) (0) (tcells u) _ (by kernel_rfl) rfl 0 (by kernel_rfl) (fun j w' hj hS => (U.out.below hS).range) Try.underlying27 rfl (by rw [HLu.out]; kernel_rfl) (fun K hK => ?_)
      go_simp
      refine hK _ ?_
      clear hK K
      refine wpB_val (v := ?v32) (by kernel_rfl) (by kernel_rfl) _ rfl (fun j w' hj hS => ?h32) (fun K hK => ?k32)
      case h32 =>
        go_simp
        try rfl
      go_simp
      refine hK _ ?_
      clear hK K
      refine wpB_call _ _ (by kernel_rfl) (by kernel_rfl) (fun w' => by kernel_rfl) 0 (by kernel_rfl) (fun j w' hj hS => (peek_eq w' u Gu.out l l2 (by omega) HQ.out).mono (fun e w2 h => ⟨h.1, Below.trans hS (Below.mono h.2 hS.size)⟩)) (fun K hK => ?_)
      go_simp
      refine hK _ ?_
      clear hK K
      refine wpB_val (v := ?v33) (by kernel_rfl) (by kernel_rfl) 0 (by kernel_rfl) (fun j w' hj hS => ?h33) (fun K hK => ?k33)
      case h33 =>
        have c_P0 := FP0 w' hS
        have c_P1 := FP1 w' hS
        have c_A0 := FA0 w' hS
        have c_A1 := FA1 w' hS
        go_simp
        try rfl
      go_simp
      refine hK _ ?_
      clear hK K
      refine wpB_val (v := ?v34) (by kernel_rfl) (by kernel_rfl) _ rfl (fun j w' hj hS => ?h34) (fun K hK => ?k34)
      case h34 =>
        go_simp
        try rfl
      go_simp
      refine hK _ ?_
      clear hK K
      refine wpB_val (v := ?v35) (by kernel_rfl) (by kernel_rfl) _ rfl (fun j w' hj hS => ?h35) (fun K hK => ?k35)
      case h35 =>
        go_simp
        try rfl
      go_simp
      refine hK _ ?_
      clear hK K
      refine wpB_val (v := ?v36) (by kernel_rfl) (by kernel_rfl) _ rfl (fun j w' hj hS => ?h36) (fun K hK => ?k36)
      case h36 =>
        go_simp
        try rfl
      go_simp
      refine hK _ ?_
      clear hK K
      refine wpB_val (v := ?v37) (by kernel_rfl) (by kernel_rfl) _ rfl (fun j w' hj hS => ?h37) (fun K hK => ?k37)
      case h37 =>
        go_simp
        try rfl
      go_simp
      refine hK _ ?_
      clear hK K
      refine wpB_nil (fun w' hS => ?_)
      go_wp2_with fail
      go_ret
      exact ⟨by first | rfl | simp, bcall HB.out hS⟩
end Go.Proofs.Ytakemnpicokaiaa
