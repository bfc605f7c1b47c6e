/- The walk of the law TableBack. -/
import Derived.Test.YtakemnpicokaiaaTabEq
import Derived.Test.YtakemnpicokaiaaTabled
import Derived.Test.YtakemnpicokaiaaStableAllOps
import Derived.Deep.Cut
namespace Go.Proofs.Ytakemnpicokaiaa
open Go.RowKit
set_option linter.unusedVariables false
set_option maxHeartbeats 4000000 in
theorem walk_TableBack (a0 : Option Addr) (len0 cap0 : Nat) (f0 : Nat → Nat → Int) (a1 a2 a3 : Int) (w : World) (h0 : Rws 3 (fun _ => .i64) w a0 len0 cap0 f0) (w1 : (Lit.int .i64 a1).wf = true) (w2 : (Lit.int .i64 a2).wf = true) (w3 : (Lit.int .i64 a3).wf = true) :
    Calls Try.prog 8 #[.slice a0 len0 cap0, .int .i64 a1, .int .i64 a2, .int .i64 a3] w fun e w' => e = .returned (.bool true) ∧ Below w.heap.size w w' := by
  clear w1 w2 w3
  have H0 := Lib.hid h0
  clear h0
  have HB := Lib.hid (Below.refl w.heap.size w)
  go_enter Try.func8, Try.ntmps8
  go_wp2_with fail
  refine (tabled_any _).mono ?_
  rintro e w1 ⟨rfl, hb1⟩
  replace HB := Lib.hid (bcall HB.out hb1)
  clear hb1
  have hbt := HB.out
  go_wp2_with fail
  refine (filled_any _ a0 len0 cap0 f0 (H0.out.below hbt)).mono ?_
  rintro e w2 ⟨t, gt, rfl, hb2⟩
  replace HB := Lib.hid (bcall HB.out hb2)
  clear hb2 hbt H0
  have HLt : Hid ((tcells t).length = 16) := Lib.hid (by rw [tcells_len]; exact gt.len)
  have HCt := Lib.hid (tcells_take t gt.len)
  have HOt := Lib.hid (tcells_one t)
  have Gt := Lib.hid gt
  clear gt
  go_upto_region 4 with (first | (refine wpList_store_part rfl 27 _ _ rfl w2.heap.size 0 16 (tcells t) rfl rfl 27 _ (Blk.new w2 [.int .i64 0, .int .i64 0, .int .i64 0, .int .i64 0, .int .i64 0, .int .i64 0, .int .i64 0, .int .i64 0, .int .i64 0, .int .i64 0, .int .i64 0, .int .i64 0, .int .i64 0, .int .i64 0, .int .i64 0, .int .i64 0] 27) HLt.out (by decide) (by kernel_rfl) HOt.out ?_; rw [spl_z16 _ HLt.out]))
  have hge_T := HB.out.size
  have hBB : Below w2.heap.size w2 (setBlk (w2.alloc (Obj.cells #[.int .i64 0, .int .i64 0, .int .i64 0, .int .i64 0, .int .i64 0, .int .i64 0, .int .i64 0, .int .i64 0, .int .i64 0, .int .i64 0, .int .i64 0, .int .i64 0, .int .i64 0, .int .i64 0, .int .i64 0, .int .i64 0] 27)) w2.heap.size (tcells t)) := bsetBlk (balloc (Below.refl _ _) _) (Nat.le_refl _) _
  have T : Hid (Blk (setBlk (w2.alloc (Obj.cells #[.int .i64 0, .int .i64 0, .int .i64 0, .int .i64 0, .int .i64 0, .int .i64 0, .int .i64 0, .int .i64 0, .int .i64 0, .int .i64 0, .int .i64 0, .int .i64 0, .int .i64 0, .int .i64 0, .int .i64 0, .int .i64 0] 27)) w2.heap.size (tcells t)) w2.heap.size (tcells t) 27) := Lib.hid ((Blk.new w2 [.int .i64 0, .int .i64 0, .int .i64 0, .int .i64 0, .int .i64 0, .int .i64 0, .int .i64 0, .int .i64 0, .int .i64 0, .int .i64 0, .int .i64 0, .int .i64 0, .int .i64 0, .int .i64 0, .int .i64 0, .int .i64 0] 27).setBlk _)
  replace HB := Lib.hid (bcall HB.out hBB)
  clear hBB
  generalize setBlk (w2.alloc (Obj.cells #[.int .i64 0, .int .i64 0, .int .i64 0, .int .i64 0, .int .i64 0, .int .i64 0, .int .i64 0, .int .i64 0, .int .i64 0, .int .i64 0, .int .i64 0, .int .i64 0, .int .i64 0, .int .i64 0, .int .i64 0, .int .i64 0] 27)) w2.heap.size (tcells t) = w3 at *
  generalize w2.heap.size = bT at *
  have k0 := pickZ_nonneg a1 1000 (by decide)
  have k1 := pickZ_lt a1 1000 (by decide)
  have v0 := pickZ_nonneg a2 1000 (by decide)
  have v1 := pickZ_lt a2 1000 (by decide)
  have l0 := pickZ_nonneg a3 12 (by decide)
  have l1 := pickZ_lt a3 12 (by decide)
  go_upto_region 5 with (first | (go_at_call 25; refine (key_any _ _).mono ?_; rintro e w' ⟨rfl, rfl⟩) | (go_at_call 21; refine (pick_any _ _ _ (by decide) (by decide)).mono ?_; rintro e w' ⟨rfl, rfl⟩))
  generalize hgk : 1 + pickZ a1 1000 = k at *
  have k2 : 1 ≤ k := by omega
  have k3 : k ≤ 1000 := by omega
  clear k0 k1 hgk
  generalize hgl : 1 + pickZ a3 12 = l at *
  have l2 : 1 ≤ l := by omega
  have l3 : l ≤ 12 := by omega
  clear l0 l1 hgl
  have hfc := field_code
  rcases take_cases Gt.out k 0 k2 k3 with ⟨hpk, -⟩ | ⟨u0, x0, hpk, -⟩
  · have HPK := Lib.hid hpk
    rcases put_cases Gt.out k (pickZ a2 1000) k2 k3 v0 (by omega) with ⟨hd, h6, hp⟩ | ⟨u, hd, gu, hpu, hpo, hln⟩
    · have HD := Lib.hid hd
      have heq := fun w => tab_eql t (by have := HLt.out; rwa [tcells_len] at this) w
      clear hd h6 hp hpk
      go_wp2_with (refine wpList_load_part rfl 27 _ rfl (bT) 0 16 rfl 27 (tcells t) _ T.out (by rw [HLt.out]; decide) Try.underlying27 rfl (by kernel_rfl) ?_; rw [HCt.out])
      refine (peek_eq _ t Gt.out k k2 k3 HPK.out).mono ?_
      rintro e w4 ⟨rfl, hb4⟩
      replace HB := Lib.hid (bcall HB.out hb4)
      replace T := Lib.hid (T.out.below hb4)
      clear hb4
      go_upto_region 7 with fail
      refine wp_region_all (fun k bs w' => match k with | 1 => (w4.drew.heap.size ≤ bs 9 ∧ w4.drew.heap.size ≤ bs 10 ∧ bs 9 ≠ bs 10 ∧ Below w4.drew.heap.size w4.drew w') ∧ Blk w' (bs 9) (tcells t) 27 ∧ Blk w' (bs 10) [.int .i64 0, .int .i64 0] 31 | _ => (w4.drew.heap.size ≤ bs 9 ∧ w4.drew.heap.size ≤ bs 10 ∧ bs 9 ≠ bs 10 ∧ Below w4.drew.heap.size w4.drew w') ∧ Blk w' (bs 9) (tcells t) 27 ∧ Blk w' (bs 10) [.int .i64 3, .int .i64 0] 31) (by kernel_rfl) (by kernel_rfl) (by kernel_rfl) ?_
      refine wpD_load 27 _ rfl (bT) 0 (tcells t) _ (by kernel_rfl) (by kernel_rfl) rfl (fun w' hS => ((Blk.drew T.out).below hS).range) Try.underlying27 rfl (by rw [HLt.out]; kernel_rfl) (fun K hK => ?_)
      go_simp
      refine hK _ ?_
      clear hK K
      refine wpD_pure (v := ?v160) (by kernel_rfl) (by kernel_rfl) (by kernel_rfl) (fun w' => ?h160) (fun K hK => ?k160)
      case h160 =>
        go_simp
        try rfl
      go_simp
      refine hK _ ?_
      clear hK K
      refine wpD_pure (v := ?v161) (by kernel_rfl) (by kernel_rfl) (by kernel_rfl) (fun w' => ?h161) (fun K hK => ?k161)
      case h161 =>
        go_simp
        try rfl
      go_simp
      refine hK _ ?_
      clear hK K
      refine wpD_call _ _ (by kernel_rfl) (by kernel_rfl) (by kernel_rfl) (by kernel_rfl) (fun w' => by kernel_rfl) (fun w' hS => (pick_any a2 1000 w' (by decide) (by decide)).mono (fun e w2 h => ⟨h.1, h.2 ▸ Below.refl _ _⟩)) (fun K hK => ?_)
      go_simp
      refine hK _ ?_
      clear hK K
      refine wpD_pure (v := ?v162) (by kernel_rfl) (by kernel_rfl) (by kernel_rfl) (fun w' => ?h162) (fun K hK => ?k162)
      case h162 =>
        go_simp
        try rfl
      go_simp
      refine hK _ ?_
      clear hK K
      refine wpD_call _ _ (by kernel_rfl) (by kernel_rfl) (by kernel_rfl) (by kernel_rfl) (fun w' => by kernel_rfl) (fun w' hS => do_eq w' t Gt.out 1 k (pickZ a2 1000) t 3 0 HD.out) (fun K hK => ?_)
      go_simp
      refine hK _ ?_
      clear hK K
      refine wpD_pure (v := ?v163) (by kernel_rfl) (by kernel_rfl) (by kernel_rfl) (fun w' => ?h163) (fun K hK => ?k163)
      case h163 =>
        go_simp
        try rfl
      go_simp
      refine hK _ ?_
      clear hK K
      refine wpD_pure (v := ?v164) (by kernel_rfl) (by kernel_rfl) (by kernel_rfl) (fun w' => ?h164) (fun K hK => ?k164)
      case h164 =>
        go_simp
        try rfl
      go_simp
      refine hK _ ?_
      clear hK K
      refine wpD_pure (v := ?v165) (by kernel_rfl) (by kernel_rfl) (by kernel_rfl) (fun w' => ?h165) (fun K hK => ?k165)
      case h165 =>
        go_simp
        try rfl
      go_simp
      refine hK _ ?_
      clear hK K
      refine wpD_alloc (.cells #[.int .i64 0, .int .i64 0, .int .i64 0, .int .i64 0, .int .i64 0, .int .i64 0, .int .i64 0, .int .i64 0, .int .i64 0, .int .i64 0, .int .i64 0, .int .i64 0, .int .i64 0, .int .i64 0, .int .i64 0, .int .i64 0] 27) (by kernel_rfl) ⟨rfl, fun ρ w' => by kernel_rfl⟩ ?_
      refine wpD_alloc (.cells #[.int .i64 0, .int .i64 0] 31) (by kernel_rfl) ⟨rfl, fun ρ w' => by kernel_rfl⟩ ?_
      refine wpD_store 27 _ _ rfl rfl (fun bs => (bs 9)) 0 16 (tcells t) (fun bs => rfl) (fun bs => rfl) 27 [.int .i64 0, .int .i64 0, .int .i64 0, .int .i64 0, .int .i64 0, .int .i64 0, .int .i64 0, .int .i64 0, .int .i64 0, .int .i64 0, .int .i64 0, .int .i64 0, .int .i64 0, .int .i64 0, .int .i64 0, .int .i64 0] (fun bs w' hS => by obtain ⟨hb, h1, -, h2, -⟩ := hS; exact h2) HLt.out (by decide) (by kernel_rfl) HOt.out (fun bs w' hS => by
        obtain ⟨hb, h1, -, h2, h3, h4, h5, -⟩ := hS
        have hne := h4 _ (List.mem_cons_self)
        rw [spl_z16 _ HLt.out]
        exact ⟨⟨h1, h3, hne, bsetBlk hb h1 _⟩, Blk.setBlk h2 _, Blk.otherBlk h5 _ (Ne.symm hne)⟩) (fun K hK => ?_)
      go_simp
      refine hK _ ?_
      clear hK K
      refine wpD_store 31 _ _ rfl rfl (fun bs => (bs 10)) 0 2 [.int .i64 3, .int .i64 0] (fun bs => rfl) (fun bs => rfl) 31 [.int .i64 0, .int .i64 0] (fun bs w' hS => hS.2.2) rfl (by decide) (by kernel_rfl) (two_ints _ _) (fun bs w' hS => by
        obtain ⟨⟨h1, h3, hne, hb⟩, hu, ha⟩ := hS
        rw [spl_whole [.int .i64 0, .int .i64 0] [.int .i64 3, .int .i64 0] rfl]
        exact ⟨⟨h1, h3, hne, bsetBlk hb h3 _⟩, hu.otherBlk _ hne, ha.setBlk _⟩) (fun K hK => ?_)
      go_simp
      refine hK _ ?_
      clear hK K
      refine wpD_nil (fun bs w5 hS => ?_)
      simp only [List.nil_append, List.cons_append, putsC, ptrB]
      obtain ⟨⟨hwU, hwA, hneUA, hBB⟩, hU, hA⟩ := hS
      generalize bs 9 = bU at *
      generalize bs 10 = bA at *
      change w4.heap.size ≤ _ at hwU hwA
      have hlt_U_T := T.out.lt
      have hsz_U := HB.out.size
      replace HB := Lib.hid (bcall HB.out (Below.trans (Below.drew (Below.refl _ _)) hBB))
      replace T := Lib.hid ((Blk.drew T.out).below hBB)
      have U := Lib.hid hU
      have A := Lib.hid hA
      clear hU hA hBB
      have A_c0 : w5.cell? ⟨bA, 0, none⟩ = some (.int .i64 3) := A.out.cell 0
      have A_c1 : w5.cell? ⟨bA, 1, none⟩ = some (.int .i64 0) := A.out.cell 1
      have A_z : bA < w5.heap.size := A.out.lt
      go_wp2_with (first | (refine wpList_load_part_g (by kernel_rfl) 27 _ rfl (bU) 0 16 rfl 27 (tcells t) _ U.out (by rw [HLt.out]; decide) Try.underlying27 rfl (by kernel_rfl) ?_; rw [HCt.out]) | (refine wpList_load_part_g (by kernel_rfl) 27 _ rfl (bT) 0 16 rfl 27 (tcells t) _ T.out (by rw [HLt.out]; decide) Try.underlying27 rfl (by kernel_rfl) ?_; rw [HCt.out]))
      go_ret
      exact ⟨by first | rfl | simp, HB.out⟩
    · have HD := Lib.hid hd
      have HLu : Hid ((tcells u).length = 16) := Lib.hid (by rw [tcells_len]; exact gu.len)
      have HCu := Lib.hid (tcells_take u gu.len)
      have HOu := Lib.hid (tcells_one u)
      have Gu := Lib.hid gu
      rcases take_cases gu k 0 k2 k3 with ⟨hp2, -⟩ | ⟨y, x, hp2, hd2, gy, hpy, hpo2, hln2⟩
      · rw [hpu] at hp2; simp at hp2
      obtain rfl : pickZ a2 1000 = x := by rw [hpu] at hp2; simpa using hp2
      have hly : (lenT y : Int) = lenT t := by
        rcases hln with ⟨-, h⟩ | ⟨h, -⟩
        · omega
        · rw [hpk] at h; simp at h
      have hpl : peekA y l = peekA t l := by
        by_cases e : l = k
        · rw [e, hpy, hpk]
        · rw [hpo2 l (by omega) e, hpo l (by omega) e]
      obtain ⟨cl, vl, hpl0⟩ : ∃ c1 v1 : Int, peekA t l = (c1, v1) := ⟨_, _, rfl⟩
      rw [hpl0] at hpl
      have HPL0 := Lib.hid hpl0
      clear hpl0
      have HLy : Hid ((tcells y).length = 16) := Lib.hid (by rw [tcells_len]; exact gy.len)
      have HCy := Lib.hid (tcells_take y gy.len)
      have HOy := Lib.hid (tcells_one y)
      have Gy := Lib.hid gy
      have HD2 := Lib.hid hd2
      have HLY := Lib.hid hly
      have HPL := Lib.hid hpl
      have HPY := Lib.hid hpy
      have HRY : Hid (rightB y = true) := Lib.hid ((rightB_iff y gy.len (fun j hj => ⟨gy.key0 j hj, gy.key1 j hj⟩)).2 gy)
      clear hpk hd hpu hpo hln hp2 hd2 hpy hpo2 hln2 hly hpl gu gy
      go_wp2_with (refine wpList_load_part rfl 27 _ rfl (bT) 0 16 rfl 27 (tcells t) _ T.out (by rw [HLt.out]; decide) Try.underlying27 rfl (by kernel_rfl) ?_; rw [HCt.out])
      refine (peek_eq _ t Gt.out k k2 k3 HPK.out).mono ?_
      rintro e w4 ⟨rfl, hb4⟩
      replace HB := Lib.hid (bcall HB.out hb4)
      replace T := Lib.hid (T.out.below hb4)
      clear hb4
      go_upto_region 7 with fail
      refine wp_region_all (fun k bs w' => match k with | 1 => (w4.drew.heap.size ≤ bs 9 ∧ w4.drew.heap.size ≤ bs 10 ∧ bs 9 ≠ bs 10 ∧ Below w4.drew.heap.size w4.drew w') ∧ Blk w' (bs 9) (tcells u) 27 ∧ Blk w' (bs 10) [.int .i64 0, .int .i64 0] 31 | _ => (w4.drew.heap.size ≤ bs 9 ∧ w4.drew.heap.size ≤ bs 10 ∧ bs 9 ≠ bs 10 ∧ Below w4.drew.heap.size w4.drew w') ∧ Blk w' (bs 9) (tcells u) 27 ∧ Blk w' (bs 10) [.int .i64 1, .int .i64 0] 31) (by kernel_rfl) (by kernel_rfl) (by kernel_rfl) ?_
      refine wpD_load 27 _ rfl (bT) 0 (tcells t) _ (by kernel_rfl) (by kernel_rfl) rfl (fun w' hS => ((Blk.drew T.out).below hS).range) Try.underlying27 rfl (by rw [HLt.out]; kernel_rfl) (fun K hK => ?_)
      go_simp
      refine hK _ ?_
      clear hK K
      refine wpD_pure (v := ?v166) (by kernel_rfl) (by kernel_rfl) (by kernel_rfl) (fun w' => ?h166) (fun K hK => ?k166)
      case h166 =>
        go_simp
        try rfl
      go_simp
      refine hK _ ?_
      clear hK K
      refine wpD_pure (v := ?v167) (by kernel_rfl) (by kernel_rfl) (by kernel_rfl) (fun w' => ?h167) (fun K hK => ?k167)
      case h167 =>
        go_simp
        try rfl
      go_simp
      refine hK _ ?_
      clear hK K
      refine wpD_call _ _ (by kernel_rfl) (by kernel_rfl) (by kernel_rfl) (by kernel_rfl) (fun w' => by kernel_rfl) (fun w' hS => (pick_any a2 1000 w' (by decide) (by decide)).mono (fun e w2 h => ⟨h.1, h.2 ▸ Below.refl _ _⟩)) (fun K hK => ?_)
      go_simp
      refine hK _ ?_
      clear hK K
      refine wpD_pure (v := ?v168) (by kernel_rfl) (by kernel_rfl) (by kernel_rfl) (fun w' => ?h168) (fun K hK => ?k168)
      case h168 =>
        go_simp
        try rfl
      go_simp
      refine hK _ ?_
      clear hK K
      refine wpD_call _ _ (by kernel_rfl) (by kernel_rfl) (by kernel_rfl) (by kernel_rfl) (fun w' => by kernel_rfl) (fun w' hS => do_eq w' t Gt.out 1 k (pickZ a2 1000) u 1 0 HD.out) (fun K hK => ?_)
      go_simp
      refine hK _ ?_
      clear hK K
      refine wpD_pure (v := ?v169) (by kernel_rfl) (by kernel_rfl) (by kernel_rfl) (fun w' => ?h169) (fun K hK => ?k169)
      case h169 =>
        go_simp
        try rfl
      go_simp
      refine hK _ ?_
      clear hK K
      refine wpD_pure (v := ?v170) (by kernel_rfl) (by kernel_rfl) (by kernel_rfl) (fun w' => ?h170) (fun K hK => ?k170)
      case h170 =>
        go_simp
        try rfl
      go_simp
      refine hK _ ?_
      clear hK K
      refine wpD_pure (v := ?v171) (by kernel_rfl) (by kernel_rfl) (by kernel_rfl) (fun w' => ?h171) (fun K hK => ?k171)
      case h171 =>
        go_simp
        try rfl
      go_simp
      refine hK _ ?_
      clear hK K
      refine wpD_alloc (.cells #[.int .i64 0, .int .i64 0, .int .i64 0, .int .i64 0, .int .i64 0, .int .i64 0, .int .i64 0, .int .i64 0, .int .i64 0, .int .i64 0, .int .i64 0, .int .i64 0, .int .i64 0, .int .i64 0, .int .i64 0, .int .i64 0] 27) (by kernel_rfl) ⟨rfl, fun ρ w' => by kernel_rfl⟩ ?_
      refine wpD_alloc (.cells #[.int .i64 0, .int .i64 0] 31) (by kernel_rfl) ⟨rfl, fun ρ w' => by kernel_rfl⟩ ?_
      refine wpD_store 27 _ _ rfl rfl (fun bs => (bs 9)) 0 16 (tcells u) (fun bs => rfl) (fun bs => rfl) 27 [.int .i64 0, .int .i64 0, .int .i64 0, .int .i64 0, .int .i64 0, .int .i64 0, .int .i64 0, .int .i64 0, .int .i64 0, .int .i64 0, .int .i64 0, .int .i64 0, .int .i64 0, .int .i64 0, .int .i64 0, .int .i64 0] (fun bs w' hS => by obtain ⟨hb, h1, -, h2, -⟩ := hS; exact h2) HLu.out (by decide) (by kernel_rfl) HOu.out (fun bs w' hS => by
        obtain ⟨hb, h1, -, h2, h3, h4, h5, -⟩ := hS
        have hne := h4 _ (List.mem_cons_self)
        rw [spl_z16 _ HLu.out]
        exact ⟨⟨h1, h3, hne, bsetBlk hb h1 _⟩, Blk.setBlk h2 _, Blk.otherBlk h5 _ (Ne.symm hne)⟩) (fun K hK => ?_)
      go_simp
      refine hK _ ?_
      clear hK K
      refine wpD_store 31 _ _ rfl rfl (fun bs => (bs 10)) 0 2 [.int .i64 1, .int .i64 0] (fun bs => rfl) (fun bs => rfl) 31 [.int .i64 0, .int .i64 0] (fun bs w' hS => hS.2.2) rfl (by decide) (by kernel_rfl) (two_ints _ _) (fun bs w' hS => by
        obtain ⟨⟨h1, h3, hne, hb⟩, hu, ha⟩ := hS
        rw [spl_whole [.int .i64 0, .int .i64 0] [.int .i64 1, .int .i64 0] rfl]
        exact ⟨⟨h1, h3, hne, bsetBlk hb h3 _⟩, hu.otherBlk _ hne, ha.setBlk _⟩) (fun K hK => ?_)
      go_simp
      refine hK _ ?_
      clear hK K
      refine wpD_nil (fun bs w5 hS => ?_)
      simp only [List.nil_append, List.cons_append, putsC, ptrB]
      obtain ⟨⟨hwU, hwA, hneUA, hBB⟩, hU, hA⟩ := hS
      generalize bs 9 = bU at *
      generalize bs 10 = bA at *
      change w4.heap.size ≤ _ at hwU hwA
      have hlt_U_T := T.out.lt
      have hsz_U := HB.out.size
      replace HB := Lib.hid (bcall HB.out (Below.trans (Below.drew (Below.refl _ _)) hBB))
      replace T := Lib.hid ((Blk.drew T.out).below hBB)
      have U := Lib.hid hU
      have A := Lib.hid hA
      clear hU hA hBB
      have A_c0 : w5.cell? ⟨bA, 0, none⟩ = some (.int .i64 1) := A.out.cell 0
      have A_c1 : w5.cell? ⟨bA, 1, none⟩ = some (.int .i64 0) := A.out.cell 1
      have A_z : bA < w5.heap.size := A.out.lt
      go_upto_region 10 with fail
      go_upto_region 11 with ((refine wpList_load_part rfl 27 _ rfl (bU) 0 16 rfl 27 (tcells u) _ U.out (by rw [HLu.out]; decide) Try.underlying27 rfl (by kernel_rfl) ?_; rw [HCu.out]))
      refine (do_eq _ u Gu.out 2 k 0 y 1 (pickZ a2 1000) HD2.out).mono ?_
      rintro e w6 ⟨rfl, hb6⟩
      clear A_c0 A_c1 A_z
      replace HB := Lib.hid (bcall HB.out hb6)
      replace T := Lib.hid (T.out.below hb6)
      replace U := Lib.hid (U.out.below hb6)
      replace A := Lib.hid (A.out.below hb6)
      clear hb6
      have A_c0 : w6.cell? ⟨bA, 0, none⟩ = some (.int .i64 1) := A.out.cell 0
      have A_c1 : w6.cell? ⟨bA, 1, none⟩ = some (.int .i64 0) := A.out.cell 1
      have A_z : bA < w6.heap.size := A.out.lt
      go_upto_region 11 with (first | (refine wpList_store_part rfl 27 _ _ rfl (bU) 0 16 (tcells y) rfl rfl 27 (tcells u) (U.out.alloc _) HLy.out (by rw [HLu.out]; decide) (by kernel_rfl) HOy.out ?_; rw [spl_whole (tcells u) (tcells y) (by rw [HLu.out, HLy.out])]; have hP := asg_pair w6 (bU) (tcells u) (tcells y) [.int .i64 0, .int .i64 0] 27 31 U.out; have aa0 := hP.2.1.cell 0; have aa1 := hP.2.1.cell 1; have af0 := hP.2.1.frozen 0; have af1 := hP.2.1.frozen 1))
      have hP := asg_pair w6 (bU) (tcells u) (tcells y) [.int .i64 0, .int .i64 0] 27 31 U.out
      have hltT := U.out.lt
      have hK0 : Kept (· = bU) w6 (((setBlk (w6.alloc (Obj.cells #[.int .i64 0, .int .i64 0] 31)) (bU) (tcells y)).setCell ⟨w6.heap.size, 0, none⟩ (.int .i64 1)).setCell ⟨w6.heap.size, 1, none⟩ (.int .i64 (pickZ a2 1000))) := (hP.2.2.setCell (.inr (Nat.le_refl _)) _).setCell (.inr (Nat.le_refl _)) _
      have Un : Hid (Blk (((setBlk (w6.alloc (Obj.cells #[.int .i64 0, .int .i64 0] 31)) (bU) (tcells y)).setCell ⟨w6.heap.size, 0, none⟩ (.int .i64 1)).setCell ⟨w6.heap.size, 1, none⟩ (.int .i64 (pickZ a2 1000))) (bU) (tcells y) 27) := Lib.hid ((hP.1.other _ (by show bU ≠ w6.heap.size; omega)).other _ (by show bU ≠ w6.heap.size; omega))
      have B : Hid (Blk (((setBlk (w6.alloc (Obj.cells #[.int .i64 0, .int .i64 0] 31)) (bU) (tcells y)).setCell ⟨w6.heap.size, 0, none⟩ (.int .i64 1)).setCell ⟨w6.heap.size, 1, none⟩ (.int .i64 (pickZ a2 1000))) w6.heap.size [.int .i64 1, .int .i64 (pickZ a2 1000)] 31) := Lib.hid (Blk.pair hP.2.1)
      clear A_c0 A_c1 A_z
      have hlt_B_T := T.out.lt
      have hlt_B_U := U.out.lt
      have hlt_B_A := A.out.lt
      replace HB := Lib.hid (bkept HB.out hK0 (by rintro n rfl; omega))
      replace T := Lib.hid (T.out.kept hK0 (by intro hh; omega))
      replace A := Lib.hid (A.out.kept hK0 (by intro hh; omega))
      replace U := Un
      clear Un hK0 hP aa0 aa1 af0 af1 hltT
      generalize ((setBlk (w6.alloc (Obj.cells #[.int .i64 0, .int .i64 0] 31)) (bU) (tcells y)).setCell ⟨w6.heap.size, 0, none⟩ (.int .i64 1)).setCell ⟨w6.heap.size, 1, none⟩ (.int .i64 (pickZ a2 1000)) = w7 at *
      generalize w6.heap.size = bB at *
      have A_c0 : w7.cell? ⟨bA, 0, none⟩ = some (.int .i64 1) := A.out.cell 0
      have A_c1 : w7.cell? ⟨bA, 1, none⟩ = some (.int .i64 0) := A.out.cell 1
      have A_z : bA < w7.heap.size := A.out.lt
      have B_c0 : w7.cell? ⟨bB, 0, none⟩ = some (.int .i64 1) := B.out.cell 0
      have B_c1 : w7.cell? ⟨bB, 1, none⟩ = some (.int .i64 (pickZ a2 1000)) := B.out.cell 1
      have B_z : bB < w7.heap.size := B.out.lt
      clear A_c0 A_c1 A_z
      clear B_c0 B_c1 B_z
      have FA0 : ∀ w' : World, Below w7.heap.size w7 w' → w'.cell? ⟨bA, 0, none⟩ = some (.int .i64 1) := fun w' h => (A.out.below h).cell 0
      have FA1 : ∀ w' : World, Below w7.heap.size w7 w' → w'.cell? ⟨bA, 1, none⟩ = some (.int .i64 0) := fun w' h => (A.out.below h).cell 1
      have FB0 : ∀ w' : World, Below w7.heap.size w7 w' → w'.cell? ⟨bB, 0, none⟩ = some (.int .i64 1) := fun w' h => (B.out.below h).cell 0
      have FB1 : ∀ w' : World, Below w7.heap.size w7 w' → w'.cell? ⟨bB, 1, none⟩ = some (.int .i64 (pickZ a2 1000)) := fun w' h => (B.out.below h).cell 1
      refine wp_region_stable (fun _ w' => Below w7.heap.size w7 w') (by kernel_rfl) (by kernel_rfl) (Below.drew (Below.refl _ _)) ?_
      refine wpB_val (v := ?v172) (by kernel_rfl) (by kernel_rfl) 0 (by kernel_rfl) (fun j w' hj hS => ?h172) (fun K hK => ?k172)
      case h172 =>
        have c_A0 := FA0 w' hS
        have c_A1 := FA1 w' hS
        have c_B0 := FB0 w' hS
        have c_B1 := FB1 w' hS
        go_simp
        try rfl
      go_simp
      refine hK _ ?_
      clear hK K
      refine wpB_val (v := ?v173) (by kernel_rfl) (by kernel_rfl) _ rfl (fun j w' hj hS => ?h173) (fun K hK => ?k173)
      case h173 =>
        go_simp
        try rfl
      go_simp
      refine hK _ ?_
      clear hK K
      refine wpB_call _ _ (by kernel_rfl) (by kernel_rfl) (fun w' => by kernel_rfl) 0 (by kernel_rfl) (fun j w' hj hS => (pick_any a2 1000 w' (by decide) (by decide)).mono (fun e w2 h => ⟨h.1, h.2 ▸ hS⟩)) (fun K hK => ?_)
      go_simp
      refine hK _ ?_
      clear hK K
      refine wpB_val (v := ?v174) (by kernel_rfl) (by kernel_rfl) _ rfl (fun j w' hj hS => ?h174) (fun K hK => ?k174)
      case h174 =>
        go_simp
        try rfl
      go_simp
      refine hK _ ?_
      clear hK K
      refine wpB_val (v := ?v175) (by kernel_rfl) (by kernel_rfl) _ rfl (fun j w' hj hS => ?h175) (fun K hK => ?k175)
      case h175 =>
        go_simp
        try rfl
      go_simp
      refine hK _ ?_
      clear hK K
      refine wpB_val (v := ?v176) (by kernel_rfl) (by kernel_rfl) _ rfl (fun j w' hj hS => ?h176) (fun K hK => ?k176)
      case h176 =>
        go_simp
        try rfl
      go_simp
      refine hK _ ?_
      clear hK K
      refine wpB_load 27 _ rfl (bU) (0) (tcells y) _ (by kernel_rfl) rfl 0 (by kernel_rfl) (fun j w' hj hS => (U.out.below hS).range) Try.underlying27 rfl (by rw [HLy.out]; kernel_rfl) (fun K hK => ?_)
      go_simp
      refine hK _ ?_
      clear hK K
      refine wpB_call _ _ (by kernel_rfl) (by kernel_rfl) (fun w' => by kernel_rfl) 0 (by kernel_rfl) (fun j w' hj hS => (right_eq w' y Gy.out HRY.out).mono (fun e w2 h => ⟨h.1, Below.trans hS (Below.mono h.2 hS.size)⟩)) (fun K hK => ?_)
      go_simp
      refine hK _ ?_
      clear hK K
      refine wpB_val (v := ?v177) (by kernel_rfl) (by kernel_rfl) _ rfl (fun j w' hj hS => ?h177) (fun K hK => ?k177)
      case h177 =>
        go_simp
        try rfl
      go_simp
      refine hK _ ?_
      clear hK K
      refine wpB_val (v := ?v178) (by kernel_rfl) (by kernel_rfl) _ rfl (fun j w' hj hS => ?h178) (fun K hK => ?k178)
      case h178 =>
        go_simp
        try rfl
      go_simp
      refine hK _ ?_
      clear hK K
      refine wpB_load 27 _ rfl (bU) (0) (tcells y) _ (by kernel_rfl) rfl 0 (by kernel_rfl) (fun j w' hj hS => (U.out.below hS).range) Try.underlying27 rfl (by rw [HLy.out]; kernel_rfl) (fun K hK => ?_)
      go_simp
      refine hK _ ?_
      clear hK K
      refine wpB_call _ _ (by kernel_rfl) (by kernel_rfl) (fun w' => by kernel_rfl) 0 (by kernel_rfl) (fun j w' hj hS => (len_eq w' y Gy.out (lenT t) HLY.out).mono (fun e w2 h => ⟨h.1, Below.trans hS (Below.mono h.2 hS.size)⟩)) (fun K hK => ?_)
      go_simp
      refine hK _ ?_
      clear hK K
      refine wpB_load 27 _ rfl (bT) (0) (tcells t) _ (by kernel_rfl) rfl 0 (by kernel_rfl) (fun j w' hj hS => (T.out.below hS).range) Try.underlying27 rfl (by rw [HLt.out]; kernel_rfl) (fun K hK => ?_)
      go_simp
      refine hK _ ?_
      clear hK K
      refine wpB_call _ _ (by kernel_rfl) (by kernel_rfl) (fun w' => by kernel_rfl) 0 (by kernel_rfl) (fun j w' hj hS => (len_eq w' t Gt.out (lenT t) rfl).mono (fun e w2 h => ⟨h.1, Below.trans hS (Below.mono h.2 hS.size)⟩)) (fun K hK => ?_)
      go_simp
      refine hK _ ?_
      clear hK K
      refine wpB_val (v := ?v179) (by kernel_rfl) (by kernel_rfl) _ rfl (fun j w' hj hS => ?h179) (fun K hK => ?k179)
      case h179 =>
        go_simp
        try rfl
      go_simp
      refine hK _ ?_
      clear hK K
      refine wpB_val (v := ?v180) (by kernel_rfl) (by kernel_rfl) _ rfl (fun j w' hj hS => ?h180) (fun K hK => ?k180)
      case h180 =>
        go_simp
        try rfl
      go_simp
      refine hK _ ?_
      clear hK K
      refine wpB_val (v := ?v181) (by kernel_rfl) (by kernel_rfl) _ rfl (fun j w' hj hS => ?h181) (fun K hK => ?k181)
      case h181 =>
        go_simp
        try rfl
      go_simp
      refine hK _ ?_
      clear hK K
      refine wpB_load 27 _ rfl (bU) (0) (tcells y) _ (by kernel_rfl) rfl 0 (by kernel_rfl) (fun j w' hj hS => (U.out.below hS).range) Try.underlying27 rfl (by rw [HLy.out]; kernel_rfl) (fun K hK => ?_)
      go_simp
      refine hK _ ?_
      clear hK K
      refine wpB_val (v := ?v182) (by kernel_rfl) (by kernel_rfl) _ rfl (fun j w' hj hS => ?h182) (fun K hK => ?k182)
      case h182 =>
        go_simp
        try rfl
      go_simp
      refine hK _ ?_
      clear hK K
      refine wpB_call _ _ (by kernel_rfl) (by kernel_rfl) (fun w' => by kernel_rfl) 0 (by kernel_rfl) (fun j w' hj hS => (peek_eq w' y Gy.out l l2 (by omega) HPL.out).mono (fun e w2 h => ⟨h.1, Below.trans hS (Below.mono h.2 hS.size)⟩)) (fun K hK => ?_)
      go_simp
      refine hK _ ?_
      clear hK K
      refine wpB_load 27 _ rfl (bT) (0) (tcells t) _ (by kernel_rfl) rfl 0 (by kernel_rfl) (fun j w' hj hS => (T.out.below hS).range) Try.underlying27 rfl (by rw [HLt.out]; kernel_rfl) (fun K hK => ?_)
      go_simp
      refine hK _ ?_
      clear hK K
      refine wpB_val (v := ?v183) (by kernel_rfl) (by kernel_rfl) _ rfl (fun j w' hj hS => ?h183) (fun K hK => ?k183)
      case h183 =>
        go_simp
        try rfl
      go_simp
      refine hK _ ?_
      clear hK K
      refine wpB_call _ _ (by kernel_rfl) (by kernel_rfl) (fun w' => by kernel_rfl) 0 (by kernel_rfl) (fun j w' hj hS => (peek_eq w' t Gt.out l l2 (by omega) HPL0.out).mono (fun e w2 h => ⟨h.1, Below.trans hS (Below.mono h.2 hS.size)⟩)) (fun K hK => ?_)
      go_simp
      refine hK _ ?_
      clear hK K
      refine wpB_val (v := ?v184) (by kernel_rfl) (by kernel_rfl) _ rfl (fun j w' hj hS => ?h184) (fun K hK => ?k184)
      case h184 =>
        go_simp
        try rfl
      go_simp
      refine hK _ ?_
      clear hK K
      refine wpB_val (v := ?v185) (by kernel_rfl) (by kernel_rfl) _ rfl (fun j w' hj hS => ?h185) (fun K hK => ?k185)
      case h185 =>
        go_simp
        try rfl
      go_simp
      refine hK _ ?_
      clear hK K
      refine wpB_val (v := ?v186) (by kernel_rfl) (by kernel_rfl) _ rfl (fun j w' hj hS => ?h186) (fun K hK => ?k186)
      case h186 =>
        go_simp
        try rfl
      go_simp
      refine hK _ ?_
      clear hK K
      refine wpB_load 27 _ rfl (bU) (0) (tcells y) _ (by kernel_rfl) rfl 0 (by kernel_rfl) (fun j w' hj hS => (U.out.below hS).range) Try.underlying27 rfl (by rw [HLy.out]; kernel_rfl) (fun K hK => ?_)
      go_simp
      refine hK _ ?_
      clear hK K
      refine wpB_val (v := ?v187) (by kernel_rfl) (by kernel_rfl) _ rfl (fun j w' hj hS => ?h187) (fun K hK => ?k187)
      case h187 =>
        go_simp
        try rfl
      go_simp
      refine hK _ ?_
      clear hK K
      refine wpB_call _ _ (by kernel_rfl) (by kernel_rfl) (fun w' => by kernel_rfl) 0 (by kernel_rfl) (fun j w' hj hS => (peek_eq w' y Gy.out k k2 k3 HPY.out).mono (fun e w2 h => ⟨h.1, Below.trans hS (Below.mono h.2 hS.size)⟩)) (fun K hK => ?_)
      go_simp
      refine hK _ ?_
      clear hK K
      refine wpB_val (v := ?v188) (by kernel_rfl) (by kernel_rfl) _ rfl (fun j w' hj hS => ?h188) (fun K hK => ?k188)
      case h188 =>
        go_simp
        try rfl
      go_simp
      refine hK _ ?_
      clear hK K
      refine wpB_val (v := ?v189) (by kernel_rfl) (by kernel_rfl) _ rfl (fun j w' hj hS => ?h189) (fun K hK => ?k189)
      case h189 =>
        go_simp
        try rfl
      go_simp
      refine hK _ ?_
      clear hK K
      refine wpB_val (v := ?v190) (by kernel_rfl) (by kernel_rfl) _ rfl (fun j w' hj hS => ?h190) (fun K hK => ?k190)
      case h190 =>
        go_simp
        try rfl
      go_simp
      refine hK _ ?_
      clear hK K
      refine wpB_val (v := ?v191) (by kernel_rfl) (by kernel_rfl) _ rfl (fun j w' hj hS => ?h191) (fun K hK => ?k191)
      case h191 =>
        go_simp
        try rfl
      go_simp
      refine hK _ ?_
      clear hK K
      refine wpB_nil (fun w' hS => ?_)
      go_wp2_with fail
      go_ret
      exact ⟨by first | rfl | simp, bcall HB.out hS⟩
  · have HPK := Lib.hid hpk
    clear hpk
    go_wp2_with (refine wpList_load_part rfl 27 _ rfl (bT) 0 16 rfl 27 (tcells t) _ T.out (by rw [HLt.out]; decide) Try.underlying27 rfl (by kernel_rfl) ?_; rw [HCt.out])
    refine (peek_eq _ t Gt.out k k2 k3 HPK.out).mono ?_
    rintro e w4 ⟨rfl, hb4⟩
    replace HB := Lib.hid (bcall HB.out hb4)
    replace T := Lib.hid (T.out.below hb4)
    clear hb4
    go_wp2_with fail
    go_ret
    exact ⟨by first | rfl | simp, HB.out⟩
end Go.Proofs.Ytakemnpicokaiaa
