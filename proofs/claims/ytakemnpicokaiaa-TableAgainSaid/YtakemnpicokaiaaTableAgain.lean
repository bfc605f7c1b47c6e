/- The walk of the law TableAgain. -/
import Derived.Test.YtakemnpicokaiaaTabEq
import Derived.Test.YtakemnpicokaiaaTabled
import Derived.Test.YtakemnpicokaiaaStableAllOps
import Derived.Deep.Cut
namespace Go.Proofs.Ytakemnpicokaiaa
open Go.RowKit
set_option linter.unusedVariables false
set_option maxHeartbeats 4000000 in
theorem walk_TableAgain (a0 : Option Addr) (len0 cap0 : Nat) (f0 : Nat → Nat → Int) (a1 a2 a3 : Int) (w : World) (h0 : Rws 3 (fun _ => .i64) w a0 len0 cap0 f0) (w1 : (Lit.int .i64 a1).wf = true) (w2 : (Lit.int .i64 a2).wf = true) (w3 : (Lit.int .i64 a3).wf = true) :
    Calls Try.prog 6 #[.slice a0 len0 cap0, .int .i64 a1, .int .i64 a2, .int .i64 a3] w fun e w' => e = .returned (.bool true) ∧ Below w.heap.size w w' := by
  clear w1 w2 w3
  have H0 := Lib.hid h0
  clear h0
  have HB := Lib.hid (Below.refl w.heap.size w)
  go_enter Try.func6, Try.ntmps6
  go_wp2_with fail
  refine (tabled_any _).mono ?_
  rintro e w1 ⟨rfl, hb1⟩
  replace HB := Lib.hid (bcall HB.out hb1)
  clear hb1
  have hbt := HB.out
  go_wp2_with fail
  refine (filled_any _ a0 len0 cap0 f0 (H0.out.below hbt)).mono ?_
  rintro e w2 ⟨t, gt, rfl, hb2⟩
  replace HB := Lib.hid (bcall HB.out hb2)
  clear hb2 hbt H0
  have HLt : Hid ((tcells t).length = 16) := Lib.hid (by rw [tcells_len]; exact gt.len)
  have HCt := Lib.hid (tcells_take t gt.len)
  have HOt := Lib.hid (tcells_one t)
  have Gt := Lib.hid gt
  clear gt
  go_upto_region 4 with (first | (refine wpList_store_part rfl 27 _ _ rfl w2.heap.size 0 16 (tcells t) rfl rfl 27 _ (Blk.new w2 [.int .i64 0, .int .i64 0, .int .i64 0, .int .i64 0, .int .i64 0, .int .i64 0, .int .i64 0, .int .i64 0, .int .i64 0, .int .i64 0, .int .i64 0, .int .i64 0, .int .i64 0, .int .i64 0, .int .i64 0, .int .i64 0] 27) HLt.out (by decide) (by kernel_rfl) HOt.out ?_; rw [spl_z16 _ HLt.out]))
  have hge_T := HB.out.size
  have hBB : Below w2.heap.size w2 (setBlk (w2.alloc (Obj.cells #[.int .i64 0, .int .i64 0, .int .i64 0, .int .i64 0, .int .i64 0, .int .i64 0, .int .i64 0, .int .i64 0, .int .i64 0, .int .i64 0, .int .i64 0, .int .i64 0, .int .i64 0, .int .i64 0, .int .i64 0, .int .i64 0] 27)) w2.heap.size (tcells t)) := bsetBlk (balloc (Below.refl _ _) _) (Nat.le_refl _) _
  have T : Hid (Blk (setBlk (w2.alloc (Obj.cells #[.int .i64 0, .int .i64 0, .int .i64 0, .int .i64 0, .int .i64 0, .int .i64 0, .int .i64 0, .int .i64 0, .int .i64 0, .int .i64 0, .int .i64 0, .int .i64 0, .int .i64 0, .int .i64 0, .int .i64 0, .int .i64 0] 27)) w2.heap.size (tcells t)) w2.heap.size (tcells t) 27) := Lib.hid ((Blk.new w2 [.int .i64 0, .int .i64 0, .int .i64 0, .int .i64 0, .int .i64 0, .int .i64 0, .int .i64 0, .int .i64 0, .int .i64 0, .int .i64 0, .int .i64 0, .int .i64 0, .int .i64 0, .int .i64 0, .int .i64 0, .int .i64 0] 27).setBlk _)
  replace HB := Lib.hid (bcall HB.out hBB)
  clear hBB
  generalize setBlk (w2.alloc (Obj.cells #[.int .i64 0, .int .i64 0, .int .i64 0, .int .i64 0, .int .i64 0, .int .i64 0, .int .i64 0, .int .i64 0, .int .i64 0, .int .i64 0, .int .i64 0, .int .i64 0, .int .i64 0, .int .i64 0, .int .i64 0, .int .i64 0] 27)) w2.heap.size (tcells t) = w3 at *
  generalize w2.heap.size = bT at *
  have k0 := pickZ_nonneg a1 12 (by decide)
  have k1 := pickZ_lt a1 12 (by decide)
  have v0 := pickZ_nonneg a2 1000 (by decide)
  have v1 := pickZ_lt a2 1000 (by decide)
  have x0 := pickZ_nonneg a3 1000 (by decide)
  have x1 := pickZ_lt a3 1000 (by decide)
  go_upto_region 5 with (go_at_call 21; refine (pick_any _ _ _ (by decide) (by decide)).mono ?_; rintro e w' ⟨rfl, rfl⟩)
  generalize hgk : 1 + pickZ a1 12 = k at *
  have k2 : 1 ≤ k := by omega
  have k3 : k ≤ 12 := by omega
  clear k0 k1 hgk
  rcases put_cases Gt.out k (pickZ a2 1000) k2 (by omega) v0 (by omega) with ⟨hd, h6, hp⟩ | ⟨u, hd, gu, hpk, hpo, hln⟩
  · have HD := Lib.hid hd
    clear hd h6 hp
    have hltO := T.out.lt
    refine wp_region_all (fun k bs w' => match k with | 1 => (w3.drew.heap.size ≤ bs 9 ∧ Kept (· = bT) w3.drew w') ∧ Blk w' (bT) (tcells t) 27 ∧ Blk w' (bs 9) [.int .i64 0, .int .i64 0] 31 | _ => (w3.drew.heap.size ≤ bs 9 ∧ Kept (· = bT) w3.drew w') ∧ Blk w' (bT) (tcells t) 27 ∧ Blk w' (bs 9) [.int .i64 3, .int .i64 0] 31) (by kernel_rfl) (by kernel_rfl) (by kernel_rfl) ?_
    refine wpD_load 27 _ rfl (bT) 0 (tcells t) _ (by kernel_rfl) (by kernel_rfl) rfl (fun w' hS => ((Blk.drew T.out).below hS).range) Try.underlying27 rfl (by rw [HLt.out]; kernel_rfl) (fun K hK => ?_)
    go_simp
    refine hK _ ?_
    clear hK K
    refine wpD_pure (v := ?v112) (by kernel_rfl) (by kernel_rfl) (by kernel_rfl) (fun w' => ?h112) (fun K hK => ?k112)
    case h112 =>
      go_simp
      try rfl
    go_simp
    refine hK _ ?_
    clear hK K
    refine wpD_pure (v := ?v113) (by kernel_rfl) (by kernel_rfl) (by kernel_rfl) (fun w' => ?h113) (fun K hK => ?k113)
    case h113 =>
      go_simp
      try rfl
    go_simp
    refine hK _ ?_
    clear hK K
    refine wpD_call _ _ (by kernel_rfl) (by kernel_rfl) (by kernel_rfl) (by kernel_rfl) (fun w' => by kernel_rfl) (fun w' hS => (pick_any a2 1000 w' (by decide) (by decide)).mono (fun e w2 h => ⟨h.1, h.2 ▸ Below.refl _ _⟩)) (fun K hK => ?_)
    go_simp
    refine hK _ ?_
    clear hK K
    refine wpD_pure (v := ?v114) (by kernel_rfl) (by kernel_rfl) (by kernel_rfl) (fun w' => ?h114) (fun K hK => ?k114)
    case h114 =>
      go_simp
      try rfl
    go_simp
    refine hK _ ?_
    clear hK K
    refine wpD_call _ _ (by kernel_rfl) (by kernel_rfl) (by kernel_rfl) (by kernel_rfl) (fun w' => by kernel_rfl) (fun w' hS => do_eq w' t Gt.out 1 k (pickZ a2 1000) t 3 0 HD.out) (fun K hK => ?_)
    go_simp
    refine hK _ ?_
    clear hK K
    refine wpD_pure (v := ?v115) (by kernel_rfl) (by kernel_rfl) (by kernel_rfl) (fun w' => ?h115) (fun K hK => ?k115)
    case h115 =>
      go_simp
      try rfl
    go_simp
    refine hK _ ?_
    clear hK K
    refine wpD_pure (v := ?v116) (by kernel_rfl) (by kernel_rfl) (by kernel_rfl) (fun w' => ?h116) (fun K hK => ?k116)
    case h116 =>
      go_simp
      try rfl
    go_simp
    refine hK _ ?_
    clear hK K
    refine wpD_pure (v := ?v117) (by kernel_rfl) (by kernel_rfl) (by kernel_rfl) (fun w' => ?h117) (fun K hK => ?k117)
    case h117 =>
      go_simp
      try rfl
    go_simp
    refine hK _ ?_
    clear hK K
    refine wpD_alloc (.cells #[.int .i64 0, .int .i64 0] 31) (by kernel_rfl) ⟨rfl, fun ρ w' => by kernel_rfl⟩ ?_
    refine wpD_store 27 _ _ rfl rfl (fun bs => (bT)) 0 16 (tcells t) (fun bs => rfl) (fun bs => rfl) 27 (tcells t) (fun bs w' hS => (Blk.drew T.out).below hS.1) HLt.out (by rw [HLt.out]; decide) (by kernel_rfl) HOt.out (fun bs w' hS => by
      obtain ⟨hb, h1, -, h2, -⟩ := hS
      rw [spl_whole (tcells t) (tcells t) (HLt.out.trans HLt.out.symm)]
      exact ⟨⟨h1, (Kept.of_below hb).trans (Kept.setBlk _ _ _)⟩, ((Blk.drew T.out).below hb).setBlk _, Blk.otherBlk h2 _ (by have : w3.drew.heap.size = w3.heap.size := rfl; omega)⟩) (fun K hK => ?_)
    go_simp
    refine hK _ ?_
    clear hK K
    refine wpD_store 31 _ _ rfl rfl (fun bs => (bs 9)) 0 2 [.int .i64 3, .int .i64 0] (fun bs => rfl) (fun bs => rfl) 31 [.int .i64 0, .int .i64 0] (fun bs w' hS => hS.2.2) rfl (by decide) (by kernel_rfl) (two_ints _ _) (fun bs w' hS => by
      obtain ⟨⟨h1, hb⟩, hu, ha⟩ := hS
      rw [spl_whole [.int .i64 0, .int .i64 0] [.int .i64 3, .int .i64 0] rfl]
      have hw : w3.drew.heap.size = w3.heap.size := rfl
      exact ⟨⟨h1, keptNew hb h1 _⟩, hu.otherBlk _ (by omega), ha.setBlk _⟩) (fun K hK => ?_)
    go_simp
    refine hK _ ?_
    clear hK K
    refine wpD_nil (fun bs w4 hS => ?_)
    simp only [List.nil_append, putsC, ptrB]
    obtain ⟨⟨hwA, hBB⟩, hU, hA⟩ := hS
    generalize bs 9 = bA at *
    change w3.heap.size ≤ _ at hwA
    have hlt_A_T := T.out.lt
    have hsz_A := HB.out.size
    replace HB := Lib.hid (bkept HB.out (Kept.trans (Kept.refl _ _).drew hBB) (by rintro n rfl; omega))
    replace T := Lib.hid hU
    have A := Lib.hid hA
    clear hU hA hBB hltO
    have A_c0 : w4.cell? ⟨bA, 0, none⟩ = some (.int .i64 3) := A.out.cell 0
    have A_c1 : w4.cell? ⟨bA, 1, none⟩ = some (.int .i64 0) := A.out.cell 1
    have A_z : bA < w4.heap.size := A.out.lt
    go_wp2_with fail
    go_ret
    exact ⟨by first | rfl | simp, HB.out⟩
  · have HD := Lib.hid hd
    have HLu : Hid ((tcells u).length = 16) := Lib.hid (by rw [tcells_len]; exact gu.len)
    have HCu := Lib.hid (tcells_take u gu.len)
    have HOu := Lib.hid (tcells_one u)
    have Gu := Lib.hid gu
    rcases put_cases gu k (pickZ a3 1000) k2 (by omega) x0 (by omega) with ⟨hd2, h62, hp2⟩ | ⟨y, hd2, gy, hpk2, -, hln2⟩
    · rw [hpk] at hp2; simp at hp2
    have hly : (lenT y : Int) = lenT u := by
      rcases hln2 with ⟨h, -⟩ | ⟨-, h⟩
      · rw [hpk] at h; simp at h
      · rw [h]
    have HLY := Lib.hid hly
    have HD2 := Lib.hid hd2
    have HPY := Lib.hid hpk2
    have HLy : Hid ((tcells y).length = 16) := Lib.hid (by rw [tcells_len]; exact gy.len)
    have HCy := Lib.hid (tcells_take y gy.len)
    have HOy := Lib.hid (tcells_one y)
    have Gy := Lib.hid gy
    clear hd hd2 hpk hpo hln hpk2 hln2 gu gy hly
    have hltO := T.out.lt
    refine wp_region_all (fun k bs w' => match k with | 1 => (w3.drew.heap.size ≤ bs 9 ∧ Kept (· = bT) w3.drew w') ∧ Blk w' (bT) (tcells u) 27 ∧ Blk w' (bs 9) [.int .i64 0, .int .i64 0] 31 | _ => (w3.drew.heap.size ≤ bs 9 ∧ Kept (· = bT) w3.drew w') ∧ Blk w' (bT) (tcells u) 27 ∧ Blk w' (bs 9) [.int .i64 1, .int .i64 0] 31) (by kernel_rfl) (by kernel_rfl) (by kernel_rfl) ?_
    refine wpD_load 27 _ rfl (bT) 0 (tcells t) _ (by kernel_rfl) (by kernel_rfl) rfl (fun w' hS => ((Blk.drew T.out).below hS).range) Try.underlying27 rfl (by rw [HLt.out]; kernel_rfl) (fun K hK => ?_)
    go_simp
    refine hK _ ?_
    clear hK K
    refine wpD_pure (v := ?v118) (by kernel_rfl) (by kernel_rfl) (by kernel_rfl) (fun w' => ?h118) (fun K hK => ?k118)
    case h118 =>
      go_simp
      try rfl
    go_simp
    refine hK _ ?_
    clear hK K
    refine wpD_pure (v := ?v119) (by kernel_rfl) (by kernel_rfl) (by kernel_rfl) (fun w' => ?h119) (fun K hK => ?k119)
    case h119 =>
      go_simp
      try rfl
    go_simp
    refine hK _ ?_
    clear hK K
    refine wpD_call _ _ (by kernel_rfl) (by kernel_rfl) (by kernel_rfl) (by kernel_rfl) (fun w' => by kernel_rfl) (fun w' hS => (pick_any a2 1000 w' (by decide) (by decide)).mono (fun e w2 h => ⟨h.1, h.2 ▸ Below.refl _ _⟩)) (fun K hK => ?_)
    go_simp
    refine hK _ ?_
    clear hK K
    refine wpD_pure (v := ?v120) (by kernel_rfl) (by kernel_rfl) (by kernel_rfl) (fun w' => ?h120) (fun K hK => ?k120)
    case h120 =>
      go_simp
      try rfl
    go_simp
    refine hK _ ?_
    clear hK K
    refine wpD_call _ _ (by kernel_rfl) (by kernel_rfl) (by kernel_rfl) (by kernel_rfl) (fun w' => by kernel_rfl) (fun w' hS => do_eq w' t Gt.out 1 k (pickZ a2 1000) u 1 0 HD.out) (fun K hK => ?_)
    go_simp
    refine hK _ ?_
    clear hK K
    refine wpD_pure (v := ?v121) (by kernel_rfl) (by kernel_rfl) (by kernel_rfl) (fun w' => ?h121) (fun K hK => ?k121)
    case h121 =>
      go_simp
      try rfl
    go_simp
    refine hK _ ?_
    clear hK K
    refine wpD_pure (v := ?v122) (by kernel_rfl) (by kernel_rfl) (by kernel_rfl) (fun w' => ?h122) (fun K hK => ?k122)
    case h122 =>
      go_simp
      try rfl
    go_simp
    refine hK _ ?_
    clear hK K
    refine wpD_pure (v := ?v123) (by kernel_rfl) (by kernel_rfl) (by kernel_rfl) (fun w' => ?h123) (fun K hK => ?k123)
    case h123 =>
      go_simp
      try rfl
    go_simp
    refine hK _ ?_
    clear hK K
    refine wpD_alloc (.cells #[.int .i64 0, .int .i64 0] 31) (by kernel_rfl) ⟨rfl, fun ρ w' => by kernel_rfl⟩ ?_
    refine wpD_store 27 _ _ rfl rfl (fun bs => (bT)) 0 16 (tcells u) (fun bs => rfl) (fun bs => rfl) 27 (tcells t) (fun bs w' hS => (Blk.drew T.out).below hS.1) HLu.out (by rw [HLt.out]; decide) (by kernel_rfl) HOu.out (fun bs w' hS => by
      obtain ⟨hb, h1, -, h2, -⟩ := hS
      rw [spl_whole (tcells t) (tcells u) (HLt.out.trans HLu.out.symm)]
      exact ⟨⟨h1, (Kept.of_below hb).trans (Kept.setBlk _ _ _)⟩, ((Blk.drew T.out).below hb).setBlk _, Blk.otherBlk h2 _ (by have : w3.drew.heap.size = w3.heap.size := rfl; omega)⟩) (fun K hK => ?_)
    go_simp
    refine hK _ ?_
    clear hK K
    refine wpD_store 31 _ _ rfl rfl (fun bs => (bs 9)) 0 2 [.int .i64 1, .int .i64 0] (fun bs => rfl) (fun bs => rfl) 31 [.int .i64 0, .int .i64 0] (fun bs w' hS => hS.2.2) rfl (by decide) (by kernel_rfl) (two_ints _ _) (fun bs w' hS => by
      obtain ⟨⟨h1, hb⟩, hu, ha⟩ := hS
      rw [spl_whole [.int .i64 0, .int .i64 0] [.int .i64 1, .int .i64 0] rfl]
      have hw : w3.drew.heap.size = w3.heap.size := rfl
      exact ⟨⟨h1, keptNew hb h1 _⟩, hu.otherBlk _ (by omega), ha.setBlk _⟩) (fun K hK => ?_)
    go_simp
    refine hK _ ?_
    clear hK K
    refine wpD_nil (fun bs w4 hS => ?_)
    simp only [List.nil_append, putsC, ptrB]
    obtain ⟨⟨hwA, hBB⟩, hU, hA⟩ := hS
    generalize bs 9 = bA at *
    change w3.heap.size ≤ _ at hwA
    have hlt_A_T := T.out.lt
    have hsz_A := HB.out.size
    replace HB := Lib.hid (bkept HB.out (Kept.trans (Kept.refl _ _).drew hBB) (by rintro n rfl; omega))
    replace T := Lib.hid hU
    have A := Lib.hid hA
    clear hU hA hBB hltO
    have A_c0 : w4.cell? ⟨bA, 0, none⟩ = some (.int .i64 1) := A.out.cell 0
    have A_c1 : w4.cell? ⟨bA, 1, none⟩ = some (.int .i64 0) := A.out.cell 1
    have A_z : bA < w4.heap.size := A.out.lt
    go_upto_region 8 with fail
    clear A_c0 A_c1 A_z
    have FA0 : ∀ w' : World, Below w4.drew.heap.size w4.drew w' → w'.cell? ⟨bA, 0, none⟩ = some (.int .i64 1) := fun w' h => ((Blk.drew A.out).below h).cell 0
    have FA1 : ∀ w' : World, Below w4.drew.heap.size w4.drew w' → w'.cell? ⟨bA, 1, none⟩ = some (.int .i64 0) := fun w' h => ((Blk.drew A.out).below h).cell 1
    refine wp_region_all (fun k bs w' => match k with | 1 => (w4.drew.heap.size ≤ bs 9 ∧ w4.drew.heap.size ≤ bs 10 ∧ bs 9 ≠ bs 10 ∧ Below w4.drew.heap.size w4.drew w') ∧ Blk w' (bs 9) (tcells y) 27 ∧ Blk w' (bs 10) [.int .i64 0, .int .i64 0] 31 | _ => (w4.drew.heap.size ≤ bs 9 ∧ w4.drew.heap.size ≤ bs 10 ∧ bs 9 ≠ bs 10 ∧ Below w4.drew.heap.size w4.drew w') ∧ Blk w' (bs 9) (tcells y) 27 ∧ Blk w' (bs 10) [.int .i64 1, .int .i64 0] 31) (by kernel_rfl) (by kernel_rfl) (by kernel_rfl) ?_
    refine wpD_load 27 _ rfl (bT) 0 (tcells u) _ (by kernel_rfl) (by kernel_rfl) rfl (fun w' hS => ((Blk.drew T.out).below hS).range) Try.underlying27 rfl (by rw [HLu.out]; kernel_rfl) (fun K hK => ?_)
    go_simp
    refine hK _ ?_
    clear hK K
    refine wpD_pure (v := ?v124) (by kernel_rfl) (by kernel_rfl) (by kernel_rfl) (fun w' => ?h124) (fun K hK => ?k124)
    case h124 =>
      go_simp
      try rfl
    go_simp
    refine hK _ ?_
    clear hK K
    refine wpD_pure (v := ?v125) (by kernel_rfl) (by kernel_rfl) (by kernel_rfl) (fun w' => ?h125) (fun K hK => ?k125)
    case h125 =>
      go_simp
      try rfl
    go_simp
    refine hK _ ?_
    clear hK K
    refine wpD_call _ _ (by kernel_rfl) (by kernel_rfl) (by kernel_rfl) (by kernel_rfl) (fun w' => by kernel_rfl) (fun w' hS => (pick_any a3 1000 w' (by decide) (by decide)).mono (fun e w2 h => ⟨h.1, h.2 ▸ Below.refl _ _⟩)) (fun K hK => ?_)
    go_simp
    refine hK _ ?_
    clear hK K
    refine wpD_pure (v := ?v126) (by kernel_rfl) (by kernel_rfl) (by kernel_rfl) (fun w' => ?h126) (fun K hK => ?k126)
    case h126 =>
      go_simp
      try rfl
    go_simp
    refine hK _ ?_
    clear hK K
    refine wpD_call _ _ (by kernel_rfl) (by kernel_rfl) (by kernel_rfl) (by kernel_rfl) (fun w' => by kernel_rfl) (fun w' hS => do_eq w' u Gu.out 1 k (pickZ a3 1000) y 1 0 HD2.out) (fun K hK => ?_)
    go_simp
    refine hK _ ?_
    clear hK K
    refine wpD_pure (v := ?v127) (by kernel_rfl) (by kernel_rfl) (by kernel_rfl) (fun w' => ?h127) (fun K hK => ?k127)
    case h127 =>
      go_simp
      try rfl
    go_simp
    refine hK _ ?_
    clear hK K
    refine wpD_pure (v := ?v128) (by kernel_rfl) (by kernel_rfl) (by kernel_rfl) (fun w' => ?h128) (fun K hK => ?k128)
    case h128 =>
      go_simp
      try rfl
    go_simp
    refine hK _ ?_
    clear hK K
    refine wpD_pure (v := ?v129) (by kernel_rfl) (by kernel_rfl) (by kernel_rfl) (fun w' => ?h129) (fun K hK => ?k129)
    case h129 =>
      go_simp
      try rfl
    go_simp
    refine hK _ ?_
    clear hK K
    refine wpD_alloc (.cells #[.int .i64 0, .int .i64 0, .int .i64 0, .int .i64 0, .int .i64 0, .int .i64 0, .int .i64 0, .int .i64 0, .int .i64 0, .int .i64 0, .int .i64 0, .int .i64 0, .int .i64 0, .int .i64 0, .int .i64 0, .int .i64 0] 27) (by kernel_rfl) ⟨rfl, fun ρ w' => by kernel_rfl⟩ ?_
    refine wpD_alloc (.cells #[.int .i64 0, .int .i64 0] 31) (by kernel_rfl) ⟨rfl, fun ρ w' => by kernel_rfl⟩ ?_
    refine wpD_store 27 _ _ rfl rfl (fun bs => (bs 9)) 0 16 (tcells y) (fun bs => rfl) (fun bs => rfl) 27 [.int .i64 0, .int .i64 0, .int .i64 0, .int .i64 0, .int .i64 0, .int .i64 0, .int .i64 0, .int .i64 0, .int .i64 0, .int .i64 0, .int .i64 0, .int .i64 0, .int .i64 0, .int .i64 0, .int .i64 0, .int .i64 0] (fun bs w' hS => by obtain ⟨hb, h1, -, h2, -⟩ := hS; exact h2) HLy.out (by decide) (by kernel_rfl) HOy.out (fun bs w' hS => by
      obtain ⟨hb, h1, -, h2, h3, h4, h5, -⟩ := hS
      have hne := h4 _ (List.mem_cons_self)
      rw [spl_z16 _ HLy.out]
      exact ⟨⟨h1, h3, hne, bsetBlk hb h1 _⟩, Blk.setBlk h2 _, Blk.otherBlk h5 _ (Ne.symm hne)⟩) (fun K hK => ?_)
    go_simp
    refine hK _ ?_
    clear hK K
    refine wpD_store 31 _ _ rfl rfl (fun bs => (bs 10)) 0 2 [.int .i64 1, .int .i64 0] (fun bs => rfl) (fun bs => rfl) 31 [.int .i64 0, .int .i64 0] (fun bs w' hS => hS.2.2) rfl (by decide) (by kernel_rfl) (two_ints _ _) (fun bs w' hS => by
      obtain ⟨⟨h1, h3, hne, hb⟩, hu, ha⟩ := hS
      rw [spl_whole [.int .i64 0, .int .i64 0] [.int .i64 1, .int .i64 0] rfl]
      exact ⟨⟨h1, h3, hne, bsetBlk hb h3 _⟩, hu.otherBlk _ hne, ha.setBlk _⟩) (fun K hK => ?_)
    go_simp
    refine hK _ ?_
    clear hK K
    refine wpD_nil (fun bs w5 hS => ?_)
    simp only [List.nil_append, List.cons_append, putsC, ptrB]
    obtain ⟨⟨hwU, hwA, hneUA, hBB⟩, hU, hA⟩ := hS
    generalize bs 9 = bU at *
    generalize bs 10 = bB at *
    change w4.heap.size ≤ _ at hwU hwA
    have hlt_U_T := T.out.lt
    have hlt_U_A := A.out.lt
    have hsz_U := HB.out.size
    replace HB := Lib.hid (bcall HB.out (Below.trans (Below.drew (Below.refl _ _)) hBB))
    replace T := Lib.hid ((Blk.drew T.out).below hBB)
    replace A := Lib.hid ((Blk.drew A.out).below hBB)
    have U := Lib.hid hU
    have B := Lib.hid hA
    clear hU hA hBB
    have A_c0 : w5.cell? ⟨bA, 0, none⟩ = some (.int .i64 1) := A.out.cell 0
    have A_c1 : w5.cell? ⟨bA, 1, none⟩ = some (.int .i64 0) := A.out.cell 1
    have A_z : bA < w5.heap.size := A.out.lt
    have B_c0 : w5.cell? ⟨bB, 0, none⟩ = some (.int .i64 1) := B.out.cell 0
    have B_c1 : w5.cell? ⟨bB, 1, none⟩ = some (.int .i64 0) := B.out.cell 1
    have B_z : bB < w5.heap.size := B.out.lt
    go_upto_region 9 with fail
    have hfv := field_value
    clear A_c0 A_c1 A_z
    clear B_c0 B_c1 B_z
    have FA0 : ∀ w' : World, Below w5.heap.size w5 w' → w'.cell? ⟨bA, 0, none⟩ = some (.int .i64 1) := fun w' h => (A.out.below h).cell 0
    have FA1 : ∀ w' : World, Below w5.heap.size w5 w' → w'.cell? ⟨bA, 1, none⟩ = some (.int .i64 0) := fun w' h => (A.out.below h).cell 1
    have FB0 : ∀ w' : World, Below w5.heap.size w5 w' → w'.cell? ⟨bB, 0, none⟩ = some (.int .i64 1) := fun w' h => (B.out.below h).cell 0
    have FB1 : ∀ w' : World, Below w5.heap.size w5 w' → w'.cell? ⟨bB, 1, none⟩ = some (.int .i64 0) := fun w' h => (B.out.below h).cell 1
    refine wp_region_stable (fun _ w' => Below w5.heap.size w5 w') (by kernel_rfl) (by kernel_rfl) (Below.drew (Below.refl _ _)) ?_
    refine wpB_val (v := ?v130) (by kernel_rfl) (by kernel_rfl) 0 (by kernel_rfl) (fun j w' hj hS => ?h130) (fun K hK => ?k130)
    case h130 =>
      have c_A0 := FA0 w' hS
      have c_A1 := FA1 w' hS
      have c_B0 := FB0 w' hS
      have c_B1 := FB1 w' hS
      go_simp
      try rfl
    go_simp
    refine hK _ ?_
    clear hK K
    refine wpB_val (v := ?v131) (by kernel_rfl) (by kernel_rfl) 0 (by kernel_rfl) (fun j w' hj hS => ?h131) (fun K hK => ?k131)
    case h131 =>
      have c_A0 := FA0 w' hS
      have c_A1 := FA1 w' hS
      have c_B0 := FB0 w' hS
      have c_B1 := FB1 w' hS
      go_simp
      try rfl
    go_simp
    refine hK _ ?_
    clear hK K
    refine wpB_val (v := ?v132) (by kernel_rfl) (by kernel_rfl) _ rfl (fun j w' hj hS => ?h132) (fun K hK => ?k132)
    case h132 =>
      go_simp
      try rfl
    go_simp
    refine hK _ ?_
    clear hK K
    refine wpB_val (v := ?v133) (by kernel_rfl) (by kernel_rfl) _ rfl (fun j w' hj hS => ?h133) (fun K hK => ?k133)
    case h133 =>
      go_simp
      try rfl
    go_simp
    refine hK _ ?_
    clear hK K
    refine wpB_load 27 _ rfl (bU) (0) (tcells y) _ (by kernel_rfl) rfl 0 (by kernel_rfl) (fun j w' hj hS => (U.out.below hS).range) Try.underlying27 rfl (by rw [HLy.out]; kernel_rfl) (fun K hK => ?_)
    go_simp
    refine hK _ ?_
    clear hK K
    refine wpB_call _ _ (by kernel_rfl) (by kernel_rfl) (fun w' => by kernel_rfl) 0 (by kernel_rfl) (fun j w' hj hS => (len_eq w' y Gy.out (lenT u) HLY.out).mono (fun e w2 h => ⟨h.1, Below.trans hS (Below.mono h.2 hS.size)⟩)) (fun K hK => ?_)
    go_simp
    refine hK _ ?_
    clear hK K
    refine wpB_load 27 _ rfl (bT) (0) (tcells u) _ (by kernel_rfl) rfl 0 (by kernel_rfl) (fun j w' hj hS => (T.out.below hS).range) Try.underlying27 rfl (by rw [HLu.out]; kernel_rfl) (fun K hK => ?_)
    go_simp
    refine hK _ ?_
    clear hK K
    refine wpB_call _ _ (by kernel_rfl) (by kernel_rfl) (fun w' => by kernel_rfl) 0 (by kernel_rfl) (fun j w' hj hS => (len_eq w' u Gu.out (lenT u) rfl).mono (fun e w2 h => ⟨h.1, Below.trans hS (Below.mono h.2 hS.size)⟩)) (fun K hK => ?_)
    go_simp
    refine hK _ ?_
    clear hK K
    refine wpB_val (v := ?v134) (by kernel_rfl) (by kernel_rfl) _ rfl (fun j w' hj hS => ?h134) (fun K hK => ?k134)
    case h134 =>
      go_simp
      try rfl
    go_simp
    refine hK _ ?_
    clear hK K
    refine wpB_val (v := ?v135) (by kernel_rfl) (by kernel_rfl) _ rfl (fun j w' hj hS => ?h135) (fun K hK => ?k135)
    case h135 =>
      go_simp
      try rfl
    go_simp
    refine hK _ ?_
    clear hK K
    refine wpB_val (v := ?v136) (by kernel_rfl) (by kernel_rfl) _ rfl (fun j w' hj hS => ?h136) (fun K hK => ?k136)
    case h136 =>
      go_simp
      try rfl
    go_simp
    refine hK _ ?_
    clear hK K
    refine wpB_load 27 _ rfl (bU) (0) (tcells y) _ (by kernel_rfl) rfl 0 (by kernel_rfl) (fun j w' hj hS => (U.out.below hS).range) Try.underlying27 rfl (by rw [HLy.out]; kernel_rfl) (fun K hK => ?_)
    go_simp
    refine hK _ ?_
    clear hK K
    refine wpB_val (v := ?v137) (by kernel_rfl) (by kernel_rfl) _ rfl (fun j w' hj hS => ?h137) (fun K hK => ?k137)
    case h137 =>
      go_simp
      try rfl
    go_simp
    refine hK _ ?_
    clear hK K
    refine wpB_call _ _ (by kernel_rfl) (by kernel_rfl) (fun w' => by kernel_rfl) 0 (by kernel_rfl) (fun j w' hj hS => (peek_eq w' y Gy.out k k2 (by omega) HPY.out).mono (fun e w2 h => ⟨h.1, Below.trans hS (Below.mono h.2 hS.size)⟩)) (fun K hK => ?_)
    go_simp
    refine hK _ ?_
    clear hK K
    refine wpB_val (v := ?v138) (by kernel_rfl) (by kernel_rfl) _ rfl (fun j w' hj hS => ?h138) (fun K hK => ?k138)
    case h138 =>
      go_simp
      try rfl
    go_simp
    refine hK _ ?_
    clear hK K
    refine wpB_val (v := ?v139) (by kernel_rfl) (by kernel_rfl) _ rfl (fun j w' hj hS => ?h139) (fun K hK => ?k139)
    case h139 =>
      go_simp
      try rfl
    go_simp
    refine hK _ ?_
    clear hK K
    refine wpB_call _ _ (by kernel_rfl) (by kernel_rfl) (fun w' => by kernel_rfl) 0 (by kernel_rfl) (fun j w' hj hS => (pick_any a3 1000 w' (by decide) (by decide)).mono (fun e w2 h => ⟨h.1, h.2 ▸ hS⟩)) (fun K hK => ?_)
    go_simp
    refine hK _ ?_
    clear hK K
    refine wpB_val (v := ?v140) (by kernel_rfl) (by kernel_rfl) _ rfl (fun j w' hj hS => ?h140) (fun K hK => ?k140)
    case h140 =>
      go_simp
      try rfl
    go_simp
    refine hK _ ?_
    clear hK K
    refine wpB_val (v := ?v141) (by kernel_rfl) (by kernel_rfl) _ rfl (fun j w' hj hS => ?h141) (fun K hK => ?k141)
    case h141 =>
      go_simp
      try rfl
    go_simp
    refine hK _ ?_
    clear hK K
    refine wpB_val (v := ?v142) (by kernel_rfl) (by kernel_rfl) _ rfl (fun j w' hj hS => ?h142) (fun K hK => ?k142)
    case h142 =>
      go_simp
      try rfl
    go_simp
    refine hK _ ?_
    clear hK K
    refine wpB_nil (fun w' hS => ?_)
    go_wp2_with fail
    go_ret
    exact ⟨by first | rfl | simp, bcall HB.out hS⟩
end Go.Proofs.Ytakemnpicokaiaa
