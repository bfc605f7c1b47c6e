/- The walk of the law StoreWishes. -/
import Derived.Test.YtakemnpicokaiaaAlike
namespace Go.Proofs.Ytakemnpicokaiaa
open Go.RowKit
set_option linter.unusedVariables false
theorem wishes_fence (S : St) (h : S.ok) (t o l : Nat) (ht : t < 4) (ho : o < 4) (hl : l < 9) (hne : o ≠ t) (nw : List Int) (hn : nw.length = 72) (fl : Int) (hw : S.wanted = List.replicate 36 false) (i : Nat) (hi : i < 72) :
    (fenceSt { now := nw, good := S.good, wanted := S.wanted.set (t * 9 + l) true, flushes := fl, fences := S.fences } o).good.getD i 0 = S.good.getD i 0 := by
  rw [fence_good { now := nw, good := S.good, wanted := S.wanted.set (t * 9 + l) true, flushes := fl, fences := S.fences } ⟨hn, h.2.1, by simpa using h.2.2⟩ o i hi, if_neg]
  dsimp only
  rw [List.getD_eq_getElem?_getD, List.getElem?_set, if_neg (by omega), hw, List.getElem?_replicate]
  split <;> simp
theorem crash0 (S : St) (h : S.ok) (i : Nat) (hi : i < 72) : (crashSt S 0).now.getD i 0 = S.good.getD i 0 := by
  rw [crash_now S h 0 i hi, if_pos (bitZ_zero _)]
set_option maxHeartbeats 2000000 in
theorem walk_StoreWishes (a0 : Option Addr) (len0 cap0 : Nat) (f0 : Nat → Nat → Int) (a1 a2 a3 a4 a5 : Int) (w : World) (h0 : Deeds w a0 len0 cap0 f0) (w1 : (Lit.int .i64 a1).wf = true) (w2 : (Lit.int .i64 a2).wf = true) (w3 : (Lit.int .i64 a3).wf = true) (w4 : (Lit.int .i64 a4).wf = true) (w5 : (Lit.int .u64 a5).wf = true) :
    Calls Try.prog 14 #[.slice a0 len0 cap0, .int .i64 a1, .int .i64 a2, .int .i64 a3, .int .i64 a4, .int .u64 a5] w fun e w' => e = .returned (.bool true) ∧ Below w.heap.size w w' := by
  have hcap0 := h0.1
  have hmax0 := h0.2.1
  have HD0 := Lib.hid h0
  clear h0
  by_cases hl : 60 < len0
  · go_enter Try.func14, Try.ntmps14
    go_wp2_with fail
    refine (kept_any _).mono ?_
    rintro e w1 ⟨rfl, hb1⟩
    go_wp2_with fail
    refine (done_many _ _ _ _ hl (by omega)).mono ?_
    rintro e w2 ⟨rfl, hb2⟩
    go_wp2_with fail
    go_ret
    exact ⟨by simp; omega, bcall hb1 hb2⟩
  clear w1 w2 w3 w4 w5
  go_enter Try.func14, Try.ntmps14
  go_wp2_with fail
  refine (kept_any _).mono ?_
  rintro e w1 ⟨rfl, hb1⟩
  go_wp2_with fail
  refine (done_any _ _ _ _ f0 (HD0.out.below hb1) (by omega)).mono ?_
  rintro e w2 ⟨rfl, ⟨S, hs2⟩, hb2⟩
  have HB := Lib.hid (bcall hb1 hb2)
  have hge := hb1.size
  generalize w1.heap.size = b at *
  clear hb1 hb2 HD0
  have HS := Lib.hid hs2
  clear hs2
  go_wp2_with (go_at_call 21; refine (pick_any _ _ _ (by decide) (by decide)).mono ?_; rintro e w' ⟨rfl, rfl⟩)
  have t0 := pickZ_nonneg a1 4 (by decide)
  have t1 := pickZ_lt a1 4 (by decide)
  generalize pickZ a1 4 = t at *
  have o0 := pickZ_nonneg a2 4 (by decide)
  have o1 := pickZ_lt a2 4 (by decide)
  generalize pickZ a2 4 = o at *
  have l0 := pickZ_nonneg a3 9 (by decide)
  have l1 := pickZ_lt a3 9 (by decide)
  generalize pickZ a3 9 = l at *
  have hl9 : l.toNat < 9 := by omega
  have ht4 : t.toNat < 4 := by omega
  have ho4 : o.toNat < 4 := by omega
  have hok := Lib.hid HS.out.1
  refine (store_crash _ _ S 0 HS.out (by decide) (by decide)).mono ?_
  rintro e w3 ⟨rfl, HS1, hb3⟩
  replace HB := Lib.hid (bkept HB.out hb3 (by rintro n rfl; omega))
  clear HS
  replace HS1 := Lib.hid HS1
  clear hb3
  have hw1 : Hid ((crashSt S 0).wanted = List.replicate 36 false) := Lib.hid rfl
  have hok1 := Lib.hid HS1.out.1
  generalize crashSt S 0 = S1 at *
  obtain ⟨y0, y1, y2, y3, y4, y5, y6, y7, hG⟩ : ∃ y0 y1 y2 y3 y4 y5 y6 y7 : Int, lineV S1.good l.toNat = #[.int .u64 y0, .int .u64 y1, .int .u64 y2, .int .u64 y3, .int .u64 y4, .int .u64 y5, .int .u64 y6, .int .u64 y7] := ⟨_, _, _, _, _, _, _, _, rfl⟩
  replace hG := Lib.hid hG
  go_wp2_with fail
  have p0 := pickZ_nonneg a4 8 (by decide)
  have p1 := pickZ_lt a4 8 (by decide)
  have hq1 : wrap64 (l * 8) = l * 8 := by unfold wrap64; omega
  have hq2 : wrap64 (l * 8 + pickZ a4 8) = l * 8 + pickZ a4 8 := by unfold wrap64; omega
  refine (store_good _ _ S1 l HS1.out l0 l1).mono ?_
  rw [hG.out]
  rintro e w4 ⟨rfl, hb4⟩
  replace HB := Lib.hid (bcall HB.out hb4)
  replace HS1 := Lib.hid (HS1.out.below hb4)
  clear hb4
  go_wp2_with fail
  have hltY0 := HS1.out.2.lt
  have hb5 := balloc (Below.refl _ w4) (Obj.cells #[.int .u64 y0, .int .u64 y1, .int .u64 y2, .int .u64 y3, .int .u64 y4, .int .u64 y5, .int .u64 y6, .int .u64 y7] 62)
  have Y := Lib.hid (Blk.new w4 [.int .u64 y0, .int .u64 y1, .int .u64 y2, .int .u64 y3, .int .u64 y4, .int .u64 y5, .int .u64 y6, .int .u64 y7] 62)
  change Hid (Blk (w4.alloc (Obj.cells #[.int .u64 y0, .int .u64 y1, .int .u64 y2, .int .u64 y3, .int .u64 y4, .int .u64 y5, .int .u64 y6, .int .u64 y7] 62)) _ _ _) at Y
  have ZY : Hid ((w4.alloc (Obj.cells #[.int .u64 y0, .int .u64 y1, .int .u64 y2, .int .u64 y3, .int .u64 y4, .int .u64 y5, .int .u64 y6, .int .u64 y7] 62)).heap.size = w4.heap.size + 1) := World.size_alloc _ _
  replace HB := Lib.hid (bcall HB.out hb5)
  replace HS1 := Lib.hid (HS1.out.below hb5)
  clear hb5
  generalize w4.alloc (Obj.cells #[.int .u64 y0, .int .u64 y1, .int .u64 y2, .int .u64 y3, .int .u64 y4, .int .u64 y5, .int .u64 y6, .int .u64 y7] 62) = w5 at *
  generalize w4.heap.size = bY at *
  refine (pick_any _ _ _ (by decide) (by decide)).mono ?_
  rintro e w' ⟨rfl, rfl⟩
  generalize pickZ a4 8 = p at *
  go_wp2_with fail
  refine (store_save _ _ S1 (l * 8 + p) a5 HS1.out (by omega) (by omega)).mono ?_
  rintro e w6 ⟨rfl, HS2, hb6⟩
  replace HB := Lib.hid (bkept HB.out hb6 (by rintro n rfl; omega))
  replace Y := Lib.hid (Y.out.kept hb6 (by intro hh; omega))
  clear HS1
  replace HS2 := Lib.hid HS2
  clear hb6
  have hnl : Hid ((S1.now.set (l * 8 + p).toNat a5).length = 72) := Lib.hid (by rw [List.length_set]; exact hok1.out.1)
  generalize (S1.now.set (l * 8 + p).toNat a5) = nw at *
  go_wp2_with fail
  refine (store_flush _ _ _ t l HS2.out t0 t1 l0 l1).mono ?_
  rintro e w7 ⟨rfl, HS3, hb7⟩
  replace HB := Lib.hid (bkept HB.out hb7 (by rintro n rfl; omega))
  replace Y := Lib.hid (Y.out.kept hb7 (by intro hh; omega))
  clear HS2
  replace HS3 := Lib.hid HS3
  clear hb7
  dsimp only at HS3
  by_cases hot : o = t
  · have hb0 : (o != t) = false := by simp [hot]
    have hgood : Hid (∀ i, i < 72 → ({ now := nw, good := S1.good, wanted := S1.wanted.set (t.toNat * 9 + l.toNat) true, flushes := wrap64 (S1.flushes + 1), fences := S1.fences } : St).good.getD i 0 = S1.good.getD i 0) := Lib.hid (fun _ _ => rfl)
    generalize ({ now := nw, good := S1.good, wanted := S1.wanted.set (t.toNat * 9 + l.toNat) true, flushes := wrap64 (S1.flushes + 1), fences := S1.fences } : St) = S4 at *
    clear hot
    go_wp2_with fail
    have hG4 := Lib.hid ((lineV_congr S4.good S1.good l.toNat (fun i hi => hgood.out i (by omega))).trans hG.out)
    have hN5 := Lib.hid ((lineV_congr (crashSt S4 0).now S1.good l.toNat (fun i hi => (crash0 S4 HS3.out.1 i (by omega)).trans (hgood.out i (by omega)))).trans hG.out)
    clear hgood hw1 hok1 hnl
    refine (store_good _ _ S4 l HS3.out l0 l1).mono ?_
    rw [hG4.out]
    rintro e w8 ⟨rfl, hb8⟩
    replace HB := Lib.hid (bcall HB.out hb8)
    replace Y := Lib.hid (Y.out.below hb8)
    replace HS3 := Lib.hid (HS3.out.below hb8)
    clear hb8
    go_wp2_with fail
    have hltI0 := HS3.out.2.lt
    have hltI1 := Y.out.lt
    have hb9 := balloc (Below.refl _ w8) (Obj.cells #[.int .u64 y0, .int .u64 y1, .int .u64 y2, .int .u64 y3, .int .u64 y4, .int .u64 y5, .int .u64 y6, .int .u64 y7] 62)
    have I := Lib.hid (Blk.new w8 [.int .u64 y0, .int .u64 y1, .int .u64 y2, .int .u64 y3, .int .u64 y4, .int .u64 y5, .int .u64 y6, .int .u64 y7] 62)
    change Hid (Blk (w8.alloc (Obj.cells #[.int .u64 y0, .int .u64 y1, .int .u64 y2, .int .u64 y3, .int .u64 y4, .int .u64 y5, .int .u64 y6, .int .u64 y7] 62)) _ _ _) at I
    have ZI : Hid ((w8.alloc (Obj.cells #[.int .u64 y0, .int .u64 y1, .int .u64 y2, .int .u64 y3, .int .u64 y4, .int .u64 y5, .int .u64 y6, .int .u64 y7] 62)).heap.size = w8.heap.size + 1) := World.size_alloc _ _
    replace HB := Lib.hid (bcall HB.out hb9)
    replace Y := Lib.hid (Y.out.below hb9)
    replace HS3 := Lib.hid (HS3.out.below hb9)
    clear hb9
    generalize w8.alloc (Obj.cells #[.int .u64 y0, .int .u64 y1, .int .u64 y2, .int .u64 y3, .int .u64 y4, .int .u64 y5, .int .u64 y6, .int .u64 y7] 62) = w9 at *
    generalize w8.heap.size = bI at *
    refine (store_crash _ _ _ 0 HS3.out (by decide) (by decide)).mono ?_
    rintro e w10 ⟨rfl, HS5, hb10⟩
    replace HB := Lib.hid (bkept HB.out hb10 (by rintro n rfl; omega))
    replace Y := Lib.hid (Y.out.kept hb10 (by intro hh; omega))
    replace I := Lib.hid (I.out.kept hb10 (by intro hh; omega))
    clear HS3
    replace HS5 := Lib.hid HS5
    clear hb10
    generalize crashSt S4 0 = S5 at *
    have heq : ∀ w, (binOp .eql 62 (.agg #[.int .u64 y0, .int .u64 y1, .int .u64 y2, .int .u64 y3, .int .u64 y4, .int .u64 y5, .int .u64 y6, .int .u64 y7]) (.agg #[.int .u64 y0, .int .u64 y1, .int .u64 y2, .int .u64 y3, .int .u64 y4, .int .u64 y5, .int .u64 y6, .int .u64 y7])).run Try.prog w = .ok (.bool true) w := fun w => by
      rw [line_eql]; simp
    go_wp2_with fail
    have Y_c0 : w10.cell? ⟨bY, 0, none⟩ = some (.int .u64 y0) := Y.out.cell 0
    have Y_c1 : w10.cell? ⟨bY, 1, none⟩ = some (.int .u64 y1) := Y.out.cell 1
    have Y_c2 : w10.cell? ⟨bY, 2, none⟩ = some (.int .u64 y2) := Y.out.cell 2
    have Y_c3 : w10.cell? ⟨bY, 3, none⟩ = some (.int .u64 y3) := Y.out.cell 3
    have Y_c4 : w10.cell? ⟨bY, 4, none⟩ = some (.int .u64 y4) := Y.out.cell 4
    have Y_c5 : w10.cell? ⟨bY, 5, none⟩ = some (.int .u64 y5) := Y.out.cell 5
    have Y_c6 : w10.cell? ⟨bY, 6, none⟩ = some (.int .u64 y6) := Y.out.cell 6
    have Y_c7 : w10.cell? ⟨bY, 7, none⟩ = some (.int .u64 y7) := Y.out.cell 7
    have I_c0 : w10.cell? ⟨bI, 0, none⟩ = some (.int .u64 y0) := I.out.cell 0
    have I_c1 : w10.cell? ⟨bI, 1, none⟩ = some (.int .u64 y1) := I.out.cell 1
    have I_c2 : w10.cell? ⟨bI, 2, none⟩ = some (.int .u64 y2) := I.out.cell 2
    have I_c3 : w10.cell? ⟨bI, 3, none⟩ = some (.int .u64 y3) := I.out.cell 3
    have I_c4 : w10.cell? ⟨bI, 4, none⟩ = some (.int .u64 y4) := I.out.cell 4
    have I_c5 : w10.cell? ⟨bI, 5, none⟩ = some (.int .u64 y5) := I.out.cell 5
    have I_c6 : w10.cell? ⟨bI, 6, none⟩ = some (.int .u64 y6) := I.out.cell 6
    have I_c7 : w10.cell? ⟨bI, 7, none⟩ = some (.int .u64 y7) := I.out.cell 7
    go_region_held3 (fun w' => w'.cell? ⟨bY, 0, none⟩ = some (.int .u64 y0) ∧ w'.cell? ⟨bY, 1, none⟩ = some (.int .u64 y1) ∧ w'.cell? ⟨bY, 2, none⟩ = some (.int .u64 y2) ∧ w'.cell? ⟨bY, 3, none⟩ = some (.int .u64 y3) ∧ w'.cell? ⟨bY, 4, none⟩ = some (.int .u64 y4) ∧ w'.cell? ⟨bY, 5, none⟩ = some (.int .u64 y5) ∧ w'.cell? ⟨bY, 6, none⟩ = some (.int .u64 y6) ∧ w'.cell? ⟨bY, 7, none⟩ = some (.int .u64 y7) ∧ w'.cell? ⟨bI, 0, none⟩ = some (.int .u64 y0) ∧ w'.cell? ⟨bI, 1, none⟩ = some (.int .u64 y1) ∧ w'.cell? ⟨bI, 2, none⟩ = some (.int .u64 y2) ∧ w'.cell? ⟨bI, 3, none⟩ = some (.int .u64 y3) ∧ w'.cell? ⟨bI, 4, none⟩ = some (.int .u64 y4) ∧ w'.cell? ⟨bI, 5, none⟩ = some (.int .u64 y5) ∧ w'.cell? ⟨bI, 6, none⟩ = some (.int .u64 y6) ∧ w'.cell? ⟨bI, 7, none⟩ = some (.int .u64 y7))
      (first | go_keep | exact ⟨m0, m1, m2, m3, m4, m5, m6, m7, m8, m9, m10, m11, m12, m13, m14, m15⟩)
      (first
        | (go_at_call 37; refine (lineNow_any _ _ S5 l (StoreAt.drew HS5.out) l0 l1).mono ?_; rw [hN5.out]; rintro e w9 ⟨rfl, hb9⟩; have m0 := ((Blk.drew Y.out).below hb9).cell 0; have m1 := ((Blk.drew Y.out).below hb9).cell 1; have m2 := ((Blk.drew Y.out).below hb9).cell 2; have m3 := ((Blk.drew Y.out).below hb9).cell 3; have m4 := ((Blk.drew Y.out).below hb9).cell 4; have m5 := ((Blk.drew Y.out).below hb9).cell 5; have m6 := ((Blk.drew Y.out).below hb9).cell 6; have m7 := ((Blk.drew Y.out).below hb9).cell 7; have m8 := ((Blk.drew I.out).below hb9).cell 0; have m9 := ((Blk.drew I.out).below hb9).cell 1; have m10 := ((Blk.drew I.out).below hb9).cell 2; have m11 := ((Blk.drew I.out).below hb9).cell 3; have m12 := ((Blk.drew I.out).below hb9).cell 4; have m13 := ((Blk.drew I.out).below hb9).cell 5; have m14 := ((Blk.drew I.out).below hb9).cell 6; have m15 := ((Blk.drew I.out).below hb9).cell 7))
    go_wp2_with fail
    go_ret
    exact ⟨rfl, bcall HB.out.drew hb9⟩
  · have hb0 : (o != t) = true := by simp [hot]
    have hgood := Lib.hid (fun i hi => wishes_fence S1 hok1.out t.toNat o.toNat l.toNat ht4 ho4 hl9 (by omega) nw hnl.out (wrap64 (S1.flushes + 1)) hw1.out i hi)
    clear hot
    go_wp2_with fail
    refine (store_fence _ _ _ o HS3.out o0 o1).mono ?_
    rintro e w8 ⟨rfl, HS4, hb8⟩
    replace HB := Lib.hid (bkept HB.out hb8 (by rintro n rfl; omega))
    replace Y := Lib.hid (Y.out.kept hb8 (by intro hh; omega))
    clear HS3
    replace HS4 := Lib.hid HS4
    clear hb8
    generalize fenceSt { now := nw, good := S1.good, wanted := S1.wanted.set (t.toNat * 9 + l.toNat) true, flushes := wrap64 (S1.flushes + 1), fences := S1.fences } o.toNat = S4 at *
    go_wp2_with fail
    have hG4 := Lib.hid ((lineV_congr S4.good S1.good l.toNat (fun i hi => hgood.out i (by omega))).trans hG.out)
    have hN5 := Lib.hid ((lineV_congr (crashSt S4 0).now S1.good l.toNat (fun i hi => (crash0 S4 HS4.out.1 i (by omega)).trans (hgood.out i (by omega)))).trans hG.out)
    clear hgood hw1 hok1 hnl
    refine (store_good _ _ S4 l HS4.out l0 l1).mono ?_
    rw [hG4.out]
    rintro e w9 ⟨rfl, hb9⟩
    replace HB := Lib.hid (bcall HB.out hb9)
    replace Y := Lib.hid (Y.out.below hb9)
    replace HS4 := Lib.hid (HS4.out.below hb9)
    clear hb9
    go_wp2_with fail
    have hltI0 := HS4.out.2.lt
    have hltI1 := Y.out.lt
    have hb10 := balloc (Below.refl _ w9) (Obj.cells #[.int .u64 y0, .int .u64 y1, .int .u64 y2, .int .u64 y3, .int .u64 y4, .int .u64 y5, .int .u64 y6, .int .u64 y7] 62)
    have I := Lib.hid (Blk.new w9 [.int .u64 y0, .int .u64 y1, .int .u64 y2, .int .u64 y3, .int .u64 y4, .int .u64 y5, .int .u64 y6, .int .u64 y7] 62)
    change Hid (Blk (w9.alloc (Obj.cells #[.int .u64 y0, .int .u64 y1, .int .u64 y2, .int .u64 y3, .int .u64 y4, .int .u64 y5, .int .u64 y6, .int .u64 y7] 62)) _ _ _) at I
    have ZI : Hid ((w9.alloc (Obj.cells #[.int .u64 y0, .int .u64 y1, .int .u64 y2, .int .u64 y3, .int .u64 y4, .int .u64 y5, .int .u64 y6, .int .u64 y7] 62)).heap.size = w9.heap.size + 1) := World.size_alloc _ _
    replace HB := Lib.hid (bcall HB.out hb10)
    replace Y := Lib.hid (Y.out.below hb10)
    replace HS4 := Lib.hid (HS4.out.below hb10)
    clear hb10
    generalize w9.alloc (Obj.cells #[.int .u64 y0, .int .u64 y1, .int .u64 y2, .int .u64 y3, .int .u64 y4, .int .u64 y5, .int .u64 y6, .int .u64 y7] 62) = w10 at *
    generalize w9.heap.size = bI at *
    refine (store_crash _ _ _ 0 HS4.out (by decide) (by decide)).mono ?_
    rintro e w11 ⟨rfl, HS5, hb11⟩
    replace HB := Lib.hid (bkept HB.out hb11 (by rintro n rfl; omega))
    replace Y := Lib.hid (Y.out.kept hb11 (by intro hh; omega))
    replace I := Lib.hid (I.out.kept hb11 (by intro hh; omega))
    clear HS4
    replace HS5 := Lib.hid HS5
    clear hb11
    generalize crashSt S4 0 = S5 at *
    have heq : ∀ w, (binOp .eql 62 (.agg #[.int .u64 y0, .int .u64 y1, .int .u64 y2, .int .u64 y3, .int .u64 y4, .int .u64 y5, .int .u64 y6, .int .u64 y7]) (.agg #[.int .u64 y0, .int .u64 y1, .int .u64 y2, .int .u64 y3, .int .u64 y4, .int .u64 y5, .int .u64 y6, .int .u64 y7])).run Try.prog w = .ok (.bool true) w := fun w => by
      rw [line_eql]; simp
    go_wp2_with fail
    have Y_c0 : w11.cell? ⟨bY, 0, none⟩ = some (.int .u64 y0) := Y.out.cell 0
    have Y_c1 : w11.cell? ⟨bY, 1, none⟩ = some (.int .u64 y1) := Y.out.cell 1
    have Y_c2 : w11.cell? ⟨bY, 2, none⟩ = some (.int .u64 y2) := Y.out.cell 2
    have Y_c3 : w11.cell? ⟨bY, 3, none⟩ = some (.int .u64 y3) := Y.out.cell 3
    have Y_c4 : w11.cell? ⟨bY, 4, none⟩ = some (.int .u64 y4) := Y.out.cell 4
    have Y_c5 : w11.cell? ⟨bY, 5, none⟩ = some (.int .u64 y5) := Y.out.cell 5
    have Y_c6 : w11.cell? ⟨bY, 6, none⟩ = some (.int .u64 y6) := Y.out.cell 6
    have Y_c7 : w11.cell? ⟨bY, 7, none⟩ = some (.int .u64 y7) := Y.out.cell 7
    have I_c0 : w11.cell? ⟨bI, 0, none⟩ = some (.int .u64 y0) := I.out.cell 0
    have I_c1 : w11.cell? ⟨bI, 1, none⟩ = some (.int .u64 y1) := I.out.cell 1
    have I_c2 : w11.cell? ⟨bI, 2, none⟩ = some (.int .u64 y2) := I.out.cell 2
    have I_c3 : w11.cell? ⟨bI, 3, none⟩ = some (.int .u64 y3) := I.out.cell 3
    have I_c4 : w11.cell? ⟨bI, 4, none⟩ = some (.int .u64 y4) := I.out.cell 4
    have I_c5 : w11.cell? ⟨bI, 5, none⟩ = some (.int .u64 y5) := I.out.cell 5
    have I_c6 : w11.cell? ⟨bI, 6, none⟩ = some (.int .u64 y6) := I.out.cell 6
    have I_c7 : w11.cell? ⟨bI, 7, none⟩ = some (.int .u64 y7) := I.out.cell 7
    go_region_held3 (fun w' => w'.cell? ⟨bY, 0, none⟩ = some (.int .u64 y0) ∧ w'.cell? ⟨bY, 1, none⟩ = some (.int .u64 y1) ∧ w'.cell? ⟨bY, 2, none⟩ = some (.int .u64 y2) ∧ w'.cell? ⟨bY, 3, none⟩ = some (.int .u64 y3) ∧ w'.cell? ⟨bY, 4, none⟩ = some (.int .u64 y4) ∧ w'.cell? ⟨bY, 5, none⟩ = some (.int .u64 y5) ∧ w'.cell? ⟨bY, 6, none⟩ = some (.int .u64 y6) ∧ w'.cell? ⟨bY, 7, none⟩ = some (.int .u64 y7) ∧ w'.cell? ⟨bI, 0, none⟩ = some (.int .u64 y0) ∧ w'.cell? ⟨bI, 1, none⟩ = some (.int .u64 y1) ∧ w'.cell? ⟨bI, 2, none⟩ = some (.int .u64 y2) ∧ w'.cell? ⟨bI, 3, none⟩ = some (.int .u64 y3) ∧ w'.cell? ⟨bI, 4, none⟩ = some (.int .u64 y4) ∧ w'.cell? ⟨bI, 5, none⟩ = some (.int .u64 y5) ∧ w'.cell? ⟨bI, 6, none⟩ = some (.int .u64 y6) ∧ w'.cell? ⟨bI, 7, none⟩ = some (.int .u64 y7))
      (first | go_keep | exact ⟨m0, m1, m2, m3, m4, m5, m6, m7, m8, m9, m10, m11, m12, m13, m14, m15⟩)
      (first
        | (go_at_call 37; refine (lineNow_any _ _ S5 l (StoreAt.drew HS5.out) l0 l1).mono ?_; rw [hN5.out]; rintro e w9 ⟨rfl, hb9⟩; have m0 := ((Blk.drew Y.out).below hb9).cell 0; have m1 := ((Blk.drew Y.out).below hb9).cell 1; have m2 := ((Blk.drew Y.out).below hb9).cell 2; have m3 := ((Blk.drew Y.out).below hb9).cell 3; have m4 := ((Blk.drew Y.out).below hb9).cell 4; have m5 := ((Blk.drew Y.out).below hb9).cell 5; have m6 := ((Blk.drew Y.out).below hb9).cell 6; have m7 := ((Blk.drew Y.out).below hb9).cell 7; have m8 := ((Blk.drew I.out).below hb9).cell 0; have m9 := ((Blk.drew I.out).below hb9).cell 1; have m10 := ((Blk.drew I.out).below hb9).cell 2; have m11 := ((Blk.drew I.out).below hb9).cell 3; have m12 := ((Blk.drew I.out).below hb9).cell 4; have m13 := ((Blk.drew I.out).below hb9).cell 5; have m14 := ((Blk.drew I.out).below hb9).cell 6; have m15 := ((Blk.drew I.out).below hb9).cell 7))
    go_wp2_with fail
    go_ret
    exact ⟨rfl, bcall HB.out.drew hb9⟩
end Go.Proofs.Ytakemnpicokaiaa
