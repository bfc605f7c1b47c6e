/- The walk of the law StoreApart. -/
import Derived.Test.YtakemnpicokaiaaAlike
namespace Go.Proofs.Ytakemnpicokaiaa
open Go.RowKit
set_option linter.unusedVariables false
set_option maxHeartbeats 2000000 in
theorem walk_StoreApart (a0 : Option Addr) (len0 cap0 : Nat) (f0 : Nat → Nat → Int) (a1 : Option Addr) (len1 cap1 : Nat) (f1 : Nat → Nat → Int) (a2 : Int) (w : World) (h0 : Deeds w a0 len0 cap0 f0) (h1 : Deeds w a1 len1 cap1 f1) (w2 : (Lit.int .i64 a2).wf = true) :
    Calls Try.prog 16 #[.slice a0 len0 cap0, .slice a1 len1 cap1, .int .i64 a2] w fun e w' => e = .returned (.bool true) ∧ Below w.heap.size w w' := by
  have hcap0 := h0.1
  have hmax0 := h0.2.1
  have HD0 := Lib.hid h0
  clear h0
  have hcap1 := h1.1
  have hmax1 := h1.2.1
  have HD1 := Lib.hid h1
  clear h1
  by_cases hl : 60 < len0
  · go_enter Try.func16, Try.ntmps16
    go_wp2_with fail
    refine (kept_any _).mono ?_
    rintro e w1 ⟨rfl, hb1⟩
    go_wp2_with fail
    refine (done_many _ _ _ _ hl (by omega)).mono ?_
    rintro e w2 ⟨rfl, hb2⟩
    go_wp2_with fail
    go_ret
    exact ⟨rfl, bcall hb1 hb2⟩
  by_cases hl1 : 30 < len1
  · go_enter Try.func16, Try.ntmps16
    go_wp2_with fail
    refine (kept_any _).mono ?_
    rintro e w1 ⟨rfl, hb1⟩
    go_wp2_with fail
    refine (done_any _ _ _ _ f0 (HD0.out.below hb1) (by omega)).mono ?_
    rintro e w2 ⟨rfl, -, hb2⟩
    go_wp2_with fail
    go_ret
    exact ⟨rfl, bcall hb1 hb2⟩
  clear w2
  go_enter Try.func16, Try.ntmps16
  go_wp2_with fail
  refine (kept_any _).mono ?_
  rintro e w1 ⟨rfl, hb1⟩
  go_wp2_with fail
  refine (done_any _ _ _ _ f0 (HD0.out.below hb1) (by omega)).mono ?_
  rintro e w2 ⟨rfl, ⟨S, hs2⟩, hb2⟩
  have HB := Lib.hid (bcall hb1 hb2)
  have hge := hb1.size
  generalize w1.heap.size = b at *
  clear hb1 hb2 HD0
  have HS := Lib.hid hs2
  clear hs2
  go_wp2_with (go_at_call 21; refine (pick_any _ _ _ (by decide) (by decide)).mono ?_; rintro e w' ⟨rfl, rfl⟩)
  have l0 := pickZ_nonneg a2 9 (by decide)
  have l1 := pickZ_lt a2 9 (by decide)
  generalize pickZ a2 9 = l at *
  obtain ⟨x0, x1, x2, x3, x4, x5, x6, x7, hV⟩ : ∃ x0 x1 x2 x3 x4 x5 x6 x7 : Int, lineV S.now l.toNat = #[.int .u64 x0, .int .u64 x1, .int .u64 x2, .int .u64 x3, .int .u64 x4, .int .u64 x5, .int .u64 x6, .int .u64 x7] := ⟨_, _, _, _, _, _, _, _, rfl⟩
  replace hV := Lib.hid hV
  obtain ⟨y0, y1, y2, y3, y4, y5, y6, y7, hG⟩ : ∃ y0 y1 y2 y3 y4 y5 y6 y7 : Int, lineV S.good l.toNat = #[.int .u64 y0, .int .u64 y1, .int .u64 y2, .int .u64 y3, .int .u64 y4, .int .u64 y5, .int .u64 y6, .int .u64 y7] := ⟨_, _, _, _, _, _, _, _, rfl⟩
  replace hG := Lib.hid hG
  refine (lineNow_any _ _ S l HS.out l0 l1).mono ?_
  rw [hV.out]
  rintro e w3 ⟨rfl, hb3⟩
  replace HB := Lib.hid (bcall HB.out hb3)
  replace HS := Lib.hid (HS.out.below hb3)
  clear hb3
  go_wp2_with fail
  have hltX0 := HS.out.2.lt
  have hb4 := balloc (Below.refl _ w3) (Obj.cells #[.int .u64 x0, .int .u64 x1, .int .u64 x2, .int .u64 x3, .int .u64 x4, .int .u64 x5, .int .u64 x6, .int .u64 x7] 62)
  have X := Lib.hid (Blk.new w3 [.int .u64 x0, .int .u64 x1, .int .u64 x2, .int .u64 x3, .int .u64 x4, .int .u64 x5, .int .u64 x6, .int .u64 x7] 62)
  change Hid (Blk (w3.alloc (Obj.cells #[.int .u64 x0, .int .u64 x1, .int .u64 x2, .int .u64 x3, .int .u64 x4, .int .u64 x5, .int .u64 x6, .int .u64 x7] 62)) _ _ _) at X
  have ZX : Hid ((w3.alloc (Obj.cells #[.int .u64 x0, .int .u64 x1, .int .u64 x2, .int .u64 x3, .int .u64 x4, .int .u64 x5, .int .u64 x6, .int .u64 x7] 62)).heap.size = w3.heap.size + 1) := World.size_alloc _ _
  replace HB := Lib.hid (bcall HB.out hb4)
  replace HS := Lib.hid (HS.out.below hb4)
  clear hb4
  generalize w3.alloc (Obj.cells #[.int .u64 x0, .int .u64 x1, .int .u64 x2, .int .u64 x3, .int .u64 x4, .int .u64 x5, .int .u64 x6, .int .u64 x7] 62) = w4 at *
  generalize w3.heap.size = bX at *
  refine (store_good _ _ S l HS.out l0 l1).mono ?_
  rw [hG.out]
  rintro e w5 ⟨rfl, hb5⟩
  replace HB := Lib.hid (bcall HB.out hb5)
  replace HS := Lib.hid (HS.out.below hb5)
  replace X := Lib.hid (X.out.below hb5)
  clear hb5
  go_wp2_with fail
  have hltY0 := HS.out.2.lt
  have hltY1 := X.out.lt
  have hb6 := balloc (Below.refl _ w5) (Obj.cells #[.int .u64 y0, .int .u64 y1, .int .u64 y2, .int .u64 y3, .int .u64 y4, .int .u64 y5, .int .u64 y6, .int .u64 y7] 62)
  have Y := Lib.hid (Blk.new w5 [.int .u64 y0, .int .u64 y1, .int .u64 y2, .int .u64 y3, .int .u64 y4, .int .u64 y5, .int .u64 y6, .int .u64 y7] 62)
  change Hid (Blk (w5.alloc (Obj.cells #[.int .u64 y0, .int .u64 y1, .int .u64 y2, .int .u64 y3, .int .u64 y4, .int .u64 y5, .int .u64 y6, .int .u64 y7] 62)) _ _ _) at Y
  have ZY : Hid ((w5.alloc (Obj.cells #[.int .u64 y0, .int .u64 y1, .int .u64 y2, .int .u64 y3, .int .u64 y4, .int .u64 y5, .int .u64 y6, .int .u64 y7] 62)).heap.size = w5.heap.size + 1) := World.size_alloc _ _
  replace HB := Lib.hid (bcall HB.out hb6)
  replace HS := Lib.hid (HS.out.below hb6)
  replace X := Lib.hid (X.out.below hb6)
  clear hb6
  generalize w5.alloc (Obj.cells #[.int .u64 y0, .int .u64 y1, .int .u64 y2, .int .u64 y3, .int .u64 y4, .int .u64 y5, .int .u64 y6, .int .u64 y7] 62) = w6 at *
  generalize w5.heap.size = bY at *
  have hltc0 := HS.out.2.lt
  have hltc1 := X.out.lt
  have hltc2 := Y.out.lt
  refine (store_copy _ _ _ HS.out).mono ?_
  rintro e w7 ⟨rfl, HT, hb7⟩
  replace HB := Lib.hid (bcall HB.out hb7)
  replace HS := Lib.hid (HS.out.below hb7)
  replace X := Lib.hid (X.out.below hb7)
  replace Y := Lib.hid (Y.out.below hb7)
  replace HT := Lib.hid HT
  clear hb7
  generalize w6.heap.size = c at *
  go_wp2_with fail
  go_loopw [44] (fun i wr => ∃ k : Nat, k ≤ len1 ∧ i = .int .i64 k ∧ Below w.heap.size w wr ∧ StoreAt wr b S ∧ (∃ T, StoreAt wr c T) ∧ Blk wr bX [.int .u64 x0, .int .u64 x1, .int .u64 x2, .int .u64 x3, .int .u64 x4, .int .u64 x5, .int .u64 x6, .int .u64 x7] 62 ∧ Blk wr bY [.int .u64 y0, .int .u64 y1, .int .u64 y2, .int .u64 y3, .int .u64 y4, .int .u64 y5, .int .u64 y6, .int .u64 y7] 62) (fun i _ => len1 - (intOf i).toNat)
  case atStart => exact ⟨0, Nat.zero_le _, rfl, HB.out, HS.out, ⟨_, HT.out⟩, X.out, Y.out⟩
  case round =>
    clear HB HS HT X Y
    obtain ⟨k, hk, rfl, hb, hs, ⟨T, ht⟩, hx, hy⟩ := hrel
    by_cases hlt : k < len1
    · obtain ⟨-, -, h3⟩ := HD1.out
      rcases h3 with h3 | ⟨d, off, rfl, hbb, hc⟩
      · omega
      obtain ⟨c0, c1, c2, c3, c4, hw0, hw1⟩ := hc k hlt
      rw [← hb.cell (p := ⟨d, off + k * 5, none⟩) hbb] at c0
      rw [← hb.cell (p := ⟨d, off + k * 5 + 1, none⟩) hbb] at c1
      rw [← hb.cell (p := ⟨d, off + k * 5 + 2, none⟩) hbb] at c2
      rw [← hb.cell (p := ⟨d, off + k * 5 + 3, none⟩) hbb] at c3
      rw [← hb.cell (p := ⟨d, off + k * 5 + 4, none⟩) hbb] at c4
      clear hc
      generalize f1 k 0 = z0 at *
      generalize f1 k 1 = z1 at *
      generalize f1 k 2 = z2 at *
      generalize f1 k 3 = z3 at *
      generalize f1 k 4 = z4 at *
      have HB := Lib.hid hb
      have HS := Lib.hid hs
      have HT := Lib.hid ht
      have X := Lib.hid hx
      have Y := Lib.hid hy
      have hcr := ht.2.lt
      clear hb hs ht hx hy
      go_wp2_with fail
      clear c0 c1 c2 c3 c4
      have hb31 := balloc (Below.refl _ wr) (Obj.cells #[.int .i64 z0, .int .i64 z1, .int .i64 z2, .int .i64 z3, .int .u64 z4] 72)
      have D := Lib.hid (Blk.new wr [.int .i64 z0, .int .i64 z1, .int .i64 z2, .int .i64 z3, .int .u64 z4] 72)
      change Hid (Blk (wr.alloc (Obj.cells #[.int .i64 z0, .int .i64 z1, .int .i64 z2, .int .i64 z3, .int .u64 z4] 72)) _ _ _) at D
      have ZD : Hid ((wr.alloc (Obj.cells #[.int .i64 z0, .int .i64 z1, .int .i64 z2, .int .i64 z3, .int .u64 z4] 72)).heap.size = wr.heap.size + 1) := World.size_alloc _ _
      replace HB := Lib.hid (bcall HB.out hb31)
      replace HS := Lib.hid (HS.out.below hb31)
      replace HT := Lib.hid (HT.out.below hb31)
      replace X := Lib.hid (X.out.below hb31)
      replace Y := Lib.hid (Y.out.below hb31)
      clear hb31
      generalize wr.alloc (Obj.cells #[.int .i64 z0, .int .i64 z1, .int .i64 z2, .int .i64 z3, .int .u64 z4] 72) = w31 at *
      generalize wr.heap.size = bD at *
      have D_c1 : w31.cell? ⟨bD, 1, none⟩ = some (.int .i64 z1) := D.out.cell 1
      have D_c4 : w31.cell? ⟨bD, 4, none⟩ = some (.int .u64 z4) := D.out.cell 4
      have D_z : bD < w31.heap.size := D.out.lt
      go_region_held3 (fun w' => w'.cell? ⟨bD, 1, none⟩ = some (.int .i64 z1) ∧ w'.cell? ⟨bD, 4, none⟩ = some (.int .u64 z4))
        (first | go_keep | exact ⟨m1, m4⟩)
        (first
          | (go_at_call 21; refine (pick_any _ _ _ (by decide) (by decide)).mono ?_; rintro e w' ⟨rfl, rfl⟩)
          | (go_at_call 31; refine (store_save _ _ T _ _ (StoreAt.drew HT.out) (pickZ_nonneg _ _ (by decide)) (pickZ_lt _ _ (by decide))).mono ?_; rintro e w9 ⟨rfl, hs9, hk9⟩; have D9 := (Blk.drew D.out).kept hk9 (by intro hh; omega); have m1 := D9.cell 1; have m4 := D9.cell 4))
      replace HB := Lib.hid (bkept HB.out.drew hk9 (by rintro n rfl; omega))
      replace HS := Lib.hid ((StoreAt.drew HS.out).kept hk9 (by intro hh; omega))
      replace X := Lib.hid ((Blk.drew X.out).kept hk9 (by intro hh; omega))
      replace Y := Lib.hid ((Blk.drew Y.out).kept hk9 (by intro hh; omega))
      replace HT := Lib.hid hs9
      clear hs9 hk9 D_c1 D_c4 D D9
      go_wp2_with fail
      refine (store_crash _ _ _ z4 HT.out hw0 hw1).mono ?_
      rintro e w32 ⟨rfl, HT2, hb32⟩
      replace HB := Lib.hid (bkept HB.out hb32 (by rintro n rfl; omega))
      replace HS := Lib.hid (HS.out.kept hb32 (by intro hh; omega))
      replace X := Lib.hid (X.out.kept hb32 (by intro hh; omega))
      replace Y := Lib.hid (Y.out.kept hb32 (by intro hh; omega))
      clear HT
      replace HT2 := Lib.hid HT2
      clear hb32
      go_wp2_with fail
      go_roundw
      case rel => exact ⟨k + 1, by omega, by go_num, HB.out, HS.out, ⟨_, HT2.out⟩, X.out, Y.out⟩
      case measure => simp [intOf]; omega
    · obtain rfl : k = len1 := by omega
      have HB := Lib.hid hb
      have HS := Lib.hid hs
      have X := Lib.hid hx
      have Y := Lib.hid hy
      clear hb hs ht hx hy
      go_wp2_with fail
      refine (store_good _ _ S l HS.out l0 l1).mono ?_
      rw [hG.out]
      rintro e w31 ⟨rfl, hb31⟩
      replace HB := Lib.hid (bcall HB.out hb31)
      replace HS := Lib.hid (HS.out.below hb31)
      replace X := Lib.hid (X.out.below hb31)
      replace Y := Lib.hid (Y.out.below hb31)
      clear hb31
      go_wp2_with fail
      have hb32 := balloc (Below.refl _ w31) (Obj.cells #[.int .u64 y0, .int .u64 y1, .int .u64 y2, .int .u64 y3, .int .u64 y4, .int .u64 y5, .int .u64 y6, .int .u64 y7] 62)
      have I := Lib.hid (Blk.new w31 [.int .u64 y0, .int .u64 y1, .int .u64 y2, .int .u64 y3, .int .u64 y4, .int .u64 y5, .int .u64 y6, .int .u64 y7] 62)
      change Hid (Blk (w31.alloc (Obj.cells #[.int .u64 y0, .int .u64 y1, .int .u64 y2, .int .u64 y3, .int .u64 y4, .int .u64 y5, .int .u64 y6, .int .u64 y7] 62)) _ _ _) at I
      have ZI : Hid ((w31.alloc (Obj.cells #[.int .u64 y0, .int .u64 y1, .int .u64 y2, .int .u64 y3, .int .u64 y4, .int .u64 y5, .int .u64 y6, .int .u64 y7] 62)).heap.size = w31.heap.size + 1) := World.size_alloc _ _
      replace HB := Lib.hid (bcall HB.out hb32)
      replace HS := Lib.hid (HS.out.below hb32)
      replace X := Lib.hid (X.out.below hb32)
      replace Y := Lib.hid (Y.out.below hb32)
      clear hb32
      generalize w31.alloc (Obj.cells #[.int .u64 y0, .int .u64 y1, .int .u64 y2, .int .u64 y3, .int .u64 y4, .int .u64 y5, .int .u64 y6, .int .u64 y7] 62) = w32 at *
      generalize w31.heap.size = bI at *
      have heq : ∀ w, (binOp .eql 62 (.agg #[.int .u64 x0, .int .u64 x1, .int .u64 x2, .int .u64 x3, .int .u64 x4, .int .u64 x5, .int .u64 x6, .int .u64 x7]) (.agg #[.int .u64 x0, .int .u64 x1, .int .u64 x2, .int .u64 x3, .int .u64 x4, .int .u64 x5, .int .u64 x6, .int .u64 x7])).run Try.prog w = .ok (.bool true) w := fun w => by
        rw [line_eql]; simp
      have heq2 : ∀ w, (binOp .eql 62 (.agg #[.int .u64 y0, .int .u64 y1, .int .u64 y2, .int .u64 y3, .int .u64 y4, .int .u64 y5, .int .u64 y6, .int .u64 y7]) (.agg #[.int .u64 y0, .int .u64 y1, .int .u64 y2, .int .u64 y3, .int .u64 y4, .int .u64 y5, .int .u64 y6, .int .u64 y7])).run Try.prog w = .ok (.bool true) w := fun w => by
        rw [line_eql]; simp
      have X_c0 : w32.cell? ⟨bX, 0, none⟩ = some (.int .u64 x0) := X.out.cell 0
      have X_c1 : w32.cell? ⟨bX, 1, none⟩ = some (.int .u64 x1) := X.out.cell 1
      have X_c2 : w32.cell? ⟨bX, 2, none⟩ = some (.int .u64 x2) := X.out.cell 2
      have X_c3 : w32.cell? ⟨bX, 3, none⟩ = some (.int .u64 x3) := X.out.cell 3
      have X_c4 : w32.cell? ⟨bX, 4, none⟩ = some (.int .u64 x4) := X.out.cell 4
      have X_c5 : w32.cell? ⟨bX, 5, none⟩ = some (.int .u64 x5) := X.out.cell 5
      have X_c6 : w32.cell? ⟨bX, 6, none⟩ = some (.int .u64 x6) := X.out.cell 6
      have X_c7 : w32.cell? ⟨bX, 7, none⟩ = some (.int .u64 x7) := X.out.cell 7
      have Y_c0 : w32.cell? ⟨bY, 0, none⟩ = some (.int .u64 y0) := Y.out.cell 0
      have Y_c1 : w32.cell? ⟨bY, 1, none⟩ = some (.int .u64 y1) := Y.out.cell 1
      have Y_c2 : w32.cell? ⟨bY, 2, none⟩ = some (.int .u64 y2) := Y.out.cell 2
      have Y_c3 : w32.cell? ⟨bY, 3, none⟩ = some (.int .u64 y3) := Y.out.cell 3
      have Y_c4 : w32.cell? ⟨bY, 4, none⟩ = some (.int .u64 y4) := Y.out.cell 4
      have Y_c5 : w32.cell? ⟨bY, 5, none⟩ = some (.int .u64 y5) := Y.out.cell 5
      have Y_c6 : w32.cell? ⟨bY, 6, none⟩ = some (.int .u64 y6) := Y.out.cell 6
      have Y_c7 : w32.cell? ⟨bY, 7, none⟩ = some (.int .u64 y7) := Y.out.cell 7
      have I_c0 : w32.cell? ⟨bI, 0, none⟩ = some (.int .u64 y0) := I.out.cell 0
      have I_c1 : w32.cell? ⟨bI, 1, none⟩ = some (.int .u64 y1) := I.out.cell 1
      have I_c2 : w32.cell? ⟨bI, 2, none⟩ = some (.int .u64 y2) := I.out.cell 2
      have I_c3 : w32.cell? ⟨bI, 3, none⟩ = some (.int .u64 y3) := I.out.cell 3
      have I_c4 : w32.cell? ⟨bI, 4, none⟩ = some (.int .u64 y4) := I.out.cell 4
      have I_c5 : w32.cell? ⟨bI, 5, none⟩ = some (.int .u64 y5) := I.out.cell 5
      have I_c6 : w32.cell? ⟨bI, 6, none⟩ = some (.int .u64 y6) := I.out.cell 6
      have I_c7 : w32.cell? ⟨bI, 7, none⟩ = some (.int .u64 y7) := I.out.cell 7
      go_region_held3 (fun w' => w'.cell? ⟨bX, 0, none⟩ = some (.int .u64 x0) ∧ w'.cell? ⟨bX, 1, none⟩ = some (.int .u64 x1) ∧ w'.cell? ⟨bX, 2, none⟩ = some (.int .u64 x2) ∧ w'.cell? ⟨bX, 3, none⟩ = some (.int .u64 x3) ∧ w'.cell? ⟨bX, 4, none⟩ = some (.int .u64 x4) ∧ w'.cell? ⟨bX, 5, none⟩ = some (.int .u64 x5) ∧ w'.cell? ⟨bX, 6, none⟩ = some (.int .u64 x6) ∧ w'.cell? ⟨bX, 7, none⟩ = some (.int .u64 x7) ∧ w'.cell? ⟨bY, 0, none⟩ = some (.int .u64 y0) ∧ w'.cell? ⟨bY, 1, none⟩ = some (.int .u64 y1) ∧ w'.cell? ⟨bY, 2, none⟩ = some (.int .u64 y2) ∧ w'.cell? ⟨bY, 3, none⟩ = some (.int .u64 y3) ∧ w'.cell? ⟨bY, 4, none⟩ = some (.int .u64 y4) ∧ w'.cell? ⟨bY, 5, none⟩ = some (.int .u64 y5) ∧ w'.cell? ⟨bY, 6, none⟩ = some (.int .u64 y6) ∧ w'.cell? ⟨bY, 7, none⟩ = some (.int .u64 y7) ∧ w'.cell? ⟨bI, 0, none⟩ = some (.int .u64 y0) ∧ w'.cell? ⟨bI, 1, none⟩ = some (.int .u64 y1) ∧ w'.cell? ⟨bI, 2, none⟩ = some (.int .u64 y2) ∧ w'.cell? ⟨bI, 3, none⟩ = some (.int .u64 y3) ∧ w'.cell? ⟨bI, 4, none⟩ = some (.int .u64 y4) ∧ w'.cell? ⟨bI, 5, none⟩ = some (.int .u64 y5) ∧ w'.cell? ⟨bI, 6, none⟩ = some (.int .u64 y6) ∧ w'.cell? ⟨bI, 7, none⟩ = some (.int .u64 y7))
        (first | go_keep | exact ⟨m0, m1, m2, m3, m4, m5, m6, m7, m8, m9, m10, m11, m12, m13, m14, m15, m16, m17, m18, m19, m20, m21, m22, m23⟩)
        (first
          | (go_at_call 37; refine (lineNow_any _ _ S l (StoreAt.drew HS.out) l0 l1).mono ?_; rw [hV.out]; rintro e w9 ⟨rfl, hb9⟩; have m0 := ((Blk.drew X.out).below hb9).cell 0; have m1 := ((Blk.drew X.out).below hb9).cell 1; have m2 := ((Blk.drew X.out).below hb9).cell 2; have m3 := ((Blk.drew X.out).below hb9).cell 3; have m4 := ((Blk.drew X.out).below hb9).cell 4; have m5 := ((Blk.drew X.out).below hb9).cell 5; have m6 := ((Blk.drew X.out).below hb9).cell 6; have m7 := ((Blk.drew X.out).below hb9).cell 7; have m8 := ((Blk.drew Y.out).below hb9).cell 0; have m9 := ((Blk.drew Y.out).below hb9).cell 1; have m10 := ((Blk.drew Y.out).below hb9).cell 2; have m11 := ((Blk.drew Y.out).below hb9).cell 3; have m12 := ((Blk.drew Y.out).below hb9).cell 4; have m13 := ((Blk.drew Y.out).below hb9).cell 5; have m14 := ((Blk.drew Y.out).below hb9).cell 6; have m15 := ((Blk.drew Y.out).below hb9).cell 7; have m16 := ((Blk.drew I.out).below hb9).cell 0; have m17 := ((Blk.drew I.out).below hb9).cell 1; have m18 := ((Blk.drew I.out).below hb9).cell 2; have m19 := ((Blk.drew I.out).below hb9).cell 3; have m20 := ((Blk.drew I.out).below hb9).cell 4; have m21 := ((Blk.drew I.out).below hb9).cell 5; have m22 := ((Blk.drew I.out).below hb9).cell 6; have m23 := ((Blk.drew I.out).below hb9).cell 7))
      go_wp2_with fail
      go_ret
      exact ⟨rfl, bcall HB.out.drew hb9⟩
end Go.Proofs.Ytakemnpicokaiaa
