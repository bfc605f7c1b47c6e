/- The walk of the law StoreStays. -/
import Derived.Test.YtakemnpicokaiaaStoreLine
import Derived.Deep.RegionHeld3
namespace Go.Proofs.Ytakemnpicokaiaa
open Go.RowKit
set_option linter.unusedVariables false
theorem stays_plain (S : St) (t l : Nat) (x : Int) (h : S.ok) (hF : (fenceSt S t).ok) (hw : S.wanted.getD (t * 9 + l) false = true) (hl : l < 9) (i : Nat) (hi : i / 8 = l) :
    (fenceSt S t).good.getD i 0 = S.now.getD i 0 ∧ (crashSt (fenceSt S t) x).now.getD i 0 = S.now.getD i 0 := by
  have hg := fence_good S h t i (by omega)
  rw [hi, if_pos hw] at hg
  refine ⟨hg, ?_⟩
  rw [crash_now _ hF _ _ (by omega), hg]
  split <;> rfl
set_option maxHeartbeats 2000000 in
theorem walk_StoreStays (a0 : Option Addr) (len0 cap0 : Nat) (f0 : Nat → Nat → Int) (a1 a2 a3 : Int) (w : World) (h0 : Deeds w a0 len0 cap0 f0) (w1 : (Lit.int .i64 a1).wf = true) (w2 : (Lit.int .i64 a2).wf = true) (w3 : (Lit.int .u64 a3).wf = true) :
    Calls Try.prog 13 #[.slice a0 len0 cap0, .int .i64 a1, .int .i64 a2, .int .u64 a3] w fun e w' => e = .returned (.bool true) ∧ Below w.heap.size w w' := by
  have hcap0 := h0.1
  have hmax0 := h0.2.1
  have HD0 := Lib.hid h0
  clear h0
  by_cases hl : 60 < len0
  · go_enter Try.func13, Try.ntmps13
    go_wp2_with fail
    refine (kept_any _).mono ?_
    rintro e w1 ⟨rfl, hb1⟩
    go_wp2_with fail
    refine (done_many _ _ _ _ hl (by omega)).mono ?_
    rintro e w2 ⟨rfl, hb2⟩
    go_wp2_with fail
    go_ret
    exact ⟨by simp; omega, bcall hb1 hb2⟩
  go_enter Try.func13, Try.ntmps13
  go_wp2_with fail
  refine (kept_any _).mono ?_
  rintro e w1 ⟨rfl, hb1⟩
  go_wp2_with fail
  refine (done_any _ _ _ _ f0 (HD0.out.below hb1) (by omega)).mono ?_
  rintro e w2 ⟨rfl, ⟨S, hs2⟩, hb2⟩
  have HB := Lib.hid (bcall hb1 hb2)
  have hge := hb1.size
  generalize w1.heap.size = b at *
  clear hb1 hb2 HD0
  have HS := Lib.hid hs2
  clear hs2
  go_wp2_with (go_at_call 21; refine (pick_any _ _ _ (by decide) (by decide)).mono ?_; rintro e w' ⟨rfl, rfl⟩)
  have t0 := pickZ_nonneg a1 4 (by decide)
  have t1 := pickZ_lt a1 4 (by decide)
  generalize pickZ a1 4 = t at *
  have l0 := pickZ_nonneg a2 9 (by decide)
  have l1 := pickZ_lt a2 9 (by decide)
  generalize pickZ a2 9 = l at *
  have hu : 0 ≤ a3 ∧ a3 < 18446744073709551616 := wf_u64 w3
  obtain ⟨x0, x1, x2, x3, x4, x5, x6, x7, hV⟩ : ∃ x0 x1 x2 x3 x4 x5 x6 x7 : Int, lineV S.now l.toNat = #[.int .u64 x0, .int .u64 x1, .int .u64 x2, .int .u64 x3, .int .u64 x4, .int .u64 x5, .int .u64 x6, .int .u64 x7] := ⟨_, _, _, _, _, _, _, _, rfl⟩
  replace hV := Lib.hid hV
  have heq : ∀ w, (binOp .eql 62 (.agg #[.int .u64 x0, .int .u64 x1, .int .u64 x2, .int .u64 x3, .int .u64 x4, .int .u64 x5, .int .u64 x6, .int .u64 x7]) (.agg #[.int .u64 x0, .int .u64 x1, .int .u64 x2, .int .u64 x3, .int .u64 x4, .int .u64 x5, .int .u64 x6, .int .u64 x7])).run Try.prog w = .ok (.bool true) w := fun w => by
    rw [line_eql]; simp
  refine (lineNow_any _ _ S l HS.out l0 l1).mono ?_
  rw [hV.out]
  rintro e w3 ⟨rfl, hb3⟩
  replace HB := Lib.hid (bcall HB.out hb3)
  replace HS := Lib.hid (HS.out.below hb3)
  clear hb3
  go_wp2_with fail
  have hltX0 := HS.out.2.lt
  have hb4 := balloc (Below.refl _ w3) (Obj.cells #[.int .u64 x0, .int .u64 x1, .int .u64 x2, .int .u64 x3, .int .u64 x4, .int .u64 x5, .int .u64 x6, .int .u64 x7] 62)
  have X := Lib.hid (Blk.new w3 [.int .u64 x0, .int .u64 x1, .int .u64 x2, .int .u64 x3, .int .u64 x4, .int .u64 x5, .int .u64 x6, .int .u64 x7] 62)
  change Hid (Blk (w3.alloc (Obj.cells #[.int .u64 x0, .int .u64 x1, .int .u64 x2, .int .u64 x3, .int .u64 x4, .int .u64 x5, .int .u64 x6, .int .u64 x7] 62)) _ _ _) at X
  have ZX : Hid ((w3.alloc (Obj.cells #[.int .u64 x0, .int .u64 x1, .int .u64 x2, .int .u64 x3, .int .u64 x4, .int .u64 x5, .int .u64 x6, .int .u64 x7] 62)).heap.size = w3.heap.size + 1) := World.size_alloc _ _
  replace HB := Lib.hid (bcall HB.out hb4)
  replace HS := Lib.hid (HS.out.below hb4)
  clear hb4
  generalize w3.alloc (Obj.cells #[.int .u64 x0, .int .u64 x1, .int .u64 x2, .int .u64 x3, .int .u64 x4, .int .u64 x5, .int .u64 x6, .int .u64 x7] 62) = w4 at *
  generalize w3.heap.size = bX at *
  refine (store_flush _ _ S t l HS.out t0 t1 l0 l1).mono ?_
  rintro e w5 ⟨rfl, HS1, hb5⟩
  replace HB := Lib.hid (bkept HB.out hb5 (by rintro n rfl; omega))
  replace X := Lib.hid (X.out.kept hb5 (by intro hh; omega))
  clear HS
  replace HS1 := Lib.hid HS1
  clear hb5
  have hl8 : l.toNat < 9 := by omega
  have hw8 : (S.wanted.set (t.toNat * 9 + l.toNat) true).getD (t.toNat * 9 + l.toNat) false = true := flush_wanted _ _ (by have := HS1.out.1.2.2; simp at this; omega)
  have hnow1 : ({ S with wanted := S.wanted.set (t.toNat * 9 + l.toNat) true, flushes := wrap64 (S.flushes + 1) } : St).now = S.now := rfl
  have hw9 : ({ S with wanted := S.wanted.set (t.toNat * 9 + l.toNat) true, flushes := wrap64 (S.flushes + 1) } : St).wanted.getD (t.toNat * 9 + l.toNat) false = true := hw8
  generalize ({ S with wanted := S.wanted.set (t.toNat * 9 + l.toNat) true, flushes := wrap64 (S.flushes + 1) } : St) = S1 at *
  clear hw8
  have hok1 := HS1.out.1
  replace hnow1 := Lib.hid hnow1
  replace hw9 := Lib.hid hw9
  replace hok1 := Lib.hid hok1
  go_wp2_with fail
  refine (store_fence _ _ S1 t HS1.out t0 t1).mono ?_
  rintro e w6 ⟨rfl, HS2, hb6⟩
  replace HB := Lib.hid (bkept HB.out hb6 (by rintro n rfl; omega))
  replace X := Lib.hid (X.out.kept hb6 (by intro hh; omega))
  clear HS1
  replace HS2 := Lib.hid HS2
  clear hb6
  have hp := fun x i hi => stays_plain S1 t.toNat l.toNat x hok1.out HS2.out.1 hw9.out hl8 i hi
  rw [hnow1.out] at hp
  have hgV := Lib.hid ((lineV_congr _ _ l.toNat (fun i hi => (hp 0 i hi).1)).trans hV.out)
  have hgL := Lib.hid (lineL_congr _ _ l.toNat (fun i hi => (hp 0 i hi).1))
  have hnV := Lib.hid (fun x => (lineV_congr _ _ l.toNat (fun i hi => (hp x i hi).2)).trans hV.out)
  have hfn : Hid ((fenceSt S1 t.toNat).now = S.now) := Lib.hid hnow1.out
  clear hp
  generalize fenceSt S1 t.toNat = S2 at *
  go_wp2_with fail
  refine (store_dirty _ _ S2 l HS2.out l0 l1).mono ?_
  rw [show (!decide (lineL S2.now l.toNat = lineL S2.good l.toNat)) = false by rw [hgL.out, hfn.out]; simp]
  rintro e w7 ⟨rfl, hb7⟩
  replace HB := Lib.hid (bcall HB.out hb7)
  replace X := Lib.hid (X.out.below hb7)
  replace HS2 := Lib.hid (HS2.out.below hb7)
  clear hb7
  go_wp2_with fail
  refine (store_good _ _ S2 l HS2.out l0 l1).mono ?_
  rw [hgV.out]
  rintro e w8 ⟨rfl, hb8⟩
  replace HB := Lib.hid (bcall HB.out hb8)
  replace X := Lib.hid (X.out.below hb8)
  replace HS2 := Lib.hid (HS2.out.below hb8)
  clear hb8
  go_wp2_with fail
  have hltY0 := HS2.out.2.lt
  have hltY1 := X.out.lt
  have hb9 := balloc (Below.refl _ w8) (Obj.cells #[.int .u64 x0, .int .u64 x1, .int .u64 x2, .int .u64 x3, .int .u64 x4, .int .u64 x5, .int .u64 x6, .int .u64 x7] 62)
  have Y := Lib.hid (Blk.new w8 [.int .u64 x0, .int .u64 x1, .int .u64 x2, .int .u64 x3, .int .u64 x4, .int .u64 x5, .int .u64 x6, .int .u64 x7] 62)
  change Hid (Blk (w8.alloc (Obj.cells #[.int .u64 x0, .int .u64 x1, .int .u64 x2, .int .u64 x3, .int .u64 x4, .int .u64 x5, .int .u64 x6, .int .u64 x7] 62)) _ _ _) at Y
  have ZY : Hid ((w8.alloc (Obj.cells #[.int .u64 x0, .int .u64 x1, .int .u64 x2, .int .u64 x3, .int .u64 x4, .int .u64 x5, .int .u64 x6, .int .u64 x7] 62)).heap.size = w8.heap.size + 1) := World.size_alloc _ _
  replace HB := Lib.hid (bcall HB.out hb9)
  replace X := Lib.hid (X.out.below hb9)
  replace HS2 := Lib.hid (HS2.out.below hb9)
  clear hb9
  generalize w8.alloc (Obj.cells #[.int .u64 x0, .int .u64 x1, .int .u64 x2, .int .u64 x3, .int .u64 x4, .int .u64 x5, .int .u64 x6, .int .u64 x7] 62) = w9 at *
  generalize w8.heap.size = bY at *
  refine (store_crash _ _ S2 a3 HS2.out hu.1 hu.2).mono ?_
  rintro e w10 ⟨rfl, HS3, hb10⟩
  replace HB := Lib.hid (bkept HB.out hb10 (by rintro n rfl; omega))
  replace X := Lib.hid (X.out.kept hb10 (by intro hh; omega))
  replace Y := Lib.hid (Y.out.kept hb10 (by intro hh; omega))
  clear HS2
  replace HS3 := Lib.hid HS3
  clear hb10
  have hnV3 := hnV.out a3
  replace hnV3 := Lib.hid hnV3
  generalize crashSt S2 a3 = S3 at *
  clear hV hgV hgL hnV hfn hw9 hok1
  go_wp2_with fail
  have X_c0 : w10.cell? ⟨bX, 0, none⟩ = some (.int .u64 x0) := X.out.cell 0
  have X_c1 : w10.cell? ⟨bX, 1, none⟩ = some (.int .u64 x1) := X.out.cell 1
  have X_c2 : w10.cell? ⟨bX, 2, none⟩ = some (.int .u64 x2) := X.out.cell 2
  have X_c3 : w10.cell? ⟨bX, 3, none⟩ = some (.int .u64 x3) := X.out.cell 3
  have X_c4 : w10.cell? ⟨bX, 4, none⟩ = some (.int .u64 x4) := X.out.cell 4
  have X_c5 : w10.cell? ⟨bX, 5, none⟩ = some (.int .u64 x5) := X.out.cell 5
  have X_c6 : w10.cell? ⟨bX, 6, none⟩ = some (.int .u64 x6) := X.out.cell 6
  have X_c7 : w10.cell? ⟨bX, 7, none⟩ = some (.int .u64 x7) := X.out.cell 7
  have Y_c0 : w10.cell? ⟨bY, 0, none⟩ = some (.int .u64 x0) := Y.out.cell 0
  have Y_c1 : w10.cell? ⟨bY, 1, none⟩ = some (.int .u64 x1) := Y.out.cell 1
  have Y_c2 : w10.cell? ⟨bY, 2, none⟩ = some (.int .u64 x2) := Y.out.cell 2
  have Y_c3 : w10.cell? ⟨bY, 3, none⟩ = some (.int .u64 x3) := Y.out.cell 3
  have Y_c4 : w10.cell? ⟨bY, 4, none⟩ = some (.int .u64 x4) := Y.out.cell 4
  have Y_c5 : w10.cell? ⟨bY, 5, none⟩ = some (.int .u64 x5) := Y.out.cell 5
  have Y_c6 : w10.cell? ⟨bY, 6, none⟩ = some (.int .u64 x6) := Y.out.cell 6
  have Y_c7 : w10.cell? ⟨bY, 7, none⟩ = some (.int .u64 x7) := Y.out.cell 7
  go_region_held3 (fun w' => w'.cell? ⟨bX, 0, none⟩ = some (.int .u64 x0) ∧ w'.cell? ⟨bX, 1, none⟩ = some (.int .u64 x1) ∧ w'.cell? ⟨bX, 2, none⟩ = some (.int .u64 x2) ∧ w'.cell? ⟨bX, 3, none⟩ = some (.int .u64 x3) ∧ w'.cell? ⟨bX, 4, none⟩ = some (.int .u64 x4) ∧ w'.cell? ⟨bX, 5, none⟩ = some (.int .u64 x5) ∧ w'.cell? ⟨bX, 6, none⟩ = some (.int .u64 x6) ∧ w'.cell? ⟨bX, 7, none⟩ = some (.int .u64 x7) ∧ w'.cell? ⟨bY, 0, none⟩ = some (.int .u64 x0) ∧ w'.cell? ⟨bY, 1, none⟩ = some (.int .u64 x1) ∧ w'.cell? ⟨bY, 2, none⟩ = some (.int .u64 x2) ∧ w'.cell? ⟨bY, 3, none⟩ = some (.int .u64 x3) ∧ w'.cell? ⟨bY, 4, none⟩ = some (.int .u64 x4) ∧ w'.cell? ⟨bY, 5, none⟩ = some (.int .u64 x5) ∧ w'.cell? ⟨bY, 6, none⟩ = some (.int .u64 x6) ∧ w'.cell? ⟨bY, 7, none⟩ = some (.int .u64 x7))
    (first | go_keep | exact ⟨m0, m1, m2, m3, m4, m5, m6, m7, m8, m9, m10, m11, m12, m13, m14, m15⟩)
    (first
      | (go_at_call 37; refine (lineNow_any _ _ S3 l (StoreAt.drew HS3.out) l0 l1).mono ?_; rw [hnV3.out]; rintro e w9 ⟨rfl, hb9⟩; have m0 := ((Blk.drew X.out).below hb9).cell 0; have m1 := ((Blk.drew X.out).below hb9).cell 1; have m2 := ((Blk.drew X.out).below hb9).cell 2; have m3 := ((Blk.drew X.out).below hb9).cell 3; have m4 := ((Blk.drew X.out).below hb9).cell 4; have m5 := ((Blk.drew X.out).below hb9).cell 5; have m6 := ((Blk.drew X.out).below hb9).cell 6; have m7 := ((Blk.drew X.out).below hb9).cell 7; have m8 := ((Blk.drew Y.out).below hb9).cell 0; have m9 := ((Blk.drew Y.out).below hb9).cell 1; have m10 := ((Blk.drew Y.out).below hb9).cell 2; have m11 := ((Blk.drew Y.out).below hb9).cell 3; have m12 := ((Blk.drew Y.out).below hb9).cell 4; have m13 := ((Blk.drew Y.out).below hb9).cell 5; have m14 := ((Blk.drew Y.out).below hb9).cell 6; have m15 := ((Blk.drew Y.out).below hb9).cell 7))
  go_wp2_with fail
  go_ret
  exact ⟨rfl, bcall HB.out.drew hb9⟩
end Go.Proofs.Ytakemnpicokaiaa
