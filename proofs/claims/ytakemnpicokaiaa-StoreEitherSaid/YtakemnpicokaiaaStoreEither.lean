/- The walk of the law StoreEither. -/
import Derived.Test.YtakemnpicokaiaaAlike
namespace Go.Proofs.Ytakemnpicokaiaa
open Go.RowKit
set_option linter.unusedVariables false
theorem either_plain (S : St) (h : S.ok) (l : Nat) (hl : l < 9) (x y : Int) (h1 : (crashSt S x).ok) (h2 : (crashSt (crashSt S x) y).ok) (i : Nat) (hi : i / 8 = l) :
    (crashSt S x).now.getD i 0 = (if bitZ x l = true then S.now else S.good).getD i 0 ∧ (crashSt (crashSt S x) y).now.getD i 0 = (if bitZ x l = true then S.now else S.good).getD i 0 ∧
      (crashSt (crashSt S x) y).now.getD i 0 = (crashSt (crashSt S x) y).good.getD i 0 := by
  have e1 : (crashSt S x).now.getD i 0 = (if bitZ x l = true then S.now else S.good).getD i 0 := by
    rw [crash_now S h x i (by omega), hi]
    cases bitZ x l <;> simp
  refine ⟨e1, ?_, crash_same _ h1 y i (by omega)⟩
  rw [crash_now _ h1 y i (by omega), ← crash_same S h x i (by omega), e1]
  split <;> rfl
set_option maxHeartbeats 2000000 in
theorem walk_StoreEither (a0 : Option Addr) (len0 cap0 : Nat) (f0 : Nat → Nat → Int) (a1 a2 a3 : Int) (w : World) (h0 : Deeds w a0 len0 cap0 f0) (w1 : (Lit.int .i64 a1).wf = true) (w2 : (Lit.int .u64 a2).wf = true) (w3 : (Lit.int .u64 a3).wf = true) :
    Calls Try.prog 15 #[.slice a0 len0 cap0, .int .i64 a1, .int .u64 a2, .int .u64 a3] w fun e w' => e = .returned (.bool true) ∧ Below w.heap.size w w' := by
  have hcap0 := h0.1
  have hmax0 := h0.2.1
  have HD0 := Lib.hid h0
  clear h0
  by_cases hl : 60 < len0
  · go_enter Try.func15, Try.ntmps15
    go_wp2_with fail
    refine (kept_any _).mono ?_
    rintro e w1 ⟨rfl, hb1⟩
    go_wp2_with fail
    refine (done_many _ _ _ _ hl (by omega)).mono ?_
    rintro e w2 ⟨rfl, hb2⟩
    go_wp2_with fail
    go_ret
    exact ⟨by simp; omega, bcall hb1 hb2⟩
  have hu := wf_u64 w2
  have hv := wf_u64 w3
  clear w1 w2 w3
  go_enter Try.func15, Try.ntmps15
  go_wp2_with fail
  refine (kept_any _).mono ?_
  rintro e w1 ⟨rfl, hb1⟩
  go_wp2_with fail
  refine (done_any _ _ _ _ f0 (HD0.out.below hb1) (by omega)).mono ?_
  rintro e w2 ⟨rfl, ⟨S, hs2⟩, hb2⟩
  have HB := Lib.hid (bcall hb1 hb2)
  have hge := hb1.size
  generalize w1.heap.size = b at *
  clear hb1 hb2 HD0
  have HS := Lib.hid hs2
  clear hs2
  go_wp2_with (go_at_call 21; refine (pick_any _ _ _ (by decide) (by decide)).mono ?_; rintro e w' ⟨rfl, rfl⟩)
  have l0 := pickZ_nonneg a1 9 (by decide)
  have l1 := pickZ_lt a1 9 (by decide)
  generalize pickZ a1 9 = l at *
  have hl9 : l.toNat < 9 := by omega
  have hok := Lib.hid HS.out.1
  obtain ⟨x0, x1, x2, x3, x4, x5, x6, x7, hV⟩ : ∃ x0 x1 x2 x3 x4 x5 x6 x7 : Int, lineV S.now l.toNat = #[.int .u64 x0, .int .u64 x1, .int .u64 x2, .int .u64 x3, .int .u64 x4, .int .u64 x5, .int .u64 x6, .int .u64 x7] := ⟨_, _, _, _, _, _, _, _, rfl⟩
  replace hV := Lib.hid hV
  obtain ⟨y0, y1, y2, y3, y4, y5, y6, y7, hG⟩ : ∃ y0 y1 y2 y3 y4 y5 y6 y7 : Int, lineV S.good l.toNat = #[.int .u64 y0, .int .u64 y1, .int .u64 y2, .int .u64 y3, .int .u64 y4, .int .u64 y5, .int .u64 y6, .int .u64 y7] := ⟨_, _, _, _, _, _, _, _, rfl⟩
  replace hG := Lib.hid hG
  have hne : ∀ w, (binOp .neq 62 (.agg #[.int .u64 x0, .int .u64 x1, .int .u64 x2, .int .u64 x3, .int .u64 x4, .int .u64 x5, .int .u64 x6, .int .u64 x7]) (.agg #[.int .u64 y0, .int .u64 y1, .int .u64 y2, .int .u64 y3, .int .u64 y4, .int .u64 y5, .int .u64 y6, .int .u64 y7])).run Try.prog w = .ok (.bool (!decide (lineL S.now l.toNat = lineL S.good l.toNat))) w := fun w => by
    rw [line_neq, lineL_of_V hV.out, lineL_of_V hG.out]
  refine (lineNow_any _ _ S l HS.out l0 l1).mono ?_
  rw [hV.out]
  rintro e w3 ⟨rfl, hb3⟩
  replace HB := Lib.hid (bcall HB.out hb3)
  replace HS := Lib.hid (HS.out.below hb3)
  clear hb3
  go_wp2_with fail
  have hltX0 := HS.out.2.lt
  have hb4 := balloc (Below.refl _ w3) (Obj.cells #[.int .u64 x0, .int .u64 x1, .int .u64 x2, .int .u64 x3, .int .u64 x4, .int .u64 x5, .int .u64 x6, .int .u64 x7] 62)
  have X := Lib.hid (Blk.new w3 [.int .u64 x0, .int .u64 x1, .int .u64 x2, .int .u64 x3, .int .u64 x4, .int .u64 x5, .int .u64 x6, .int .u64 x7] 62)
  change Hid (Blk (w3.alloc (Obj.cells #[.int .u64 x0, .int .u64 x1, .int .u64 x2, .int .u64 x3, .int .u64 x4, .int .u64 x5, .int .u64 x6, .int .u64 x7] 62)) _ _ _) at X
  have ZX : Hid ((w3.alloc (Obj.cells #[.int .u64 x0, .int .u64 x1, .int .u64 x2, .int .u64 x3, .int .u64 x4, .int .u64 x5, .int .u64 x6, .int .u64 x7] 62)).heap.size = w3.heap.size + 1) := World.size_alloc _ _
  replace HB := Lib.hid (bcall HB.out hb4)
  replace HS := Lib.hid (HS.out.below hb4)
  clear hb4
  generalize w3.alloc (Obj.cells #[.int .u64 x0, .int .u64 x1, .int .u64 x2, .int .u64 x3, .int .u64 x4, .int .u64 x5, .int .u64 x6, .int .u64 x7] 62) = w4 at *
  generalize w3.heap.size = bX at *
  refine (store_good _ _ S l HS.out l0 l1).mono ?_
  rw [hG.out]
  rintro e w5 ⟨rfl, hb5⟩
  replace HB := Lib.hid (bcall HB.out hb5)
  replace HS := Lib.hid (HS.out.below hb5)
  replace X := Lib.hid (X.out.below hb5)
  clear hb5
  go_wp2_with fail
  have hltY0 := X.out.lt
  have hb6 := balloc (Below.refl _ w5) (Obj.cells #[.int .u64 y0, .int .u64 y1, .int .u64 y2, .int .u64 y3, .int .u64 y4, .int .u64 y5, .int .u64 y6, .int .u64 y7] 62)
  have Y := Lib.hid (Blk.new w5 [.int .u64 y0, .int .u64 y1, .int .u64 y2, .int .u64 y3, .int .u64 y4, .int .u64 y5, .int .u64 y6, .int .u64 y7] 62)
  change Hid (Blk (w5.alloc (Obj.cells #[.int .u64 y0, .int .u64 y1, .int .u64 y2, .int .u64 y3, .int .u64 y4, .int .u64 y5, .int .u64 y6, .int .u64 y7] 62)) _ _ _) at Y
  have ZY : Hid ((w5.alloc (Obj.cells #[.int .u64 y0, .int .u64 y1, .int .u64 y2, .int .u64 y3, .int .u64 y4, .int .u64 y5, .int .u64 y6, .int .u64 y7] 62)).heap.size = w5.heap.size + 1) := World.size_alloc _ _
  replace HB := Lib.hid (bcall HB.out hb6)
  replace HS := Lib.hid (HS.out.below hb6)
  replace X := Lib.hid (X.out.below hb6)
  clear hb6
  generalize w5.alloc (Obj.cells #[.int .u64 y0, .int .u64 y1, .int .u64 y2, .int .u64 y3, .int .u64 y4, .int .u64 y5, .int .u64 y6, .int .u64 y7] 62) = w6 at *
  generalize w5.heap.size = bY at *
  have hdir := fun w HH => store_dirty w b S l HH l0 l1
  generalize (!decide (lineL S.now l.toNat = lineL S.good l.toNat)) = dd at hne hdir
  replace hdir := Lib.hid hdir
  have X_c0 : w6.cell? ⟨bX, 0, none⟩ = some (.int .u64 x0) := X.out.cell 0
  have X_c1 : w6.cell? ⟨bX, 1, none⟩ = some (.int .u64 x1) := X.out.cell 1
  have X_c2 : w6.cell? ⟨bX, 2, none⟩ = some (.int .u64 x2) := X.out.cell 2
  have X_c3 : w6.cell? ⟨bX, 3, none⟩ = some (.int .u64 x3) := X.out.cell 3
  have X_c4 : w6.cell? ⟨bX, 4, none⟩ = some (.int .u64 x4) := X.out.cell 4
  have X_c5 : w6.cell? ⟨bX, 5, none⟩ = some (.int .u64 x5) := X.out.cell 5
  have X_c6 : w6.cell? ⟨bX, 6, none⟩ = some (.int .u64 x6) := X.out.cell 6
  have X_c7 : w6.cell? ⟨bX, 7, none⟩ = some (.int .u64 x7) := X.out.cell 7
  have Y_c0 : w6.cell? ⟨bY, 0, none⟩ = some (.int .u64 y0) := Y.out.cell 0
  have Y_c1 : w6.cell? ⟨bY, 1, none⟩ = some (.int .u64 y1) := Y.out.cell 1
  have Y_c2 : w6.cell? ⟨bY, 2, none⟩ = some (.int .u64 y2) := Y.out.cell 2
  have Y_c3 : w6.cell? ⟨bY, 3, none⟩ = some (.int .u64 y3) := Y.out.cell 3
  have Y_c4 : w6.cell? ⟨bY, 4, none⟩ = some (.int .u64 y4) := Y.out.cell 4
  have Y_c5 : w6.cell? ⟨bY, 5, none⟩ = some (.int .u64 y5) := Y.out.cell 5
  have Y_c6 : w6.cell? ⟨bY, 6, none⟩ = some (.int .u64 y6) := Y.out.cell 6
  have Y_c7 : w6.cell? ⟨bY, 7, none⟩ = some (.int .u64 y7) := Y.out.cell 7
  go_region_held3 (fun w' => w'.cell? ⟨bX, 0, none⟩ = some (.int .u64 x0) ∧ w'.cell? ⟨bX, 1, none⟩ = some (.int .u64 x1) ∧ w'.cell? ⟨bX, 2, none⟩ = some (.int .u64 x2) ∧ w'.cell? ⟨bX, 3, none⟩ = some (.int .u64 x3) ∧ w'.cell? ⟨bX, 4, none⟩ = some (.int .u64 x4) ∧ w'.cell? ⟨bX, 5, none⟩ = some (.int .u64 x5) ∧ w'.cell? ⟨bX, 6, none⟩ = some (.int .u64 x6) ∧ w'.cell? ⟨bX, 7, none⟩ = some (.int .u64 x7) ∧ w'.cell? ⟨bY, 0, none⟩ = some (.int .u64 y0) ∧ w'.cell? ⟨bY, 1, none⟩ = some (.int .u64 y1) ∧ w'.cell? ⟨bY, 2, none⟩ = some (.int .u64 y2) ∧ w'.cell? ⟨bY, 3, none⟩ = some (.int .u64 y3) ∧ w'.cell? ⟨bY, 4, none⟩ = some (.int .u64 y4) ∧ w'.cell? ⟨bY, 5, none⟩ = some (.int .u64 y5) ∧ w'.cell? ⟨bY, 6, none⟩ = some (.int .u64 y6) ∧ w'.cell? ⟨bY, 7, none⟩ = some (.int .u64 y7))
    (first | go_keep | exact ⟨m0, m1, m2, m3, m4, m5, m6, m7, m8, m9, m10, m11, m12, m13, m14, m15⟩)
    (first
      | (go_at_call 38; refine (hdir.out _ (StoreAt.drew HS.out)).mono ?_; rintro e w9 ⟨rfl, hb9⟩; have m0 := ((Blk.drew X.out).below hb9).cell 0; have m1 := ((Blk.drew X.out).below hb9).cell 1; have m2 := ((Blk.drew X.out).below hb9).cell 2; have m3 := ((Blk.drew X.out).below hb9).cell 3; have m4 := ((Blk.drew X.out).below hb9).cell 4; have m5 := ((Blk.drew X.out).below hb9).cell 5; have m6 := ((Blk.drew X.out).below hb9).cell 6; have m7 := ((Blk.drew X.out).below hb9).cell 7; have m8 := ((Blk.drew Y.out).below hb9).cell 0; have m9 := ((Blk.drew Y.out).below hb9).cell 1; have m10 := ((Blk.drew Y.out).below hb9).cell 2; have m11 := ((Blk.drew Y.out).below hb9).cell 3; have m12 := ((Blk.drew Y.out).below hb9).cell 4; have m13 := ((Blk.drew Y.out).below hb9).cell 5; have m14 := ((Blk.drew Y.out).below hb9).cell 6; have m15 := ((Blk.drew Y.out).below hb9).cell 7))
  clear hne hdir X_c0 X_c1 X_c2 X_c3 X_c4 X_c5 X_c6 X_c7 Y_c0 Y_c1 Y_c2 Y_c3 Y_c4 Y_c5 Y_c6 Y_c7
  replace HB := Lib.hid (bcall HB.out.drew hb9)
  replace HS := Lib.hid ((StoreAt.drew HS.out).below hb9)
  replace X := Lib.hid ((Blk.drew X.out).below hb9)
  replace Y := Lib.hid ((Blk.drew Y.out).below hb9)
  clear hb9
  have hXz := X.out.lt
  go_wp2_with fail
  refine (word_bit' _ _ _ l0 (by omega)).mono ?_
  rintro e w' ⟨rfl, rfl⟩
  have hpl := either_plain S hok.out l.toNat hl9 a2 a3
  cases hbit : bitZ a2 l.toNat
  · rw [hbit] at hpl
    simp only [Bool.false_eq_true, if_false] at hpl
    replace hpl := Lib.hid hpl
    clear hbit
    go_wp2_with fail
    have hltZ0 := HS.out.2.lt
    have hltZ1 := X.out.lt
    have hltZ2 := Y.out.lt
    have hb21 := balloc (Below.refl _ w9) (Obj.cells #[.int .u64 y0, .int .u64 y1, .int .u64 y2, .int .u64 y3, .int .u64 y4, .int .u64 y5, .int .u64 y6, .int .u64 y7] 62)
    have Z := Lib.hid (Blk.new w9 [.int .u64 y0, .int .u64 y1, .int .u64 y2, .int .u64 y3, .int .u64 y4, .int .u64 y5, .int .u64 y6, .int .u64 y7] 62)
    change Hid (Blk (w9.alloc (Obj.cells #[.int .u64 y0, .int .u64 y1, .int .u64 y2, .int .u64 y3, .int .u64 y4, .int .u64 y5, .int .u64 y6, .int .u64 y7] 62)) _ _ _) at Z
    have ZZ : Hid ((w9.alloc (Obj.cells #[.int .u64 y0, .int .u64 y1, .int .u64 y2, .int .u64 y3, .int .u64 y4, .int .u64 y5, .int .u64 y6, .int .u64 y7] 62)).heap.size = w9.heap.size + 1) := World.size_alloc _ _
    replace HB := Lib.hid (bcall HB.out hb21)
    replace HS := Lib.hid (HS.out.below hb21)
    replace X := Lib.hid (X.out.below hb21)
    replace Y := Lib.hid (Y.out.below hb21)
    clear hb21
    generalize w9.alloc (Obj.cells #[.int .u64 y0, .int .u64 y1, .int .u64 y2, .int .u64 y3, .int .u64 y4, .int .u64 y5, .int .u64 y6, .int .u64 y7] 62) = w21 at *
    generalize w9.heap.size = bZ at *
    clear m0 m1 m2 m3 m4 m5 m6 m7 m8 m9 m10 m11 m12 m13 m14 m15
    clear X Y hXz
    refine (store_crash _ _ S a2 HS.out hu.1 hu.2).mono ?_
    rintro e w22 ⟨rfl, HS2, hb22⟩
    replace HB := Lib.hid (bkept HB.out hb22 (by rintro n rfl; omega))
    replace Z := Lib.hid (Z.out.kept hb22 (by intro hh; omega))
    clear HS
    replace HS2 := Lib.hid HS2
    clear hb22
    have hp2 := fun h2 i hi => hpl.out HS2.out.1 h2 i hi
    replace hp2 := Lib.hid hp2
    go_wp2_with fail
    have hc3 : (crashSt (crashSt S a2) a3).ok := crashSt_ok _ _ HS2.out.1
    have hN2 := Lib.hid ((lineV_congr _ _ l.toNat (fun i hi => (hp2.out hc3 i hi).1)).trans hG.out)
    have hN3 := Lib.hid ((lineV_congr _ _ l.toNat (fun i hi => (hp2.out hc3 i hi).2.1)).trans hG.out)
    have hL3 := Lib.hid (lineL_congr _ _ l.toNat (fun i hi => (hp2.out hc3 i hi).2.2))
    clear hc3
    refine (lineNow_any _ _ _ l HS2.out l0 l1).mono ?_
    rw [hN2.out]
    rintro e w23 ⟨rfl, hb23⟩
    replace HB := Lib.hid (bcall HB.out hb23)
    replace Z := Lib.hid (Z.out.below hb23)
    replace HS2 := Lib.hid (HS2.out.below hb23)
    clear hb23
    go_wp2_with fail
    have hltN0 := HS2.out.2.lt
    have hltN1 := Z.out.lt
    have hb24 := balloc (Below.refl _ w23) (Obj.cells #[.int .u64 y0, .int .u64 y1, .int .u64 y2, .int .u64 y3, .int .u64 y4, .int .u64 y5, .int .u64 y6, .int .u64 y7] 62)
    have N := Lib.hid (Blk.new w23 [.int .u64 y0, .int .u64 y1, .int .u64 y2, .int .u64 y3, .int .u64 y4, .int .u64 y5, .int .u64 y6, .int .u64 y7] 62)
    change Hid (Blk (w23.alloc (Obj.cells #[.int .u64 y0, .int .u64 y1, .int .u64 y2, .int .u64 y3, .int .u64 y4, .int .u64 y5, .int .u64 y6, .int .u64 y7] 62)) _ _ _) at N
    have ZN : Hid ((w23.alloc (Obj.cells #[.int .u64 y0, .int .u64 y1, .int .u64 y2, .int .u64 y3, .int .u64 y4, .int .u64 y5, .int .u64 y6, .int .u64 y7] 62)).heap.size = w23.heap.size + 1) := World.size_alloc _ _
    replace HB := Lib.hid (bcall HB.out hb24)
    replace Z := Lib.hid (Z.out.below hb24)
    replace HS2 := Lib.hid (HS2.out.below hb24)
    clear hb24
    generalize w23.alloc (Obj.cells #[.int .u64 y0, .int .u64 y1, .int .u64 y2, .int .u64 y3, .int .u64 y4, .int .u64 y5, .int .u64 y6, .int .u64 y7] 62) = w24 at *
    generalize w23.heap.size = bN at *
    refine (store_crash _ _ _ a3 HS2.out hv.1 hv.2).mono ?_
    rintro e w25 ⟨rfl, HS3, hb25⟩
    replace HB := Lib.hid (bkept HB.out hb25 (by rintro n rfl; omega))
    replace Z := Lib.hid (Z.out.kept hb25 (by intro hh; omega))
    replace N := Lib.hid (N.out.kept hb25 (by intro hh; omega))
    clear HS2
    replace HS3 := Lib.hid HS3
    clear hb25
    generalize crashSt (crashSt S a2) a3 = S3 at *
    have heq : ∀ w, (binOp .eql 62 (.agg #[.int .u64 y0, .int .u64 y1, .int .u64 y2, .int .u64 y3, .int .u64 y4, .int .u64 y5, .int .u64 y6, .int .u64 y7]) (.agg #[.int .u64 y0, .int .u64 y1, .int .u64 y2, .int .u64 y3, .int .u64 y4, .int .u64 y5, .int .u64 y6, .int .u64 y7])).run Try.prog w = .ok (.bool true) w := fun w => by
      rw [line_eql]; simp
    go_wp2_with fail
    have N_c0 : w25.cell? ⟨bN, 0, none⟩ = some (.int .u64 y0) := N.out.cell 0
    have N_c1 : w25.cell? ⟨bN, 1, none⟩ = some (.int .u64 y1) := N.out.cell 1
    have N_c2 : w25.cell? ⟨bN, 2, none⟩ = some (.int .u64 y2) := N.out.cell 2
    have N_c3 : w25.cell? ⟨bN, 3, none⟩ = some (.int .u64 y3) := N.out.cell 3
    have N_c4 : w25.cell? ⟨bN, 4, none⟩ = some (.int .u64 y4) := N.out.cell 4
    have N_c5 : w25.cell? ⟨bN, 5, none⟩ = some (.int .u64 y5) := N.out.cell 5
    have N_c6 : w25.cell? ⟨bN, 6, none⟩ = some (.int .u64 y6) := N.out.cell 6
    have N_c7 : w25.cell? ⟨bN, 7, none⟩ = some (.int .u64 y7) := N.out.cell 7
    have Z_c0 : w25.cell? ⟨bZ, 0, none⟩ = some (.int .u64 y0) := Z.out.cell 0
    have Z_c1 : w25.cell? ⟨bZ, 1, none⟩ = some (.int .u64 y1) := Z.out.cell 1
    have Z_c2 : w25.cell? ⟨bZ, 2, none⟩ = some (.int .u64 y2) := Z.out.cell 2
    have Z_c3 : w25.cell? ⟨bZ, 3, none⟩ = some (.int .u64 y3) := Z.out.cell 3
    have Z_c4 : w25.cell? ⟨bZ, 4, none⟩ = some (.int .u64 y4) := Z.out.cell 4
    have Z_c5 : w25.cell? ⟨bZ, 5, none⟩ = some (.int .u64 y5) := Z.out.cell 5
    have Z_c6 : w25.cell? ⟨bZ, 6, none⟩ = some (.int .u64 y6) := Z.out.cell 6
    have Z_c7 : w25.cell? ⟨bZ, 7, none⟩ = some (.int .u64 y7) := Z.out.cell 7
    go_region_held3 (fun w' => w'.cell? ⟨bN, 0, none⟩ = some (.int .u64 y0) ∧ w'.cell? ⟨bN, 1, none⟩ = some (.int .u64 y1) ∧ w'.cell? ⟨bN, 2, none⟩ = some (.int .u64 y2) ∧ w'.cell? ⟨bN, 3, none⟩ = some (.int .u64 y3) ∧ w'.cell? ⟨bN, 4, none⟩ = some (.int .u64 y4) ∧ w'.cell? ⟨bN, 5, none⟩ = some (.int .u64 y5) ∧ w'.cell? ⟨bN, 6, none⟩ = some (.int .u64 y6) ∧ w'.cell? ⟨bN, 7, none⟩ = some (.int .u64 y7) ∧ w'.cell? ⟨bZ, 0, none⟩ = some (.int .u64 y0) ∧ w'.cell? ⟨bZ, 1, none⟩ = some (.int .u64 y1) ∧ w'.cell? ⟨bZ, 2, none⟩ = some (.int .u64 y2) ∧ w'.cell? ⟨bZ, 3, none⟩ = some (.int .u64 y3) ∧ w'.cell? ⟨bZ, 4, none⟩ = some (.int .u64 y4) ∧ w'.cell? ⟨bZ, 5, none⟩ = some (.int .u64 y5) ∧ w'.cell? ⟨bZ, 6, none⟩ = some (.int .u64 y6) ∧ w'.cell? ⟨bZ, 7, none⟩ = some (.int .u64 y7))
      (first | go_keep | exact ⟨m0, m1, m2, m3, m4, m5, m6, m7, m8, m9, m10, m11, m12, m13, m14, m15⟩)
      (first
        | (go_at_call 37; refine (lineNow_any _ _ S3 l (StoreAt.drew HS3.out) l0 l1).mono ?_; rw [hN3.out]; rintro e w9 ⟨rfl, hb9⟩; have N9 := (Blk.drew N.out).below hb9; have Z9 := (Blk.drew Z.out).below hb9; have H9 := (StoreAt.drew HS3.out).below hb9; have m0 := N9.cell 0; have m1 := N9.cell 1; have m2 := N9.cell 2; have m3 := N9.cell 3; have m4 := N9.cell 4; have m5 := N9.cell 5; have m6 := N9.cell 6; have m7 := N9.cell 7; have m8 := Z9.cell 0; have m9 := Z9.cell 1; have m10 := Z9.cell 2; have m11 := Z9.cell 3; have m12 := Z9.cell 4; have m13 := Z9.cell 5; have m14 := Z9.cell 6; have m15 := Z9.cell 7)
        | (go_at_call 38; refine (store_dirty _ _ S3 l H9 l0 l1).mono ?_; rw [show (!decide (lineL S3.now l.toNat = lineL S3.good l.toNat)) = false by rw [hL3.out]; simp]; rintro e w10 ⟨rfl, hb10⟩; have N10 := N9.below hb10; have Z10 := Z9.below hb10; have H10 := H9.below hb10; have m0 := N10.cell 0; have m1 := N10.cell 1; have m2 := N10.cell 2; have m3 := N10.cell 3; have m4 := N10.cell 4; have m5 := N10.cell 5; have m6 := N10.cell 6; have m7 := N10.cell 7; have m8 := Z10.cell 0; have m9 := Z10.cell 1; have m10 := Z10.cell 2; have m11 := Z10.cell 3; have m12 := Z10.cell 4; have m13 := Z10.cell 5; have m14 := Z10.cell 6; have m15 := Z10.cell 7))
    go_wp2_with fail
    go_ret
    exact ⟨rfl, bcall (bcall HB.out.drew hb9) hb10⟩
  · rw [hbit] at hpl
    simp only [if_true] at hpl
    replace hpl := Lib.hid hpl
    clear hbit
    go_wp2_with fail
    have hltZ0 := HS.out.2.lt
    have hltZ1 := X.out.lt
    have hltZ2 := Y.out.lt
    have hb21 := balloc (Below.refl _ w9) (Obj.cells #[.int .u64 x0, .int .u64 x1, .int .u64 x2, .int .u64 x3, .int .u64 x4, .int .u64 x5, .int .u64 x6, .int .u64 x7] 62)
    have Z := Lib.hid (Blk.new w9 [.int .u64 x0, .int .u64 x1, .int .u64 x2, .int .u64 x3, .int .u64 x4, .int .u64 x5, .int .u64 x6, .int .u64 x7] 62)
    change Hid (Blk (w9.alloc (Obj.cells #[.int .u64 x0, .int .u64 x1, .int .u64 x2, .int .u64 x3, .int .u64 x4, .int .u64 x5, .int .u64 x6, .int .u64 x7] 62)) _ _ _) at Z
    have ZZ : Hid ((w9.alloc (Obj.cells #[.int .u64 x0, .int .u64 x1, .int .u64 x2, .int .u64 x3, .int .u64 x4, .int .u64 x5, .int .u64 x6, .int .u64 x7] 62)).heap.size = w9.heap.size + 1) := World.size_alloc _ _
    replace HB := Lib.hid (bcall HB.out hb21)
    replace HS := Lib.hid (HS.out.below hb21)
    replace X := Lib.hid (X.out.below hb21)
    replace Y := Lib.hid (Y.out.below hb21)
    clear hb21
    generalize w9.alloc (Obj.cells #[.int .u64 x0, .int .u64 x1, .int .u64 x2, .int .u64 x3, .int .u64 x4, .int .u64 x5, .int .u64 x6, .int .u64 x7] 62) = w21 at *
    generalize w9.heap.size = bZ at *
    clear m0 m1 m2 m3 m4 m5 m6 m7 m8 m9 m10 m11 m12 m13 m14 m15
    clear X Y hXz
    refine (store_crash _ _ S a2 HS.out hu.1 hu.2).mono ?_
    rintro e w22 ⟨rfl, HS2, hb22⟩
    replace HB := Lib.hid (bkept HB.out hb22 (by rintro n rfl; omega))
    replace Z := Lib.hid (Z.out.kept hb22 (by intro hh; omega))
    clear HS
    replace HS2 := Lib.hid HS2
    clear hb22
    have hp2 := fun h2 i hi => hpl.out HS2.out.1 h2 i hi
    replace hp2 := Lib.hid hp2
    go_wp2_with fail
    have hc3 : (crashSt (crashSt S a2) a3).ok := crashSt_ok _ _ HS2.out.1
    have hN2 := Lib.hid ((lineV_congr _ _ l.toNat (fun i hi => (hp2.out hc3 i hi).1)).trans hV.out)
    have hN3 := Lib.hid ((lineV_congr _ _ l.toNat (fun i hi => (hp2.out hc3 i hi).2.1)).trans hV.out)
    have hL3 := Lib.hid (lineL_congr _ _ l.toNat (fun i hi => (hp2.out hc3 i hi).2.2))
    clear hc3
    refine (lineNow_any _ _ _ l HS2.out l0 l1).mono ?_
    rw [hN2.out]
    rintro e w23 ⟨rfl, hb23⟩
    replace HB := Lib.hid (bcall HB.out hb23)
    replace Z := Lib.hid (Z.out.below hb23)
    replace HS2 := Lib.hid (HS2.out.below hb23)
    clear hb23
    go_wp2_with fail
    have hltN0 := HS2.out.2.lt
    have hltN1 := Z.out.lt
    have hb24 := balloc (Below.refl _ w23) (Obj.cells #[.int .u64 x0, .int .u64 x1, .int .u64 x2, .int .u64 x3, .int .u64 x4, .int .u64 x5, .int .u64 x6, .int .u64 x7] 62)
    have N := Lib.hid (Blk.new w23 [.int .u64 x0, .int .u64 x1, .int .u64 x2, .int .u64 x3, .int .u64 x4, .int .u64 x5, .int .u64 x6, .int .u64 x7] 62)
    change Hid (Blk (w23.alloc (Obj.cells #[.int .u64 x0, .int .u64 x1, .int .u64 x2, .int .u64 x3, .int .u64 x4, .int .u64 x5, .int .u64 x6, .int .u64 x7] 62)) _ _ _) at N
    have ZN : Hid ((w23.alloc (Obj.cells #[.int .u64 x0, .int .u64 x1, .int .u64 x2, .int .u64 x3, .int .u64 x4, .int .u64 x5, .int .u64 x6, .int .u64 x7] 62)).heap.size = w23.heap.size + 1) := World.size_alloc _ _
    replace HB := Lib.hid (bcall HB.out hb24)
    replace Z := Lib.hid (Z.out.below hb24)
    replace HS2 := Lib.hid (HS2.out.below hb24)
    clear hb24
    generalize w23.alloc (Obj.cells #[.int .u64 x0, .int .u64 x1, .int .u64 x2, .int .u64 x3, .int .u64 x4, .int .u64 x5, .int .u64 x6, .int .u64 x7] 62) = w24 at *
    generalize w23.heap.size = bN at *
    refine (store_crash _ _ _ a3 HS2.out hv.1 hv.2).mono ?_
    rintro e w25 ⟨rfl, HS3, hb25⟩
    replace HB := Lib.hid (bkept HB.out hb25 (by rintro n rfl; omega))
    replace Z := Lib.hid (Z.out.kept hb25 (by intro hh; omega))
    replace N := Lib.hid (N.out.kept hb25 (by intro hh; omega))
    clear HS2
    replace HS3 := Lib.hid HS3
    clear hb25
    generalize crashSt (crashSt S a2) a3 = S3 at *
    have heq : ∀ w, (binOp .eql 62 (.agg #[.int .u64 x0, .int .u64 x1, .int .u64 x2, .int .u64 x3, .int .u64 x4, .int .u64 x5, .int .u64 x6, .int .u64 x7]) (.agg #[.int .u64 x0, .int .u64 x1, .int .u64 x2, .int .u64 x3, .int .u64 x4, .int .u64 x5, .int .u64 x6, .int .u64 x7])).run Try.prog w = .ok (.bool true) w := fun w => by
      rw [line_eql]; simp
    go_wp2_with fail
    have N_c0 : w25.cell? ⟨bN, 0, none⟩ = some (.int .u64 x0) := N.out.cell 0
    have N_c1 : w25.cell? ⟨bN, 1, none⟩ = some (.int .u64 x1) := N.out.cell 1
    have N_c2 : w25.cell? ⟨bN, 2, none⟩ = some (.int .u64 x2) := N.out.cell 2
    have N_c3 : w25.cell? ⟨bN, 3, none⟩ = some (.int .u64 x3) := N.out.cell 3
    have N_c4 : w25.cell? ⟨bN, 4, none⟩ = some (.int .u64 x4) := N.out.cell 4
    have N_c5 : w25.cell? ⟨bN, 5, none⟩ = some (.int .u64 x5) := N.out.cell 5
    have N_c6 : w25.cell? ⟨bN, 6, none⟩ = some (.int .u64 x6) := N.out.cell 6
    have N_c7 : w25.cell? ⟨bN, 7, none⟩ = some (.int .u64 x7) := N.out.cell 7
    have Z_c0 : w25.cell? ⟨bZ, 0, none⟩ = some (.int .u64 x0) := Z.out.cell 0
    have Z_c1 : w25.cell? ⟨bZ, 1, none⟩ = some (.int .u64 x1) := Z.out.cell 1
    have Z_c2 : w25.cell? ⟨bZ, 2, none⟩ = some (.int .u64 x2) := Z.out.cell 2
    have Z_c3 : w25.cell? ⟨bZ, 3, none⟩ = some (.int .u64 x3) := Z.out.cell 3
    have Z_c4 : w25.cell? ⟨bZ, 4, none⟩ = some (.int .u64 x4) := Z.out.cell 4
    have Z_c5 : w25.cell? ⟨bZ, 5, none⟩ = some (.int .u64 x5) := Z.out.cell 5
    have Z_c6 : w25.cell? ⟨bZ, 6, none⟩ = some (.int .u64 x6) := Z.out.cell 6
    have Z_c7 : w25.cell? ⟨bZ, 7, none⟩ = some (.int .u64 x7) := Z.out.cell 7
    go_region_held3 (fun w' => w'.cell? ⟨bN, 0, none⟩ = some (.int .u64 x0) ∧ w'.cell? ⟨bN, 1, none⟩ = some (.int .u64 x1) ∧ w'.cell? ⟨bN, 2, none⟩ = some (.int .u64 x2) ∧ w'.cell? ⟨bN, 3, none⟩ = some (.int .u64 x3) ∧ w'.cell? ⟨bN, 4, none⟩ = some (.int .u64 x4) ∧ w'.cell? ⟨bN, 5, none⟩ = some (.int .u64 x5) ∧ w'.cell? ⟨bN, 6, none⟩ = some (.int .u64 x6) ∧ w'.cell? ⟨bN, 7, none⟩ = some (.int .u64 x7) ∧ w'.cell? ⟨bZ, 0, none⟩ = some (.int .u64 x0) ∧ w'.cell? ⟨bZ, 1, none⟩ = some (.int .u64 x1) ∧ w'.cell? ⟨bZ, 2, none⟩ = some (.int .u64 x2) ∧ w'.cell? ⟨bZ, 3, none⟩ = some (.int .u64 x3) ∧ w'.cell? ⟨bZ, 4, none⟩ = some (.int .u64 x4) ∧ w'.cell? ⟨bZ, 5, none⟩ = some (.int .u64 x5) ∧ w'.cell? ⟨bZ, 6, none⟩ = some (.int .u64 x6) ∧ w'.cell? ⟨bZ, 7, none⟩ = some (.int .u64 x7))
      (first | go_keep | exact ⟨m0, m1, m2, m3, m4, m5, m6, m7, m8, m9, m10, m11, m12, m13, m14, m15⟩)
      (first
        | (go_at_call 37; refine (lineNow_any _ _ S3 l (StoreAt.drew HS3.out) l0 l1).mono ?_; rw [hN3.out]; rintro e w9 ⟨rfl, hb9⟩; have N9 := (Blk.drew N.out).below hb9; have Z9 := (Blk.drew Z.out).below hb9; have H9 := (StoreAt.drew HS3.out).below hb9; have m0 := N9.cell 0; have m1 := N9.cell 1; have m2 := N9.cell 2; have m3 := N9.cell 3; have m4 := N9.cell 4; have m5 := N9.cell 5; have m6 := N9.cell 6; have m7 := N9.cell 7; have m8 := Z9.cell 0; have m9 := Z9.cell 1; have m10 := Z9.cell 2; have m11 := Z9.cell 3; have m12 := Z9.cell 4; have m13 := Z9.cell 5; have m14 := Z9.cell 6; have m15 := Z9.cell 7)
        | (go_at_call 38; refine (store_dirty _ _ S3 l H9 l0 l1).mono ?_; rw [show (!decide (lineL S3.now l.toNat = lineL S3.good l.toNat)) = false by rw [hL3.out]; simp]; rintro e w10 ⟨rfl, hb10⟩; have N10 := N9.below hb10; have Z10 := Z9.below hb10; have H10 := H9.below hb10; have m0 := N10.cell 0; have m1 := N10.cell 1; have m2 := N10.cell 2; have m3 := N10.cell 3; have m4 := N10.cell 4; have m5 := N10.cell 5; have m6 := N10.cell 6; have m7 := N10.cell 7; have m8 := Z10.cell 0; have m9 := Z10.cell 1; have m10 := Z10.cell 2; have m11 := Z10.cell 3; have m12 := Z10.cell 4; have m13 := Z10.cell 5; have m14 := Z10.cell 6; have m15 := Z10.cell 7))
    go_wp2_with fail
    go_ret
    exact ⟨rfl, bcall (bcall HB.out.drew hb9) hb10⟩
end Go.Proofs.Ytakemnpicokaiaa
