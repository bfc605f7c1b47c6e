/- The fact 'tabled' holds: its call returns true. -/
import Derived.Test.YtakemnpicokaiaaTabHelp
namespace Go.Proofs.Ytakemnpicokaiaa
open Go.RowKit
set_option linter.unusedVariables false
theorem tabled_put (w : World) : Calls Try.prog 23 #[.agg (tcells [0, 0, 0, 0, 0, 0, 0, 0, 0, 0, 0, 0, 0, 0, 0, 0]).toArray, .agg #[.int .i64 1, .int .i64 3, .int .i64 7]] w fun e w' => e = .returned (.tuple #[.agg (tcells [0, 0, 0, 0, 0, 0, 0, 0, 0, 0, 0, 0, 0, 0, 3, 7]).toArray, .agg #[.int .i64 1, .int .i64 0]]) ∧ Below w.heap.size w w' := by
  have h := table_do w [0, 0, 0, 0, 0, 0, 0, 0, 0, 0, 0, 0, 0, 0, 0, 0] zero_good 1 3 7
  rwa [show doT [0, 0, 0, 0, 0, 0, 0, 0, 0, 0, 0, 0, 0, 0, 0, 0] 1 3 7 = ([0, 0, 0, 0, 0, 0, 0, 0, 0, 0, 0, 0, 0, 0, 3, 7], 1, 0) from by decide +kernel] at h
theorem tabled_good : Good [0, 0, 0, 0, 0, 0, 0, 0, 0, 0, 0, 0, 0, 0, 3, 7] := by
  have h := doT_good zero_good 1 3 7 (by decide) (by decide)
  rwa [show doT [0, 0, 0, 0, 0, 0, 0, 0, 0, 0, 0, 0, 0, 0, 0, 0] 1 3 7 = ([0, 0, 0, 0, 0, 0, 0, 0, 0, 0, 0, 0, 0, 0, 3, 7], 1, 0) from by decide +kernel] at h
theorem tabled_peek (w : World) : Calls Try.prog 23 #[.agg (tcells [0, 0, 0, 0, 0, 0, 0, 0, 0, 0, 0, 0, 0, 0, 3, 7]).toArray, .agg #[.int .i64 5, .int .i64 3, .int .i64 0]] w fun e w' => e = .returned (.tuple #[.agg (tcells [0, 0, 0, 0, 0, 0, 0, 0, 0, 0, 0, 0, 0, 0, 3, 7]).toArray, .agg #[.int .i64 1, .int .i64 7]]) ∧ Below w.heap.size w w' := by
  have h := table_do w [0, 0, 0, 0, 0, 0, 0, 0, 0, 0, 0, 0, 0, 0, 3, 7] tabled_good 5 3 0
  rwa [show doT [0, 0, 0, 0, 0, 0, 0, 0, 0, 0, 0, 0, 0, 0, 3, 7] 5 3 0 = ([0, 0, 0, 0, 0, 0, 0, 0, 0, 0, 0, 0, 0, 0, 3, 7], 1, 7) from by decide +kernel] at h
theorem tabled_len (w : World) : Calls Try.prog 24 #[.agg (tcells [0, 0, 0, 0, 0, 0, 0, 0, 0, 0, 0, 0, 0, 0, 3, 7]).toArray] w fun e w' => e = .returned (.int .i64 1) ∧ Below w.heap.size w w' := by
  have h := len_any [0, 0, 0, 0, 0, 0, 0, 0, 0, 0, 0, 0, 0, 0, 3, 7] rfl w
  rwa [show lenT [0, 0, 0, 0, 0, 0, 0, 0, 0, 0, 0, 0, 0, 0, 3, 7] = 1 from by decide +kernel] at h
set_option maxHeartbeats 2000000 in
theorem tabled_any (w : World) :
    Calls Try.prog 19 #[] w fun e w' => e = .returned (.bool true) ∧ Below w.heap.size w w' := by
  obtain ⟨z, Ez⟩ : ∃ z : List Int, z = [0, 0, 0, 0, 0, 0, 0, 0, 0, 0, 0, 0, 0, 0, 0, 0] := ⟨_, rfl⟩
  obtain ⟨u, Eu⟩ : ∃ u : List Int, u = [0, 0, 0, 0, 0, 0, 0, 0, 0, 0, 0, 0, 0, 0, 3, 7] := ⟨_, rfl⟩
  have HPUT := Lib.hid tabled_put
  have HPEEK := Lib.hid tabled_peek
  have HLEN := Lib.hid tabled_len
  rw [← Ez, ← Eu] at HPUT
  rw [← Eu] at HPEEK HLEN
  have gz : Good z := by rw [Ez]; exact zero_good
  have gu : Good u := by rw [Eu]; exact tabled_good
  have k7 : tk u 7 = 3 := by rw [Eu]; rfl
  have v7 : tv u 7 = 7 := by rw [Eu]; rfl
  have HK := Lib.hid k7
  have HV := Lib.hid v7
  have EZ : Hid ((tcells z) = [.int .i64 0, .int .i64 0, .int .i64 0, .int .i64 0, .int .i64 0, .int .i64 0, .int .i64 0, .int .i64 0, .int .i64 0, .int .i64 0, .int .i64 0, .int .i64 0, .int .i64 0, .int .i64 0, .int .i64 0, .int .i64 0]) := Lib.hid (by rw [Ez]; rfl)
  have HLz : Hid ((tcells z).length = 16) := Lib.hid (by rw [tcells_len]; exact gz.len)
  have HCz := Lib.hid (tcells_take z gz.len)
  have HOz := Lib.hid (tcells_one z)
  have Gz := Lib.hid gz
  have HLu : Hid ((tcells u).length = 16) := Lib.hid (by rw [tcells_len]; exact gu.len)
  have HCu := Lib.hid (tcells_take u gu.len)
  have HOu := Lib.hid (tcells_one u)
  have Gu := Lib.hid gu
  clear gz gu k7 v7 Ez Eu
  have HB := Lib.hid (Below.refl w.heap.size w)
  go_enter Try.func19, Try.ntmps19
  go_upto_region 2 with fail
  have hb1 := balloc (Below.refl _ w) (Obj.cells #[.int .i64 0, .int .i64 0, .int .i64 0, .int .i64 0, .int .i64 0, .int .i64 0, .int .i64 0, .int .i64 0, .int .i64 0, .int .i64 0, .int .i64 0, .int .i64 0, .int .i64 0, .int .i64 0, .int .i64 0, .int .i64 0] 27)
  have T := Lib.hid (Blk.new w [.int .i64 0, .int .i64 0, .int .i64 0, .int .i64 0, .int .i64 0, .int .i64 0, .int .i64 0, .int .i64 0, .int .i64 0, .int .i64 0, .int .i64 0, .int .i64 0, .int .i64 0, .int .i64 0, .int .i64 0, .int .i64 0] 27)
  change Hid (Blk (w.alloc (Obj.cells #[.int .i64 0, .int .i64 0, .int .i64 0, .int .i64 0, .int .i64 0, .int .i64 0, .int .i64 0, .int .i64 0, .int .i64 0, .int .i64 0, .int .i64 0, .int .i64 0, .int .i64 0, .int .i64 0, .int .i64 0, .int .i64 0] 27)) _ _ _) at T
  have ZT : Hid ((w.alloc (Obj.cells #[.int .i64 0, .int .i64 0, .int .i64 0, .int .i64 0, .int .i64 0, .int .i64 0, .int .i64 0, .int .i64 0, .int .i64 0, .int .i64 0, .int .i64 0, .int .i64 0, .int .i64 0, .int .i64 0, .int .i64 0, .int .i64 0] 27)).heap.size = w.heap.size + 1) := World.size_alloc _ _
  replace HB := Lib.hid (bcall HB.out hb1)
  clear hb1
  generalize w.alloc (Obj.cells #[.int .i64 0, .int .i64 0, .int .i64 0, .int .i64 0, .int .i64 0, .int .i64 0, .int .i64 0, .int .i64 0, .int .i64 0, .int .i64 0, .int .i64 0, .int .i64 0, .int .i64 0, .int .i64 0, .int .i64 0, .int .i64 0] 27) = w1 at *
  rw [← EZ.out] at T
  go_wp2_with (refine wpList_load_part rfl 27 _ rfl (w.heap.size) 0 16 rfl 27 (tcells z) _ T.out (by rw [HLz.out]; decide) Try.underlying27 rfl (by kernel_rfl) ?_; rw [HCz.out])
  refine (HPUT.out _).mono ?_
  rintro e w2 ⟨rfl, hb2⟩
  replace HB := Lib.hid (bcall HB.out hb2)
  replace T := Lib.hid (T.out.below hb2)
  clear hb2
  go_upto_region 3 with (first | (refine wpList_store_part rfl 27 _ _ rfl (w.heap.size) 0 16 (tcells u) rfl rfl 27 (tcells z) (T.out.alloc _) HLu.out (by rw [HLz.out]; decide) (by kernel_rfl) HOu.out ?_; rw [spl_whole (tcells z) (tcells u) (by rw [HLz.out, HLu.out])]; have hP := asg_pair w2 (w.heap.size) (tcells z) (tcells u) [.int .i64 0, .int .i64 0] 27 31 T.out; have aa0 := hP.2.1.cell 0; have aa1 := hP.2.1.cell 1; have af0 := hP.2.1.frozen 0; have af1 := hP.2.1.frozen 1))
  have hP := asg_pair w2 (w.heap.size) (tcells z) (tcells u) [.int .i64 0, .int .i64 0] 27 31 T.out
  have hltT := T.out.lt
  have hK0 : Kept (· = w.heap.size) w2 (((setBlk (w2.alloc (Obj.cells #[.int .i64 0, .int .i64 0] 31)) (w.heap.size) (tcells u)).setCell ⟨w2.heap.size, 0, none⟩ (.int .i64 1)).setCell ⟨w2.heap.size, 1, none⟩ (.int .i64 0)) := (hP.2.2.setCell (.inr (Nat.le_refl _)) _).setCell (.inr (Nat.le_refl _)) _
  have Tn : Hid (Blk (((setBlk (w2.alloc (Obj.cells #[.int .i64 0, .int .i64 0] 31)) (w.heap.size) (tcells u)).setCell ⟨w2.heap.size, 0, none⟩ (.int .i64 1)).setCell ⟨w2.heap.size, 1, none⟩ (.int .i64 0)) (w.heap.size) (tcells u) 27) := Lib.hid ((hP.1.other _ (by show w.heap.size ≠ w2.heap.size; omega)).other _ (by show w.heap.size ≠ w2.heap.size; omega))
  have A : Hid (Blk (((setBlk (w2.alloc (Obj.cells #[.int .i64 0, .int .i64 0] 31)) (w.heap.size) (tcells u)).setCell ⟨w2.heap.size, 0, none⟩ (.int .i64 1)).setCell ⟨w2.heap.size, 1, none⟩ (.int .i64 0)) w2.heap.size [.int .i64 1, .int .i64 0] 31) := Lib.hid (Blk.pair hP.2.1)
  have hlt_A_T := T.out.lt
  replace HB := Lib.hid (bkept HB.out hK0 (by rintro n rfl; omega))
  replace T := Tn
  clear Tn hK0 hP aa0 aa1 af0 af1 hltT
  generalize ((setBlk (w2.alloc (Obj.cells #[.int .i64 0, .int .i64 0] 31)) (w.heap.size) (tcells u)).setCell ⟨w2.heap.size, 0, none⟩ (.int .i64 1)).setCell ⟨w2.heap.size, 1, none⟩ (.int .i64 0) = w3 at *
  generalize w2.heap.size = bA at *
  have A_c0 : w3.cell? ⟨bA, 0, none⟩ = some (.int .i64 1) := A.out.cell 0
  have A_c1 : w3.cell? ⟨bA, 1, none⟩ = some (.int .i64 0) := A.out.cell 1
  have A_z : bA < w3.heap.size := A.out.lt
  go_wp2_with (refine wpList_load_part rfl 27 _ rfl (w.heap.size) 0 16 rfl 27 (tcells u) _ T.out (by rw [HLu.out]; decide) Try.underlying27 rfl (by kernel_rfl) ?_; rw [HCu.out])
  refine (HPEEK.out _).mono ?_
  rintro e w4 ⟨rfl, hb4⟩
  clear A_c0 A_c1 A_z
  replace HB := Lib.hid (bcall HB.out hb4)
  replace T := Lib.hid (T.out.below hb4)
  replace A := Lib.hid (A.out.below hb4)
  clear hb4
  have A_c0 : w4.cell? ⟨bA, 0, none⟩ = some (.int .i64 1) := A.out.cell 0
  have A_c1 : w4.cell? ⟨bA, 1, none⟩ = some (.int .i64 0) := A.out.cell 1
  have A_z : bA < w4.heap.size := A.out.lt
  go_upto_region 4 with (first | (refine wpList_store_part rfl 27 _ _ rfl w4.heap.size 0 16 (tcells u) rfl rfl 27 _ ((Blk.new w4 [.int .i64 0, .int .i64 0, .int .i64 0, .int .i64 0, .int .i64 0, .int .i64 0, .int .i64 0, .int .i64 0, .int .i64 0, .int .i64 0, .int .i64 0, .int .i64 0, .int .i64 0, .int .i64 0, .int .i64 0, .int .i64 0] 27).alloc _) HLu.out (by decide) (by kernel_rfl) HOu.out ?_; rw [spl_z16 _ HLu.out]; have hP := def_pair w4 (tcells u) [.int .i64 0, .int .i64 0, .int .i64 0, .int .i64 0, .int .i64 0, .int .i64 0, .int .i64 0, .int .i64 0, .int .i64 0, .int .i64 0, .int .i64 0, .int .i64 0, .int .i64 0, .int .i64 0, .int .i64 0, .int .i64 0] [.int .i64 0, .int .i64 0] 27 31; have aa0 := hP.2.1.cell 0; have aa1 := hP.2.1.cell 1; have af0 := hP.2.1.frozen 0; have af1 := hP.2.1.frozen 1))
  have hP := def_pair w4 (tcells u) [.int .i64 0, .int .i64 0, .int .i64 0, .int .i64 0, .int .i64 0, .int .i64 0, .int .i64 0, .int .i64 0, .int .i64 0, .int .i64 0, .int .i64 0, .int .i64 0, .int .i64 0, .int .i64 0, .int .i64 0, .int .i64 0] [.int .i64 0, .int .i64 0] 27 31
  have hBB : Below w4.heap.size w4 (((setBlk ((w4.alloc (Obj.cells #[.int .i64 0, .int .i64 0, .int .i64 0, .int .i64 0, .int .i64 0, .int .i64 0, .int .i64 0, .int .i64 0, .int .i64 0, .int .i64 0, .int .i64 0, .int .i64 0, .int .i64 0, .int .i64 0, .int .i64 0, .int .i64 0] 27)).alloc (Obj.cells #[.int .i64 0, .int .i64 0] 31)) w4.heap.size (tcells u)).setCell ⟨w4.heap.size + 1, 0, none⟩ (.int .i64 1)).setCell ⟨w4.heap.size + 1, 1, none⟩ (.int .i64 7)) := bstore (bstore hP.2.2 (Nat.le_succ _) _) (Nat.le_succ _) _
  have V : Hid (Blk (((setBlk ((w4.alloc (Obj.cells #[.int .i64 0, .int .i64 0, .int .i64 0, .int .i64 0, .int .i64 0, .int .i64 0, .int .i64 0, .int .i64 0, .int .i64 0, .int .i64 0, .int .i64 0, .int .i64 0, .int .i64 0, .int .i64 0, .int .i64 0, .int .i64 0] 27)).alloc (Obj.cells #[.int .i64 0, .int .i64 0] 31)) w4.heap.size (tcells u)).setCell ⟨w4.heap.size + 1, 0, none⟩ (.int .i64 1)).setCell ⟨w4.heap.size + 1, 1, none⟩ (.int .i64 7)) w4.heap.size (tcells u) 27) := Lib.hid ((hP.1.other _ (by show w4.heap.size ≠ w4.heap.size + 1; omega)).other _ (by show w4.heap.size ≠ w4.heap.size + 1; omega))
  have B : Hid (Blk (((setBlk ((w4.alloc (Obj.cells #[.int .i64 0, .int .i64 0, .int .i64 0, .int .i64 0, .int .i64 0, .int .i64 0, .int .i64 0, .int .i64 0, .int .i64 0, .int .i64 0, .int .i64 0, .int .i64 0, .int .i64 0, .int .i64 0, .int .i64 0, .int .i64 0] 27)).alloc (Obj.cells #[.int .i64 0, .int .i64 0] 31)) w4.heap.size (tcells u)).setCell ⟨w4.heap.size + 1, 0, none⟩ (.int .i64 1)).setCell ⟨w4.heap.size + 1, 1, none⟩ (.int .i64 7)) (w4.heap.size + 1) [.int .i64 1, .int .i64 7] 31) := Lib.hid (Blk.pair hP.2.1)
  clear A_c0 A_c1 A_z
  have hlt_V_T := T.out.lt
  have hlt_V_A := A.out.lt
  replace HB := Lib.hid (bcall HB.out hBB)
  replace T := Lib.hid (T.out.below hBB)
  replace A := Lib.hid (A.out.below hBB)
  clear hBB hP aa0 aa1 af0 af1
  generalize ((setBlk ((w4.alloc (Obj.cells #[.int .i64 0, .int .i64 0, .int .i64 0, .int .i64 0, .int .i64 0, .int .i64 0, .int .i64 0, .int .i64 0, .int .i64 0, .int .i64 0, .int .i64 0, .int .i64 0, .int .i64 0, .int .i64 0, .int .i64 0, .int .i64 0] 27)).alloc (Obj.cells #[.int .i64 0, .int .i64 0] 31)) w4.heap.size (tcells u)).setCell ⟨w4.heap.size + 1, 0, none⟩ (.int .i64 1)).setCell ⟨w4.heap.size + 1, 1, none⟩ (.int .i64 7) = w5 at *
  generalize w4.heap.size = bV at *
  have A_c0 : w5.cell? ⟨bA, 0, none⟩ = some (.int .i64 1) := A.out.cell 0
  have A_c1 : w5.cell? ⟨bA, 1, none⟩ = some (.int .i64 0) := A.out.cell 1
  have A_z : bA < w5.heap.size := A.out.lt
  have B_c0 : w5.cell? ⟨(bV + 1), 0, none⟩ = some (.int .i64 1) := B.out.cell 0
  have B_c1 : w5.cell? ⟨(bV + 1), 1, none⟩ = some (.int .i64 7) := B.out.cell 1
  have B_z : (bV + 1) < w5.heap.size := B.out.lt
  clear V
  go_wp2_with (refine wpList_load_part_g (by kernel_rfl) 27 _ rfl (w.heap.size) 0 16 rfl 27 (tcells u) _ T.out (by rw [HLu.out]; decide) Try.underlying27 rfl (by kernel_rfl) ?_; rw [HCu.out])
  refine (HLEN.out _).mono ?_
  rintro e w6 ⟨rfl, hb6⟩
  clear A_c0 A_c1 A_z
  clear B_c0 B_c1 B_z
  replace HB := Lib.hid (bcall HB.out hb6)
  replace T := Lib.hid (T.out.below hb6)
  replace A := Lib.hid (A.out.below hb6)
  replace B := Lib.hid (B.out.below hb6)
  clear hb6
  have A_c0 : w6.cell? ⟨bA, 0, none⟩ = some (.int .i64 1) := A.out.cell 0
  have A_c1 : w6.cell? ⟨bA, 1, none⟩ = some (.int .i64 0) := A.out.cell 1
  have A_z : bA < w6.heap.size := A.out.lt
  have B_c0 : w6.cell? ⟨(bV + 1), 0, none⟩ = some (.int .i64 1) := B.out.cell 0
  have B_c1 : w6.cell? ⟨(bV + 1), 1, none⟩ = some (.int .i64 7) := B.out.cell 1
  have B_z : (bV + 1) < w6.heap.size := B.out.lt
  have s0 := (show TabAt w6 w.heap.size u from ⟨by have := HLu.out; rwa [tcells_len] at this, T.out⟩).c0 7 (by decide)
  have s1 := (show TabAt w6 w.heap.size u from ⟨by have := HLu.out; rwa [tcells_len] at this, T.out⟩).c1 7 (by decide)
  rw [HK.out] at s0
  rw [HV.out] at s1
  go_wp2_with fail
  go_ret
  exact ⟨rfl, HB.out⟩
end Go.Proofs.Ytakemnpicokaiaa
