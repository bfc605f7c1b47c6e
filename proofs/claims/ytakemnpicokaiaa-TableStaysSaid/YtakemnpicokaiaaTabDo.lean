/- The contract of table.Do: an operation with a table. -/
import Derived.Test.YtakemnpicokaiaaTabClose
import Derived.Deep.RegionHeld3
import Derived.Deep.Cut
namespace Go.Proofs.Ytakemnpicokaiaa
open Go.RowKit
set_option linter.unusedVariables false
theorem tcells_take (t : List Int) (h : t.length = 16) : (((tcells t).drop 0).take 16).toArray = (tcells t).toArray := by
  rw [List.drop_zero, List.take_of_length_le (by rw [tcells_len, h]; decide)]
theorem spl_whole (C vs : List Value) (h : C.length = vs.length) : spl C 0 vs = vs := by
  unfold spl; rw [List.take_zero, List.nil_append, List.drop_of_length_le (by omega), List.append_nil]
theorem spl_z16 (vs : List Value) (h : vs.length = 16) : spl [.int .i64 0, .int .i64 0, .int .i64 0, .int .i64 0, .int .i64 0, .int .i64 0, .int .i64 0, .int .i64 0, .int .i64 0, .int .i64 0, .int .i64 0, .int .i64 0, .int .i64 0, .int .i64 0, .int .i64 0, .int .i64 0] 0 vs = vs := spl_whole _ _ h.symm
set_option maxHeartbeats 2000000 in
theorem do_wrong (w : World) (t : List Int) (g : Good t) (what key value : Int) (h1 : what ≠ 1) (h2 : what ≠ 2) (h5 : what ≠ 5) (h6 : what ≠ 6) :
    Calls Try.prog 23 #[.agg (tcells t).toArray, .agg #[.int .i64 what, .int .i64 key, .int .i64 value]] w fun e w' => e = .returned (.tuple #[.agg (tcells (doT t what key value).1).toArray, .agg #[.int .i64 (doT t what key value).2.1, .int .i64 (doT t what key value).2.2]]) ∧ Below w.heap.size w w' := by
  have hd : doT t what key value = (t, 5, 0) := by unfold doT; rw [if_neg h6, if_pos (.inl ⟨h1, h2, h5⟩)]
  have HD := Lib.hid hd
  clear hd
  have b6 : (what == 6) = false := by simp [h6]
  have b1 : (what != 1) = true := by simp [h1]
  have b2 : (what != 2) = true := by simp [h2]
  have b5 : (what != 5) = true := by simp [h5]
  clear h1 h2 h5 h6
  have HL := Lib.hid g.len
  have HB := Lib.hid (Below.refl w.heap.size w)
  have HONE := Lib.hid (tcells_one t)
  have HLT : Hid ((tcells t).length = 16) := Lib.hid (by rw [tcells_len]; exact g.len)
  have HCT := Lib.hid (tcells_take t g.len)
  have HG := Lib.hid g
  clear g
  go_enter Try.func23, Try.ntmps23
  go_upto_region 1 with fail
  have hb1 := balloc (Below.refl _ w) (Obj.cells (tcells t).toArray 27)
  have T := Lib.hid (Blk.new w (tcells t) 27)
  change Hid (Blk (w.alloc (Obj.cells (tcells t).toArray 27)) _ _ _) at T
  have ZT : Hid ((w.alloc (Obj.cells (tcells t).toArray 27)).heap.size = w.heap.size + 1) := World.size_alloc _ _
  replace HB := Lib.hid (bcall HB.out hb1)
  clear hb1
  generalize w.alloc (Obj.cells (tcells t).toArray 27) = w1 at *
  have hb2 := balloc (Below.refl _ w1) (Obj.cells #[.int .i64 what, .int .i64 key, .int .i64 value] 36)
  have O := Lib.hid (Blk.new w1 [.int .i64 what, .int .i64 key, .int .i64 value] 36)
  change Hid (Blk (w1.alloc (Obj.cells #[.int .i64 what, .int .i64 key, .int .i64 value] 36)) _ _ _) at O
  have ZO : Hid ((w1.alloc (Obj.cells #[.int .i64 what, .int .i64 key, .int .i64 value] 36)).heap.size = w1.heap.size + 1) := World.size_alloc _ _
  replace HB := Lib.hid (bcall HB.out hb2)
  replace T := Lib.hid (T.out.below hb2)
  clear hb2
  rw [ZT.out] at O ZO
  clear ZT
  generalize w1.alloc (Obj.cells #[.int .i64 what, .int .i64 key, .int .i64 value] 36) = w2 at *
  have O_c0 : w2.cell? ⟨(w.heap.size + 1), 0, none⟩ = some (.int .i64 what) := O.out.cell 0
  have O_c1 : w2.cell? ⟨(w.heap.size + 1), 1, none⟩ = some (.int .i64 key) := O.out.cell 1
  have O_c2 : w2.cell? ⟨(w.heap.size + 1), 2, none⟩ = some (.int .i64 value) := O.out.cell 2
  have O_z : (w.heap.size + 1) < w2.heap.size := O.out.lt
  have hb3 := balloc (Below.refl _ w2) (Obj.cells #[.int .i64 0, .int .i64 0, .int .i64 0, .int .i64 0, .int .i64 0, .int .i64 0, .int .i64 0, .int .i64 0, .int .i64 0, .int .i64 0, .int .i64 0, .int .i64 0, .int .i64 0, .int .i64 0, .int .i64 0, .int .i64 0] 27)
  have R := Lib.hid (Blk.new w2 [.int .i64 0, .int .i64 0, .int .i64 0, .int .i64 0, .int .i64 0, .int .i64 0, .int .i64 0, .int .i64 0, .int .i64 0, .int .i64 0, .int .i64 0, .int .i64 0, .int .i64 0, .int .i64 0, .int .i64 0, .int .i64 0] 27)
  change Hid (Blk (w2.alloc (Obj.cells #[.int .i64 0, .int .i64 0, .int .i64 0, .int .i64 0, .int .i64 0, .int .i64 0, .int .i64 0, .int .i64 0, .int .i64 0, .int .i64 0, .int .i64 0, .int .i64 0, .int .i64 0, .int .i64 0, .int .i64 0, .int .i64 0] 27)) _ _ _) at R
  have ZR : Hid ((w2.alloc (Obj.cells #[.int .i64 0, .int .i64 0, .int .i64 0, .int .i64 0, .int .i64 0, .int .i64 0, .int .i64 0, .int .i64 0, .int .i64 0, .int .i64 0, .int .i64 0, .int .i64 0, .int .i64 0, .int .i64 0, .int .i64 0, .int .i64 0] 27)).heap.size = w2.heap.size + 1) := World.size_alloc _ _
  clear O_c0 O_c1 O_c2 O_z
  replace HB := Lib.hid (bcall HB.out hb3)
  replace T := Lib.hid (T.out.below hb3)
  replace O := Lib.hid (O.out.below hb3)
  clear hb3
  rw [ZO.out] at R ZR
  clear ZO
  generalize w2.alloc (Obj.cells #[.int .i64 0, .int .i64 0, .int .i64 0, .int .i64 0, .int .i64 0, .int .i64 0, .int .i64 0, .int .i64 0, .int .i64 0, .int .i64 0, .int .i64 0, .int .i64 0, .int .i64 0, .int .i64 0, .int .i64 0, .int .i64 0] 27) = w3 at *
  have O_c0 : w3.cell? ⟨(w.heap.size + 1), 0, none⟩ = some (.int .i64 what) := O.out.cell 0
  have O_c1 : w3.cell? ⟨(w.heap.size + 1), 1, none⟩ = some (.int .i64 key) := O.out.cell 1
  have O_c2 : w3.cell? ⟨(w.heap.size + 1), 2, none⟩ = some (.int .i64 value) := O.out.cell 2
  have O_z : (w.heap.size + 1) < w3.heap.size := O.out.lt
  have hb4 := balloc (Below.refl _ w3) (Obj.cells #[.int .i64 0, .int .i64 0] 31)
  have A := Lib.hid (Blk.new w3 [.int .i64 0, .int .i64 0] 31)
  change Hid (Blk (w3.alloc (Obj.cells #[.int .i64 0, .int .i64 0] 31)) _ _ _) at A
  have ZA : Hid ((w3.alloc (Obj.cells #[.int .i64 0, .int .i64 0] 31)).heap.size = w3.heap.size + 1) := World.size_alloc _ _
  clear O_c0 O_c1 O_c2 O_z
  replace HB := Lib.hid (bcall HB.out hb4)
  replace T := Lib.hid (T.out.below hb4)
  replace O := Lib.hid (O.out.below hb4)
  replace R := Lib.hid (R.out.below hb4)
  clear hb4
  rw [ZR.out] at A ZA
  clear ZR
  generalize w3.alloc (Obj.cells #[.int .i64 0, .int .i64 0] 31) = w4 at *
  have O_c0 : w4.cell? ⟨(w.heap.size + 1), 0, none⟩ = some (.int .i64 what) := O.out.cell 0
  have O_c1 : w4.cell? ⟨(w.heap.size + 1), 1, none⟩ = some (.int .i64 key) := O.out.cell 1
  have O_c2 : w4.cell? ⟨(w.heap.size + 1), 2, none⟩ = some (.int .i64 value) := O.out.cell 2
  have O_z : (w.heap.size + 1) < w4.heap.size := O.out.lt
  go_wp2_with (first | (refine wpList_load_part rfl 27 _ rfl w.heap.size 0 16 rfl 27 (tcells t) _ T.out (by rw [HLT.out]; decide) Try.underlying27 rfl (by kernel_rfl) ?_; rw [HCT.out]) | (refine wpList_store_part rfl 27 _ _ rfl (w.heap.size + 1 + 1) 0 16 (tcells t) rfl rfl 27 _ R.out HLT.out (by decide) (by kernel_rfl) HONE.out ?_; rw [spl_z16 _ HLT.out]; have aa0 := (A.out.otherBlk (tcells t) (show w.heap.size + 1 + 1 + 1 ≠ w.heap.size + 1 + 1 by omega)).cell 0; have aa1 := (A.out.otherBlk (tcells t) (show w.heap.size + 1 + 1 + 1 ≠ w.heap.size + 1 + 1 by omega)).cell 1; have af0 := (A.out.otherBlk (tcells t) (show w.heap.size + 1 + 1 + 1 ≠ w.heap.size + 1 + 1 by omega)).frozen 0; have af1 := (A.out.otherBlk (tcells t) (show w.heap.size + 1 + 1 + 1 ≠ w.heap.size + 1 + 1 by omega)).frozen 1))
  have hR2 : Blk (((setBlk w4 (w.heap.size + 1 + 1) (tcells t)).setCell ⟨w.heap.size + 1 + 1 + 1, 0, none⟩ (.int .i64 5)).setCell ⟨w.heap.size + 1 + 1 + 1, 1, none⟩ (.int .i64 0)) (w.heap.size + 1 + 1) (tcells t) 27 :=
    ((R.out.setBlk _).other _ (by show w.heap.size + 1 + 1 ≠ w.heap.size + 1 + 1 + 1; omega)).other _ (by show w.heap.size + 1 + 1 ≠ w.heap.size + 1 + 1 + 1; omega)
  have hA2 : Blk (((setBlk w4 (w.heap.size + 1 + 1) (tcells t)).setCell ⟨w.heap.size + 1 + 1 + 1, 0, none⟩ (.int .i64 5)).setCell ⟨w.heap.size + 1 + 1 + 1, 1, none⟩ (.int .i64 0)) (w.heap.size + 1 + 1 + 1) [.int .i64 5, .int .i64 0] 31 :=
    Blk.pair (A.out.otherBlk _ (by omega))
  have hB2 : Below w.heap.size w (((setBlk w4 (w.heap.size + 1 + 1) (tcells t)).setCell ⟨w.heap.size + 1 + 1 + 1, 0, none⟩ (.int .i64 5)).setCell ⟨w.heap.size + 1 + 1 + 1, 1, none⟩ (.int .i64 0)) :=
    bstore (bstore (bsetBlk HB.out (by omega) _) (by show w.heap.size ≤ w.heap.size + 1 + 1 + 1; omega) _) (by show w.heap.size ≤ w.heap.size + 1 + 1 + 1; omega) _
  refine bodyPost_ret (v := .tuple #[.agg (tcells t).toArray, .agg #[.int .i64 5, .int .i64 0]]) (results2_cells _ _ _ _ rfl (w.heap.size + 1 + 1) (w.heap.size + 1 + 1 + 1) (tcells t) [.int .i64 5, .int .i64 0] 27 31 _ _ rfl rfl hR2 hA2 Try.underlying27 rfl (by rw [HLT.out]; kernel_rfl) Try.underlying31 rfl (by kernel_rfl)) rfl ⟨?_, hB2⟩
  rw [HD.out]
set_option maxHeartbeats 2000000 in
theorem do_key1lo (w : World) (t : List Int) (g : Good t) (what key value : Int) (hw : what = 1) (hk : key < 1) :
    Calls Try.prog 23 #[.agg (tcells t).toArray, .agg #[.int .i64 what, .int .i64 key, .int .i64 value]] w fun e w' => e = .returned (.tuple #[.agg (tcells (doT t what key value).1).toArray, .agg #[.int .i64 (doT t what key value).2.1, .int .i64 (doT t what key value).2.2]]) ∧ Below w.heap.size w w' := by
  subst hw
  have hd : doT t 1 key value = (t, 5, 0) := by unfold doT; rw [if_neg (by decide), if_pos (.inr (.inl hk))]
  have HD := Lib.hid hd
  clear hd
  have k1 : decide (key < 1) = true := by simp [hk]
  clear hk
  have HL := Lib.hid g.len
  have HB := Lib.hid (Below.refl w.heap.size w)
  have HONE := Lib.hid (tcells_one t)
  have HLT : Hid ((tcells t).length = 16) := Lib.hid (by rw [tcells_len]; exact g.len)
  have HCT := Lib.hid (tcells_take t g.len)
  have HG := Lib.hid g
  clear g
  go_enter Try.func23, Try.ntmps23
  go_upto_region 1 with fail
  have hb1 := balloc (Below.refl _ w) (Obj.cells (tcells t).toArray 27)
  have T := Lib.hid (Blk.new w (tcells t) 27)
  change Hid (Blk (w.alloc (Obj.cells (tcells t).toArray 27)) _ _ _) at T
  have ZT : Hid ((w.alloc (Obj.cells (tcells t).toArray 27)).heap.size = w.heap.size + 1) := World.size_alloc _ _
  replace HB := Lib.hid (bcall HB.out hb1)
  clear hb1
  generalize w.alloc (Obj.cells (tcells t).toArray 27) = w1 at *
  have hb2 := balloc (Below.refl _ w1) (Obj.cells #[.int .i64 1, .int .i64 key, .int .i64 value] 36)
  have O := Lib.hid (Blk.new w1 [.int .i64 1, .int .i64 key, .int .i64 value] 36)
  change Hid (Blk (w1.alloc (Obj.cells #[.int .i64 1, .int .i64 key, .int .i64 value] 36)) _ _ _) at O
  have ZO : Hid ((w1.alloc (Obj.cells #[.int .i64 1, .int .i64 key, .int .i64 value] 36)).heap.size = w1.heap.size + 1) := World.size_alloc _ _
  replace HB := Lib.hid (bcall HB.out hb2)
  replace T := Lib.hid (T.out.below hb2)
  clear hb2
  rw [ZT.out] at O ZO
  clear ZT
  generalize w1.alloc (Obj.cells #[.int .i64 1, .int .i64 key, .int .i64 value] 36) = w2 at *
  have O_c0 : w2.cell? ⟨(w.heap.size + 1), 0, none⟩ = some (.int .i64 1) := O.out.cell 0
  have O_c1 : w2.cell? ⟨(w.heap.size + 1), 1, none⟩ = some (.int .i64 key) := O.out.cell 1
  have O_c2 : w2.cell? ⟨(w.heap.size + 1), 2, none⟩ = some (.int .i64 value) := O.out.cell 2
  have O_z : (w.heap.size + 1) < w2.heap.size := O.out.lt
  have hb3 := balloc (Below.refl _ w2) (Obj.cells #[.int .i64 0, .int .i64 0, .int .i64 0, .int .i64 0, .int .i64 0, .int .i64 0, .int .i64 0, .int .i64 0, .int .i64 0, .int .i64 0, .int .i64 0, .int .i64 0, .int .i64 0, .int .i64 0, .int .i64 0, .int .i64 0] 27)
  have R := Lib.hid (Blk.new w2 [.int .i64 0, .int .i64 0, .int .i64 0, .int .i64 0, .int .i64 0, .int .i64 0, .int .i64 0, .int .i64 0, .int .i64 0, .int .i64 0, .int .i64 0, .int .i64 0, .int .i64 0, .int .i64 0, .int .i64 0, .int .i64 0] 27)
  change Hid (Blk (w2.alloc (Obj.cells #[.int .i64 0, .int .i64 0, .int .i64 0, .int .i64 0, .int .i64 0, .int .i64 0, .int .i64 0, .int .i64 0, .int .i64 0, .int .i64 0, .int .i64 0, .int .i64 0, .int .i64 0, .int .i64 0, .int .i64 0, .int .i64 0] 27)) _ _ _) at R
  have ZR : Hid ((w2.alloc (Obj.cells #[.int .i64 0, .int .i64 0, .int .i64 0, .int .i64 0, .int .i64 0, .int .i64 0, .int .i64 0, .int .i64 0, .int .i64 0, .int .i64 0, .int .i64 0, .int .i64 0, .int .i64 0, .int .i64 0, .int .i64 0, .int .i64 0] 27)).heap.size = w2.heap.size + 1) := World.size_alloc _ _
  clear O_c0 O_c1 O_c2 O_z
  replace HB := Lib.hid (bcall HB.out hb3)
  replace T := Lib.hid (T.out.below hb3)
  replace O := Lib.hid (O.out.below hb3)
  clear hb3
  rw [ZO.out] at R ZR
  clear ZO
  generalize w2.alloc (Obj.cells #[.int .i64 0, .int .i64 0, .int .i64 0, .int .i64 0, .int .i64 0, .int .i64 0, .int .i64 0, .int .i64 0, .int .i64 0, .int .i64 0, .int .i64 0, .int .i64 0, .int .i64 0, .int .i64 0, .int .i64 0, .int .i64 0] 27) = w3 at *
  have O_c0 : w3.cell? ⟨(w.heap.size + 1), 0, none⟩ = some (.int .i64 1) := O.out.cell 0
  have O_c1 : w3.cell? ⟨(w.heap.size + 1), 1, none⟩ = some (.int .i64 key) := O.out.cell 1
  have O_c2 : w3.cell? ⟨(w.heap.size + 1), 2, none⟩ = some (.int .i64 value) := O.out.cell 2
  have O_z : (w.heap.size + 1) < w3.heap.size := O.out.lt
  have hb4 := balloc (Below.refl _ w3) (Obj.cells #[.int .i64 0, .int .i64 0] 31)
  have A := Lib.hid (Blk.new w3 [.int .i64 0, .int .i64 0] 31)
  change Hid (Blk (w3.alloc (Obj.cells #[.int .i64 0, .int .i64 0] 31)) _ _ _) at A
  have ZA : Hid ((w3.alloc (Obj.cells #[.int .i64 0, .int .i64 0] 31)).heap.size = w3.heap.size + 1) := World.size_alloc _ _
  clear O_c0 O_c1 O_c2 O_z
  replace HB := Lib.hid (bcall HB.out hb4)
  replace T := Lib.hid (T.out.below hb4)
  replace O := Lib.hid (O.out.below hb4)
  replace R := Lib.hid (R.out.below hb4)
  clear hb4
  rw [ZR.out] at A ZA
  clear ZR
  generalize w3.alloc (Obj.cells #[.int .i64 0, .int .i64 0] 31) = w4 at *
  have O_c0 : w4.cell? ⟨(w.heap.size + 1), 0, none⟩ = some (.int .i64 1) := O.out.cell 0
  have O_c1 : w4.cell? ⟨(w.heap.size + 1), 1, none⟩ = some (.int .i64 key) := O.out.cell 1
  have O_c2 : w4.cell? ⟨(w.heap.size + 1), 2, none⟩ = some (.int .i64 value) := O.out.cell 2
  have O_z : (w.heap.size + 1) < w4.heap.size := O.out.lt
  go_wp2_with (first | (refine wpList_load_part rfl 27 _ rfl w.heap.size 0 16 rfl 27 (tcells t) _ T.out (by rw [HLT.out]; decide) Try.underlying27 rfl (by kernel_rfl) ?_; rw [HCT.out]) | (refine wpList_store_part rfl 27 _ _ rfl (w.heap.size + 1 + 1) 0 16 (tcells t) rfl rfl 27 _ R.out HLT.out (by decide) (by kernel_rfl) HONE.out ?_; rw [spl_z16 _ HLT.out]; have aa0 := (A.out.otherBlk (tcells t) (show w.heap.size + 1 + 1 + 1 ≠ w.heap.size + 1 + 1 by omega)).cell 0; have aa1 := (A.out.otherBlk (tcells t) (show w.heap.size + 1 + 1 + 1 ≠ w.heap.size + 1 + 1 by omega)).cell 1; have af0 := (A.out.otherBlk (tcells t) (show w.heap.size + 1 + 1 + 1 ≠ w.heap.size + 1 + 1 by omega)).frozen 0; have af1 := (A.out.otherBlk (tcells t) (show w.heap.size + 1 + 1 + 1 ≠ w.heap.size + 1 + 1 by omega)).frozen 1))
  have hR2 : Blk (((setBlk w4 (w.heap.size + 1 + 1) (tcells t)).setCell ⟨w.heap.size + 1 + 1 + 1, 0, none⟩ (.int .i64 5)).setCell ⟨w.heap.size + 1 + 1 + 1, 1, none⟩ (.int .i64 0)) (w.heap.size + 1 + 1) (tcells t) 27 :=
    ((R.out.setBlk _).other _ (by show w.heap.size + 1 + 1 ≠ w.heap.size + 1 + 1 + 1; omega)).other _ (by show w.heap.size + 1 + 1 ≠ w.heap.size + 1 + 1 + 1; omega)
  have hA2 : Blk (((setBlk w4 (w.heap.size + 1 + 1) (tcells t)).setCell ⟨w.heap.size + 1 + 1 + 1, 0, none⟩ (.int .i64 5)).setCell ⟨w.heap.size + 1 + 1 + 1, 1, none⟩ (.int .i64 0)) (w.heap.size + 1 + 1 + 1) [.int .i64 5, .int .i64 0] 31 :=
    Blk.pair (A.out.otherBlk _ (by omega))
  have hB2 : Below w.heap.size w (((setBlk w4 (w.heap.size + 1 + 1) (tcells t)).setCell ⟨w.heap.size + 1 + 1 + 1, 0, none⟩ (.int .i64 5)).setCell ⟨w.heap.size + 1 + 1 + 1, 1, none⟩ (.int .i64 0)) :=
    bstore (bstore (bsetBlk HB.out (by omega) _) (by show w.heap.size ≤ w.heap.size + 1 + 1 + 1; omega) _) (by show w.heap.size ≤ w.heap.size + 1 + 1 + 1; omega) _
  refine bodyPost_ret (v := .tuple #[.agg (tcells t).toArray, .agg #[.int .i64 5, .int .i64 0]]) (results2_cells _ _ _ _ rfl (w.heap.size + 1 + 1) (w.heap.size + 1 + 1 + 1) (tcells t) [.int .i64 5, .int .i64 0] 27 31 _ _ rfl rfl hR2 hA2 Try.underlying27 rfl (by rw [HLT.out]; kernel_rfl) Try.underlying31 rfl (by kernel_rfl)) rfl ⟨?_, hB2⟩
  rw [HD.out]
set_option maxHeartbeats 2000000 in
theorem do_key1hi (w : World) (t : List Int) (g : Good t) (what key value : Int) (hw : what = 1) (hk : 1000 < key) :
    Calls Try.prog 23 #[.agg (tcells t).toArray, .agg #[.int .i64 what, .int .i64 key, .int .i64 value]] w fun e w' => e = .returned (.tuple #[.agg (tcells (doT t what key value).1).toArray, .agg #[.int .i64 (doT t what key value).2.1, .int .i64 (doT t what key value).2.2]]) ∧ Below w.heap.size w w' := by
  subst hw
  have hd : doT t 1 key value = (t, 5, 0) := by unfold doT; rw [if_neg (by decide), if_pos (.inr (.inr hk))]
  have HD := Lib.hid hd
  clear hd
  have k1 : decide (key < 1) = false := by simp; omega
  have k2 : decide (1000 < key) = true := by simp [hk]
  clear hk
  have HL := Lib.hid g.len
  have HB := Lib.hid (Below.refl w.heap.size w)
  have HONE := Lib.hid (tcells_one t)
  have HLT : Hid ((tcells t).length = 16) := Lib.hid (by rw [tcells_len]; exact g.len)
  have HCT := Lib.hid (tcells_take t g.len)
  have HG := Lib.hid g
  clear g
  go_enter Try.func23, Try.ntmps23
  go_upto_region 1 with fail
  have hb1 := balloc (Below.refl _ w) (Obj.cells (tcells t).toArray 27)
  have T := Lib.hid (Blk.new w (tcells t) 27)
  change Hid (Blk (w.alloc (Obj.cells (tcells t).toArray 27)) _ _ _) at T
  have ZT : Hid ((w.alloc (Obj.cells (tcells t).toArray 27)).heap.size = w.heap.size + 1) := World.size_alloc _ _
  replace HB := Lib.hid (bcall HB.out hb1)
  clear hb1
  generalize w.alloc (Obj.cells (tcells t).toArray 27) = w1 at *
  have hb2 := balloc (Below.refl _ w1) (Obj.cells #[.int .i64 1, .int .i64 key, .int .i64 value] 36)
  have O := Lib.hid (Blk.new w1 [.int .i64 1, .int .i64 key, .int .i64 value] 36)
  change Hid (Blk (w1.alloc (Obj.cells #[.int .i64 1, .int .i64 key, .int .i64 value] 36)) _ _ _) at O
  have ZO : Hid ((w1.alloc (Obj.cells #[.int .i64 1, .int .i64 key, .int .i64 value] 36)).heap.size = w1.heap.size + 1) := World.size_alloc _ _
  replace HB := Lib.hid (bcall HB.out hb2)
  replace T := Lib.hid (T.out.below hb2)
  clear hb2
  rw [ZT.out] at O ZO
  clear ZT
  generalize w1.alloc (Obj.cells #[.int .i64 1, .int .i64 key, .int .i64 value] 36) = w2 at *
  have O_c0 : w2.cell? ⟨(w.heap.size + 1), 0, none⟩ = some (.int .i64 1) := O.out.cell 0
  have O_c1 : w2.cell? ⟨(w.heap.size + 1), 1, none⟩ = some (.int .i64 key) := O.out.cell 1
  have O_c2 : w2.cell? ⟨(w.heap.size + 1), 2, none⟩ = some (.int .i64 value) := O.out.cell 2
  have O_z : (w.heap.size + 1) < w2.heap.size := O.out.lt
  have hb3 := balloc (Below.refl _ w2) (Obj.cells #[.int .i64 0, .int .i64 0, .int .i64 0, .int .i64 0, .int .i64 0, .int .i64 0, .int .i64 0, .int .i64 0, .int .i64 0, .int .i64 0, .int .i64 0, .int .i64 0, .int .i64 0, .int .i64 0, .int .i64 0, .int .i64 0] 27)
  have R := Lib.hid (Blk.new w2 [.int .i64 0, .int .i64 0, .int .i64 0, .int .i64 0, .int .i64 0, .int .i64 0, .int .i64 0, .int .i64 0, .int .i64 0, .int .i64 0, .int .i64 0, .int .i64 0, .int .i64 0, .int .i64 0, .int .i64 0, .int .i64 0] 27)
  change Hid (Blk (w2.alloc (Obj.cells #[.int .i64 0, .int .i64 0, .int .i64 0, .int .i64 0, .int .i64 0, .int .i64 0, .int .i64 0, .int .i64 0, .int .i64 0, .int .i64 0, .int .i64 0, .int .i64 0, .int .i64 0, .int .i64 0, .int .i64 0, .int .i64 0] 27)) _ _ _) at R
  have ZR : Hid ((w2.alloc (Obj.cells #[.int .i64 0, .int .i64 0, .int .i64 0, .int .i64 0, .int .i64 0, .int .i64 0, .int .i64 0, .int .i64 0, .int .i64 0, .int .i64 0, .int .i64 0, .int .i64 0, .int .i64 0, .int .i64 0, .int .i64 0, .int .i64 0] 27)).heap.size = w2.heap.size + 1) := World.size_alloc _ _
  clear O_c0 O_c1 O_c2 O_z
  replace HB := Lib.hid (bcall HB.out hb3)
  replace T := Lib.hid (T.out.below hb3)
  replace O := Lib.hid (O.out.below hb3)
  clear hb3
  rw [ZO.out] at R ZR
  clear ZO
  generalize w2.alloc (Obj.cells #[.int .i64 0, .int .i64 0, .int .i64 0, .int .i64 0, .int .i64 0, .int .i64 0, .int .i64 0, .int .i64 0, .int .i64 0, .int .i64 0, .int .i64 0, .int .i64 0, .int .i64 0, .int .i64 0, .int .i64 0, .int .i64 0] 27) = w3 at *
  have O_c0 : w3.cell? ⟨(w.heap.size + 1), 0, none⟩ = some (.int .i64 1) := O.out.cell 0
  have O_c1 : w3.cell? ⟨(w.heap.size + 1), 1, none⟩ = some (.int .i64 key) := O.out.cell 1
  have O_c2 : w3.cell? ⟨(w.heap.size + 1), 2, none⟩ = some (.int .i64 value) := O.out.cell 2
  have O_z : (w.heap.size + 1) < w3.heap.size := O.out.lt
  have hb4 := balloc (Below.refl _ w3) (Obj.cells #[.int .i64 0, .int .i64 0] 31)
  have A := Lib.hid (Blk.new w3 [.int .i64 0, .int .i64 0] 31)
  change Hid (Blk (w3.alloc (Obj.cells #[.int .i64 0, .int .i64 0] 31)) _ _ _) at A
  have ZA : Hid ((w3.alloc (Obj.cells #[.int .i64 0, .int .i64 0] 31)).heap.size = w3.heap.size + 1) := World.size_alloc _ _
  clear O_c0 O_c1 O_c2 O_z
  replace HB := Lib.hid (bcall HB.out hb4)
  replace T := Lib.hid (T.out.below hb4)
  replace O := Lib.hid (O.out.below hb4)
  replace R := Lib.hid (R.out.below hb4)
  clear hb4
  rw [ZR.out] at A ZA
  clear ZR
  generalize w3.alloc (Obj.cells #[.int .i64 0, .int .i64 0] 31) = w4 at *
  have O_c0 : w4.cell? ⟨(w.heap.size + 1), 0, none⟩ = some (.int .i64 1) := O.out.cell 0
  have O_c1 : w4.cell? ⟨(w.heap.size + 1), 1, none⟩ = some (.int .i64 key) := O.out.cell 1
  have O_c2 : w4.cell? ⟨(w.heap.size + 1), 2, none⟩ = some (.int .i64 value) := O.out.cell 2
  have O_z : (w.heap.size + 1) < w4.heap.size := O.out.lt
  go_wp2_with (first | (refine wpList_load_part rfl 27 _ rfl w.heap.size 0 16 rfl 27 (tcells t) _ T.out (by rw [HLT.out]; decide) Try.underlying27 rfl (by kernel_rfl) ?_; rw [HCT.out]) | (refine wpList_store_part rfl 27 _ _ rfl (w.heap.size + 1 + 1) 0 16 (tcells t) rfl rfl 27 _ R.out HLT.out (by decide) (by kernel_rfl) HONE.out ?_; rw [spl_z16 _ HLT.out]; have aa0 := (A.out.otherBlk (tcells t) (show w.heap.size + 1 + 1 + 1 ≠ w.heap.size + 1 + 1 by omega)).cell 0; have aa1 := (A.out.otherBlk (tcells t) (show w.heap.size + 1 + 1 + 1 ≠ w.heap.size + 1 + 1 by omega)).cell 1; have af0 := (A.out.otherBlk (tcells t) (show w.heap.size + 1 + 1 + 1 ≠ w.heap.size + 1 + 1 by omega)).frozen 0; have af1 := (A.out.otherBlk (tcells t) (show w.heap.size + 1 + 1 + 1 ≠ w.heap.size + 1 + 1 by omega)).frozen 1))
  have hR2 : Blk (((setBlk w4 (w.heap.size + 1 + 1) (tcells t)).setCell ⟨w.heap.size + 1 + 1 + 1, 0, none⟩ (.int .i64 5)).setCell ⟨w.heap.size + 1 + 1 + 1, 1, none⟩ (.int .i64 0)) (w.heap.size + 1 + 1) (tcells t) 27 :=
    ((R.out.setBlk _).other _ (by show w.heap.size + 1 + 1 ≠ w.heap.size + 1 + 1 + 1; omega)).other _ (by show w.heap.size + 1 + 1 ≠ w.heap.size + 1 + 1 + 1; omega)
  have hA2 : Blk (((setBlk w4 (w.heap.size + 1 + 1) (tcells t)).setCell ⟨w.heap.size + 1 + 1 + 1, 0, none⟩ (.int .i64 5)).setCell ⟨w.heap.size + 1 + 1 + 1, 1, none⟩ (.int .i64 0)) (w.heap.size + 1 + 1 + 1) [.int .i64 5, .int .i64 0] 31 :=
    Blk.pair (A.out.otherBlk _ (by omega))
  have hB2 : Below w.heap.size w (((setBlk w4 (w.heap.size + 1 + 1) (tcells t)).setCell ⟨w.heap.size + 1 + 1 + 1, 0, none⟩ (.int .i64 5)).setCell ⟨w.heap.size + 1 + 1 + 1, 1, none⟩ (.int .i64 0)) :=
    bstore (bstore (bsetBlk HB.out (by omega) _) (by show w.heap.size ≤ w.heap.size + 1 + 1 + 1; omega) _) (by show w.heap.size ≤ w.heap.size + 1 + 1 + 1; omega) _
  refine bodyPost_ret (v := .tuple #[.agg (tcells t).toArray, .agg #[.int .i64 5, .int .i64 0]]) (results2_cells _ _ _ _ rfl (w.heap.size + 1 + 1) (w.heap.size + 1 + 1 + 1) (tcells t) [.int .i64 5, .int .i64 0] 27 31 _ _ rfl rfl hR2 hA2 Try.underlying27 rfl (by rw [HLT.out]; kernel_rfl) Try.underlying31 rfl (by kernel_rfl)) rfl ⟨?_, hB2⟩
  rw [HD.out]
set_option maxHeartbeats 2000000 in
theorem do_key2lo (w : World) (t : List Int) (g : Good t) (what key value : Int) (hw : what = 2) (hk : key < 1) :
    Calls Try.prog 23 #[.agg (tcells t).toArray, .agg #[.int .i64 what, .int .i64 key, .int .i64 value]] w fun e w' => e = .returned (.tuple #[.agg (tcells (doT t what key value).1).toArray, .agg #[.int .i64 (doT t what key value).2.1, .int .i64 (doT t what key value).2.2]]) ∧ Below w.heap.size w w' := by
  subst hw
  have hd : doT t 2 key value = (t, 5, 0) := by unfold doT; rw [if_neg (by decide), if_pos (.inr (.inl hk))]
  have HD := Lib.hid hd
  clear hd
  have k1 : decide (key < 1) = true := by simp [hk]
  clear hk
  have HL := Lib.hid g.len
  have HB := Lib.hid (Below.refl w.heap.size w)
  have HONE := Lib.hid (tcells_one t)
  have HLT : Hid ((tcells t).length = 16) := Lib.hid (by rw [tcells_len]; exact g.len)
  have HCT := Lib.hid (tcells_take t g.len)
  have HG := Lib.hid g
  clear g
  go_enter Try.func23, Try.ntmps23
  go_upto_region 1 with fail
  have hb1 := balloc (Below.refl _ w) (Obj.cells (tcells t).toArray 27)
  have T := Lib.hid (Blk.new w (tcells t) 27)
  change Hid (Blk (w.alloc (Obj.cells (tcells t).toArray 27)) _ _ _) at T
  have ZT : Hid ((w.alloc (Obj.cells (tcells t).toArray 27)).heap.size = w.heap.size + 1) := World.size_alloc _ _
  replace HB := Lib.hid (bcall HB.out hb1)
  clear hb1
  generalize w.alloc (Obj.cells (tcells t).toArray 27) = w1 at *
  have hb2 := balloc (Below.refl _ w1) (Obj.cells #[.int .i64 2, .int .i64 key, .int .i64 value] 36)
  have O := Lib.hid (Blk.new w1 [.int .i64 2, .int .i64 key, .int .i64 value] 36)
  change Hid (Blk (w1.alloc (Obj.cells #[.int .i64 2, .int .i64 key, .int .i64 value] 36)) _ _ _) at O
  have ZO : Hid ((w1.alloc (Obj.cells #[.int .i64 2, .int .i64 key, .int .i64 value] 36)).heap.size = w1.heap.size + 1) := World.size_alloc _ _
  replace HB := Lib.hid (bcall HB.out hb2)
  replace T := Lib.hid (T.out.below hb2)
  clear hb2
  rw [ZT.out] at O ZO
  clear ZT
  generalize w1.alloc (Obj.cells #[.int .i64 2, .int .i64 key, .int .i64 value] 36) = w2 at *
  have O_c0 : w2.cell? ⟨(w.heap.size + 1), 0, none⟩ = some (.int .i64 2) := O.out.cell 0
  have O_c1 : w2.cell? ⟨(w.heap.size + 1), 1, none⟩ = some (.int .i64 key) := O.out.cell 1
  have O_c2 : w2.cell? ⟨(w.heap.size + 1), 2, none⟩ = some (.int .i64 value) := O.out.cell 2
  have O_z : (w.heap.size + 1) < w2.heap.size := O.out.lt
  have hb3 := balloc (Below.refl _ w2) (Obj.cells #[.int .i64 0, .int .i64 0, .int .i64 0, .int .i64 0, .int .i64 0, .int .i64 0, .int .i64 0, .int .i64 0, .int .i64 0, .int .i64 0, .int .i64 0, .int .i64 0, .int .i64 0, .int .i64 0, .int .i64 0, .int .i64 0] 27)
  have R := Lib.hid (Blk.new w2 [.int .i64 0, .int .i64 0, .int .i64 0, .int .i64 0, .int .i64 0, .int .i64 0, .int .i64 0, .int .i64 0, .int .i64 0, .int .i64 0, .int .i64 0, .int .i64 0, .int .i64 0, .int .i64 0, .int .i64 0, .int .i64 0] 27)
  change Hid (Blk (w2.alloc (Obj.cells #[.int .i64 0, .int .i64 0, .int .i64 0, .int .i64 0, .int .i64 0, .int .i64 0, .int .i64 0, .int .i64 0, .int .i64 0, .int .i64 0, .int .i64 0, .int .i64 0, .int .i64 0, .int .i64 0, .int .i64 0, .int .i64 0] 27)) _ _ _) at R
  have ZR : Hid ((w2.alloc (Obj.cells #[.int .i64 0, .int .i64 0, .int .i64 0, .int .i64 0, .int .i64 0, .int .i64 0, .int .i64 0, .int .i64 0, .int .i64 0, .int .i64 0, .int .i64 0, .int .i64 0, .int .i64 0, .int .i64 0, .int .i64 0, .int .i64 0] 27)).heap.size = w2.heap.size + 1) := World.size_alloc _ _
  clear O_c0 O_c1 O_c2 O_z
  replace HB := Lib.hid (bcall HB.out hb3)
  replace T := Lib.hid (T.out.below hb3)
  replace O := Lib.hid (O.out.below hb3)
  clear hb3
  rw [ZO.out] at R ZR
  clear ZO
  generalize w2.alloc (Obj.cells #[.int .i64 0, .int .i64 0, .int .i64 0, .int .i64 0, .int .i64 0, .int .i64 0, .int .i64 0, .int .i64 0, .int .i64 0, .int .i64 0, .int .i64 0, .int .i64 0, .int .i64 0, .int .i64 0, .int .i64 0, .int .i64 0] 27) = w3 at *
  have O_c0 : w3.cell? ⟨(w.heap.size + 1), 0, none⟩ = some (.int .i64 2) := O.out.cell 0
  have O_c1 : w3.cell? ⟨(w.heap.size + 1), 1, none⟩ = some (.int .i64 key) := O.out.cell 1
  have O_c2 : w3.cell? ⟨(w.heap.size + 1), 2, none⟩ = some (.int .i64 value) := O.out.cell 2
  have O_z : (w.heap.size + 1) < w3.heap.size := O.out.lt
  have hb4 := balloc (Below.refl _ w3) (Obj.cells #[.int .i64 0, .int .i64 0] 31)
  have A := Lib.hid (Blk.new w3 [.int .i64 0, .int .i64 0] 31)
  change Hid (Blk (w3.alloc (Obj.cells #[.int .i64 0, .int .i64 0] 31)) _ _ _) at A
  have ZA : Hid ((w3.alloc (Obj.cells #[.int .i64 0, .int .i64 0] 31)).heap.size = w3.heap.size + 1) := World.size_alloc _ _
  clear O_c0 O_c1 O_c2 O_z
  replace HB := Lib.hid (bcall HB.out hb4)
  replace T := Lib.hid (T.out.below hb4)
  replace O := Lib.hid (O.out.below hb4)
  replace R := Lib.hid (R.out.below hb4)
  clear hb4
  rw [ZR.out] at A ZA
  clear ZR
  generalize w3.alloc (Obj.cells #[.int .i64 0, .int .i64 0] 31) = w4 at *
  have O_c0 : w4.cell? ⟨(w.heap.size + 1), 0, none⟩ = some (.int .i64 2) := O.out.cell 0
  have O_c1 : w4.cell? ⟨(w.heap.size + 1), 1, none⟩ = some (.int .i64 key) := O.out.cell 1
  have O_c2 : w4.cell? ⟨(w.heap.size + 1), 2, none⟩ = some (.int .i64 value) := O.out.cell 2
  have O_z : (w.heap.size + 1) < w4.heap.size := O.out.lt
  go_wp2_with (first | (refine wpList_load_part rfl 27 _ rfl w.heap.size 0 16 rfl 27 (tcells t) _ T.out (by rw [HLT.out]; decide) Try.underlying27 rfl (by kernel_rfl) ?_; rw [HCT.out]) | (refine wpList_store_part rfl 27 _ _ rfl (w.heap.size + 1 + 1) 0 16 (tcells t) rfl rfl 27 _ R.out HLT.out (by decide) (by kernel_rfl) HONE.out ?_; rw [spl_z16 _ HLT.out]; have aa0 := (A.out.otherBlk (tcells t) (show w.heap.size + 1 + 1 + 1 ≠ w.heap.size + 1 + 1 by omega)).cell 0; have aa1 := (A.out.otherBlk (tcells t) (show w.heap.size + 1 + 1 + 1 ≠ w.heap.size + 1 + 1 by omega)).cell 1; have af0 := (A.out.otherBlk (tcells t) (show w.heap.size + 1 + 1 + 1 ≠ w.heap.size + 1 + 1 by omega)).frozen 0; have af1 := (A.out.otherBlk (tcells t) (show w.heap.size + 1 + 1 + 1 ≠ w.heap.size + 1 + 1 by omega)).frozen 1))
  have hR2 : Blk (((setBlk w4 (w.heap.size + 1 + 1) (tcells t)).setCell ⟨w.heap.size + 1 + 1 + 1, 0, none⟩ (.int .i64 5)).setCell ⟨w.heap.size + 1 + 1 + 1, 1, none⟩ (.int .i64 0)) (w.heap.size + 1 + 1) (tcells t) 27 :=
    ((R.out.setBlk _).other _ (by show w.heap.size + 1 + 1 ≠ w.heap.size + 1 + 1 + 1; omega)).other _ (by show w.heap.size + 1 + 1 ≠ w.heap.size + 1 + 1 + 1; omega)
  have hA2 : Blk (((setBlk w4 (w.heap.size + 1 + 1) (tcells t)).setCell ⟨w.heap.size + 1 + 1 + 1, 0, none⟩ (.int .i64 5)).setCell ⟨w.heap.size + 1 + 1 + 1, 1, none⟩ (.int .i64 0)) (w.heap.size + 1 + 1 + 1) [.int .i64 5, .int .i64 0] 31 :=
    Blk.pair (A.out.otherBlk _ (by omega))
  have hB2 : Below w.heap.size w (((setBlk w4 (w.heap.size + 1 + 1) (tcells t)).setCell ⟨w.heap.size + 1 + 1 + 1, 0, none⟩ (.int .i64 5)).setCell ⟨w.heap.size + 1 + 1 + 1, 1, none⟩ (.int .i64 0)) :=
    bstore (bstore (bsetBlk HB.out (by omega) _) (by show w.heap.size ≤ w.heap.size + 1 + 1 + 1; omega) _) (by show w.heap.size ≤ w.heap.size + 1 + 1 + 1; omega) _
  refine bodyPost_ret (v := .tuple #[.agg (tcells t).toArray, .agg #[.int .i64 5, .int .i64 0]]) (results2_cells _ _ _ _ rfl (w.heap.size + 1 + 1) (w.heap.size + 1 + 1 + 1) (tcells t) [.int .i64 5, .int .i64 0] 27 31 _ _ rfl rfl hR2 hA2 Try.underlying27 rfl (by rw [HLT.out]; kernel_rfl) Try.underlying31 rfl (by kernel_rfl)) rfl ⟨?_, hB2⟩
  rw [HD.out]
set_option maxHeartbeats 2000000 in
theorem do_key2hi (w : World) (t : List Int) (g : Good t) (what key value : Int) (hw : what = 2) (hk : 1000 < key) :
    Calls Try.prog 23 #[.agg (tcells t).toArray, .agg #[.int .i64 what, .int .i64 key, .int .i64 value]] w fun e w' => e = .returned (.tuple #[.agg (tcells (doT t what key value).1).toArray, .agg #[.int .i64 (doT t what key value).2.1, .int .i64 (doT t what key value).2.2]]) ∧ Below w.heap.size w w' := by
  subst hw
  have hd : doT t 2 key value = (t, 5, 0) := by unfold doT; rw [if_neg (by decide), if_pos (.inr (.inr hk))]
  have HD := Lib.hid hd
  clear hd
  have k1 : decide (key < 1) = false := by simp; omega
  have k2 : decide (1000 < key) = true := by simp [hk]
  clear hk
  have HL := Lib.hid g.len
  have HB := Lib.hid (Below.refl w.heap.size w)
  have HONE := Lib.hid (tcells_one t)
  have HLT : Hid ((tcells t).length = 16) := Lib.hid (by rw [tcells_len]; exact g.len)
  have HCT := Lib.hid (tcells_take t g.len)
  have HG := Lib.hid g
  clear g
  go_enter Try.func23, Try.ntmps23
  go_upto_region 1 with fail
  have hb1 := balloc (Below.refl _ w) (Obj.cells (tcells t).toArray 27)
  have T := Lib.hid (Blk.new w (tcells t) 27)
  change Hid (Blk (w.alloc (Obj.cells (tcells t).toArray 27)) _ _ _) at T
  have ZT : Hid ((w.alloc (Obj.cells (tcells t).toArray 27)).heap.size = w.heap.size + 1) := World.size_alloc _ _
  replace HB := Lib.hid (bcall HB.out hb1)
  clear hb1
  generalize w.alloc (Obj.cells (tcells t).toArray 27) = w1 at *
  have hb2 := balloc (Below.refl _ w1) (Obj.cells #[.int .i64 2, .int .i64 key, .int .i64 value] 36)
  have O := Lib.hid (Blk.new w1 [.int .i64 2, .int .i64 key, .int .i64 value] 36)
  change Hid (Blk (w1.alloc (Obj.cells #[.int .i64 2, .int .i64 key, .int .i64 value] 36)) _ _ _) at O
  have ZO : Hid ((w1.alloc (Obj.cells #[.int .i64 2, .int .i64 key, .int .i64 value] 36)).heap.size = w1.heap.size + 1) := World.size_alloc _ _
  replace HB := Lib.hid (bcall HB.out hb2)
  replace T := Lib.hid (T.out.below hb2)
  clear hb2
  rw [ZT.out] at O ZO
  clear ZT
  generalize w1.alloc (Obj.cells #[.int .i64 2, .int .i64 key, .int .i64 value] 36) = w2 at *
  have O_c0 : w2.cell? ⟨(w.heap.size + 1), 0, none⟩ = some (.int .i64 2) := O.out.cell 0
  have O_c1 : w2.cell? ⟨(w.heap.size + 1), 1, none⟩ = some (.int .i64 key) := O.out.cell 1
  have O_c2 : w2.cell? ⟨(w.heap.size + 1), 2, none⟩ = some (.int .i64 value) := O.out.cell 2
  have O_z : (w.heap.size + 1) < w2.heap.size := O.out.lt
  have hb3 := balloc (Below.refl _ w2) (Obj.cells #[.int .i64 0, .int .i64 0, .int .i64 0, .int .i64 0, .int .i64 0, .int .i64 0, .int .i64 0, .int .i64 0, .int .i64 0, .int .i64 0, .int .i64 0, .int .i64 0, .int .i64 0, .int .i64 0, .int .i64 0, .int .i64 0] 27)
  have R := Lib.hid (Blk.new w2 [.int .i64 0, .int .i64 0, .int .i64 0, .int .i64 0, .int .i64 0, .int .i64 0, .int .i64 0, .int .i64 0, .int .i64 0, .int .i64 0, .int .i64 0, .int .i64 0, .int .i64 0, .int .i64 0, .int .i64 0, .int .i64 0] 27)
  change Hid (Blk (w2.alloc (Obj.cells #[.int .i64 0, .int .i64 0, .int .i64 0, .int .i64 0, .int .i64 0, .int .i64 0, .int .i64 0, .int .i64 0, .int .i64 0, .int .i64 0, .int .i64 0, .int .i64 0, .int .i64 0, .int .i64 0, .int .i64 0, .int .i64 0] 27)) _ _ _) at R
  have ZR : Hid ((w2.alloc (Obj.cells #[.int .i64 0, .int .i64 0, .int .i64 0, .int .i64 0, .int .i64 0, .int .i64 0, .int .i64 0, .int .i64 0, .int .i64 0, .int .i64 0, .int .i64 0, .int .i64 0, .int .i64 0, .int .i64 0, .int .i64 0, .int .i64 0] 27)).heap.size = w2.heap.size + 1) := World.size_alloc _ _
  clear O_c0 O_c1 O_c2 O_z
  replace HB := Lib.hid (bcall HB.out hb3)
  replace T := Lib.hid (T.out.below hb3)
  replace O := Lib.hid (O.out.below hb3)
  clear hb3
  rw [ZO.out] at R ZR
  clear ZO
  generalize w2.alloc (Obj.cells #[.int .i64 0, .int .i64 0, .int .i64 0, .int .i64 0, .int .i64 0, .int .i64 0, .int .i64 0, .int .i64 0, .int .i64 0, .int .i64 0, .int .i64 0, .int .i64 0, .int .i64 0, .int .i64 0, .int .i64 0, .int .i64 0] 27) = w3 at *
  have O_c0 : w3.cell? ⟨(w.heap.size + 1), 0, none⟩ = some (.int .i64 2) := O.out.cell 0
  have O_c1 : w3.cell? ⟨(w.heap.size + 1), 1, none⟩ = some (.int .i64 key) := O.out.cell 1
  have O_c2 : w3.cell? ⟨(w.heap.size + 1), 2, none⟩ = some (.int .i64 value) := O.out.cell 2
  have O_z : (w.heap.size + 1) < w3.heap.size := O.out.lt
  have hb4 := balloc (Below.refl _ w3) (Obj.cells #[.int .i64 0, .int .i64 0] 31)
  have A := Lib.hid (Blk.new w3 [.int .i64 0, .int .i64 0] 31)
  change Hid (Blk (w3.alloc (Obj.cells #[.int .i64 0, .int .i64 0] 31)) _ _ _) at A
  have ZA : Hid ((w3.alloc (Obj.cells #[.int .i64 0, .int .i64 0] 31)).heap.size = w3.heap.size + 1) := World.size_alloc _ _
  clear O_c0 O_c1 O_c2 O_z
  replace HB := Lib.hid (bcall HB.out hb4)
  replace T := Lib.hid (T.out.below hb4)
  replace O := Lib.hid (O.out.below hb4)
  replace R := Lib.hid (R.out.below hb4)
  clear hb4
  rw [ZR.out] at A ZA
  clear ZR
  generalize w3.alloc (Obj.cells #[.int .i64 0, .int .i64 0] 31) = w4 at *
  have O_c0 : w4.cell? ⟨(w.heap.size + 1), 0, none⟩ = some (.int .i64 2) := O.out.cell 0
  have O_c1 : w4.cell? ⟨(w.heap.size + 1), 1, none⟩ = some (.int .i64 key) := O.out.cell 1
  have O_c2 : w4.cell? ⟨(w.heap.size + 1), 2, none⟩ = some (.int .i64 value) := O.out.cell 2
  have O_z : (w.heap.size + 1) < w4.heap.size := O.out.lt
  go_wp2_with (first | (refine wpList_load_part rfl 27 _ rfl w.heap.size 0 16 rfl 27 (tcells t) _ T.out (by rw [HLT.out]; decide) Try.underlying27 rfl (by kernel_rfl) ?_; rw [HCT.out]) | (refine wpList_store_part rfl 27 _ _ rfl (w.heap.size + 1 + 1) 0 16 (tcells t) rfl rfl 27 _ R.out HLT.out (by decide) (by kernel_rfl) HONE.out ?_; rw [spl_z16 _ HLT.out]; have aa0 := (A.out.otherBlk (tcells t) (show w.heap.size + 1 + 1 + 1 ≠ w.heap.size + 1 + 1 by omega)).cell 0; have aa1 := (A.out.otherBlk (tcells t) (show w.heap.size + 1 + 1 + 1 ≠ w.heap.size + 1 + 1 by omega)).cell 1; have af0 := (A.out.otherBlk (tcells t) (show w.heap.size + 1 + 1 + 1 ≠ w.heap.size + 1 + 1 by omega)).frozen 0; have af1 := (A.out.otherBlk (tcells t) (show w.heap.size + 1 + 1 + 1 ≠ w.heap.size + 1 + 1 by omega)).frozen 1))
  have hR2 : Blk (((setBlk w4 (w.heap.size + 1 + 1) (tcells t)).setCell ⟨w.heap.size + 1 + 1 + 1, 0, none⟩ (.int .i64 5)).setCell ⟨w.heap.size + 1 + 1 + 1, 1, none⟩ (.int .i64 0)) (w.heap.size + 1 + 1) (tcells t) 27 :=
    ((R.out.setBlk _).other _ (by show w.heap.size + 1 + 1 ≠ w.heap.size + 1 + 1 + 1; omega)).other _ (by show w.heap.size + 1 + 1 ≠ w.heap.size + 1 + 1 + 1; omega)
  have hA2 : Blk (((setBlk w4 (w.heap.size + 1 + 1) (tcells t)).setCell ⟨w.heap.size + 1 + 1 + 1, 0, none⟩ (.int .i64 5)).setCell ⟨w.heap.size + 1 + 1 + 1, 1, none⟩ (.int .i64 0)) (w.heap.size + 1 + 1 + 1) [.int .i64 5, .int .i64 0] 31 :=
    Blk.pair (A.out.otherBlk _ (by omega))
  have hB2 : Below w.heap.size w (((setBlk w4 (w.heap.size + 1 + 1) (tcells t)).setCell ⟨w.heap.size + 1 + 1 + 1, 0, none⟩ (.int .i64 5)).setCell ⟨w.heap.size + 1 + 1 + 1, 1, none⟩ (.int .i64 0)) :=
    bstore (bstore (bsetBlk HB.out (by omega) _) (by show w.heap.size ≤ w.heap.size + 1 + 1 + 1; omega) _) (by show w.heap.size ≤ w.heap.size + 1 + 1 + 1; omega) _
  refine bodyPost_ret (v := .tuple #[.agg (tcells t).toArray, .agg #[.int .i64 5, .int .i64 0]]) (results2_cells _ _ _ _ rfl (w.heap.size + 1 + 1) (w.heap.size + 1 + 1 + 1) (tcells t) [.int .i64 5, .int .i64 0] 27 31 _ _ rfl rfl hR2 hA2 Try.underlying27 rfl (by rw [HLT.out]; kernel_rfl) Try.underlying31 rfl (by kernel_rfl)) rfl ⟨?_, hB2⟩
  rw [HD.out]
set_option maxHeartbeats 2000000 in
theorem do_key5lo (w : World) (t : List Int) (g : Good t) (what key value : Int) (hw : what = 5) (hk : key < 1) :
    Calls Try.prog 23 #[.agg (tcells t).toArray, .agg #[.int .i64 what, .int .i64 key, .int .i64 value]] w fun e w' => e = .returned (.tuple #[.agg (tcells (doT t what key value).1).toArray, .agg #[.int .i64 (doT t what key value).2.1, .int .i64 (doT t what key value).2.2]]) ∧ Below w.heap.size w w' := by
  subst hw
  have hd : doT t 5 key value = (t, 5, 0) := by unfold doT; rw [if_neg (by decide), if_pos (.inr (.inl hk))]
  have HD := Lib.hid hd
  clear hd
  have k1 : decide (key < 1) = true := by simp [hk]
  clear hk
  have HL := Lib.hid g.len
  have HB := Lib.hid (Below.refl w.heap.size w)
  have HONE := Lib.hid (tcells_one t)
  have HLT : Hid ((tcells t).length = 16) := Lib.hid (by rw [tcells_len]; exact g.len)
  have HCT := Lib.hid (tcells_take t g.len)
  have HG := Lib.hid g
  clear g
  go_enter Try.func23, Try.ntmps23
  go_upto_region 1 with fail
  have hb1 := balloc (Below.refl _ w) (Obj.cells (tcells t).toArray 27)
  have T := Lib.hid (Blk.new w (tcells t) 27)
  change Hid (Blk (w.alloc (Obj.cells (tcells t).toArray 27)) _ _ _) at T
  have ZT : Hid ((w.alloc (Obj.cells (tcells t).toArray 27)).heap.size = w.heap.size + 1) := World.size_alloc _ _
  replace HB := Lib.hid (bcall HB.out hb1)
  clear hb1
  generalize w.alloc (Obj.cells (tcells t).toArray 27) = w1 at *
  have hb2 := balloc (Below.refl _ w1) (Obj.cells #[.int .i64 5, .int .i64 key, .int .i64 value] 36)
  have O := Lib.hid (Blk.new w1 [.int .i64 5, .int .i64 key, .int .i64 value] 36)
  change Hid (Blk (w1.alloc (Obj.cells #[.int .i64 5, .int .i64 key, .int .i64 value] 36)) _ _ _) at O
  have ZO : Hid ((w1.alloc (Obj.cells #[.int .i64 5, .int .i64 key, .int .i64 value] 36)).heap.size = w1.heap.size + 1) := World.size_alloc _ _
  replace HB := Lib.hid (bcall HB.out hb2)
  replace T := Lib.hid (T.out.below hb2)
  clear hb2
  rw [ZT.out] at O ZO
  clear ZT
  generalize w1.alloc (Obj.cells #[.int .i64 5, .int .i64 key, .int .i64 value] 36) = w2 at *
  have O_c0 : w2.cell? ⟨(w.heap.size + 1), 0, none⟩ = some (.int .i64 5) := O.out.cell 0
  have O_c1 : w2.cell? ⟨(w.heap.size + 1), 1, none⟩ = some (.int .i64 key) := O.out.cell 1
  have O_c2 : w2.cell? ⟨(w.heap.size + 1), 2, none⟩ = some (.int .i64 value) := O.out.cell 2
  have O_z : (w.heap.size + 1) < w2.heap.size := O.out.lt
  have hb3 := balloc (Below.refl _ w2) (Obj.cells #[.int .i64 0, .int .i64 0, .int .i64 0, .int .i64 0, .int .i64 0, .int .i64 0, .int .i64 0, .int .i64 0, .int .i64 0, .int .i64 0, .int .i64 0, .int .i64 0, .int .i64 0, .int .i64 0, .int .i64 0, .int .i64 0] 27)
  have R := Lib.hid (Blk.new w2 [.int .i64 0, .int .i64 0, .int .i64 0, .int .i64 0, .int .i64 0, .int .i64 0, .int .i64 0, .int .i64 0, .int .i64 0, .int .i64 0, .int .i64 0, .int .i64 0, .int .i64 0, .int .i64 0, .int .i64 0, .int .i64 0] 27)
  change Hid (Blk (w2.alloc (Obj.cells #[.int .i64 0, .int .i64 0, .int .i64 0, .int .i64 0, .int .i64 0, .int .i64 0, .int .i64 0, .int .i64 0, .int .i64 0, .int .i64 0, .int .i64 0, .int .i64 0, .int .i64 0, .int .i64 0, .int .i64 0, .int .i64 0] 27)) _ _ _) at R
  have ZR : Hid ((w2.alloc (Obj.cells #[.int .i64 0, .int .i64 0, .int .i64 0, .int .i64 0, .int .i64 0, .int .i64 0, .int .i64 0, .int .i64 0, .int .i64 0, .int .i64 0, .int .i64 0, .int .i64 0, .int .i64 0, .int .i64 0, .int .i64 0, .int .i64 0] 27)).heap.size = w2.heap.size + 1) := World.size_alloc _ _
  clear O_c0 O_c1 O_c2 O_z
  replace HB := Lib.hid (bcall HB.out hb3)
  replace T := Lib.hid (T.out.below hb3)
  replace O := Lib.hid (O.out.below hb3)
  clear hb3
  rw [ZO.out] at R ZR
  clear ZO
  generalize w2.alloc (Obj.cells #[.int .i64 0, .int .i64 0, .int .i64 0, .int .i64 0, .int .i64 0, .int .i64 0, .int .i64 0, .int .i64 0, .int .i64 0, .int .i64 0, .int .i64 0, .int .i64 0, .int .i64 0, .int .i64 0, .int .i64 0, .int .i64 0] 27) = w3 at *
  have O_c0 : w3.cell? ⟨(w.heap.size + 1), 0, none⟩ = some (.int .i64 5) := O.out.cell 0
  have O_c1 : w3.cell? ⟨(w.heap.size + 1), 1, none⟩ = some (.int .i64 key) := O.out.cell 1
  have O_c2 : w3.cell? ⟨(w.heap.size + 1), 2, none⟩ = some (.int .i64 value) := O.out.cell 2
  have O_z : (w.heap.size + 1) < w3.heap.size := O.out.lt
  have hb4 := balloc (Below.refl _ w3) (Obj.cells #[.int .i64 0, .int .i64 0] 31)
  have A := Lib.hid (Blk.new w3 [.int .i64 0, .int .i64 0] 31)
  change Hid (Blk (w3.alloc (Obj.cells #[.int .i64 0, .int .i64 0] 31)) _ _ _) at A
  have ZA : Hid ((w3.alloc (Obj.cells #[.int .i64 0, .int .i64 0] 31)).heap.size = w3.heap.size + 1) := World.size_alloc _ _
  clear O_c0 O_c1 O_c2 O_z
  replace HB := Lib.hid (bcall HB.out hb4)
  replace T := Lib.hid (T.out.below hb4)
  replace O := Lib.hid (O.out.below hb4)
  replace R := Lib.hid (R.out.below hb4)
  clear hb4
  rw [ZR.out] at A ZA
  clear ZR
  generalize w3.alloc (Obj.cells #[.int .i64 0, .int .i64 0] 31) = w4 at *
  have O_c0 : w4.cell? ⟨(w.heap.size + 1), 0, none⟩ = some (.int .i64 5) := O.out.cell 0
  have O_c1 : w4.cell? ⟨(w.heap.size + 1), 1, none⟩ = some (.int .i64 key) := O.out.cell 1
  have O_c2 : w4.cell? ⟨(w.heap.size + 1), 2, none⟩ = some (.int .i64 value) := O.out.cell 2
  have O_z : (w.heap.size + 1) < w4.heap.size := O.out.lt
  go_wp2_with (first | (refine wpList_load_part rfl 27 _ rfl w.heap.size 0 16 rfl 27 (tcells t) _ T.out (by rw [HLT.out]; decide) Try.underlying27 rfl (by kernel_rfl) ?_; rw [HCT.out]) | (refine wpList_store_part rfl 27 _ _ rfl (w.heap.size + 1 + 1) 0 16 (tcells t) rfl rfl 27 _ R.out HLT.out (by decide) (by kernel_rfl) HONE.out ?_; rw [spl_z16 _ HLT.out]; have aa0 := (A.out.otherBlk (tcells t) (show w.heap.size + 1 + 1 + 1 ≠ w.heap.size + 1 + 1 by omega)).cell 0; have aa1 := (A.out.otherBlk (tcells t) (show w.heap.size + 1 + 1 + 1 ≠ w.heap.size + 1 + 1 by omega)).cell 1; have af0 := (A.out.otherBlk (tcells t) (show w.heap.size + 1 + 1 + 1 ≠ w.heap.size + 1 + 1 by omega)).frozen 0; have af1 := (A.out.otherBlk (tcells t) (show w.heap.size + 1 + 1 + 1 ≠ w.heap.size + 1 + 1 by omega)).frozen 1))
  have hR2 : Blk (((setBlk w4 (w.heap.size + 1 + 1) (tcells t)).setCell ⟨w.heap.size + 1 + 1 + 1, 0, none⟩ (.int .i64 5)).setCell ⟨w.heap.size + 1 + 1 + 1, 1, none⟩ (.int .i64 0)) (w.heap.size + 1 + 1) (tcells t) 27 :=
    ((R.out.setBlk _).other _ (by show w.heap.size + 1 + 1 ≠ w.heap.size + 1 + 1 + 1; omega)).other _ (by show w.heap.size + 1 + 1 ≠ w.heap.size + 1 + 1 + 1; omega)
  have hA2 : Blk (((setBlk w4 (w.heap.size + 1 + 1) (tcells t)).setCell ⟨w.heap.size + 1 + 1 + 1, 0, none⟩ (.int .i64 5)).setCell ⟨w.heap.size + 1 + 1 + 1, 1, none⟩ (.int .i64 0)) (w.heap.size + 1 + 1 + 1) [.int .i64 5, .int .i64 0] 31 :=
    Blk.pair (A.out.otherBlk _ (by omega))
  have hB2 : Below w.heap.size w (((setBlk w4 (w.heap.size + 1 + 1) (tcells t)).setCell ⟨w.heap.size + 1 + 1 + 1, 0, none⟩ (.int .i64 5)).setCell ⟨w.heap.size + 1 + 1 + 1, 1, none⟩ (.int .i64 0)) :=
    bstore (bstore (bsetBlk HB.out (by omega) _) (by show w.heap.size ≤ w.heap.size + 1 + 1 + 1; omega) _) (by show w.heap.size ≤ w.heap.size + 1 + 1 + 1; omega) _
  refine bodyPost_ret (v := .tuple #[.agg (tcells t).toArray, .agg #[.int .i64 5, .int .i64 0]]) (results2_cells _ _ _ _ rfl (w.heap.size + 1 + 1) (w.heap.size + 1 + 1 + 1) (tcells t) [.int .i64 5, .int .i64 0] 27 31 _ _ rfl rfl hR2 hA2 Try.underlying27 rfl (by rw [HLT.out]; kernel_rfl) Try.underlying31 rfl (by kernel_rfl)) rfl ⟨?_, hB2⟩
  rw [HD.out]
set_option maxHeartbeats 2000000 in
theorem do_key5hi (w : World) (t : List Int) (g : Good t) (what key value : Int) (hw : what = 5) (hk : 1000 < key) :
    Calls Try.prog 23 #[.agg (tcells t).toArray, .agg #[.int .i64 what, .int .i64 key, .int .i64 value]] w fun e w' => e = .returned (.tuple #[.agg (tcells (doT t what key value).1).toArray, .agg #[.int .i64 (doT t what key value).2.1, .int .i64 (doT t what key value).2.2]]) ∧ Below w.heap.size w w' := by
  subst hw
  have hd : doT t 5 key value = (t, 5, 0) := by unfold doT; rw [if_neg (by decide), if_pos (.inr (.inr hk))]
  have HD := Lib.hid hd
  clear hd
  have k1 : decide (key < 1) = false := by simp; omega
  have k2 : decide (1000 < key) = true := by simp [hk]
  clear hk
  have HL := Lib.hid g.len
  have HB := Lib.hid (Below.refl w.heap.size w)
  have HONE := Lib.hid (tcells_one t)
  have HLT : Hid ((tcells t).length = 16) := Lib.hid (by rw [tcells_len]; exact g.len)
  have HCT := Lib.hid (tcells_take t g.len)
  have HG := Lib.hid g
  clear g
  go_enter Try.func23, Try.ntmps23
  go_upto_region 1 with fail
  have hb1 := balloc (Below.refl _ w) (Obj.cells (tcells t).toArray 27)
  have T := Lib.hid (Blk.new w (tcells t) 27)
  change Hid (Blk (w.alloc (Obj.cells (tcells t).toArray 27)) _ _ _) at T
  have ZT : Hid ((w.alloc (Obj.cells (tcells t).toArray 27)).heap.size = w.heap.size + 1) := World.size_alloc _ _
  replace HB := Lib.hid (bcall HB.out hb1)
  clear hb1
  generalize w.alloc (Obj.cells (tcells t).toArray 27) = w1 at *
  have hb2 := balloc (Below.refl _ w1) (Obj.cells #[.int .i64 5, .int .i64 key, .int .i64 value] 36)
  have O := Lib.hid (Blk.new w1 [.int .i64 5, .int .i64 key, .int .i64 value] 36)
  change Hid (Blk (w1.alloc (Obj.cells #[.int .i64 5, .int .i64 key, .int .i64 value] 36)) _ _ _) at O
  have ZO : Hid ((w1.alloc (Obj.cells #[.int .i64 5, .int .i64 key, .int .i64 value] 36)).heap.size = w1.heap.size + 1) := World.size_alloc _ _
  replace HB := Lib.hid (bcall HB.out hb2)
  replace T := Lib.hid (T.out.below hb2)
  clear hb2
  rw [ZT.out] at O ZO
  clear ZT
  generalize w1.alloc (Obj.cells #[.int .i64 5, .int .i64 key, .int .i64 value] 36) = w2 at *
  have O_c0 : w2.cell? ⟨(w.heap.size + 1), 0, none⟩ = some (.int .i64 5) := O.out.cell 0
  have O_c1 : w2.cell? ⟨(w.heap.size + 1), 1, none⟩ = some (.int .i64 key) := O.out.cell 1
  have O_c2 : w2.cell? ⟨(w.heap.size + 1), 2, none⟩ = some (.int .i64 value) := O.out.cell 2
  have O_z : (w.heap.size + 1) < w2.heap.size := O.out.lt
  have hb3 := balloc (Below.refl _ w2) (Obj.cells #[.int .i64 0, .int .i64 0, .int .i64 0, .int .i64 0, .int .i64 0, .int .i64 0, .int .i64 0, .int .i64 0, .int .i64 0, .int .i64 0, .int .i64 0, .int .i64 0, .int .i64 0, .int .i64 0, .int .i64 0, .int .i64 0] 27)
  have R := Lib.hid (Blk.new w2 [.int .i64 0, .int .i64 0, .int .i64 0, .int .i64 0, .int .i64 0, .int .i64 0, .int .i64 0, .int .i64 0, .int .i64 0, .int .i64 0, .int .i64 0, .int .i64 0, .int .i64 0, .int .i64 0, .int .i64 0, .int .i64 0] 27)
  change Hid (Blk (w2.alloc (Obj.cells #[.int .i64 0, .int .i64 0, .int .i64 0, .int .i64 0, .int .i64 0, .int .i64 0, .int .i64 0, .int .i64 0, .int .i64 0, .int .i64 0, .int .i64 0, .int .i64 0, .int .i64 0, .int .i64 0, .int .i64 0, .int .i64 0] 27)) _ _ _) at R
  have ZR : Hid ((w2.alloc (Obj.cells #[.int .i64 0, .int .i64 0, .int .i64 0, .int .i64 0, .int .i64 0, .int .i64 0, .int .i64 0, .int .i64 0, .int .i64 0, .int .i64 0, .int .i64 0, .int .i64 0, .int .i64 0, .int .i64 0, .int .i64 0, .int .i64 0] 27)).heap.size = w2.heap.size + 1) := World.size_alloc _ _
  clear O_c0 O_c1 O_c2 O_z
  replace HB := Lib.hid (bcall HB.out hb3)
  replace T := Lib.hid (T.out.below hb3)
  replace O := Lib.hid (O.out.below hb3)
  clear hb3
  rw [ZO.out] at R ZR
  clear ZO
  generalize w2.alloc (Obj.cells #[.int .i64 0, .int .i64 0, .int .i64 0, .int .i64 0, .int .i64 0, .int .i64 0, .int .i64 0, .int .i64 0, .int .i64 0, .int .i64 0, .int .i64 0, .int .i64 0, .int .i64 0, .int .i64 0, .int .i64 0, .int .i64 0] 27) = w3 at *
  have O_c0 : w3.cell? ⟨(w.heap.size + 1), 0, none⟩ = some (.int .i64 5) := O.out.cell 0
  have O_c1 : w3.cell? ⟨(w.heap.size + 1), 1, none⟩ = some (.int .i64 key) := O.out.cell 1
  have O_c2 : w3.cell? ⟨(w.heap.size + 1), 2, none⟩ = some (.int .i64 value) := O.out.cell 2
  have O_z : (w.heap.size + 1) < w3.heap.size := O.out.lt
  have hb4 := balloc (Below.refl _ w3) (Obj.cells #[.int .i64 0, .int .i64 0] 31)
  have A := Lib.hid (Blk.new w3 [.int .i64 0, .int .i64 0] 31)
  change Hid (Blk (w3.alloc (Obj.cells #[.int .i64 0, .int .i64 0] 31)) _ _ _) at A
  have ZA : Hid ((w3.alloc (Obj.cells #[.int .i64 0, .int .i64 0] 31)).heap.size = w3.heap.size + 1) := World.size_alloc _ _
  clear O_c0 O_c1 O_c2 O_z
  replace HB := Lib.hid (bcall HB.out hb4)
  replace T := Lib.hid (T.out.below hb4)
  replace O := Lib.hid (O.out.below hb4)
  replace R := Lib.hid (R.out.below hb4)
  clear hb4
  rw [ZR.out] at A ZA
  clear ZR
  generalize w3.alloc (Obj.cells #[.int .i64 0, .int .i64 0] 31) = w4 at *
  have O_c0 : w4.cell? ⟨(w.heap.size + 1), 0, none⟩ = some (.int .i64 5) := O.out.cell 0
  have O_c1 : w4.cell? ⟨(w.heap.size + 1), 1, none⟩ = some (.int .i64 key) := O.out.cell 1
  have O_c2 : w4.cell? ⟨(w.heap.size + 1), 2, none⟩ = some (.int .i64 value) := O.out.cell 2
  have O_z : (w.heap.size + 1) < w4.heap.size := O.out.lt
  go_wp2_with (first | (refine wpList_load_part rfl 27 _ rfl w.heap.size 0 16 rfl 27 (tcells t) _ T.out (by rw [HLT.out]; decide) Try.underlying27 rfl (by kernel_rfl) ?_; rw [HCT.out]) | (refine wpList_store_part rfl 27 _ _ rfl (w.heap.size + 1 + 1) 0 16 (tcells t) rfl rfl 27 _ R.out HLT.out (by decide) (by kernel_rfl) HONE.out ?_; rw [spl_z16 _ HLT.out]; have aa0 := (A.out.otherBlk (tcells t) (show w.heap.size + 1 + 1 + 1 ≠ w.heap.size + 1 + 1 by omega)).cell 0; have aa1 := (A.out.otherBlk (tcells t) (show w.heap.size + 1 + 1 + 1 ≠ w.heap.size + 1 + 1 by omega)).cell 1; have af0 := (A.out.otherBlk (tcells t) (show w.heap.size + 1 + 1 + 1 ≠ w.heap.size + 1 + 1 by omega)).frozen 0; have af1 := (A.out.otherBlk (tcells t) (show w.heap.size + 1 + 1 + 1 ≠ w.heap.size + 1 + 1 by omega)).frozen 1))
  have hR2 : Blk (((setBlk w4 (w.heap.size + 1 + 1) (tcells t)).setCell ⟨w.heap.size + 1 + 1 + 1, 0, none⟩ (.int .i64 5)).setCell ⟨w.heap.size + 1 + 1 + 1, 1, none⟩ (.int .i64 0)) (w.heap.size + 1 + 1) (tcells t) 27 :=
    ((R.out.setBlk _).other _ (by show w.heap.size + 1 + 1 ≠ w.heap.size + 1 + 1 + 1; omega)).other _ (by show w.heap.size + 1 + 1 ≠ w.heap.size + 1 + 1 + 1; omega)
  have hA2 : Blk (((setBlk w4 (w.heap.size + 1 + 1) (tcells t)).setCell ⟨w.heap.size + 1 + 1 + 1, 0, none⟩ (.int .i64 5)).setCell ⟨w.heap.size + 1 + 1 + 1, 1, none⟩ (.int .i64 0)) (w.heap.size + 1 + 1 + 1) [.int .i64 5, .int .i64 0] 31 :=
    Blk.pair (A.out.otherBlk _ (by omega))
  have hB2 : Below w.heap.size w (((setBlk w4 (w.heap.size + 1 + 1) (tcells t)).setCell ⟨w.heap.size + 1 + 1 + 1, 0, none⟩ (.int .i64 5)).setCell ⟨w.heap.size + 1 + 1 + 1, 1, none⟩ (.int .i64 0)) :=
    bstore (bstore (bsetBlk HB.out (by omega) _) (by show w.heap.size ≤ w.heap.size + 1 + 1 + 1; omega) _) (by show w.heap.size ≤ w.heap.size + 1 + 1 + 1; omega) _
  refine bodyPost_ret (v := .tuple #[.agg (tcells t).toArray, .agg #[.int .i64 5, .int .i64 0]]) (results2_cells _ _ _ _ rfl (w.heap.size + 1 + 1) (w.heap.size + 1 + 1 + 1) (tcells t) [.int .i64 5, .int .i64 0] 27 31 _ _ rfl rfl hR2 hA2 Try.underlying27 rfl (by rw [HLT.out]; kernel_rfl) Try.underlying31 rfl (by kernel_rfl)) rfl ⟨?_, hB2⟩
  rw [HD.out]
set_option maxHeartbeats 2000000 in
theorem do_count (w : World) (t : List Int) (g : Good t) (what key value : Int) (h6 : what = 6) :
    Calls Try.prog 23 #[.agg (tcells t).toArray, .agg #[.int .i64 what, .int .i64 key, .int .i64 value]] w fun e w' => e = .returned (.tuple #[.agg (tcells (doT t what key value).1).toArray, .agg #[.int .i64 (doT t what key value).2.1, .int .i64 (doT t what key value).2.2]]) ∧ Below w.heap.size w w' := by
  subst h6
  have hd : doT t 6 key value = (t, 1, (lenT t : Int)) := by unfold doT; rw [if_pos rfl]
  have HD := Lib.hid hd
  clear hd
  have HL := Lib.hid g.len
  have HB := Lib.hid (Below.refl w.heap.size w)
  have HONE := Lib.hid (tcells_one t)
  have HLT : Hid ((tcells t).length = 16) := Lib.hid (by rw [tcells_len]; exact g.len)
  have HCT := Lib.hid (tcells_take t g.len)
  have HG := Lib.hid g
  clear g
  go_enter Try.func23, Try.ntmps23
  go_upto_region 1 with fail
  have hb1 := balloc (Below.refl _ w) (Obj.cells (tcells t).toArray 27)
  have T := Lib.hid (Blk.new w (tcells t) 27)
  change Hid (Blk (w.alloc (Obj.cells (tcells t).toArray 27)) _ _ _) at T
  have ZT : Hid ((w.alloc (Obj.cells (tcells t).toArray 27)).heap.size = w.heap.size + 1) := World.size_alloc _ _
  replace HB := Lib.hid (bcall HB.out hb1)
  clear hb1
  generalize w.alloc (Obj.cells (tcells t).toArray 27) = w1 at *
  have hb2 := balloc (Below.refl _ w1) (Obj.cells #[.int .i64 6, .int .i64 key, .int .i64 value] 36)
  have O := Lib.hid (Blk.new w1 [.int .i64 6, .int .i64 key, .int .i64 value] 36)
  change Hid (Blk (w1.alloc (Obj.cells #[.int .i64 6, .int .i64 key, .int .i64 value] 36)) _ _ _) at O
  have ZO : Hid ((w1.alloc (Obj.cells #[.int .i64 6, .int .i64 key, .int .i64 value] 36)).heap.size = w1.heap.size + 1) := World.size_alloc _ _
  replace HB := Lib.hid (bcall HB.out hb2)
  replace T := Lib.hid (T.out.below hb2)
  clear hb2
  rw [ZT.out] at O ZO
  clear ZT
  generalize w1.alloc (Obj.cells #[.int .i64 6, .int .i64 key, .int .i64 value] 36) = w2 at *
  have O_c0 : w2.cell? ⟨(w.heap.size + 1), 0, none⟩ = some (.int .i64 6) := O.out.cell 0
  have O_c1 : w2.cell? ⟨(w.heap.size + 1), 1, none⟩ = some (.int .i64 key) := O.out.cell 1
  have O_c2 : w2.cell? ⟨(w.heap.size + 1), 2, none⟩ = some (.int .i64 value) := O.out.cell 2
  have O_z : (w.heap.size + 1) < w2.heap.size := O.out.lt
  have hb3 := balloc (Below.refl _ w2) (Obj.cells #[.int .i64 0, .int .i64 0, .int .i64 0, .int .i64 0, .int .i64 0, .int .i64 0, .int .i64 0, .int .i64 0, .int .i64 0, .int .i64 0, .int .i64 0, .int .i64 0, .int .i64 0, .int .i64 0, .int .i64 0, .int .i64 0] 27)
  have R := Lib.hid (Blk.new w2 [.int .i64 0, .int .i64 0, .int .i64 0, .int .i64 0, .int .i64 0, .int .i64 0, .int .i64 0, .int .i64 0, .int .i64 0, .int .i64 0, .int .i64 0, .int .i64 0, .int .i64 0, .int .i64 0, .int .i64 0, .int .i64 0] 27)
  change Hid (Blk (w2.alloc (Obj.cells #[.int .i64 0, .int .i64 0, .int .i64 0, .int .i64 0, .int .i64 0, .int .i64 0, .int .i64 0, .int .i64 0, .int .i64 0, .int .i64 0, .int .i64 0, .int .i64 0, .int .i64 0, .int .i64 0, .int .i64 0, .int .i64 0] 27)) _ _ _) at R
  have ZR : Hid ((w2.alloc (Obj.cells #[.int .i64 0, .int .i64 0, .int .i64 0, .int .i64 0, .int .i64 0, .int .i64 0, .int .i64 0, .int .i64 0, .int .i64 0, .int .i64 0, .int .i64 0, .int .i64 0, .int .i64 0, .int .i64 0, .int .i64 0, .int .i64 0] 27)).heap.size = w2.heap.size + 1) := World.size_alloc _ _
  clear O_c0 O_c1 O_c2 O_z
  replace HB := Lib.hid (bcall HB.out hb3)
  replace T := Lib.hid (T.out.below hb3)
  replace O := Lib.hid (O.out.below hb3)
  clear hb3
  rw [ZO.out] at R ZR
  clear ZO
  generalize w2.alloc (Obj.cells #[.int .i64 0, .int .i64 0, .int .i64 0, .int .i64 0, .int .i64 0, .int .i64 0, .int .i64 0, .int .i64 0, .int .i64 0, .int .i64 0, .int .i64 0, .int .i64 0, .int .i64 0, .int .i64 0, .int .i64 0, .int .i64 0] 27) = w3 at *
  have O_c0 : w3.cell? ⟨(w.heap.size + 1), 0, none⟩ = some (.int .i64 6) := O.out.cell 0
  have O_c1 : w3.cell? ⟨(w.heap.size + 1), 1, none⟩ = some (.int .i64 key) := O.out.cell 1
  have O_c2 : w3.cell? ⟨(w.heap.size + 1), 2, none⟩ = some (.int .i64 value) := O.out.cell 2
  have O_z : (w.heap.size + 1) < w3.heap.size := O.out.lt
  have hb4 := balloc (Below.refl _ w3) (Obj.cells #[.int .i64 0, .int .i64 0] 31)
  have A := Lib.hid (Blk.new w3 [.int .i64 0, .int .i64 0] 31)
  change Hid (Blk (w3.alloc (Obj.cells #[.int .i64 0, .int .i64 0] 31)) _ _ _) at A
  have ZA : Hid ((w3.alloc (Obj.cells #[.int .i64 0, .int .i64 0] 31)).heap.size = w3.heap.size + 1) := World.size_alloc _ _
  clear O_c0 O_c1 O_c2 O_z
  replace HB := Lib.hid (bcall HB.out hb4)
  replace T := Lib.hid (T.out.below hb4)
  replace O := Lib.hid (O.out.below hb4)
  replace R := Lib.hid (R.out.below hb4)
  clear hb4
  rw [ZR.out] at A ZA
  clear ZR
  generalize w3.alloc (Obj.cells #[.int .i64 0, .int .i64 0] 31) = w4 at *
  have O_c0 : w4.cell? ⟨(w.heap.size + 1), 0, none⟩ = some (.int .i64 6) := O.out.cell 0
  have O_c1 : w4.cell? ⟨(w.heap.size + 1), 1, none⟩ = some (.int .i64 key) := O.out.cell 1
  have O_c2 : w4.cell? ⟨(w.heap.size + 1), 2, none⟩ = some (.int .i64 value) := O.out.cell 2
  have O_z : (w.heap.size + 1) < w4.heap.size := O.out.lt
  have hr := T.out.range
  have th2 : w4.there (w.heap.size + 1 + 1) 0 16 := R.out.there 0 16 (by decide)
  have th3 : w4.there (w.heap.size + 1 + 1 + 1) 0 2 := A.out.there 0 2 (by decide)
  have hu := Try.underlying27
  have hi : (Try.prog.info? 27).map (·.size) = some (tcells t).length := by rw [HLT.out]; kernel_rfl
  have hl16 : (tcells t).length = 16 := HLT.out
  have h1 := HONE.out
  go_wp2_with fail
  refine wp_region_noPanic ?_
  refine wp_region_held (S := fun w' => w'.rangeAt w.heap.size 0 (tcells t)) (by kernel_rfl) ?_
  rw [show ({ w4 with drawn := w4.drawn + 1 } : World) = w4.drew from rfl]
  have hS : w4.drew.rangeAt w.heap.size 0 (tcells t) := (Blk.drew T.out).range
  refine wpAnyH_take (i := 0) (v := .agg (tcells t).toArray) rfl (by kernel_rfl) (by kernel_rfl) (by kernel_rfl) (fun c a w h => h) (yieldsIf_load_mid (by kernel_rfl) 27 (.tmp 2) rfl w.heap.size 0 rfl (tcells t) _ (fun w h => h) hu rfl hi) hS ?_
  refine wpAnyH_take (i := 1) (v := .agg (tcells t).toArray) rfl (by kernel_rfl) (by kernel_rfl) (by kernel_rfl) (fun c a w h => h) (yieldsIf_load_mid (by kernel_rfl) 27 (.tmp 2) rfl w.heap.size 0 rfl (tcells t) _ (fun w h => h) hu rfl hi) hS ?_
  refine wpAnyH_ready (rs := [2]) (by kernel_rfl) (by decide) ?_
  refine AllReadyH.cons rfl (fun K' hK => ?_) AllReadyH.nil
  go_simp
  refine (len_any t HL.out _).mono ?_
  rintro e w9 ⟨rfl, hb9⟩
  have T9 := (Blk.drew T.out).below hb9
  have R9 := (Blk.drew R.out).below hb9
  have A9 := (Blk.drew A.out).below hb9
  have hS9 : w9.rangeAt w.heap.size 0 (tcells t) := T9.range
  refine hK.out _ _ hS9 (fun _ => ?_)
  clear hK K'
  refine wpAnyH_take (i := 3) (v := .agg #[.int .i64 1, .int .i64 (lenT t)]) rfl (by kernel_rfl) (by kernel_rfl) (by kernel_rfl) (fun c a w h => h) (.inl ⟨by kernel_rfl, fun w _ => by kernel_rfl⟩) hS9 ?_
  refine wpAnyH_ready (rs := [4]) (by kernel_rfl) (by decide) ?_
  refine AllReadyH.cons rfl (fun K' hK => ?_) AllReadyH.nil
  rw [if_pos (by kernel_rfl)]
  refine wp_store_mid 27 _ _ rfl (w.heap.size + 1 + 1) 0 (tcells t).toArray rfl rfl (by show w9.there _ 0 (tcells t).length; rw [HLT.out]; exact R9.there 0 16 (by decide)) (by show _ = some (tcells t).length; exact hi) (by simpa using h1) ?_
  have R10 := (R9.setCellsWhole (vs := tcells t) HLT.out)
  have A10 := (A9.kept (setCells_kept (w.heap.size + 1 + 1) (tcells t) 0 w9) (by intro hh; omega))
  have hS10 := World.rangeAt_setCells_apart hS9 (w.heap.size + 1 + 1) 0 (tcells t) (.inl (by omega))
  refine hK.out _ _ hS10 (fun _ => ?_)
  clear hK K'
  refine wpAnyH_ready (rs := [5]) (by kernel_rfl) (by decide) ?_
  refine AllReadyH.cons rfl (fun K' hK => ?_) AllReadyH.nil
  rw [if_pos (by kernel_rfl)]
  refine wp_store_mid 31 _ _ rfl (w.heap.size + 1 + 1 + 1) 0 #[.int .i64 1, .int .i64 (lenT t)] rfl rfl (A10.there 0 2 (by decide)) (by kernel_rfl) (by simp [Value.oneCell']) ?_
  refine hK.out _ _ (World.rangeAt_setCells_apart hS10 _ 0 _ (.inl (by omega))) (fun _ => ?_)
  clear hK K'
  refine wpAnyH_done (by kernel_rfl) ?_ _
  refine NoPanic.normal ?_
  go_wp2_with fail
  have hA2 := A10.setCellsWhole (vs := [.int .i64 1, .int .i64 (lenT t)]) rfl
  have hR3 := R10.kept (setCells_kept (w.heap.size + 1 + 1 + 1) [.int .i64 1, .int .i64 (lenT t)] 0 _) (by intro hh; omega)
  have hB9 := bcall HB.out.drew hb9
  have hB2 := bkept (bkept hB9 (setCells_kept (w.heap.size + 1 + 1) (tcells t) 0 w9) (by rintro n rfl; omega)) (setCells_kept (w.heap.size + 1 + 1 + 1) [.int .i64 1, .int .i64 (lenT t)] 0 _) (by rintro n rfl; omega)
  refine bodyPost_ret (v := .tuple #[.agg (tcells t).toArray, .agg #[.int .i64 1, .int .i64 (lenT t)]]) (results2_cells _ _ _ _ rfl (w.heap.size + 1 + 1) (w.heap.size + 1 + 1 + 1) (tcells t) [.int .i64 1, .int .i64 (lenT t)] 27 31 _ _ rfl rfl hR3 hA2 Try.underlying27 rfl (by rw [HLT.out]; kernel_rfl) Try.underlying31 rfl (by kernel_rfl)) rfl ⟨?_, hB2⟩
  rw [HD.out]
set_option maxHeartbeats 2000000 in
theorem do_absent2 (w : World) (t : List Int) (g : Good t) (what key value : Int) (hw : what = 2) (hk1 : 1 ≤ key) (hk2 : key ≤ 1000) (ht : thereB t key = false) :
    Calls Try.prog 23 #[.agg (tcells t).toArray, .agg #[.int .i64 what, .int .i64 key, .int .i64 value]] w fun e w' => e = .returned (.tuple #[.agg (tcells (doT t what key value).1).toArray, .agg #[.int .i64 (doT t what key value).2.1, .int .i64 (doT t what key value).2.2]]) ∧ Below w.heap.size w w' := by
  subst hw
  obtain ⟨i, hi8, ha, ho, -⟩ := g.at key
  have hT0 : thereB t key = (tk t i == key) := by simp [thereB, ha]
  have bt : (tk t i == key) = false := by rw [← hT0]; exact ht
  have hai : (atI t key).toNat = i := by rw [ha]; rfl
  have hd : doT t 2 key value = (t, 4, 0) := by unfold doT; rw [if_neg (by decide), if_neg (by omega), if_neg (by decide), if_pos ht]
  have HD := Lib.hid hd
  clear hd
  have HC0 : ∀ w' : World, Blk w' w.heap.size (tcells t) 27 → w'.cell? ⟨w.heap.size, i * 2, none⟩ = some (.int .i64 (tk t i)) := fun w' h => (show TabAt w' w.heap.size t from ⟨g.len, h⟩).c0 i hi8
  have HC1 : ∀ w' : World, Blk w' w.heap.size (tcells t) 27 → w'.cell? ⟨w.heap.size, i * 2 + 1, none⟩ = some (.int .i64 (tv t i)) := fun w' h => (show TabAt w' w.heap.size t from ⟨g.len, h⟩).c1 i hi8
  replace HC0 := Lib.hid HC0
  replace HC1 := Lib.hid HC1
  have HA := Lib.hid ha
  have k1 : decide (key < 1) = false := by simp; omega
  have k2 : decide (1000 < key) = false := by simp; omega
  have i0 : (0 : Int) ≤ (i : Int) := Int.natCast_nonneg _
  have i8 : (i : Int) < 8 := by omega
  clear ha ho hT0 ht hai
  have HL := Lib.hid g.len
  have HB := Lib.hid (Below.refl w.heap.size w)
  have HONE := Lib.hid (tcells_one t)
  have HLT : Hid ((tcells t).length = 16) := Lib.hid (by rw [tcells_len]; exact g.len)
  have HCT := Lib.hid (tcells_take t g.len)
  have HG := Lib.hid g
  clear g
  go_enter Try.func23, Try.ntmps23
  go_upto_region 1 with fail
  have hb1 := balloc (Below.refl _ w) (Obj.cells (tcells t).toArray 27)
  have T := Lib.hid (Blk.new w (tcells t) 27)
  change Hid (Blk (w.alloc (Obj.cells (tcells t).toArray 27)) _ _ _) at T
  have ZT : Hid ((w.alloc (Obj.cells (tcells t).toArray 27)).heap.size = w.heap.size + 1) := World.size_alloc _ _
  replace HB := Lib.hid (bcall HB.out hb1)
  clear hb1
  generalize w.alloc (Obj.cells (tcells t).toArray 27) = w1 at *
  have hb2 := balloc (Below.refl _ w1) (Obj.cells #[.int .i64 2, .int .i64 key, .int .i64 value] 36)
  have O := Lib.hid (Blk.new w1 [.int .i64 2, .int .i64 key, .int .i64 value] 36)
  change Hid (Blk (w1.alloc (Obj.cells #[.int .i64 2, .int .i64 key, .int .i64 value] 36)) _ _ _) at O
  have ZO : Hid ((w1.alloc (Obj.cells #[.int .i64 2, .int .i64 key, .int .i64 value] 36)).heap.size = w1.heap.size + 1) := World.size_alloc _ _
  replace HB := Lib.hid (bcall HB.out hb2)
  replace T := Lib.hid (T.out.below hb2)
  clear hb2
  rw [ZT.out] at O ZO
  clear ZT
  generalize w1.alloc (Obj.cells #[.int .i64 2, .int .i64 key, .int .i64 value] 36) = w2 at *
  have O_c0 : w2.cell? ⟨(w.heap.size + 1), 0, none⟩ = some (.int .i64 2) := O.out.cell 0
  have O_c1 : w2.cell? ⟨(w.heap.size + 1), 1, none⟩ = some (.int .i64 key) := O.out.cell 1
  have O_c2 : w2.cell? ⟨(w.heap.size + 1), 2, none⟩ = some (.int .i64 value) := O.out.cell 2
  have O_z : (w.heap.size + 1) < w2.heap.size := O.out.lt
  have hb3 := balloc (Below.refl _ w2) (Obj.cells #[.int .i64 0, .int .i64 0, .int .i64 0, .int .i64 0, .int .i64 0, .int .i64 0, .int .i64 0, .int .i64 0, .int .i64 0, .int .i64 0, .int .i64 0, .int .i64 0, .int .i64 0, .int .i64 0, .int .i64 0, .int .i64 0] 27)
  have R := Lib.hid (Blk.new w2 [.int .i64 0, .int .i64 0, .int .i64 0, .int .i64 0, .int .i64 0, .int .i64 0, .int .i64 0, .int .i64 0, .int .i64 0, .int .i64 0, .int .i64 0, .int .i64 0, .int .i64 0, .int .i64 0, .int .i64 0, .int .i64 0] 27)
  change Hid (Blk (w2.alloc (Obj.cells #[.int .i64 0, .int .i64 0, .int .i64 0, .int .i64 0, .int .i64 0, .int .i64 0, .int .i64 0, .int .i64 0, .int .i64 0, .int .i64 0, .int .i64 0, .int .i64 0, .int .i64 0, .int .i64 0, .int .i64 0, .int .i64 0] 27)) _ _ _) at R
  have ZR : Hid ((w2.alloc (Obj.cells #[.int .i64 0, .int .i64 0, .int .i64 0, .int .i64 0, .int .i64 0, .int .i64 0, .int .i64 0, .int .i64 0, .int .i64 0, .int .i64 0, .int .i64 0, .int .i64 0, .int .i64 0, .int .i64 0, .int .i64 0, .int .i64 0] 27)).heap.size = w2.heap.size + 1) := World.size_alloc _ _
  clear O_c0 O_c1 O_c2 O_z
  replace HB := Lib.hid (bcall HB.out hb3)
  replace T := Lib.hid (T.out.below hb3)
  replace O := Lib.hid (O.out.below hb3)
  clear hb3
  rw [ZO.out] at R ZR
  clear ZO
  generalize w2.alloc (Obj.cells #[.int .i64 0, .int .i64 0, .int .i64 0, .int .i64 0, .int .i64 0, .int .i64 0, .int .i64 0, .int .i64 0, .int .i64 0, .int .i64 0, .int .i64 0, .int .i64 0, .int .i64 0, .int .i64 0, .int .i64 0, .int .i64 0] 27) = w3 at *
  have O_c0 : w3.cell? ⟨(w.heap.size + 1), 0, none⟩ = some (.int .i64 2) := O.out.cell 0
  have O_c1 : w3.cell? ⟨(w.heap.size + 1), 1, none⟩ = some (.int .i64 key) := O.out.cell 1
  have O_c2 : w3.cell? ⟨(w.heap.size + 1), 2, none⟩ = some (.int .i64 value) := O.out.cell 2
  have O_z : (w.heap.size + 1) < w3.heap.size := O.out.lt
  have hb4 := balloc (Below.refl _ w3) (Obj.cells #[.int .i64 0, .int .i64 0] 31)
  have A := Lib.hid (Blk.new w3 [.int .i64 0, .int .i64 0] 31)
  change Hid (Blk (w3.alloc (Obj.cells #[.int .i64 0, .int .i64 0] 31)) _ _ _) at A
  have ZA : Hid ((w3.alloc (Obj.cells #[.int .i64 0, .int .i64 0] 31)).heap.size = w3.heap.size + 1) := World.size_alloc _ _
  clear O_c0 O_c1 O_c2 O_z
  replace HB := Lib.hid (bcall HB.out hb4)
  replace T := Lib.hid (T.out.below hb4)
  replace O := Lib.hid (O.out.below hb4)
  replace R := Lib.hid (R.out.below hb4)
  clear hb4
  rw [ZR.out] at A ZA
  clear ZR
  generalize w3.alloc (Obj.cells #[.int .i64 0, .int .i64 0] 31) = w4 at *
  have O_c0 : w4.cell? ⟨(w.heap.size + 1), 0, none⟩ = some (.int .i64 2) := O.out.cell 0
  have O_c1 : w4.cell? ⟨(w.heap.size + 1), 1, none⟩ = some (.int .i64 key) := O.out.cell 1
  have O_c2 : w4.cell? ⟨(w.heap.size + 1), 2, none⟩ = some (.int .i64 value) := O.out.cell 2
  have O_z : (w.heap.size + 1) < w4.heap.size := O.out.lt
  have c0 := HC0.out _ T.out
  have k1' : (0 : Int) ≤ key := by omega
  generalize tk t i = ky at *
  generalize tv t i = vl at *
  go_wp2_with fail
  refine (at_any key _ w.heap.size t ⟨HL.out, T.out⟩ k1' hk2).mono ?_
  rw [HA.out]
  rintro e w' ⟨rfl, rfl⟩
  go_wp2_with fail
  go_region_held3 (fun w' => w'.cell? ⟨w.heap.size, i * 2, none⟩ = some (.int .i64 ky) ∧ w'.cell? ⟨w.heap.size + 1, 1, none⟩ = some (.int .i64 key))
    (first | go_keep) (fail)
  clear c0
  clear O_c0 O_c1 O_c2 O_z
  replace HB := Lib.hid HB.out.drew
  replace T := Lib.hid (Blk.drew T.out)
  replace O := Lib.hid (Blk.drew O.out)
  replace R := Lib.hid (Blk.drew R.out)
  replace A := Lib.hid (Blk.drew A.out)
  generalize w4.drew = w5 at *
  have O_c0 : w5.cell? ⟨(w.heap.size + 1), 0, none⟩ = some (.int .i64 2) := O.out.cell 0
  have O_c1 : w5.cell? ⟨(w.heap.size + 1), 1, none⟩ = some (.int .i64 key) := O.out.cell 1
  have O_c2 : w5.cell? ⟨(w.heap.size + 1), 2, none⟩ = some (.int .i64 value) := O.out.cell 2
  have O_z : (w.heap.size + 1) < w5.heap.size := O.out.lt
  go_wp2_with (first | (refine wpList_load_part rfl 27 _ rfl w.heap.size 0 16 rfl 27 (tcells t) _ T.out (by rw [HLT.out]; decide) Try.underlying27 rfl (by kernel_rfl) ?_; rw [HCT.out]) | (refine wpList_store_part rfl 27 _ _ rfl (w.heap.size + 1 + 1) 0 16 (tcells t) rfl rfl 27 _ R.out HLT.out (by decide) (by kernel_rfl) HONE.out ?_; rw [spl_z16 _ HLT.out]; have aa0 := (A.out.otherBlk (tcells t) (show w.heap.size + 1 + 1 + 1 ≠ w.heap.size + 1 + 1 by omega)).cell 0; have aa1 := (A.out.otherBlk (tcells t) (show w.heap.size + 1 + 1 + 1 ≠ w.heap.size + 1 + 1 by omega)).cell 1; have af0 := (A.out.otherBlk (tcells t) (show w.heap.size + 1 + 1 + 1 ≠ w.heap.size + 1 + 1 by omega)).frozen 0; have af1 := (A.out.otherBlk (tcells t) (show w.heap.size + 1 + 1 + 1 ≠ w.heap.size + 1 + 1 by omega)).frozen 1))
  have hR2 : Blk (((setBlk w5 (w.heap.size + 1 + 1) (tcells t)).setCell ⟨w.heap.size + 1 + 1 + 1, 0, none⟩ (.int .i64 4)).setCell ⟨w.heap.size + 1 + 1 + 1, 1, none⟩ (.int .i64 0)) (w.heap.size + 1 + 1) (tcells t) 27 :=
    ((R.out.setBlk _).other _ (by show w.heap.size + 1 + 1 ≠ w.heap.size + 1 + 1 + 1; omega)).other _ (by show w.heap.size + 1 + 1 ≠ w.heap.size + 1 + 1 + 1; omega)
  have hA2 : Blk (((setBlk w5 (w.heap.size + 1 + 1) (tcells t)).setCell ⟨w.heap.size + 1 + 1 + 1, 0, none⟩ (.int .i64 4)).setCell ⟨w.heap.size + 1 + 1 + 1, 1, none⟩ (.int .i64 0)) (w.heap.size + 1 + 1 + 1) [.int .i64 4, .int .i64 0] 31 :=
    Blk.pair (A.out.otherBlk _ (by omega))
  have hB2 : Below w.heap.size w (((setBlk w5 (w.heap.size + 1 + 1) (tcells t)).setCell ⟨w.heap.size + 1 + 1 + 1, 0, none⟩ (.int .i64 4)).setCell ⟨w.heap.size + 1 + 1 + 1, 1, none⟩ (.int .i64 0)) :=
    bstore (bstore (bsetBlk HB.out (by omega) _) (by show w.heap.size ≤ w.heap.size + 1 + 1 + 1; omega) _) (by show w.heap.size ≤ w.heap.size + 1 + 1 + 1; omega) _
  refine bodyPost_ret (v := .tuple #[.agg (tcells t).toArray, .agg #[.int .i64 4, .int .i64 0]]) (results2_cells _ _ _ _ rfl (w.heap.size + 1 + 1) (w.heap.size + 1 + 1 + 1) (tcells t) [.int .i64 4, .int .i64 0] 27 31 _ _ rfl rfl hR2 hA2 Try.underlying27 rfl (by rw [HLT.out]; kernel_rfl) Try.underlying31 rfl (by kernel_rfl)) rfl ⟨?_, hB2⟩
  rw [HD.out]
set_option maxHeartbeats 2000000 in
theorem do_absent5 (w : World) (t : List Int) (g : Good t) (what key value : Int) (hw : what = 5) (hk1 : 1 ≤ key) (hk2 : key ≤ 1000) (ht : thereB t key = false) :
    Calls Try.prog 23 #[.agg (tcells t).toArray, .agg #[.int .i64 what, .int .i64 key, .int .i64 value]] w fun e w' => e = .returned (.tuple #[.agg (tcells (doT t what key value).1).toArray, .agg #[.int .i64 (doT t what key value).2.1, .int .i64 (doT t what key value).2.2]]) ∧ Below w.heap.size w w' := by
  subst hw
  obtain ⟨i, hi8, ha, ho, -⟩ := g.at key
  have hT0 : thereB t key = (tk t i == key) := by simp [thereB, ha]
  have bt : (tk t i == key) = false := by rw [← hT0]; exact ht
  have hai : (atI t key).toNat = i := by rw [ha]; rfl
  have hd : doT t 5 key value = (t, 4, 0) := by unfold doT; rw [if_neg (by decide), if_neg (by omega), if_neg (by decide), if_pos ht]
  have HD := Lib.hid hd
  clear hd
  have HC0 : ∀ w' : World, Blk w' w.heap.size (tcells t) 27 → w'.cell? ⟨w.heap.size, i * 2, none⟩ = some (.int .i64 (tk t i)) := fun w' h => (show TabAt w' w.heap.size t from ⟨g.len, h⟩).c0 i hi8
  have HC1 : ∀ w' : World, Blk w' w.heap.size (tcells t) 27 → w'.cell? ⟨w.heap.size, i * 2 + 1, none⟩ = some (.int .i64 (tv t i)) := fun w' h => (show TabAt w' w.heap.size t from ⟨g.len, h⟩).c1 i hi8
  replace HC0 := Lib.hid HC0
  replace HC1 := Lib.hid HC1
  have HA := Lib.hid ha
  have k1 : decide (key < 1) = false := by simp; omega
  have k2 : decide (1000 < key) = false := by simp; omega
  have i0 : (0 : Int) ≤ (i : Int) := Int.natCast_nonneg _
  have i8 : (i : Int) < 8 := by omega
  clear ha ho hT0 ht hai
  have HL := Lib.hid g.len
  have HB := Lib.hid (Below.refl w.heap.size w)
  have HONE := Lib.hid (tcells_one t)
  have HLT : Hid ((tcells t).length = 16) := Lib.hid (by rw [tcells_len]; exact g.len)
  have HCT := Lib.hid (tcells_take t g.len)
  have HG := Lib.hid g
  clear g
  go_enter Try.func23, Try.ntmps23
  go_upto_region 1 with fail
  have hb1 := balloc (Below.refl _ w) (Obj.cells (tcells t).toArray 27)
  have T := Lib.hid (Blk.new w (tcells t) 27)
  change Hid (Blk (w.alloc (Obj.cells (tcells t).toArray 27)) _ _ _) at T
  have ZT : Hid ((w.alloc (Obj.cells (tcells t).toArray 27)).heap.size = w.heap.size + 1) := World.size_alloc _ _
  replace HB := Lib.hid (bcall HB.out hb1)
  clear hb1
  generalize w.alloc (Obj.cells (tcells t).toArray 27) = w1 at *
  have hb2 := balloc (Below.refl _ w1) (Obj.cells #[.int .i64 5, .int .i64 key, .int .i64 value] 36)
  have O := Lib.hid (Blk.new w1 [.int .i64 5, .int .i64 key, .int .i64 value] 36)
  change Hid (Blk (w1.alloc (Obj.cells #[.int .i64 5, .int .i64 key, .int .i64 value] 36)) _ _ _) at O
  have ZO : Hid ((w1.alloc (Obj.cells #[.int .i64 5, .int .i64 key, .int .i64 value] 36)).heap.size = w1.heap.size + 1) := World.size_alloc _ _
  replace HB := Lib.hid (bcall HB.out hb2)
  replace T := Lib.hid (T.out.below hb2)
  clear hb2
  rw [ZT.out] at O ZO
  clear ZT
  generalize w1.alloc (Obj.cells #[.int .i64 5, .int .i64 key, .int .i64 value] 36) = w2 at *
  have O_c0 : w2.cell? ⟨(w.heap.size + 1), 0, none⟩ = some (.int .i64 5) := O.out.cell 0
  have O_c1 : w2.cell? ⟨(w.heap.size + 1), 1, none⟩ = some (.int .i64 key) := O.out.cell 1
  have O_c2 : w2.cell? ⟨(w.heap.size + 1), 2, none⟩ = some (.int .i64 value) := O.out.cell 2
  have O_z : (w.heap.size + 1) < w2.heap.size := O.out.lt
  have hb3 := balloc (Below.refl _ w2) (Obj.cells #[.int .i64 0, .int .i64 0, .int .i64 0, .int .i64 0, .int .i64 0, .int .i64 0, .int .i64 0, .int .i64 0, .int .i64 0, .int .i64 0, .int .i64 0, .int .i64 0, .int .i64 0, .int .i64 0, .int .i64 0, .int .i64 0] 27)
  have R := Lib.hid (Blk.new w2 [.int .i64 0, .int .i64 0, .int .i64 0, .int .i64 0, .int .i64 0, .int .i64 0, .int .i64 0, .int .i64 0, .int .i64 0, .int .i64 0, .int .i64 0, .int .i64 0, .int .i64 0, .int .i64 0, .int .i64 0, .int .i64 0] 27)
  change Hid (Blk (w2.alloc (Obj.cells #[.int .i64 0, .int .i64 0, .int .i64 0, .int .i64 0, .int .i64 0, .int .i64 0, .int .i64 0, .int .i64 0, .int .i64 0, .int .i64 0, .int .i64 0, .int .i64 0, .int .i64 0, .int .i64 0, .int .i64 0, .int .i64 0] 27)) _ _ _) at R
  have ZR : Hid ((w2.alloc (Obj.cells #[.int .i64 0, .int .i64 0, .int .i64 0, .int .i64 0, .int .i64 0, .int .i64 0, .int .i64 0, .int .i64 0, .int .i64 0, .int .i64 0, .int .i64 0, .int .i64 0, .int .i64 0, .int .i64 0, .int .i64 0, .int .i64 0] 27)).heap.size = w2.heap.size + 1) := World.size_alloc _ _
  clear O_c0 O_c1 O_c2 O_z
  replace HB := Lib.hid (bcall HB.out hb3)
  replace T := Lib.hid (T.out.below hb3)
  replace O := Lib.hid (O.out.below hb3)
  clear hb3
  rw [ZO.out] at R ZR
  clear ZO
  generalize w2.alloc (Obj.cells #[.int .i64 0, .int .i64 0, .int .i64 0, .int .i64 0, .int .i64 0, .int .i64 0, .int .i64 0, .int .i64 0, .int .i64 0, .int .i64 0, .int .i64 0, .int .i64 0, .int .i64 0, .int .i64 0, .int .i64 0, .int .i64 0] 27) = w3 at *
  have O_c0 : w3.cell? ⟨(w.heap.size + 1), 0, none⟩ = some (.int .i64 5) := O.out.cell 0
  have O_c1 : w3.cell? ⟨(w.heap.size + 1), 1, none⟩ = some (.int .i64 key) := O.out.cell 1
  have O_c2 : w3.cell? ⟨(w.heap.size + 1), 2, none⟩ = some (.int .i64 value) := O.out.cell 2
  have O_z : (w.heap.size + 1) < w3.heap.size := O.out.lt
  have hb4 := balloc (Below.refl _ w3) (Obj.cells #[.int .i64 0, .int .i64 0] 31)
  have A := Lib.hid (Blk.new w3 [.int .i64 0, .int .i64 0] 31)
  change Hid (Blk (w3.alloc (Obj.cells #[.int .i64 0, .int .i64 0] 31)) _ _ _) at A
  have ZA : Hid ((w3.alloc (Obj.cells #[.int .i64 0, .int .i64 0] 31)).heap.size = w3.heap.size + 1) := World.size_alloc _ _
  clear O_c0 O_c1 O_c2 O_z
  replace HB := Lib.hid (bcall HB.out hb4)
  replace T := Lib.hid (T.out.below hb4)
  replace O := Lib.hid (O.out.below hb4)
  replace R := Lib.hid (R.out.below hb4)
  clear hb4
  rw [ZR.out] at A ZA
  clear ZR
  generalize w3.alloc (Obj.cells #[.int .i64 0, .int .i64 0] 31) = w4 at *
  have O_c0 : w4.cell? ⟨(w.heap.size + 1), 0, none⟩ = some (.int .i64 5) := O.out.cell 0
  have O_c1 : w4.cell? ⟨(w.heap.size + 1), 1, none⟩ = some (.int .i64 key) := O.out.cell 1
  have O_c2 : w4.cell? ⟨(w.heap.size + 1), 2, none⟩ = some (.int .i64 value) := O.out.cell 2
  have O_z : (w.heap.size + 1) < w4.heap.size := O.out.lt
  have c0 := HC0.out _ T.out
  have k1' : (0 : Int) ≤ key := by omega
  generalize tk t i = ky at *
  generalize tv t i = vl at *
  go_wp2_with fail
  refine (at_any key _ w.heap.size t ⟨HL.out, T.out⟩ k1' hk2).mono ?_
  rw [HA.out]
  rintro e w' ⟨rfl, rfl⟩
  go_wp2_with fail
  go_region_held3 (fun w' => w'.cell? ⟨w.heap.size, i * 2, none⟩ = some (.int .i64 ky) ∧ w'.cell? ⟨w.heap.size + 1, 1, none⟩ = some (.int .i64 key))
    (first | go_keep) (fail)
  clear c0
  clear O_c0 O_c1 O_c2 O_z
  replace HB := Lib.hid HB.out.drew
  replace T := Lib.hid (Blk.drew T.out)
  replace O := Lib.hid (Blk.drew O.out)
  replace R := Lib.hid (Blk.drew R.out)
  replace A := Lib.hid (Blk.drew A.out)
  generalize w4.drew = w5 at *
  have O_c0 : w5.cell? ⟨(w.heap.size + 1), 0, none⟩ = some (.int .i64 5) := O.out.cell 0
  have O_c1 : w5.cell? ⟨(w.heap.size + 1), 1, none⟩ = some (.int .i64 key) := O.out.cell 1
  have O_c2 : w5.cell? ⟨(w.heap.size + 1), 2, none⟩ = some (.int .i64 value) := O.out.cell 2
  have O_z : (w.heap.size + 1) < w5.heap.size := O.out.lt
  go_wp2_with (first | (refine wpList_load_part rfl 27 _ rfl w.heap.size 0 16 rfl 27 (tcells t) _ T.out (by rw [HLT.out]; decide) Try.underlying27 rfl (by kernel_rfl) ?_; rw [HCT.out]) | (refine wpList_store_part rfl 27 _ _ rfl (w.heap.size + 1 + 1) 0 16 (tcells t) rfl rfl 27 _ R.out HLT.out (by decide) (by kernel_rfl) HONE.out ?_; rw [spl_z16 _ HLT.out]; have aa0 := (A.out.otherBlk (tcells t) (show w.heap.size + 1 + 1 + 1 ≠ w.heap.size + 1 + 1 by omega)).cell 0; have aa1 := (A.out.otherBlk (tcells t) (show w.heap.size + 1 + 1 + 1 ≠ w.heap.size + 1 + 1 by omega)).cell 1; have af0 := (A.out.otherBlk (tcells t) (show w.heap.size + 1 + 1 + 1 ≠ w.heap.size + 1 + 1 by omega)).frozen 0; have af1 := (A.out.otherBlk (tcells t) (show w.heap.size + 1 + 1 + 1 ≠ w.heap.size + 1 + 1 by omega)).frozen 1))
  have hR2 : Blk (((setBlk w5 (w.heap.size + 1 + 1) (tcells t)).setCell ⟨w.heap.size + 1 + 1 + 1, 0, none⟩ (.int .i64 4)).setCell ⟨w.heap.size + 1 + 1 + 1, 1, none⟩ (.int .i64 0)) (w.heap.size + 1 + 1) (tcells t) 27 :=
    ((R.out.setBlk _).other _ (by show w.heap.size + 1 + 1 ≠ w.heap.size + 1 + 1 + 1; omega)).other _ (by show w.heap.size + 1 + 1 ≠ w.heap.size + 1 + 1 + 1; omega)
  have hA2 : Blk (((setBlk w5 (w.heap.size + 1 + 1) (tcells t)).setCell ⟨w.heap.size + 1 + 1 + 1, 0, none⟩ (.int .i64 4)).setCell ⟨w.heap.size + 1 + 1 + 1, 1, none⟩ (.int .i64 0)) (w.heap.size + 1 + 1 + 1) [.int .i64 4, .int .i64 0] 31 :=
    Blk.pair (A.out.otherBlk _ (by omega))
  have hB2 : Below w.heap.size w (((setBlk w5 (w.heap.size + 1 + 1) (tcells t)).setCell ⟨w.heap.size + 1 + 1 + 1, 0, none⟩ (.int .i64 4)).setCell ⟨w.heap.size + 1 + 1 + 1, 1, none⟩ (.int .i64 0)) :=
    bstore (bstore (bsetBlk HB.out (by omega) _) (by show w.heap.size ≤ w.heap.size + 1 + 1 + 1; omega) _) (by show w.heap.size ≤ w.heap.size + 1 + 1 + 1; omega) _
  refine bodyPost_ret (v := .tuple #[.agg (tcells t).toArray, .agg #[.int .i64 4, .int .i64 0]]) (results2_cells _ _ _ _ rfl (w.heap.size + 1 + 1) (w.heap.size + 1 + 1 + 1) (tcells t) [.int .i64 4, .int .i64 0] 27 31 _ _ rfl rfl hR2 hA2 Try.underlying27 rfl (by rw [HLT.out]; kernel_rfl) Try.underlying31 rfl (by kernel_rfl)) rfl ⟨?_, hB2⟩
  rw [HD.out]
set_option maxHeartbeats 2000000 in
theorem do_peek (w : World) (t : List Int) (g : Good t) (what key value : Int) (hw : what = 5) (hk1 : 1 ≤ key) (hk2 : key ≤ 1000) (ht : thereB t key = true) :
    Calls Try.prog 23 #[.agg (tcells t).toArray, .agg #[.int .i64 what, .int .i64 key, .int .i64 value]] w fun e w' => e = .returned (.tuple #[.agg (tcells (doT t what key value).1).toArray, .agg #[.int .i64 (doT t what key value).2.1, .int .i64 (doT t what key value).2.2]]) ∧ Below w.heap.size w w' := by
  subst hw
  obtain ⟨i, hi8, ha, ho, -⟩ := g.at key
  have hT0 : thereB t key = (tk t i == key) := by simp [thereB, ha]
  have bt : (tk t i == key) = true := by rw [← hT0]; exact ht
  have hai : (atI t key).toNat = i := by rw [ha]; rfl
  have hd : doT t 5 key value = (t, 1, tv t i) := by unfold doT; rw [if_neg (by decide), if_neg (by omega), if_neg (by decide), ht, if_neg (by decide), if_neg (by decide), hai]
  have HD := Lib.hid hd
  clear hd
  have HC0 : ∀ w' : World, Blk w' w.heap.size (tcells t) 27 → w'.cell? ⟨w.heap.size, i * 2, none⟩ = some (.int .i64 (tk t i)) := fun w' h => (show TabAt w' w.heap.size t from ⟨g.len, h⟩).c0 i hi8
  have HC1 : ∀ w' : World, Blk w' w.heap.size (tcells t) 27 → w'.cell? ⟨w.heap.size, i * 2 + 1, none⟩ = some (.int .i64 (tv t i)) := fun w' h => (show TabAt w' w.heap.size t from ⟨g.len, h⟩).c1 i hi8
  replace HC0 := Lib.hid HC0
  replace HC1 := Lib.hid HC1
  have HA := Lib.hid ha
  have k1 : decide (key < 1) = false := by simp; omega
  have k2 : decide (1000 < key) = false := by simp; omega
  have i0 : (0 : Int) ≤ (i : Int) := Int.natCast_nonneg _
  have i8 : (i : Int) < 8 := by omega
  clear ha ho hT0 ht hai
  have HL := Lib.hid g.len
  have HB := Lib.hid (Below.refl w.heap.size w)
  have HONE := Lib.hid (tcells_one t)
  have HLT : Hid ((tcells t).length = 16) := Lib.hid (by rw [tcells_len]; exact g.len)
  have HCT := Lib.hid (tcells_take t g.len)
  have HG := Lib.hid g
  clear g
  go_enter Try.func23, Try.ntmps23
  go_upto_region 1 with fail
  have hb1 := balloc (Below.refl _ w) (Obj.cells (tcells t).toArray 27)
  have T := Lib.hid (Blk.new w (tcells t) 27)
  change Hid (Blk (w.alloc (Obj.cells (tcells t).toArray 27)) _ _ _) at T
  have ZT : Hid ((w.alloc (Obj.cells (tcells t).toArray 27)).heap.size = w.heap.size + 1) := World.size_alloc _ _
  replace HB := Lib.hid (bcall HB.out hb1)
  clear hb1
  generalize w.alloc (Obj.cells (tcells t).toArray 27) = w1 at *
  have hb2 := balloc (Below.refl _ w1) (Obj.cells #[.int .i64 5, .int .i64 key, .int .i64 value] 36)
  have O := Lib.hid (Blk.new w1 [.int .i64 5, .int .i64 key, .int .i64 value] 36)
  change Hid (Blk (w1.alloc (Obj.cells #[.int .i64 5, .int .i64 key, .int .i64 value] 36)) _ _ _) at O
  have ZO : Hid ((w1.alloc (Obj.cells #[.int .i64 5, .int .i64 key, .int .i64 value] 36)).heap.size = w1.heap.size + 1) := World.size_alloc _ _
  replace HB := Lib.hid (bcall HB.out hb2)
  replace T := Lib.hid (T.out.below hb2)
  clear hb2
  rw [ZT.out] at O ZO
  clear ZT
  generalize w1.alloc (Obj.cells #[.int .i64 5, .int .i64 key, .int .i64 value] 36) = w2 at *
  have O_c0 : w2.cell? ⟨(w.heap.size + 1), 0, none⟩ = some (.int .i64 5) := O.out.cell 0
  have O_c1 : w2.cell? ⟨(w.heap.size + 1), 1, none⟩ = some (.int .i64 key) := O.out.cell 1
  have O_c2 : w2.cell? ⟨(w.heap.size + 1), 2, none⟩ = some (.int .i64 value) := O.out.cell 2
  have O_z : (w.heap.size + 1) < w2.heap.size := O.out.lt
  have hb3 := balloc (Below.refl _ w2) (Obj.cells #[.int .i64 0, .int .i64 0, .int .i64 0, .int .i64 0, .int .i64 0, .int .i64 0, .int .i64 0, .int .i64 0, .int .i64 0, .int .i64 0, .int .i64 0, .int .i64 0, .int .i64 0, .int .i64 0, .int .i64 0, .int .i64 0] 27)
  have R := Lib.hid (Blk.new w2 [.int .i64 0, .int .i64 0, .int .i64 0, .int .i64 0, .int .i64 0, .int .i64 0, .int .i64 0, .int .i64 0, .int .i64 0, .int .i64 0, .int .i64 0, .int .i64 0, .int .i64 0, .int .i64 0, .int .i64 0, .int .i64 0] 27)
  change Hid (Blk (w2.alloc (Obj.cells #[.int .i64 0, .int .i64 0, .int .i64 0, .int .i64 0, .int .i64 0, .int .i64 0, .int .i64 0, .int .i64 0, .int .i64 0, .int .i64 0, .int .i64 0, .int .i64 0, .int .i64 0, .int .i64 0, .int .i64 0, .int .i64 0] 27)) _ _ _) at R
  have ZR : Hid ((w2.alloc (Obj.cells #[.int .i64 0, .int .i64 0, .int .i64 0, .int .i64 0, .int .i64 0, .int .i64 0, .int .i64 0, .int .i64 0, .int .i64 0, .int .i64 0, .int .i64 0, .int .i64 0, .int .i64 0, .int .i64 0, .int .i64 0, .int .i64 0] 27)).heap.size = w2.heap.size + 1) := World.size_alloc _ _
  clear O_c0 O_c1 O_c2 O_z
  replace HB := Lib.hid (bcall HB.out hb3)
  replace T := Lib.hid (T.out.below hb3)
  replace O := Lib.hid (O.out.below hb3)
  clear hb3
  rw [ZO.out] at R ZR
  clear ZO
  generalize w2.alloc (Obj.cells #[.int .i64 0, .int .i64 0, .int .i64 0, .int .i64 0, .int .i64 0, .int .i64 0, .int .i64 0, .int .i64 0, .int .i64 0, .int .i64 0, .int .i64 0, .int .i64 0, .int .i64 0, .int .i64 0, .int .i64 0, .int .i64 0] 27) = w3 at *
  have O_c0 : w3.cell? ⟨(w.heap.size + 1), 0, none⟩ = some (.int .i64 5) := O.out.cell 0
  have O_c1 : w3.cell? ⟨(w.heap.size + 1), 1, none⟩ = some (.int .i64 key) := O.out.cell 1
  have O_c2 : w3.cell? ⟨(w.heap.size + 1), 2, none⟩ = some (.int .i64 value) := O.out.cell 2
  have O_z : (w.heap.size + 1) < w3.heap.size := O.out.lt
  have hb4 := balloc (Below.refl _ w3) (Obj.cells #[.int .i64 0, .int .i64 0] 31)
  have A := Lib.hid (Blk.new w3 [.int .i64 0, .int .i64 0] 31)
  change Hid (Blk (w3.alloc (Obj.cells #[.int .i64 0, .int .i64 0] 31)) _ _ _) at A
  have ZA : Hid ((w3.alloc (Obj.cells #[.int .i64 0, .int .i64 0] 31)).heap.size = w3.heap.size + 1) := World.size_alloc _ _
  clear O_c0 O_c1 O_c2 O_z
  replace HB := Lib.hid (bcall HB.out hb4)
  replace T := Lib.hid (T.out.below hb4)
  replace O := Lib.hid (O.out.below hb4)
  replace R := Lib.hid (R.out.below hb4)
  clear hb4
  rw [ZR.out] at A ZA
  clear ZR
  generalize w3.alloc (Obj.cells #[.int .i64 0, .int .i64 0] 31) = w4 at *
  have O_c0 : w4.cell? ⟨(w.heap.size + 1), 0, none⟩ = some (.int .i64 5) := O.out.cell 0
  have O_c1 : w4.cell? ⟨(w.heap.size + 1), 1, none⟩ = some (.int .i64 key) := O.out.cell 1
  have O_c2 : w4.cell? ⟨(w.heap.size + 1), 2, none⟩ = some (.int .i64 value) := O.out.cell 2
  have O_z : (w.heap.size + 1) < w4.heap.size := O.out.lt
  have c0 := HC0.out _ T.out
  have k1' : (0 : Int) ≤ key := by omega
  generalize tk t i = ky at *
  generalize tv t i = vl at *
  go_wp2_with fail
  refine (at_any key _ w.heap.size t ⟨HL.out, T.out⟩ k1' hk2).mono ?_
  rw [HA.out]
  rintro e w' ⟨rfl, rfl⟩
  go_wp2_with fail
  go_region_held3 (fun w' => w'.cell? ⟨w.heap.size, i * 2, none⟩ = some (.int .i64 ky) ∧ w'.cell? ⟨w.heap.size + 1, 1, none⟩ = some (.int .i64 key))
    (first | go_keep) (fail)
  clear c0
  clear O_c0 O_c1 O_c2 O_z
  replace HB := Lib.hid HB.out.drew
  replace T := Lib.hid (Blk.drew T.out)
  replace O := Lib.hid (Blk.drew O.out)
  replace R := Lib.hid (Blk.drew R.out)
  replace A := Lib.hid (Blk.drew A.out)
  generalize w4.drew = w5 at *
  have O_c0 : w5.cell? ⟨(w.heap.size + 1), 0, none⟩ = some (.int .i64 5) := O.out.cell 0
  have O_c1 : w5.cell? ⟨(w.heap.size + 1), 1, none⟩ = some (.int .i64 key) := O.out.cell 1
  have O_c2 : w5.cell? ⟨(w.heap.size + 1), 2, none⟩ = some (.int .i64 value) := O.out.cell 2
  have O_z : (w.heap.size + 1) < w5.heap.size := O.out.lt
  have c1 := HC1.out _ T.out
  go_wp2_with (first | (refine wpList_load_part rfl 27 _ rfl w.heap.size 0 16 rfl 27 (tcells t) _ T.out (by rw [HLT.out]; decide) Try.underlying27 rfl (by kernel_rfl) ?_; rw [HCT.out]) | (refine wpList_store_part rfl 27 _ _ rfl (w.heap.size + 1 + 1) 0 16 (tcells t) rfl rfl 27 _ R.out HLT.out (by decide) (by kernel_rfl) HONE.out ?_; rw [spl_z16 _ HLT.out]; have aa0 := (A.out.otherBlk (tcells t) (show w.heap.size + 1 + 1 + 1 ≠ w.heap.size + 1 + 1 by omega)).cell 0; have aa1 := (A.out.otherBlk (tcells t) (show w.heap.size + 1 + 1 + 1 ≠ w.heap.size + 1 + 1 by omega)).cell 1; have af0 := (A.out.otherBlk (tcells t) (show w.heap.size + 1 + 1 + 1 ≠ w.heap.size + 1 + 1 by omega)).frozen 0; have af1 := (A.out.otherBlk (tcells t) (show w.heap.size + 1 + 1 + 1 ≠ w.heap.size + 1 + 1 by omega)).frozen 1))
  have hR2 : Blk (((setBlk w5 (w.heap.size + 1 + 1) (tcells t)).setCell ⟨w.heap.size + 1 + 1 + 1, 0, none⟩ (.int .i64 1)).setCell ⟨w.heap.size + 1 + 1 + 1, 1, none⟩ (.int .i64 vl)) (w.heap.size + 1 + 1) (tcells t) 27 :=
    ((R.out.setBlk _).other _ (by show w.heap.size + 1 + 1 ≠ w.heap.size + 1 + 1 + 1; omega)).other _ (by show w.heap.size + 1 + 1 ≠ w.heap.size + 1 + 1 + 1; omega)
  have hA2 : Blk (((setBlk w5 (w.heap.size + 1 + 1) (tcells t)).setCell ⟨w.heap.size + 1 + 1 + 1, 0, none⟩ (.int .i64 1)).setCell ⟨w.heap.size + 1 + 1 + 1, 1, none⟩ (.int .i64 vl)) (w.heap.size + 1 + 1 + 1) [.int .i64 1, .int .i64 vl] 31 :=
    Blk.pair (A.out.otherBlk _ (by omega))
  have hB2 : Below w.heap.size w (((setBlk w5 (w.heap.size + 1 + 1) (tcells t)).setCell ⟨w.heap.size + 1 + 1 + 1, 0, none⟩ (.int .i64 1)).setCell ⟨w.heap.size + 1 + 1 + 1, 1, none⟩ (.int .i64 vl)) :=
    bstore (bstore (bsetBlk HB.out (by omega) _) (by show w.heap.size ≤ w.heap.size + 1 + 1 + 1; omega) _) (by show w.heap.size ≤ w.heap.size + 1 + 1 + 1; omega) _
  refine bodyPost_ret (v := .tuple #[.agg (tcells t).toArray, .agg #[.int .i64 1, .int .i64 vl]]) (results2_cells _ _ _ _ rfl (w.heap.size + 1 + 1) (w.heap.size + 1 + 1 + 1) (tcells t) [.int .i64 1, .int .i64 vl] 27 31 _ _ rfl rfl hR2 hA2 Try.underlying27 rfl (by rw [HLT.out]; kernel_rfl) Try.underlying31 rfl (by kernel_rfl)) rfl ⟨?_, hB2⟩
  rw [HD.out]
set_option maxHeartbeats 2000000 in
theorem do_full (w : World) (t : List Int) (g : Good t) (what key value : Int) (hw : what = 1) (hk1 : 1 ≤ key) (hk2 : key ≤ 1000) (ht : thereB t key = false) (h6 : 6 ≤ lenT t) :
    Calls Try.prog 23 #[.agg (tcells t).toArray, .agg #[.int .i64 what, .int .i64 key, .int .i64 value]] w fun e w' => e = .returned (.tuple #[.agg (tcells (doT t what key value).1).toArray, .agg #[.int .i64 (doT t what key value).2.1, .int .i64 (doT t what key value).2.2]]) ∧ Below w.heap.size w w' := by
  subst hw
  obtain ⟨i, hi8, ha, ho, -⟩ := g.at key
  have hT0 : thereB t key = (tk t i == key) := by simp [thereB, ha]
  have bt : (tk t i == key) = false := by rw [← hT0]; exact ht
  have hai : (atI t key).toNat = i := by rw [ha]; rfl
  have hd : doT t 1 key value = (t, 3, 0) := by unfold doT; rw [if_neg (by decide), if_neg (by omega), if_pos rfl, if_pos ⟨ht, h6⟩]
  have HD := Lib.hid hd
  clear hd
  have HC0 : ∀ w' : World, Blk w' w.heap.size (tcells t) 27 → w'.cell? ⟨w.heap.size, i * 2, none⟩ = some (.int .i64 (tk t i)) := fun w' h => (show TabAt w' w.heap.size t from ⟨g.len, h⟩).c0 i hi8
  have HC1 : ∀ w' : World, Blk w' w.heap.size (tcells t) 27 → w'.cell? ⟨w.heap.size, i * 2 + 1, none⟩ = some (.int .i64 (tv t i)) := fun w' h => (show TabAt w' w.heap.size t from ⟨g.len, h⟩).c1 i hi8
  replace HC0 := Lib.hid HC0
  replace HC1 := Lib.hid HC1
  have HA := Lib.hid ha
  have k1 : decide (key < 1) = false := by simp; omega
  have k2 : decide (1000 < key) = false := by simp; omega
  have i0 : (0 : Int) ≤ (i : Int) := Int.natCast_nonneg _
  have i8 : (i : Int) < 8 := by omega
  clear ha ho hT0 ht hai
  have HL := Lib.hid g.len
  have HB := Lib.hid (Below.refl w.heap.size w)
  have HONE := Lib.hid (tcells_one t)
  have HLT : Hid ((tcells t).length = 16) := Lib.hid (by rw [tcells_len]; exact g.len)
  have HCT := Lib.hid (tcells_take t g.len)
  have HG := Lib.hid g
  clear g
  go_enter Try.func23, Try.ntmps23
  go_upto_region 1 with fail
  have hb1 := balloc (Below.refl _ w) (Obj.cells (tcells t).toArray 27)
  have T := Lib.hid (Blk.new w (tcells t) 27)
  change Hid (Blk (w.alloc (Obj.cells (tcells t).toArray 27)) _ _ _) at T
  have ZT : Hid ((w.alloc (Obj.cells (tcells t).toArray 27)).heap.size = w.heap.size + 1) := World.size_alloc _ _
  replace HB := Lib.hid (bcall HB.out hb1)
  clear hb1
  generalize w.alloc (Obj.cells (tcells t).toArray 27) = w1 at *
  have hb2 := balloc (Below.refl _ w1) (Obj.cells #[.int .i64 1, .int .i64 key, .int .i64 value] 36)
  have O := Lib.hid (Blk.new w1 [.int .i64 1, .int .i64 key, .int .i64 value] 36)
  change Hid (Blk (w1.alloc (Obj.cells #[.int .i64 1, .int .i64 key, .int .i64 value] 36)) _ _ _) at O
  have ZO : Hid ((w1.alloc (Obj.cells #[.int .i64 1, .int .i64 key, .int .i64 value] 36)).heap.size = w1.heap.size + 1) := World.size_alloc _ _
  replace HB := Lib.hid (bcall HB.out hb2)
  replace T := Lib.hid (T.out.below hb2)
  clear hb2
  rw [ZT.out] at O ZO
  clear ZT
  generalize w1.alloc (Obj.cells #[.int .i64 1, .int .i64 key, .int .i64 value] 36) = w2 at *
  have O_c0 : w2.cell? ⟨(w.heap.size + 1), 0, none⟩ = some (.int .i64 1) := O.out.cell 0
  have O_c1 : w2.cell? ⟨(w.heap.size + 1), 1, none⟩ = some (.int .i64 key) := O.out.cell 1
  have O_c2 : w2.cell? ⟨(w.heap.size + 1), 2, none⟩ = some (.int .i64 value) := O.out.cell 2
  have O_z : (w.heap.size + 1) < w2.heap.size := O.out.lt
  have hb3 := balloc (Below.refl _ w2) (Obj.cells #[.int .i64 0, .int .i64 0, .int .i64 0, .int .i64 0, .int .i64 0, .int .i64 0, .int .i64 0, .int .i64 0, .int .i64 0, .int .i64 0, .int .i64 0, .int .i64 0, .int .i64 0, .int .i64 0, .int .i64 0, .int .i64 0] 27)
  have R := Lib.hid (Blk.new w2 [.int .i64 0, .int .i64 0, .int .i64 0, .int .i64 0, .int .i64 0, .int .i64 0, .int .i64 0, .int .i64 0, .int .i64 0, .int .i64 0, .int .i64 0, .int .i64 0, .int .i64 0, .int .i64 0, .int .i64 0, .int .i64 0] 27)
  change Hid (Blk (w2.alloc (Obj.cells #[.int .i64 0, .int .i64 0, .int .i64 0, .int .i64 0, .int .i64 0, .int .i64 0, .int .i64 0, .int .i64 0, .int .i64 0, .int .i64 0, .int .i64 0, .int .i64 0, .int .i64 0, .int .i64 0, .int .i64 0, .int .i64 0] 27)) _ _ _) at R
  have ZR : Hid ((w2.alloc (Obj.cells #[.int .i64 0, .int .i64 0, .int .i64 0, .int .i64 0, .int .i64 0, .int .i64 0, .int .i64 0, .int .i64 0, .int .i64 0, .int .i64 0, .int .i64 0, .int .i64 0, .int .i64 0, .int .i64 0, .int .i64 0, .int .i64 0] 27)).heap.size = w2.heap.size + 1) := World.size_alloc _ _
  clear O_c0 O_c1 O_c2 O_z
  replace HB := Lib.hid (bcall HB.out hb3)
  replace T := Lib.hid (T.out.below hb3)
  replace O := Lib.hid (O.out.below hb3)
  clear hb3
  rw [ZO.out] at R ZR
  clear ZO
  generalize w2.alloc (Obj.cells #[.int .i64 0, .int .i64 0, .int .i64 0, .int .i64 0, .int .i64 0, .int .i64 0, .int .i64 0, .int .i64 0, .int .i64 0, .int .i64 0, .int .i64 0, .int .i64 0, .int .i64 0, .int .i64 0, .int .i64 0, .int .i64 0] 27) = w3 at *
  have O_c0 : w3.cell? ⟨(w.heap.size + 1), 0, none⟩ = some (.int .i64 1) := O.out.cell 0
  have O_c1 : w3.cell? ⟨(w.heap.size + 1), 1, none⟩ = some (.int .i64 key) := O.out.cell 1
  have O_c2 : w3.cell? ⟨(w.heap.size + 1), 2, none⟩ = some (.int .i64 value) := O.out.cell 2
  have O_z : (w.heap.size + 1) < w3.heap.size := O.out.lt
  have hb4 := balloc (Below.refl _ w3) (Obj.cells #[.int .i64 0, .int .i64 0] 31)
  have A := Lib.hid (Blk.new w3 [.int .i64 0, .int .i64 0] 31)
  change Hid (Blk (w3.alloc (Obj.cells #[.int .i64 0, .int .i64 0] 31)) _ _ _) at A
  have ZA : Hid ((w3.alloc (Obj.cells #[.int .i64 0, .int .i64 0] 31)).heap.size = w3.heap.size + 1) := World.size_alloc _ _
  clear O_c0 O_c1 O_c2 O_z
  replace HB := Lib.hid (bcall HB.out hb4)
  replace T := Lib.hid (T.out.below hb4)
  replace O := Lib.hid (O.out.below hb4)
  replace R := Lib.hid (R.out.below hb4)
  clear hb4
  rw [ZR.out] at A ZA
  clear ZR
  generalize w3.alloc (Obj.cells #[.int .i64 0, .int .i64 0] 31) = w4 at *
  have O_c0 : w4.cell? ⟨(w.heap.size + 1), 0, none⟩ = some (.int .i64 1) := O.out.cell 0
  have O_c1 : w4.cell? ⟨(w.heap.size + 1), 1, none⟩ = some (.int .i64 key) := O.out.cell 1
  have O_c2 : w4.cell? ⟨(w.heap.size + 1), 2, none⟩ = some (.int .i64 value) := O.out.cell 2
  have O_z : (w.heap.size + 1) < w4.heap.size := O.out.lt
  have c0 := HC0.out _ T.out
  have k1' : (0 : Int) ≤ key := by omega
  generalize tk t i = ky at *
  generalize tv t i = vl at *
  go_wp2_with fail
  refine (at_any key _ w.heap.size t ⟨HL.out, T.out⟩ k1' hk2).mono ?_
  rw [HA.out]
  rintro e w' ⟨rfl, rfl⟩
  go_wp2_with fail
  go_region_held3 (fun w' => w'.cell? ⟨w.heap.size, i * 2, none⟩ = some (.int .i64 ky) ∧ w'.cell? ⟨w.heap.size + 1, 1, none⟩ = some (.int .i64 key))
    (first | go_keep) (fail)
  clear c0
  clear O_c0 O_c1 O_c2 O_z
  replace HB := Lib.hid HB.out.drew
  replace T := Lib.hid (Blk.drew T.out)
  replace O := Lib.hid (Blk.drew O.out)
  replace R := Lib.hid (Blk.drew R.out)
  replace A := Lib.hid (Blk.drew A.out)
  generalize w4.drew = w5 at *
  have O_c0 : w5.cell? ⟨(w.heap.size + 1), 0, none⟩ = some (.int .i64 1) := O.out.cell 0
  have O_c1 : w5.cell? ⟨(w.heap.size + 1), 1, none⟩ = some (.int .i64 key) := O.out.cell 1
  have O_c2 : w5.cell? ⟨(w.heap.size + 1), 2, none⟩ = some (.int .i64 value) := O.out.cell 2
  have O_z : (w.heap.size + 1) < w5.heap.size := O.out.lt
  have g6 : decide (6 ≤ lenT t) = true := by simp [h6]
  have g6' : decide ((6 : Int) ≤ (lenT t : Int)) = true := by simp; omega
  clear h6
  go_wp2_with (refine wpList_load_part_g (by kernel_rfl) 27 _ rfl w.heap.size 0 16 rfl 27 (tcells t) _ T.out (by rw [HLT.out]; decide) Try.underlying27 rfl (by kernel_rfl) ?_; rw [HCT.out])
  refine (len_any t HL.out _).mono ?_
  rintro e w6 ⟨rfl, hb6⟩
  clear O_c0 O_c1 O_c2 O_z
  replace HB := Lib.hid (bcall HB.out hb6)
  replace T := Lib.hid (T.out.below hb6)
  replace O := Lib.hid (O.out.below hb6)
  replace R := Lib.hid (R.out.below hb6)
  replace A := Lib.hid (A.out.below hb6)
  clear hb6
  have O_c0 : w6.cell? ⟨(w.heap.size + 1), 0, none⟩ = some (.int .i64 1) := O.out.cell 0
  have O_c1 : w6.cell? ⟨(w.heap.size + 1), 1, none⟩ = some (.int .i64 key) := O.out.cell 1
  have O_c2 : w6.cell? ⟨(w.heap.size + 1), 2, none⟩ = some (.int .i64 value) := O.out.cell 2
  have O_z : (w.heap.size + 1) < w6.heap.size := O.out.lt
  go_wp2_with (first | (refine wpList_load_part rfl 27 _ rfl w.heap.size 0 16 rfl 27 (tcells t) _ T.out (by rw [HLT.out]; decide) Try.underlying27 rfl (by kernel_rfl) ?_; rw [HCT.out]) | (refine wpList_store_part rfl 27 _ _ rfl (w.heap.size + 1 + 1) 0 16 (tcells t) rfl rfl 27 _ R.out HLT.out (by decide) (by kernel_rfl) HONE.out ?_; rw [spl_z16 _ HLT.out]; have aa0 := (A.out.otherBlk (tcells t) (show w.heap.size + 1 + 1 + 1 ≠ w.heap.size + 1 + 1 by omega)).cell 0; have aa1 := (A.out.otherBlk (tcells t) (show w.heap.size + 1 + 1 + 1 ≠ w.heap.size + 1 + 1 by omega)).cell 1; have af0 := (A.out.otherBlk (tcells t) (show w.heap.size + 1 + 1 + 1 ≠ w.heap.size + 1 + 1 by omega)).frozen 0; have af1 := (A.out.otherBlk (tcells t) (show w.heap.size + 1 + 1 + 1 ≠ w.heap.size + 1 + 1 by omega)).frozen 1))
  have hR2 : Blk (((setBlk w6 (w.heap.size + 1 + 1) (tcells t)).setCell ⟨w.heap.size + 1 + 1 + 1, 0, none⟩ (.int .i64 3)).setCell ⟨w.heap.size + 1 + 1 + 1, 1, none⟩ (.int .i64 0)) (w.heap.size + 1 + 1) (tcells t) 27 :=
    ((R.out.setBlk _).other _ (by show w.heap.size + 1 + 1 ≠ w.heap.size + 1 + 1 + 1; omega)).other _ (by show w.heap.size + 1 + 1 ≠ w.heap.size + 1 + 1 + 1; omega)
  have hA2 : Blk (((setBlk w6 (w.heap.size + 1 + 1) (tcells t)).setCell ⟨w.heap.size + 1 + 1 + 1, 0, none⟩ (.int .i64 3)).setCell ⟨w.heap.size + 1 + 1 + 1, 1, none⟩ (.int .i64 0)) (w.heap.size + 1 + 1 + 1) [.int .i64 3, .int .i64 0] 31 :=
    Blk.pair (A.out.otherBlk _ (by omega))
  have hB2 : Below w.heap.size w (((setBlk w6 (w.heap.size + 1 + 1) (tcells t)).setCell ⟨w.heap.size + 1 + 1 + 1, 0, none⟩ (.int .i64 3)).setCell ⟨w.heap.size + 1 + 1 + 1, 1, none⟩ (.int .i64 0)) :=
    bstore (bstore (bsetBlk HB.out (by omega) _) (by show w.heap.size ≤ w.heap.size + 1 + 1 + 1; omega) _) (by show w.heap.size ≤ w.heap.size + 1 + 1 + 1; omega) _
  refine bodyPost_ret (v := .tuple #[.agg (tcells t).toArray, .agg #[.int .i64 3, .int .i64 0]]) (results2_cells _ _ _ _ rfl (w.heap.size + 1 + 1) (w.heap.size + 1 + 1 + 1) (tcells t) [.int .i64 3, .int .i64 0] 27 31 _ _ rfl rfl hR2 hA2 Try.underlying27 rfl (by rw [HLT.out]; kernel_rfl) Try.underlying31 rfl (by kernel_rfl)) rfl ⟨?_, hB2⟩
  rw [HD.out]
set_option maxHeartbeats 2000000 in
theorem do_putnew (w : World) (t : List Int) (g : Good t) (what key value : Int) (hw : what = 1) (hk1 : 1 ≤ key) (hk2 : key ≤ 1000) (ht : thereB t key = false) (h6 : lenT t ≤ 5) :
    Calls Try.prog 23 #[.agg (tcells t).toArray, .agg #[.int .i64 what, .int .i64 key, .int .i64 value]] w fun e w' => e = .returned (.tuple #[.agg (tcells (doT t what key value).1).toArray, .agg #[.int .i64 (doT t what key value).2.1, .int .i64 (doT t what key value).2.2]]) ∧ Below w.heap.size w w' := by
  subst hw
  obtain ⟨i, hi8, ha, ho, -⟩ := g.at key
  have hT0 : thereB t key = (tk t i == key) := by simp [thereB, ha]
  have bt : (tk t i == key) = false := by rw [← hT0]; exact ht
  have hai : (atI t key).toNat = i := by rw [ha]; rfl
  have hd : doT t 1 key value = (setS t i key value, 1, 0) := by unfold doT; rw [if_neg (by decide), if_neg (by omega), if_pos rfl, if_neg (fun x => by omega), hai]
  have HD := Lib.hid hd
  clear hd
  have HC0 : ∀ w' : World, Blk w' w.heap.size (tcells t) 27 → w'.cell? ⟨w.heap.size, i * 2, none⟩ = some (.int .i64 (tk t i)) := fun w' h => (show TabAt w' w.heap.size t from ⟨g.len, h⟩).c0 i hi8
  have HC1 : ∀ w' : World, Blk w' w.heap.size (tcells t) 27 → w'.cell? ⟨w.heap.size, i * 2 + 1, none⟩ = some (.int .i64 (tv t i)) := fun w' h => (show TabAt w' w.heap.size t from ⟨g.len, h⟩).c1 i hi8
  replace HC0 := Lib.hid HC0
  replace HC1 := Lib.hid HC1
  have HA := Lib.hid ha
  have k1 : decide (key < 1) = false := by simp; omega
  have k2 : decide (1000 < key) = false := by simp; omega
  have i0 : (0 : Int) ≤ (i : Int) := Int.natCast_nonneg _
  have i8 : (i : Int) < 8 := by omega
  clear ha ho hT0 ht hai
  have HL := Lib.hid g.len
  have HB := Lib.hid (Below.refl w.heap.size w)
  have HONE := Lib.hid (tcells_one t)
  have HLT : Hid ((tcells t).length = 16) := Lib.hid (by rw [tcells_len]; exact g.len)
  have HCT := Lib.hid (tcells_take t g.len)
  have HG := Lib.hid g
  clear g
  go_enter Try.func23, Try.ntmps23
  go_upto_region 1 with fail
  have hb1 := balloc (Below.refl _ w) (Obj.cells (tcells t).toArray 27)
  have T := Lib.hid (Blk.new w (tcells t) 27)
  change Hid (Blk (w.alloc (Obj.cells (tcells t).toArray 27)) _ _ _) at T
  have ZT : Hid ((w.alloc (Obj.cells (tcells t).toArray 27)).heap.size = w.heap.size + 1) := World.size_alloc _ _
  replace HB := Lib.hid (bcall HB.out hb1)
  clear hb1
  generalize w.alloc (Obj.cells (tcells t).toArray 27) = w1 at *
  have hb2 := balloc (Below.refl _ w1) (Obj.cells #[.int .i64 1, .int .i64 key, .int .i64 value] 36)
  have O := Lib.hid (Blk.new w1 [.int .i64 1, .int .i64 key, .int .i64 value] 36)
  change Hid (Blk (w1.alloc (Obj.cells #[.int .i64 1, .int .i64 key, .int .i64 value] 36)) _ _ _) at O
  have ZO : Hid ((w1.alloc (Obj.cells #[.int .i64 1, .int .i64 key, .int .i64 value] 36)).heap.size = w1.heap.size + 1) := World.size_alloc _ _
  replace HB := Lib.hid (bcall HB.out hb2)
  replace T := Lib.hid (T.out.below hb2)
  clear hb2
  rw [ZT.out] at O ZO
  clear ZT
  generalize w1.alloc (Obj.cells #[.int .i64 1, .int .i64 key, .int .i64 value] 36) = w2 at *
  have O_c0 : w2.cell? ⟨(w.heap.size + 1), 0, none⟩ = some (.int .i64 1) := O.out.cell 0
  have O_c1 : w2.cell? ⟨(w.heap.size + 1), 1, none⟩ = some (.int .i64 key) := O.out.cell 1
  have O_c2 : w2.cell? ⟨(w.heap.size + 1), 2, none⟩ = some (.int .i64 value) := O.out.cell 2
  have O_z : (w.heap.size + 1) < w2.heap.size := O.out.lt
  have hb3 := balloc (Below.refl _ w2) (Obj.cells #[.int .i64 0, .int .i64 0, .int .i64 0, .int .i64 0, .int .i64 0, .int .i64 0, .int .i64 0, .int .i64 0, .int .i64 0, .int .i64 0, .int .i64 0, .int .i64 0, .int .i64 0, .int .i64 0, .int .i64 0, .int .i64 0] 27)
  have R := Lib.hid (Blk.new w2 [.int .i64 0, .int .i64 0, .int .i64 0, .int .i64 0, .int .i64 0, .int .i64 0, .int .i64 0, .int .i64 0, .int .i64 0, .int .i64 0, .int .i64 0, .int .i64 0, .int .i64 0, .int .i64 0, .int .i64 0, .int .i64 0] 27)
  change Hid (Blk (w2.alloc (Obj.cells #[.int .i64 0, .int .i64 0, .int .i64 0, .int .i64 0, .int .i64 0, .int .i64 0, .int .i64 0, .int .i64 0, .int .i64 0, .int .i64 0, .int .i64 0, .int .i64 0, .int .i64 0, .int .i64 0, .int .i64 0, .int .i64 0] 27)) _ _ _) at R
  have ZR : Hid ((w2.alloc (Obj.cells #[.int .i64 0, .int .i64 0, .int .i64 0, .int .i64 0, .int .i64 0, .int .i64 0, .int .i64 0, .int .i64 0, .int .i64 0, .int .i64 0, .int .i64 0, .int .i64 0, .int .i64 0, .int .i64 0, .int .i64 0, .int .i64 0] 27)).heap.size = w2.heap.size + 1) := World.size_alloc _ _
  clear O_c0 O_c1 O_c2 O_z
  replace HB := Lib.hid (bcall HB.out hb3)
  replace T := Lib.hid (T.out.below hb3)
  replace O := Lib.hid (O.out.below hb3)
  clear hb3
  rw [ZO.out] at R ZR
  clear ZO
  generalize w2.alloc (Obj.cells #[.int .i64 0, .int .i64 0, .int .i64 0, .int .i64 0, .int .i64 0, .int .i64 0, .int .i64 0, .int .i64 0, .int .i64 0, .int .i64 0, .int .i64 0, .int .i64 0, .int .i64 0, .int .i64 0, .int .i64 0, .int .i64 0] 27) = w3 at *
  have O_c0 : w3.cell? ⟨(w.heap.size + 1), 0, none⟩ = some (.int .i64 1) := O.out.cell 0
  have O_c1 : w3.cell? ⟨(w.heap.size + 1), 1, none⟩ = some (.int .i64 key) := O.out.cell 1
  have O_c2 : w3.cell? ⟨(w.heap.size + 1), 2, none⟩ = some (.int .i64 value) := O.out.cell 2
  have O_z : (w.heap.size + 1) < w3.heap.size := O.out.lt
  have hb4 := balloc (Below.refl _ w3) (Obj.cells #[.int .i64 0, .int .i64 0] 31)
  have A := Lib.hid (Blk.new w3 [.int .i64 0, .int .i64 0] 31)
  change Hid (Blk (w3.alloc (Obj.cells #[.int .i64 0, .int .i64 0] 31)) _ _ _) at A
  have ZA : Hid ((w3.alloc (Obj.cells #[.int .i64 0, .int .i64 0] 31)).heap.size = w3.heap.size + 1) := World.size_alloc _ _
  clear O_c0 O_c1 O_c2 O_z
  replace HB := Lib.hid (bcall HB.out hb4)
  replace T := Lib.hid (T.out.below hb4)
  replace O := Lib.hid (O.out.below hb4)
  replace R := Lib.hid (R.out.below hb4)
  clear hb4
  rw [ZR.out] at A ZA
  clear ZR
  generalize w3.alloc (Obj.cells #[.int .i64 0, .int .i64 0] 31) = w4 at *
  have O_c0 : w4.cell? ⟨(w.heap.size + 1), 0, none⟩ = some (.int .i64 1) := O.out.cell 0
  have O_c1 : w4.cell? ⟨(w.heap.size + 1), 1, none⟩ = some (.int .i64 key) := O.out.cell 1
  have O_c2 : w4.cell? ⟨(w.heap.size + 1), 2, none⟩ = some (.int .i64 value) := O.out.cell 2
  have O_z : (w.heap.size + 1) < w4.heap.size := O.out.lt
  have c0 := HC0.out _ T.out
  have k1' : (0 : Int) ≤ key := by omega
  generalize tk t i = ky at *
  generalize tv t i = vl at *
  go_wp2_with fail
  refine (at_any key _ w.heap.size t ⟨HL.out, T.out⟩ k1' hk2).mono ?_
  rw [HA.out]
  rintro e w' ⟨rfl, rfl⟩
  go_wp2_with fail
  go_region_held3 (fun w' => w'.cell? ⟨w.heap.size, i * 2, none⟩ = some (.int .i64 ky) ∧ w'.cell? ⟨w.heap.size + 1, 1, none⟩ = some (.int .i64 key))
    (first | go_keep) (fail)
  clear c0
  clear O_c0 O_c1 O_c2 O_z
  replace HB := Lib.hid HB.out.drew
  replace T := Lib.hid (Blk.drew T.out)
  replace O := Lib.hid (Blk.drew O.out)
  replace R := Lib.hid (Blk.drew R.out)
  replace A := Lib.hid (Blk.drew A.out)
  generalize w4.drew = w5 at *
  have O_c0 : w5.cell? ⟨(w.heap.size + 1), 0, none⟩ = some (.int .i64 1) := O.out.cell 0
  have O_c1 : w5.cell? ⟨(w.heap.size + 1), 1, none⟩ = some (.int .i64 key) := O.out.cell 1
  have O_c2 : w5.cell? ⟨(w.heap.size + 1), 2, none⟩ = some (.int .i64 value) := O.out.cell 2
  have O_z : (w.heap.size + 1) < w5.heap.size := O.out.lt
  have g6 : decide (6 ≤ lenT t) = false := by simp; omega
  have g6' : decide ((6 : Int) ≤ (lenT t : Int)) = false := by simp; omega
  clear h6
  go_wp2_with (refine wpList_load_part_g (by kernel_rfl) 27 _ rfl w.heap.size 0 16 rfl 27 (tcells t) _ T.out (by rw [HLT.out]; decide) Try.underlying27 rfl (by kernel_rfl) ?_; rw [HCT.out])
  refine (len_any t HL.out _).mono ?_
  rintro e w6 ⟨rfl, hb6⟩
  clear O_c0 O_c1 O_c2 O_z
  replace HB := Lib.hid (bcall HB.out hb6)
  replace T := Lib.hid (T.out.below hb6)
  replace O := Lib.hid (O.out.below hb6)
  replace R := Lib.hid (R.out.below hb6)
  replace A := Lib.hid (A.out.below hb6)
  clear hb6
  have O_c0 : w6.cell? ⟨(w.heap.size + 1), 0, none⟩ = some (.int .i64 1) := O.out.cell 0
  have O_c1 : w6.cell? ⟨(w.heap.size + 1), 1, none⟩ = some (.int .i64 key) := O.out.cell 1
  have O_c2 : w6.cell? ⟨(w.heap.size + 1), 2, none⟩ = some (.int .i64 value) := O.out.cell 2
  have O_z : (w.heap.size + 1) < w6.heap.size := O.out.lt
  have TT : Hid (Blk ((w6.setCell ⟨w.heap.size, i * 2, none⟩ (.int .i64 key)).setCell ⟨w.heap.size, i * 2 + 1, none⟩ (.int .i64 value)) w.heap.size (tcells (setS t i key value)) 27) := Lib.hid ((show TabAt w6 w.heap.size t from ⟨HL.out, T.out⟩).put i key value).2
  have RR : Hid (Blk ((w6.setCell ⟨w.heap.size, i * 2, none⟩ (.int .i64 key)).setCell ⟨w.heap.size, i * 2 + 1, none⟩ (.int .i64 value)) (w.heap.size + 1 + 1) _ 27) := Lib.hid ((R.out.other (p := ⟨w.heap.size, i * 2, none⟩) (.int .i64 key) (by show w.heap.size + 1 + 1 ≠ w.heap.size; omega)).other (p := ⟨w.heap.size, i * 2 + 1, none⟩) (.int .i64 value) (by show w.heap.size + 1 + 1 ≠ w.heap.size; omega))
  have AA : Hid (Blk ((w6.setCell ⟨w.heap.size, i * 2, none⟩ (.int .i64 key)).setCell ⟨w.heap.size, i * 2 + 1, none⟩ (.int .i64 value)) (w.heap.size + 1 + 1 + 1) _ 31) := Lib.hid ((A.out.other (p := ⟨w.heap.size, i * 2, none⟩) (.int .i64 key) (by show w.heap.size + 1 + 1 + 1 ≠ w.heap.size; omega)).other (p := ⟨w.heap.size, i * 2 + 1, none⟩) (.int .i64 value) (by show w.heap.size + 1 + 1 + 1 ≠ w.heap.size; omega))
  have BB : Hid (Below w.heap.size w ((w6.setCell ⟨w.heap.size, i * 2, none⟩ (.int .i64 key)).setCell ⟨w.heap.size, i * 2 + 1, none⟩ (.int .i64 value))) := Lib.hid (bstore (bstore HB.out (Nat.le_refl _) _) (Nat.le_refl _) _)
  have c0 := HC0.out _ T.out
  have c1 := HC1.out _ T.out
  have f0 := T.out.frozen (i * 2)
  have f1 := T.out.frozen (i * 2 + 1)
  have HLU : Hid ((tcells (setS t i key value)).length = 16) := Lib.hid (by rw [tcells_len, setS_len]; exact HL.out)
  have HCU := Lib.hid (tcells_take (setS t i key value) (by rw [setS_len]; exact HL.out))
  have HOU := Lib.hid (tcells_one (setS t i key value))
  generalize hu : setS t i key value = u at *
  clear hu
  clear T R A HB
  have R := RR
  have A := AA
  have HB := BB
  clear RR AA BB
  go_wp2_with (first | (refine wpList_load_part rfl 27 _ rfl w.heap.size 0 16 rfl 27 (tcells u) _ TT.out (by rw [HLU.out]; decide) Try.underlying27 rfl (by kernel_rfl) ?_; rw [HCU.out]) | (refine wpList_store_part rfl 27 _ _ rfl (w.heap.size + 1 + 1) 0 16 (tcells u) rfl rfl 27 _ R.out HLU.out (by decide) (by kernel_rfl) HOU.out ?_; rw [spl_z16 _ HLU.out]; have aa0 := (A.out.otherBlk (tcells u) (show w.heap.size + 1 + 1 + 1 ≠ w.heap.size + 1 + 1 by omega)).cell 0; have aa1 := (A.out.otherBlk (tcells u) (show w.heap.size + 1 + 1 + 1 ≠ w.heap.size + 1 + 1 by omega)).cell 1; have af0 := (A.out.otherBlk (tcells u) (show w.heap.size + 1 + 1 + 1 ≠ w.heap.size + 1 + 1 by omega)).frozen 0; have af1 := (A.out.otherBlk (tcells u) (show w.heap.size + 1 + 1 + 1 ≠ w.heap.size + 1 + 1 by omega)).frozen 1))
  have hR2 : Blk (((setBlk ((w6.setCell ⟨w.heap.size, i * 2, none⟩ (.int .i64 key)).setCell ⟨w.heap.size, i * 2 + 1, none⟩ (.int .i64 value)) (w.heap.size + 1 + 1) (tcells u)).setCell ⟨w.heap.size + 1 + 1 + 1, 0, none⟩ (.int .i64 1)).setCell ⟨w.heap.size + 1 + 1 + 1, 1, none⟩ (.int .i64 0)) (w.heap.size + 1 + 1) (tcells u) 27 :=
    ((R.out.setBlk _).other _ (by show w.heap.size + 1 + 1 ≠ w.heap.size + 1 + 1 + 1; omega)).other _ (by show w.heap.size + 1 + 1 ≠ w.heap.size + 1 + 1 + 1; omega)
  have hA2 : Blk (((setBlk ((w6.setCell ⟨w.heap.size, i * 2, none⟩ (.int .i64 key)).setCell ⟨w.heap.size, i * 2 + 1, none⟩ (.int .i64 value)) (w.heap.size + 1 + 1) (tcells u)).setCell ⟨w.heap.size + 1 + 1 + 1, 0, none⟩ (.int .i64 1)).setCell ⟨w.heap.size + 1 + 1 + 1, 1, none⟩ (.int .i64 0)) (w.heap.size + 1 + 1 + 1) [.int .i64 1, .int .i64 0] 31 :=
    Blk.pair (A.out.otherBlk _ (by omega))
  have hB2 : Below w.heap.size w (((setBlk ((w6.setCell ⟨w.heap.size, i * 2, none⟩ (.int .i64 key)).setCell ⟨w.heap.size, i * 2 + 1, none⟩ (.int .i64 value)) (w.heap.size + 1 + 1) (tcells u)).setCell ⟨w.heap.size + 1 + 1 + 1, 0, none⟩ (.int .i64 1)).setCell ⟨w.heap.size + 1 + 1 + 1, 1, none⟩ (.int .i64 0)) :=
    bstore (bstore (bsetBlk HB.out (by omega) _) (by show w.heap.size ≤ w.heap.size + 1 + 1 + 1; omega) _) (by show w.heap.size ≤ w.heap.size + 1 + 1 + 1; omega) _
  refine bodyPost_ret (v := .tuple #[.agg (tcells u).toArray, .agg #[.int .i64 1, .int .i64 0]]) (results2_cells _ _ _ _ rfl (w.heap.size + 1 + 1) (w.heap.size + 1 + 1 + 1) (tcells u) [.int .i64 1, .int .i64 0] 27 31 _ _ rfl rfl hR2 hA2 Try.underlying27 rfl (by rw [HLU.out]; kernel_rfl) Try.underlying31 rfl (by kernel_rfl)) rfl ⟨?_, hB2⟩
  rw [HD.out]
set_option maxHeartbeats 2000000 in
theorem do_putold (w : World) (t : List Int) (g : Good t) (what key value : Int) (hw : what = 1) (hk1 : 1 ≤ key) (hk2 : key ≤ 1000) (ht : thereB t key = true) :
    Calls Try.prog 23 #[.agg (tcells t).toArray, .agg #[.int .i64 what, .int .i64 key, .int .i64 value]] w fun e w' => e = .returned (.tuple #[.agg (tcells (doT t what key value).1).toArray, .agg #[.int .i64 (doT t what key value).2.1, .int .i64 (doT t what key value).2.2]]) ∧ Below w.heap.size w w' := by
  subst hw
  obtain ⟨i, hi8, ha, ho, -⟩ := g.at key
  have hT0 : thereB t key = (tk t i == key) := by simp [thereB, ha]
  have bt : (tk t i == key) = true := by rw [← hT0]; exact ht
  have hai : (atI t key).toNat = i := by rw [ha]; rfl
  have hd : doT t 1 key value = (setS t i key value, 1, 0) := by unfold doT; rw [if_neg (by decide), if_neg (by omega), if_pos rfl, if_neg (fun x => by rw [ht] at x; exact absurd x.1 (by decide)), hai]
  have HD := Lib.hid hd
  clear hd
  have HC0 : ∀ w' : World, Blk w' w.heap.size (tcells t) 27 → w'.cell? ⟨w.heap.size, i * 2, none⟩ = some (.int .i64 (tk t i)) := fun w' h => (show TabAt w' w.heap.size t from ⟨g.len, h⟩).c0 i hi8
  have HC1 : ∀ w' : World, Blk w' w.heap.size (tcells t) 27 → w'.cell? ⟨w.heap.size, i * 2 + 1, none⟩ = some (.int .i64 (tv t i)) := fun w' h => (show TabAt w' w.heap.size t from ⟨g.len, h⟩).c1 i hi8
  replace HC0 := Lib.hid HC0
  replace HC1 := Lib.hid HC1
  have HA := Lib.hid ha
  have k1 : decide (key < 1) = false := by simp; omega
  have k2 : decide (1000 < key) = false := by simp; omega
  have i0 : (0 : Int) ≤ (i : Int) := Int.natCast_nonneg _
  have i8 : (i : Int) < 8 := by omega
  clear ha ho hT0 ht hai
  have HL := Lib.hid g.len
  have HB := Lib.hid (Below.refl w.heap.size w)
  have HONE := Lib.hid (tcells_one t)
  have HLT : Hid ((tcells t).length = 16) := Lib.hid (by rw [tcells_len]; exact g.len)
  have HCT := Lib.hid (tcells_take t g.len)
  have HG := Lib.hid g
  clear g
  go_enter Try.func23, Try.ntmps23
  go_upto_region 1 with fail
  have hb1 := balloc (Below.refl _ w) (Obj.cells (tcells t).toArray 27)
  have T := Lib.hid (Blk.new w (tcells t) 27)
  change Hid (Blk (w.alloc (Obj.cells (tcells t).toArray 27)) _ _ _) at T
  have ZT : Hid ((w.alloc (Obj.cells (tcells t).toArray 27)).heap.size = w.heap.size + 1) := World.size_alloc _ _
  replace HB := Lib.hid (bcall HB.out hb1)
  clear hb1
  generalize w.alloc (Obj.cells (tcells t).toArray 27) = w1 at *
  have hb2 := balloc (Below.refl _ w1) (Obj.cells #[.int .i64 1, .int .i64 key, .int .i64 value] 36)
  have O := Lib.hid (Blk.new w1 [.int .i64 1, .int .i64 key, .int .i64 value] 36)
  change Hid (Blk (w1.alloc (Obj.cells #[.int .i64 1, .int .i64 key, .int .i64 value] 36)) _ _ _) at O
  have ZO : Hid ((w1.alloc (Obj.cells #[.int .i64 1, .int .i64 key, .int .i64 value] 36)).heap.size = w1.heap.size + 1) := World.size_alloc _ _
  replace HB := Lib.hid (bcall HB.out hb2)
  replace T := Lib.hid (T.out.below hb2)
  clear hb2
  rw [ZT.out] at O ZO
  clear ZT
  generalize w1.alloc (Obj.cells #[.int .i64 1, .int .i64 key, .int .i64 value] 36) = w2 at *
  have O_c0 : w2.cell? ⟨(w.heap.size + 1), 0, none⟩ = some (.int .i64 1) := O.out.cell 0
  have O_c1 : w2.cell? ⟨(w.heap.size + 1), 1, none⟩ = some (.int .i64 key) := O.out.cell 1
  have O_c2 : w2.cell? ⟨(w.heap.size + 1), 2, none⟩ = some (.int .i64 value) := O.out.cell 2
  have O_z : (w.heap.size + 1) < w2.heap.size := O.out.lt
  have hb3 := balloc (Below.refl _ w2) (Obj.cells #[.int .i64 0, .int .i64 0, .int .i64 0, .int .i64 0, .int .i64 0, .int .i64 0, .int .i64 0, .int .i64 0, .int .i64 0, .int .i64 0, .int .i64 0, .int .i64 0, .int .i64 0, .int .i64 0, .int .i64 0, .int .i64 0] 27)
  have R := Lib.hid (Blk.new w2 [.int .i64 0, .int .i64 0, .int .i64 0, .int .i64 0, .int .i64 0, .int .i64 0, .int .i64 0, .int .i64 0, .int .i64 0, .int .i64 0, .int .i64 0, .int .i64 0, .int .i64 0, .int .i64 0, .int .i64 0, .int .i64 0] 27)
  change Hid (Blk (w2.alloc (Obj.cells #[.int .i64 0, .int .i64 0, .int .i64 0, .int .i64 0, .int .i64 0, .int .i64 0, .int .i64 0, .int .i64 0, .int .i64 0, .int .i64 0, .int .i64 0, .int .i64 0, .int .i64 0, .int .i64 0, .int .i64 0, .int .i64 0] 27)) _ _ _) at R
  have ZR : Hid ((w2.alloc (Obj.cells #[.int .i64 0, .int .i64 0, .int .i64 0, .int .i64 0, .int .i64 0, .int .i64 0, .int .i64 0, .int .i64 0, .int .i64 0, .int .i64 0, .int .i64 0, .int .i64 0, .int .i64 0, .int .i64 0, .int .i64 0, .int .i64 0] 27)).heap.size = w2.heap.size + 1) := World.size_alloc _ _
  clear O_c0 O_c1 O_c2 O_z
  replace HB := Lib.hid (bcall HB.out hb3)
  replace T := Lib.hid (T.out.below hb3)
  replace O := Lib.hid (O.out.below hb3)
  clear hb3
  rw [ZO.out] at R ZR
  clear ZO
  generalize w2.alloc (Obj.cells #[.int .i64 0, .int .i64 0, .int .i64 0, .int .i64 0, .int .i64 0, .int .i64 0, .int .i64 0, .int .i64 0, .int .i64 0, .int .i64 0, .int .i64 0, .int .i64 0, .int .i64 0, .int .i64 0, .int .i64 0, .int .i64 0] 27) = w3 at *
  have O_c0 : w3.cell? ⟨(w.heap.size + 1), 0, none⟩ = some (.int .i64 1) := O.out.cell 0
  have O_c1 : w3.cell? ⟨(w.heap.size + 1), 1, none⟩ = some (.int .i64 key) := O.out.cell 1
  have O_c2 : w3.cell? ⟨(w.heap.size + 1), 2, none⟩ = some (.int .i64 value) := O.out.cell 2
  have O_z : (w.heap.size + 1) < w3.heap.size := O.out.lt
  have hb4 := balloc (Below.refl _ w3) (Obj.cells #[.int .i64 0, .int .i64 0] 31)
  have A := Lib.hid (Blk.new w3 [.int .i64 0, .int .i64 0] 31)
  change Hid (Blk (w3.alloc (Obj.cells #[.int .i64 0, .int .i64 0] 31)) _ _ _) at A
  have ZA : Hid ((w3.alloc (Obj.cells #[.int .i64 0, .int .i64 0] 31)).heap.size = w3.heap.size + 1) := World.size_alloc _ _
  clear O_c0 O_c1 O_c2 O_z
  replace HB := Lib.hid (bcall HB.out hb4)
  replace T := Lib.hid (T.out.below hb4)
  replace O := Lib.hid (O.out.below hb4)
  replace R := Lib.hid (R.out.below hb4)
  clear hb4
  rw [ZR.out] at A ZA
  clear ZR
  generalize w3.alloc (Obj.cells #[.int .i64 0, .int .i64 0] 31) = w4 at *
  have O_c0 : w4.cell? ⟨(w.heap.size + 1), 0, none⟩ = some (.int .i64 1) := O.out.cell 0
  have O_c1 : w4.cell? ⟨(w.heap.size + 1), 1, none⟩ = some (.int .i64 key) := O.out.cell 1
  have O_c2 : w4.cell? ⟨(w.heap.size + 1), 2, none⟩ = some (.int .i64 value) := O.out.cell 2
  have O_z : (w.heap.size + 1) < w4.heap.size := O.out.lt
  have c0 := HC0.out _ T.out
  have k1' : (0 : Int) ≤ key := by omega
  generalize tk t i = ky at *
  generalize tv t i = vl at *
  go_wp2_with fail
  refine (at_any key _ w.heap.size t ⟨HL.out, T.out⟩ k1' hk2).mono ?_
  rw [HA.out]
  rintro e w' ⟨rfl, rfl⟩
  go_wp2_with fail
  go_region_held3 (fun w' => w'.cell? ⟨w.heap.size, i * 2, none⟩ = some (.int .i64 ky) ∧ w'.cell? ⟨w.heap.size + 1, 1, none⟩ = some (.int .i64 key))
    (first | go_keep) (fail)
  clear c0
  clear O_c0 O_c1 O_c2 O_z
  replace HB := Lib.hid HB.out.drew
  replace T := Lib.hid (Blk.drew T.out)
  replace O := Lib.hid (Blk.drew O.out)
  replace R := Lib.hid (Blk.drew R.out)
  replace A := Lib.hid (Blk.drew A.out)
  generalize w4.drew = w5 at *
  have O_c0 : w5.cell? ⟨(w.heap.size + 1), 0, none⟩ = some (.int .i64 1) := O.out.cell 0
  have O_c1 : w5.cell? ⟨(w.heap.size + 1), 1, none⟩ = some (.int .i64 key) := O.out.cell 1
  have O_c2 : w5.cell? ⟨(w.heap.size + 1), 2, none⟩ = some (.int .i64 value) := O.out.cell 2
  have O_z : (w.heap.size + 1) < w5.heap.size := O.out.lt
  have TT : Hid (Blk ((w5.setCell ⟨w.heap.size, i * 2, none⟩ (.int .i64 key)).setCell ⟨w.heap.size, i * 2 + 1, none⟩ (.int .i64 value)) w.heap.size (tcells (setS t i key value)) 27) := Lib.hid ((show TabAt w5 w.heap.size t from ⟨HL.out, T.out⟩).put i key value).2
  have RR : Hid (Blk ((w5.setCell ⟨w.heap.size, i * 2, none⟩ (.int .i64 key)).setCell ⟨w.heap.size, i * 2 + 1, none⟩ (.int .i64 value)) (w.heap.size + 1 + 1) _ 27) := Lib.hid ((R.out.other (p := ⟨w.heap.size, i * 2, none⟩) (.int .i64 key) (by show w.heap.size + 1 + 1 ≠ w.heap.size; omega)).other (p := ⟨w.heap.size, i * 2 + 1, none⟩) (.int .i64 value) (by show w.heap.size + 1 + 1 ≠ w.heap.size; omega))
  have AA : Hid (Blk ((w5.setCell ⟨w.heap.size, i * 2, none⟩ (.int .i64 key)).setCell ⟨w.heap.size, i * 2 + 1, none⟩ (.int .i64 value)) (w.heap.size + 1 + 1 + 1) _ 31) := Lib.hid ((A.out.other (p := ⟨w.heap.size, i * 2, none⟩) (.int .i64 key) (by show w.heap.size + 1 + 1 + 1 ≠ w.heap.size; omega)).other (p := ⟨w.heap.size, i * 2 + 1, none⟩) (.int .i64 value) (by show w.heap.size + 1 + 1 + 1 ≠ w.heap.size; omega))
  have BB : Hid (Below w.heap.size w ((w5.setCell ⟨w.heap.size, i * 2, none⟩ (.int .i64 key)).setCell ⟨w.heap.size, i * 2 + 1, none⟩ (.int .i64 value))) := Lib.hid (bstore (bstore HB.out (Nat.le_refl _) _) (Nat.le_refl _) _)
  have c0 := HC0.out _ T.out
  have c1 := HC1.out _ T.out
  have f0 := T.out.frozen (i * 2)
  have f1 := T.out.frozen (i * 2 + 1)
  have HLU : Hid ((tcells (setS t i key value)).length = 16) := Lib.hid (by rw [tcells_len, setS_len]; exact HL.out)
  have HCU := Lib.hid (tcells_take (setS t i key value) (by rw [setS_len]; exact HL.out))
  have HOU := Lib.hid (tcells_one (setS t i key value))
  generalize hu : setS t i key value = u at *
  clear hu
  clear T R A HB
  have R := RR
  have A := AA
  have HB := BB
  clear RR AA BB
  go_wp2_with (first | (refine wpList_load_part rfl 27 _ rfl w.heap.size 0 16 rfl 27 (tcells u) _ TT.out (by rw [HLU.out]; decide) Try.underlying27 rfl (by kernel_rfl) ?_; rw [HCU.out]) | (refine wpList_store_part rfl 27 _ _ rfl (w.heap.size + 1 + 1) 0 16 (tcells u) rfl rfl 27 _ R.out HLU.out (by decide) (by kernel_rfl) HOU.out ?_; rw [spl_z16 _ HLU.out]; have aa0 := (A.out.otherBlk (tcells u) (show w.heap.size + 1 + 1 + 1 ≠ w.heap.size + 1 + 1 by omega)).cell 0; have aa1 := (A.out.otherBlk (tcells u) (show w.heap.size + 1 + 1 + 1 ≠ w.heap.size + 1 + 1 by omega)).cell 1; have af0 := (A.out.otherBlk (tcells u) (show w.heap.size + 1 + 1 + 1 ≠ w.heap.size + 1 + 1 by omega)).frozen 0; have af1 := (A.out.otherBlk (tcells u) (show w.heap.size + 1 + 1 + 1 ≠ w.heap.size + 1 + 1 by omega)).frozen 1))
  have hR2 : Blk (((setBlk ((w5.setCell ⟨w.heap.size, i * 2, none⟩ (.int .i64 key)).setCell ⟨w.heap.size, i * 2 + 1, none⟩ (.int .i64 value)) (w.heap.size + 1 + 1) (tcells u)).setCell ⟨w.heap.size + 1 + 1 + 1, 0, none⟩ (.int .i64 1)).setCell ⟨w.heap.size + 1 + 1 + 1, 1, none⟩ (.int .i64 0)) (w.heap.size + 1 + 1) (tcells u) 27 :=
    ((R.out.setBlk _).other _ (by show w.heap.size + 1 + 1 ≠ w.heap.size + 1 + 1 + 1; omega)).other _ (by show w.heap.size + 1 + 1 ≠ w.heap.size + 1 + 1 + 1; omega)
  have hA2 : Blk (((setBlk ((w5.setCell ⟨w.heap.size, i * 2, none⟩ (.int .i64 key)).setCell ⟨w.heap.size, i * 2 + 1, none⟩ (.int .i64 value)) (w.heap.size + 1 + 1) (tcells u)).setCell ⟨w.heap.size + 1 + 1 + 1, 0, none⟩ (.int .i64 1)).setCell ⟨w.heap.size + 1 + 1 + 1, 1, none⟩ (.int .i64 0)) (w.heap.size + 1 + 1 + 1) [.int .i64 1, .int .i64 0] 31 :=
    Blk.pair (A.out.otherBlk _ (by omega))
  have hB2 : Below w.heap.size w (((setBlk ((w5.setCell ⟨w.heap.size, i * 2, none⟩ (.int .i64 key)).setCell ⟨w.heap.size, i * 2 + 1, none⟩ (.int .i64 value)) (w.heap.size + 1 + 1) (tcells u)).setCell ⟨w.heap.size + 1 + 1 + 1, 0, none⟩ (.int .i64 1)).setCell ⟨w.heap.size + 1 + 1 + 1, 1, none⟩ (.int .i64 0)) :=
    bstore (bstore (bsetBlk HB.out (by omega) _) (by show w.heap.size ≤ w.heap.size + 1 + 1 + 1; omega) _) (by show w.heap.size ≤ w.heap.size + 1 + 1 + 1; omega) _
  refine bodyPost_ret (v := .tuple #[.agg (tcells u).toArray, .agg #[.int .i64 1, .int .i64 0]]) (results2_cells _ _ _ _ rfl (w.heap.size + 1 + 1) (w.heap.size + 1 + 1 + 1) (tcells u) [.int .i64 1, .int .i64 0] 27 31 _ _ rfl rfl hR2 hA2 Try.underlying27 rfl (by rw [HLU.out]; kernel_rfl) Try.underlying31 rfl (by kernel_rfl)) rfl ⟨?_, hB2⟩
  rw [HD.out]
set_option maxHeartbeats 2000000 in
theorem do_take (w : World) (t : List Int) (g : Good t) (what key value : Int) (hw : what = 2) (hk1 : 1 ≤ key) (hk2 : key ≤ 1000) (ht : thereB t key = true) :
    Calls Try.prog 23 #[.agg (tcells t).toArray, .agg #[.int .i64 what, .int .i64 key, .int .i64 value]] w fun e w' => e = .returned (.tuple #[.agg (tcells (doT t what key value).1).toArray, .agg #[.int .i64 (doT t what key value).2.1, .int .i64 (doT t what key value).2.2]]) ∧ Below w.heap.size w w' := by
  subst hw
  obtain ⟨i, hi8, ha, ho, -⟩ := g.at key
  have hT0 : thereB t key = (tk t i == key) := by simp [thereB, ha]
  have bt : (tk t i == key) = true := by rw [← hT0]; exact ht
  have hai : (atI t key).toNat = i := by rw [ha]; rfl
  have h0 : tk t i ≠ 0 := by simp at bt; omega
  have HCL := Lib.hid (fun w => closed_any w t i g hi8 h0)
  have hlc := (closeF_good g i hi8 h0).len
  have HLU : Hid ((tcells (closeF t i)).length = 16) := Lib.hid (by rw [tcells_len]; exact hlc)
  have HCU := Lib.hid (tcells_take (closeF t i) hlc)
  have HOU := Lib.hid (tcells_one (closeF t i))
  clear h0 hlc
  have hd : doT t 2 key value = (closeF t i, 1, tv t i) := by unfold doT; rw [if_neg (by decide), if_neg (by omega), if_neg (by decide), ht, if_neg (by decide), if_pos rfl, hai]
  have HD := Lib.hid hd
  clear hd
  have HC0 : ∀ w' : World, Blk w' w.heap.size (tcells t) 27 → w'.cell? ⟨w.heap.size, i * 2, none⟩ = some (.int .i64 (tk t i)) := fun w' h => (show TabAt w' w.heap.size t from ⟨g.len, h⟩).c0 i hi8
  have HC1 : ∀ w' : World, Blk w' w.heap.size (tcells t) 27 → w'.cell? ⟨w.heap.size, i * 2 + 1, none⟩ = some (.int .i64 (tv t i)) := fun w' h => (show TabAt w' w.heap.size t from ⟨g.len, h⟩).c1 i hi8
  replace HC0 := Lib.hid HC0
  replace HC1 := Lib.hid HC1
  have HA := Lib.hid ha
  have k1 : decide (key < 1) = false := by simp; omega
  have k2 : decide (1000 < key) = false := by simp; omega
  have i0 : (0 : Int) ≤ (i : Int) := Int.natCast_nonneg _
  have i8 : (i : Int) < 8 := by omega
  clear ha ho hT0 ht hai
  have HL := Lib.hid g.len
  have HB := Lib.hid (Below.refl w.heap.size w)
  have HONE := Lib.hid (tcells_one t)
  have HLT : Hid ((tcells t).length = 16) := Lib.hid (by rw [tcells_len]; exact g.len)
  have HCT := Lib.hid (tcells_take t g.len)
  have HG := Lib.hid g
  clear g
  go_enter Try.func23, Try.ntmps23
  go_upto_region 1 with fail
  have hb1 := balloc (Below.refl _ w) (Obj.cells (tcells t).toArray 27)
  have T := Lib.hid (Blk.new w (tcells t) 27)
  change Hid (Blk (w.alloc (Obj.cells (tcells t).toArray 27)) _ _ _) at T
  have ZT : Hid ((w.alloc (Obj.cells (tcells t).toArray 27)).heap.size = w.heap.size + 1) := World.size_alloc _ _
  replace HB := Lib.hid (bcall HB.out hb1)
  clear hb1
  generalize w.alloc (Obj.cells (tcells t).toArray 27) = w1 at *
  have hb2 := balloc (Below.refl _ w1) (Obj.cells #[.int .i64 2, .int .i64 key, .int .i64 value] 36)
  have O := Lib.hid (Blk.new w1 [.int .i64 2, .int .i64 key, .int .i64 value] 36)
  change Hid (Blk (w1.alloc (Obj.cells #[.int .i64 2, .int .i64 key, .int .i64 value] 36)) _ _ _) at O
  have ZO : Hid ((w1.alloc (Obj.cells #[.int .i64 2, .int .i64 key, .int .i64 value] 36)).heap.size = w1.heap.size + 1) := World.size_alloc _ _
  replace HB := Lib.hid (bcall HB.out hb2)
  replace T := Lib.hid (T.out.below hb2)
  clear hb2
  rw [ZT.out] at O ZO
  clear ZT
  generalize w1.alloc (Obj.cells #[.int .i64 2, .int .i64 key, .int .i64 value] 36) = w2 at *
  have O_c0 : w2.cell? ⟨(w.heap.size + 1), 0, none⟩ = some (.int .i64 2) := O.out.cell 0
  have O_c1 : w2.cell? ⟨(w.heap.size + 1), 1, none⟩ = some (.int .i64 key) := O.out.cell 1
  have O_c2 : w2.cell? ⟨(w.heap.size + 1), 2, none⟩ = some (.int .i64 value) := O.out.cell 2
  have O_z : (w.heap.size + 1) < w2.heap.size := O.out.lt
  have hb3 := balloc (Below.refl _ w2) (Obj.cells #[.int .i64 0, .int .i64 0, .int .i64 0, .int .i64 0, .int .i64 0, .int .i64 0, .int .i64 0, .int .i64 0, .int .i64 0, .int .i64 0, .int .i64 0, .int .i64 0, .int .i64 0, .int .i64 0, .int .i64 0, .int .i64 0] 27)
  have R := Lib.hid (Blk.new w2 [.int .i64 0, .int .i64 0, .int .i64 0, .int .i64 0, .int .i64 0, .int .i64 0, .int .i64 0, .int .i64 0, .int .i64 0, .int .i64 0, .int .i64 0, .int .i64 0, .int .i64 0, .int .i64 0, .int .i64 0, .int .i64 0] 27)
  change Hid (Blk (w2.alloc (Obj.cells #[.int .i64 0, .int .i64 0, .int .i64 0, .int .i64 0, .int .i64 0, .int .i64 0, .int .i64 0, .int .i64 0, .int .i64 0, .int .i64 0, .int .i64 0, .int .i64 0, .int .i64 0, .int .i64 0, .int .i64 0, .int .i64 0] 27)) _ _ _) at R
  have ZR : Hid ((w2.alloc (Obj.cells #[.int .i64 0, .int .i64 0, .int .i64 0, .int .i64 0, .int .i64 0, .int .i64 0, .int .i64 0, .int .i64 0, .int .i64 0, .int .i64 0, .int .i64 0, .int .i64 0, .int .i64 0, .int .i64 0, .int .i64 0, .int .i64 0] 27)).heap.size = w2.heap.size + 1) := World.size_alloc _ _
  clear O_c0 O_c1 O_c2 O_z
  replace HB := Lib.hid (bcall HB.out hb3)
  replace T := Lib.hid (T.out.below hb3)
  replace O := Lib.hid (O.out.below hb3)
  clear hb3
  rw [ZO.out] at R ZR
  clear ZO
  generalize w2.alloc (Obj.cells #[.int .i64 0, .int .i64 0, .int .i64 0, .int .i64 0, .int .i64 0, .int .i64 0, .int .i64 0, .int .i64 0, .int .i64 0, .int .i64 0, .int .i64 0, .int .i64 0, .int .i64 0, .int .i64 0, .int .i64 0, .int .i64 0] 27) = w3 at *
  have O_c0 : w3.cell? ⟨(w.heap.size + 1), 0, none⟩ = some (.int .i64 2) := O.out.cell 0
  have O_c1 : w3.cell? ⟨(w.heap.size + 1), 1, none⟩ = some (.int .i64 key) := O.out.cell 1
  have O_c2 : w3.cell? ⟨(w.heap.size + 1), 2, none⟩ = some (.int .i64 value) := O.out.cell 2
  have O_z : (w.heap.size + 1) < w3.heap.size := O.out.lt
  have hb4 := balloc (Below.refl _ w3) (Obj.cells #[.int .i64 0, .int .i64 0] 31)
  have A := Lib.hid (Blk.new w3 [.int .i64 0, .int .i64 0] 31)
  change Hid (Blk (w3.alloc (Obj.cells #[.int .i64 0, .int .i64 0] 31)) _ _ _) at A
  have ZA : Hid ((w3.alloc (Obj.cells #[.int .i64 0, .int .i64 0] 31)).heap.size = w3.heap.size + 1) := World.size_alloc _ _
  clear O_c0 O_c1 O_c2 O_z
  replace HB := Lib.hid (bcall HB.out hb4)
  replace T := Lib.hid (T.out.below hb4)
  replace O := Lib.hid (O.out.below hb4)
  replace R := Lib.hid (R.out.below hb4)
  clear hb4
  rw [ZR.out] at A ZA
  clear ZR
  generalize w3.alloc (Obj.cells #[.int .i64 0, .int .i64 0] 31) = w4 at *
  have O_c0 : w4.cell? ⟨(w.heap.size + 1), 0, none⟩ = some (.int .i64 2) := O.out.cell 0
  have O_c1 : w4.cell? ⟨(w.heap.size + 1), 1, none⟩ = some (.int .i64 key) := O.out.cell 1
  have O_c2 : w4.cell? ⟨(w.heap.size + 1), 2, none⟩ = some (.int .i64 value) := O.out.cell 2
  have O_z : (w.heap.size + 1) < w4.heap.size := O.out.lt
  have c0 := HC0.out _ T.out
  have k1' : (0 : Int) ≤ key := by omega
  generalize tk t i = ky at *
  generalize tv t i = vl at *
  go_wp2_with fail
  refine (at_any key _ w.heap.size t ⟨HL.out, T.out⟩ k1' hk2).mono ?_
  rw [HA.out]
  rintro e w' ⟨rfl, rfl⟩
  go_wp2_with fail
  go_region_held3 (fun w' => w'.cell? ⟨w.heap.size, i * 2, none⟩ = some (.int .i64 ky) ∧ w'.cell? ⟨w.heap.size + 1, 1, none⟩ = some (.int .i64 key))
    (first | go_keep) (fail)
  clear c0
  clear O_c0 O_c1 O_c2 O_z
  replace HB := Lib.hid HB.out.drew
  replace T := Lib.hid (Blk.drew T.out)
  replace O := Lib.hid (Blk.drew O.out)
  replace R := Lib.hid (Blk.drew R.out)
  replace A := Lib.hid (Blk.drew A.out)
  generalize w4.drew = w5 at *
  have O_c0 : w5.cell? ⟨(w.heap.size + 1), 0, none⟩ = some (.int .i64 2) := O.out.cell 0
  have O_c1 : w5.cell? ⟨(w.heap.size + 1), 1, none⟩ = some (.int .i64 key) := O.out.cell 1
  have O_c2 : w5.cell? ⟨(w.heap.size + 1), 2, none⟩ = some (.int .i64 value) := O.out.cell 2
  have O_z : (w.heap.size + 1) < w5.heap.size := O.out.lt
  have c1 := HC1.out _ T.out
  go_wp2_with (refine wpList_load_part rfl 27 _ rfl w.heap.size 0 16 rfl 27 (tcells t) _ T.out (by rw [HLT.out]; decide) Try.underlying27 rfl (by kernel_rfl) ?_; rw [HCT.out])
  clear c1
  refine (HCL.out _).mono ?_
  rintro e w6 ⟨rfl, hb6⟩
  clear O_c0 O_c1 O_c2 O_z
  replace HB := Lib.hid (bcall HB.out hb6)
  replace T := Lib.hid (T.out.below hb6)
  replace O := Lib.hid (O.out.below hb6)
  replace R := Lib.hid (R.out.below hb6)
  replace A := Lib.hid (A.out.below hb6)
  clear hb6
  have O_c0 : w6.cell? ⟨(w.heap.size + 1), 0, none⟩ = some (.int .i64 2) := O.out.cell 0
  have O_c1 : w6.cell? ⟨(w.heap.size + 1), 1, none⟩ = some (.int .i64 key) := O.out.cell 1
  have O_c2 : w6.cell? ⟨(w.heap.size + 1), 2, none⟩ = some (.int .i64 value) := O.out.cell 2
  have O_z : (w.heap.size + 1) < w6.heap.size := O.out.lt
  generalize closeF t i = c at *
  have TT : Hid (Blk (setBlk w6 w.heap.size (tcells c)) w.heap.size (tcells c) 27) := Lib.hid (T.out.setBlk _)
  have RR : Hid (Blk (setBlk w6 w.heap.size (tcells c)) (w.heap.size + 1 + 1) _ 27) := Lib.hid (R.out.otherBlk _ (by omega))
  have AA : Hid (Blk (setBlk w6 w.heap.size (tcells c)) (w.heap.size + 1 + 1 + 1) _ 31) := Lib.hid (A.out.otherBlk _ (by omega))
  have BB : Hid (Below w.heap.size w (setBlk w6 w.heap.size (tcells c))) := Lib.hid (bsetBlk HB.out (Nat.le_refl _) _)
  clear R A HB
  have R := RR
  have A := AA
  have HB := BB
  clear RR AA BB
  go_wp2_with (first | (refine wpList_store_part rfl 27 _ _ rfl w.heap.size 0 16 (tcells c) rfl rfl 27 (tcells t) T.out HLU.out (by rw [HLT.out]; decide) (by kernel_rfl) HOU.out ?_; rw [spl_whole (tcells t) (tcells c) (by rw [HLT.out, HLU.out])]) | (refine wpList_load_part rfl 27 _ rfl w.heap.size 0 16 rfl 27 (tcells c) _ TT.out (by rw [HLU.out]; decide) Try.underlying27 rfl (by kernel_rfl) ?_; rw [HCU.out]) | (refine wpList_store_part rfl 27 _ _ rfl (w.heap.size + 1 + 1) 0 16 (tcells c) rfl rfl 27 _ R.out HLU.out (by decide) (by kernel_rfl) HOU.out ?_; rw [spl_z16 _ HLU.out]; have aa0 := (A.out.otherBlk (tcells c) (show w.heap.size + 1 + 1 + 1 ≠ w.heap.size + 1 + 1 by omega)).cell 0; have aa1 := (A.out.otherBlk (tcells c) (show w.heap.size + 1 + 1 + 1 ≠ w.heap.size + 1 + 1 by omega)).cell 1; have af0 := (A.out.otherBlk (tcells c) (show w.heap.size + 1 + 1 + 1 ≠ w.heap.size + 1 + 1 by omega)).frozen 0; have af1 := (A.out.otherBlk (tcells c) (show w.heap.size + 1 + 1 + 1 ≠ w.heap.size + 1 + 1 by omega)).frozen 1))
  have hR2 : Blk (((setBlk (setBlk w6 w.heap.size (tcells c)) (w.heap.size + 1 + 1) (tcells c)).setCell ⟨w.heap.size + 1 + 1 + 1, 0, none⟩ (.int .i64 1)).setCell ⟨w.heap.size + 1 + 1 + 1, 1, none⟩ (.int .i64 vl)) (w.heap.size + 1 + 1) (tcells c) 27 :=
    ((R.out.setBlk _).other _ (by show w.heap.size + 1 + 1 ≠ w.heap.size + 1 + 1 + 1; omega)).other _ (by show w.heap.size + 1 + 1 ≠ w.heap.size + 1 + 1 + 1; omega)
  have hA2 : Blk (((setBlk (setBlk w6 w.heap.size (tcells c)) (w.heap.size + 1 + 1) (tcells c)).setCell ⟨w.heap.size + 1 + 1 + 1, 0, none⟩ (.int .i64 1)).setCell ⟨w.heap.size + 1 + 1 + 1, 1, none⟩ (.int .i64 vl)) (w.heap.size + 1 + 1 + 1) [.int .i64 1, .int .i64 vl] 31 :=
    Blk.pair (A.out.otherBlk _ (by omega))
  have hB2 : Below w.heap.size w (((setBlk (setBlk w6 w.heap.size (tcells c)) (w.heap.size + 1 + 1) (tcells c)).setCell ⟨w.heap.size + 1 + 1 + 1, 0, none⟩ (.int .i64 1)).setCell ⟨w.heap.size + 1 + 1 + 1, 1, none⟩ (.int .i64 vl)) :=
    bstore (bstore (bsetBlk HB.out (by omega) _) (by show w.heap.size ≤ w.heap.size + 1 + 1 + 1; omega) _) (by show w.heap.size ≤ w.heap.size + 1 + 1 + 1; omega) _
  refine bodyPost_ret (v := .tuple #[.agg (tcells c).toArray, .agg #[.int .i64 1, .int .i64 vl]]) (results2_cells _ _ _ _ rfl (w.heap.size + 1 + 1) (w.heap.size + 1 + 1 + 1) (tcells c) [.int .i64 1, .int .i64 vl] 27 31 _ _ rfl rfl hR2 hA2 Try.underlying27 rfl (by rw [HLU.out]; kernel_rfl) Try.underlying31 rfl (by kernel_rfl)) rfl ⟨?_, hB2⟩
  rw [HD.out]
/-- An operation with a good table. -/
theorem table_do (w : World) (t : List Int) (g : Good t) (what key value : Int) :
    Calls Try.prog 23 #[.agg (tcells t).toArray, .agg #[.int .i64 what, .int .i64 key, .int .i64 value]] w fun e w' => e = .returned (.tuple #[.agg (tcells (doT t what key value).1).toArray, .agg #[.int .i64 (doT t what key value).2.1, .int .i64 (doT t what key value).2.2]]) ∧ Below w.heap.size w w' := by
  by_cases h6 : what = 6
  · exact do_count w t g what key value h6
  by_cases h1 : what = 1
  · by_cases a : key < 1
    · exact do_key1lo w t g what key value h1 a
    by_cases b : 1000 < key
    · exact do_key1hi w t g what key value h1 b
    cases ht : thereB t key
    · by_cases h : 6 ≤ lenT t
      · exact do_full w t g what key value h1 (by omega) (by omega) ht h
      · exact do_putnew w t g what key value h1 (by omega) (by omega) ht (by omega)
    · exact do_putold w t g what key value h1 (by omega) (by omega) ht
  by_cases h2 : what = 2
  · by_cases a : key < 1
    · exact do_key2lo w t g what key value h2 a
    by_cases b : 1000 < key
    · exact do_key2hi w t g what key value h2 b
    cases ht : thereB t key
    · exact do_absent2 w t g what key value h2 (by omega) (by omega) ht
    · exact do_take w t g what key value h2 (by omega) (by omega) ht
  by_cases h5 : what = 5
  · by_cases a : key < 1
    · exact do_key5lo w t g what key value h5 a
    by_cases b : 1000 < key
    · exact do_key5hi w t g what key value h5 b
    cases ht : thereB t key
    · exact do_absent5 w t g what key value h5 (by omega) (by omega) ht
    · exact do_peek w t g what key value h5 (by omega) (by omega) ht
  exact do_wrong w t g what key value h1 h2 h5 h6
end Go.Proofs.Ytakemnpicokaiaa
