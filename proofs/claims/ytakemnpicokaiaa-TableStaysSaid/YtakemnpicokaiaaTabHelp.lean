/- The contracts of the law package's helpers on tables: key, peek, filled, tabled. -/
import Derived.Test.YtakemnpicokaiaaTabRight
import Derived.Test.YtakemnpicokaiaaStableOps
import Derived.Test.YtakemnpicokaiaaRws
import Derived.Test.YtakemnpicokaiaaPick
namespace Go.Proofs.Ytakemnpicokaiaa
open Go.RowKit
set_option linter.unusedVariables false
theorem key_any (k : Int) (w : World) :
    Calls Try.prog 25 #[.int .i64 k] w fun e w' => e = .returned (.int .i64 (1 + pickZ k 1000)) ∧ w = w' := by
  have h0 := pickZ_nonneg k 1000 (by decide)
  have h1 := pickZ_lt k 1000 (by decide)
  go_enter Try.func25, Try.ntmps25
  go_wp2_with (go_at_call 21; refine (pick_any _ _ _ (by decide) (by decide)).mono ?_; rintro e w' ⟨rfl, rfl⟩)
  go_ret
  exact ⟨rfl, rfl⟩
set_option maxHeartbeats 1000000 in
theorem peek_any (w : World) (t : List Int) (g : Good t) (k : Int) (h1 : 1 ≤ k) (h2 : k ≤ 1000) :
    Calls Try.prog 22 #[.agg (tcells t).toArray, .int .i64 k] w fun e w' => e = .returned (.agg #[.int .i64 (peekA t k).1, .int .i64 (peekA t k).2]) ∧ Below w.heap.size w w' := by
  have HLt : Hid ((tcells t).length = 16) := Lib.hid (by rw [tcells_len]; exact g.len)
  have HCt := Lib.hid (tcells_take t g.len)
  have HOt := Lib.hid (tcells_one t)
  have Gt := Lib.hid g
  have hdo := fun w => table_do w t g 5 k 0
  rw [doT_peek (t := t) k 0 h1 h2] at hdo
  have HDO := Lib.hid hdo
  clear g hdo
  generalize (peekA t k).1 = c at *
  generalize (peekA t k).2 = v at *
  have HB := Lib.hid (Below.refl w.heap.size w)
  go_enter Try.func22, Try.ntmps22
  go_upto_region 1 with fail
  have hb1 := balloc (Below.refl _ w) (Obj.cells (tcells t).toArray 27)
  have T := Lib.hid (Blk.new w (tcells t) 27)
  change Hid (Blk (w.alloc (Obj.cells (tcells t).toArray 27)) _ _ _) at T
  have ZT : Hid ((w.alloc (Obj.cells (tcells t).toArray 27)).heap.size = w.heap.size + 1) := World.size_alloc _ _
  replace HB := Lib.hid (bcall HB.out hb1)
  clear hb1
  generalize w.alloc (Obj.cells (tcells t).toArray 27) = w1 at *
  have hb2 := balloc (Below.refl _ w1) (Obj.cells #[.int .i64 0, .int .i64 0] 31)
  have R := Lib.hid (Blk.new w1 [.int .i64 0, .int .i64 0] 31)
  change Hid (Blk (w1.alloc (Obj.cells #[.int .i64 0, .int .i64 0] 31)) _ _ _) at R
  have ZR : Hid ((w1.alloc (Obj.cells #[.int .i64 0, .int .i64 0] 31)).heap.size = w1.heap.size + 1) := World.size_alloc _ _
  replace HB := Lib.hid (bcall HB.out hb2)
  replace T := Lib.hid (T.out.below hb2)
  clear hb2
  rw [ZT.out] at R ZR
  clear ZT
  generalize w1.alloc (Obj.cells #[.int .i64 0, .int .i64 0] 31) = w2 at *
  have R_c0 : w2.cell? ⟨(w.heap.size + 1), 0, none⟩ = some (.int .i64 0) := R.out.cell 0
  have R_c1 : w2.cell? ⟨(w.heap.size + 1), 1, none⟩ = some (.int .i64 0) := R.out.cell 1
  have R_z : (w.heap.size + 1) < w2.heap.size := R.out.lt
  go_wp2_with (refine wpList_load_part rfl 27 _ rfl (w.heap.size) 0 16 rfl 27 (tcells t) _ T.out (by rw [HLt.out]; decide) Try.underlying27 rfl (by kernel_rfl) ?_; rw [HCt.out])
  refine (HDO.out _).mono ?_
  rintro e w3 ⟨rfl, hb3⟩
  clear R_c0 R_c1 R_z
  replace HB := Lib.hid (bcall HB.out hb3)
  replace T := Lib.hid (T.out.below hb3)
  replace R := Lib.hid (R.out.below hb3)
  clear hb3
  have R_c0 : w3.cell? ⟨(w.heap.size + 1), 0, none⟩ = some (.int .i64 0) := R.out.cell 0
  have R_c1 : w3.cell? ⟨(w.heap.size + 1), 1, none⟩ = some (.int .i64 0) := R.out.cell 1
  have R_z : (w.heap.size + 1) < w3.heap.size := R.out.lt
  go_upto_region 2 with (first | (refine wpList_store_part rfl 27 _ _ rfl w3.heap.size 0 16 (tcells t) rfl rfl 27 _ ((Blk.new w3 [.int .i64 0, .int .i64 0, .int .i64 0, .int .i64 0, .int .i64 0, .int .i64 0, .int .i64 0, .int .i64 0, .int .i64 0, .int .i64 0, .int .i64 0, .int .i64 0, .int .i64 0, .int .i64 0, .int .i64 0, .int .i64 0] 27).alloc _) HLt.out (by decide) (by kernel_rfl) HOt.out ?_; rw [spl_z16 _ HLt.out]; have hP := def_pair w3 (tcells t) [.int .i64 0, .int .i64 0, .int .i64 0, .int .i64 0, .int .i64 0, .int .i64 0, .int .i64 0, .int .i64 0, .int .i64 0, .int .i64 0, .int .i64 0, .int .i64 0, .int .i64 0, .int .i64 0, .int .i64 0, .int .i64 0] [.int .i64 0, .int .i64 0] 27 31; have aa0 := hP.2.1.cell 0; have aa1 := hP.2.1.cell 1; have af0 := hP.2.1.frozen 0; have af1 := hP.2.1.frozen 1))
  have hP := def_pair w3 (tcells t) [.int .i64 0, .int .i64 0, .int .i64 0, .int .i64 0, .int .i64 0, .int .i64 0, .int .i64 0, .int .i64 0, .int .i64 0, .int .i64 0, .int .i64 0, .int .i64 0, .int .i64 0, .int .i64 0, .int .i64 0, .int .i64 0] [.int .i64 0, .int .i64 0] 27 31
  have hBB : Below w3.heap.size w3 (((setBlk ((w3.alloc (Obj.cells #[.int .i64 0, .int .i64 0, .int .i64 0, .int .i64 0, .int .i64 0, .int .i64 0, .int .i64 0, .int .i64 0, .int .i64 0, .int .i64 0, .int .i64 0, .int .i64 0, .int .i64 0, .int .i64 0, .int .i64 0, .int .i64 0] 27)).alloc (Obj.cells #[.int .i64 0, .int .i64 0] 31)) w3.heap.size (tcells t)).setCell ⟨w3.heap.size + 1, 0, none⟩ (.int .i64 c)).setCell ⟨w3.heap.size + 1, 1, none⟩ (.int .i64 v)) := bstore (bstore hP.2.2 (Nat.le_succ _) _) (Nat.le_succ _) _
  have U : Hid (Blk (((setBlk ((w3.alloc (Obj.cells #[.int .i64 0, .int .i64 0, .int .i64 0, .int .i64 0, .int .i64 0, .int .i64 0, .int .i64 0, .int .i64 0, .int .i64 0, .int .i64 0, .int .i64 0, .int .i64 0, .int .i64 0, .int .i64 0, .int .i64 0, .int .i64 0] 27)).alloc (Obj.cells #[.int .i64 0, .int .i64 0] 31)) w3.heap.size (tcells t)).setCell ⟨w3.heap.size + 1, 0, none⟩ (.int .i64 c)).setCell ⟨w3.heap.size + 1, 1, none⟩ (.int .i64 v)) w3.heap.size (tcells t) 27) := Lib.hid ((hP.1.other _ (by show w3.heap.size ≠ w3.heap.size + 1; omega)).other _ (by show w3.heap.size ≠ w3.heap.size + 1; omega))
  have A : Hid (Blk (((setBlk ((w3.alloc (Obj.cells #[.int .i64 0, .int .i64 0, .int .i64 0, .int .i64 0, .int .i64 0, .int .i64 0, .int .i64 0, .int .i64 0, .int .i64 0, .int .i64 0, .int .i64 0, .int .i64 0, .int .i64 0, .int .i64 0, .int .i64 0, .int .i64 0] 27)).alloc (Obj.cells #[.int .i64 0, .int .i64 0] 31)) w3.heap.size (tcells t)).setCell ⟨w3.heap.size + 1, 0, none⟩ (.int .i64 c)).setCell ⟨w3.heap.size + 1, 1, none⟩ (.int .i64 v)) (w3.heap.size + 1) [.int .i64 c, .int .i64 v] 31) := Lib.hid (Blk.pair hP.2.1)
  clear R_c0 R_c1 R_z
  have hlt_U_T := T.out.lt
  have hlt_U_R := R.out.lt
  replace HB := Lib.hid (bcall HB.out hBB)
  replace T := Lib.hid (T.out.below hBB)
  replace R := Lib.hid (R.out.below hBB)
  clear hBB hP aa0 aa1 af0 af1
  generalize ((setBlk ((w3.alloc (Obj.cells #[.int .i64 0, .int .i64 0, .int .i64 0, .int .i64 0, .int .i64 0, .int .i64 0, .int .i64 0, .int .i64 0, .int .i64 0, .int .i64 0, .int .i64 0, .int .i64 0, .int .i64 0, .int .i64 0, .int .i64 0, .int .i64 0] 27)).alloc (Obj.cells #[.int .i64 0, .int .i64 0] 31)) w3.heap.size (tcells t)).setCell ⟨w3.heap.size + 1, 0, none⟩ (.int .i64 c)).setCell ⟨w3.heap.size + 1, 1, none⟩ (.int .i64 v) = w4 at *
  generalize w3.heap.size = bU at *
  have R_c0 : w4.cell? ⟨(w.heap.size + 1), 0, none⟩ = some (.int .i64 0) := R.out.cell 0
  have R_c1 : w4.cell? ⟨(w.heap.size + 1), 1, none⟩ = some (.int .i64 0) := R.out.cell 1
  have R_z : (w.heap.size + 1) < w4.heap.size := R.out.lt
  have A_c0 : w4.cell? ⟨(bU + 1), 0, none⟩ = some (.int .i64 c) := A.out.cell 0
  have A_c1 : w4.cell? ⟨(bU + 1), 1, none⟩ = some (.int .i64 v) := A.out.cell 1
  have A_z : (bU + 1) < w4.heap.size := A.out.lt
  have fr0 := R.out.frozen 0
  have fr1 := R.out.frozen 1
  go_wp2_with fail
  refine bodyPost_ret (v := .agg #[.int .i64 c, .int .i64 v]) (results1_cell _ _ rfl (w.heap.size + 1) [.int .i64 c, .int .i64 v] 31 _ rfl (Blk.pair R.out) Try.underlying31 rfl (by kernel_rfl)) rfl ⟨rfl, bstore (bstore HB.out (by show w.heap.size ≤ w.heap.size + 1; omega) _) (by show w.heap.size ≤ w.heap.size + 1; omega) _⟩
theorem zero_good : Good [0, 0, 0, 0, 0, 0, 0, 0, 0, 0, 0, 0, 0, 0, 0, 0] := by
  refine Good.mk' rfl (by decide) fun i hi => ?_
  match i, hi with
  | 0, _ => decide
  | 1, _ => decide
  | 2, _ => decide
  | 3, _ => decide
  | 4, _ => decide
  | 5, _ => decide
  | 6, _ => decide
  | 7, _ => decide
theorem pick3 (x : Int) : pickZ x 3 = 0 ∨ pickZ x 3 = 1 ∨ pickZ x 3 = 2 := by
  have := pickZ_nonneg x 3 (by decide)
  have := pickZ_lt x 3 (by decide)
  omega
set_option maxHeartbeats 2000000 in
theorem filled_few (w : World) (a0 : Option Addr) (len0 cap0 : Nat) (f : Nat → Nat → Int) (h : Rws 3 (fun _ => .i64) w a0 len0 cap0 f) (hl : len0 ≤ 30) :
    Calls Try.prog 20 #[.slice a0 len0 cap0] w fun e w' => ∃ t, Good t ∧ e = .returned (.agg (tcells t).toArray) ∧ Below w.heap.size w w' := by
  have hcap := h.1
  have hmax := h.2.1
  have HR := Lib.hid (h.take len0 (by omega))
  clear h
  have HB := Lib.hid (Below.refl w.heap.size w)
  have h30 : ¬ (30 : Int) < (len0 : Int) := by omega
  go_enter Try.func20, Try.ntmps20
  go_upto_region 2 with fail
  have hb1 := balloc (Below.refl _ w) (Obj.cells #[.int .i64 0, .int .i64 0, .int .i64 0, .int .i64 0, .int .i64 0, .int .i64 0, .int .i64 0, .int .i64 0, .int .i64 0, .int .i64 0, .int .i64 0, .int .i64 0, .int .i64 0, .int .i64 0, .int .i64 0, .int .i64 0] 27)
  have R := Lib.hid (Blk.new w [.int .i64 0, .int .i64 0, .int .i64 0, .int .i64 0, .int .i64 0, .int .i64 0, .int .i64 0, .int .i64 0, .int .i64 0, .int .i64 0, .int .i64 0, .int .i64 0, .int .i64 0, .int .i64 0, .int .i64 0, .int .i64 0] 27)
  change Hid (Blk (w.alloc (Obj.cells #[.int .i64 0, .int .i64 0, .int .i64 0, .int .i64 0, .int .i64 0, .int .i64 0, .int .i64 0, .int .i64 0, .int .i64 0, .int .i64 0, .int .i64 0, .int .i64 0, .int .i64 0, .int .i64 0, .int .i64 0, .int .i64 0] 27)) _ _ _) at R
  have ZR : Hid ((w.alloc (Obj.cells #[.int .i64 0, .int .i64 0, .int .i64 0, .int .i64 0, .int .i64 0, .int .i64 0, .int .i64 0, .int .i64 0, .int .i64 0, .int .i64 0, .int .i64 0, .int .i64 0, .int .i64 0, .int .i64 0, .int .i64 0, .int .i64 0] 27)).heap.size = w.heap.size + 1) := World.size_alloc _ _
  replace HB := Lib.hid (bcall HB.out hb1)
  clear hb1
  generalize w.alloc (Obj.cells #[.int .i64 0, .int .i64 0, .int .i64 0, .int .i64 0, .int .i64 0, .int .i64 0, .int .i64 0, .int .i64 0, .int .i64 0, .int .i64 0, .int .i64 0, .int .i64 0, .int .i64 0, .int .i64 0, .int .i64 0, .int .i64 0] 27) = w1 at *
  have hb2 := balloc (Below.refl _ w1) (Obj.cells #[.int .i64 0, .int .i64 0, .int .i64 0, .int .i64 0, .int .i64 0, .int .i64 0, .int .i64 0, .int .i64 0, .int .i64 0, .int .i64 0, .int .i64 0, .int .i64 0, .int .i64 0, .int .i64 0, .int .i64 0, .int .i64 0] 27)
  have T := Lib.hid (Blk.new w1 [.int .i64 0, .int .i64 0, .int .i64 0, .int .i64 0, .int .i64 0, .int .i64 0, .int .i64 0, .int .i64 0, .int .i64 0, .int .i64 0, .int .i64 0, .int .i64 0, .int .i64 0, .int .i64 0, .int .i64 0, .int .i64 0] 27)
  change Hid (Blk (w1.alloc (Obj.cells #[.int .i64 0, .int .i64 0, .int .i64 0, .int .i64 0, .int .i64 0, .int .i64 0, .int .i64 0, .int .i64 0, .int .i64 0, .int .i64 0, .int .i64 0, .int .i64 0, .int .i64 0, .int .i64 0, .int .i64 0, .int .i64 0] 27)) _ _ _) at T
  have ZT : Hid ((w1.alloc (Obj.cells #[.int .i64 0, .int .i64 0, .int .i64 0, .int .i64 0, .int .i64 0, .int .i64 0, .int .i64 0, .int .i64 0, .int .i64 0, .int .i64 0, .int .i64 0, .int .i64 0, .int .i64 0, .int .i64 0, .int .i64 0, .int .i64 0] 27)).heap.size = w1.heap.size + 1) := World.size_alloc _ _
  replace HB := Lib.hid (bcall HB.out hb2)
  replace R := Lib.hid (R.out.below hb2)
  clear hb2
  rw [ZR.out] at T ZT
  clear ZR
  generalize w1.alloc (Obj.cells #[.int .i64 0, .int .i64 0, .int .i64 0, .int .i64 0, .int .i64 0, .int .i64 0, .int .i64 0, .int .i64 0, .int .i64 0, .int .i64 0, .int .i64 0, .int .i64 0, .int .i64 0, .int .i64 0, .int .i64 0, .int .i64 0] 27) = w2 at *
  go_wp2_with fail
  go_loopw [13] (fun i wr => ∃ k : Nat, k ≤ len0 ∧ i = .int .i64 k ∧ Below w.heap.size w wr ∧ Blk wr w.heap.size [.int .i64 0, .int .i64 0, .int .i64 0, .int .i64 0, .int .i64 0, .int .i64 0, .int .i64 0, .int .i64 0, .int .i64 0, .int .i64 0, .int .i64 0, .int .i64 0, .int .i64 0, .int .i64 0, .int .i64 0, .int .i64 0] 27 ∧ ∃ t, Good t ∧ Blk wr (w.heap.size + 1) (tcells t) 27) (fun i _ => len0 - (intOf i).toNat)
  case atStart => exact ⟨0, Nat.zero_le _, rfl, HB.out, R.out, _, zero_good, T.out⟩
  case round =>
    clear HB R T
    obtain ⟨k, hk, rfl, hb, hr, t, g, ht⟩ := hrel
    have HB := Lib.hid hb
    have R := Lib.hid hr
    have T := Lib.hid ht
    have HLt : Hid ((tcells t).length = 16) := Lib.hid (by rw [tcells_len]; exact g.len)
    have HCt := Lib.hid (tcells_take t g.len)
    have HOt := Lib.hid (tcells_one t)
    have Gt := Lib.hid g
    clear hr ht g
    by_cases hlt : k < len0
    · obtain ⟨b, off, rfl, hbb, hc⟩ := HR.out.at k hlt
      have c0 := (hc 0 (by decide)).1
      have c1 := (hc 1 (by decide)).1
      have c2 := (hc 2 (by decide)).1
      rw [← hb.cell (p := ⟨b, off + k * 3 + 0, none⟩) hbb] at c0
      rw [← hb.cell (p := ⟨b, off + k * 3 + 1, none⟩) hbb] at c1
      rw [← hb.cell (p := ⟨b, off + k * 3 + 2, none⟩) hbb] at c2
      rw [Nat.add_zero] at c0
      clear hb hc
      generalize f k 0 = z0 at *
      generalize f k 1 = z1 at *
      generalize f k 2 = z2 at *
      go_upto_region 5 with fail
      have hltO0 := T.out.lt
      have hltO1 := R.out.lt
      have hb21 := balloc (Below.refl _ wr) (Obj.cells #[.int .i64 z0, .int .i64 z1, .int .i64 z2] 36)
      have O := Lib.hid (Blk.new wr [.int .i64 z0, .int .i64 z1, .int .i64 z2] 36)
      change Hid (Blk (wr.alloc (Obj.cells #[.int .i64 z0, .int .i64 z1, .int .i64 z2] 36)) _ _ _) at O
      have ZO : Hid ((wr.alloc (Obj.cells #[.int .i64 z0, .int .i64 z1, .int .i64 z2] 36)).heap.size = wr.heap.size + 1) := World.size_alloc _ _
      replace HB := Lib.hid (bcall HB.out hb21)
      replace R := Lib.hid (R.out.below hb21)
      replace T := Lib.hid (T.out.below hb21)
      clear hb21
      generalize wr.alloc (Obj.cells #[.int .i64 z0, .int .i64 z1, .int .i64 z2] 36) = w21 at *
      generalize wr.heap.size = bO at *
      have O_c0 : w21.cell? ⟨bO, 0, none⟩ = some (.int .i64 z0) := O.out.cell 0
      have O_c1 : w21.cell? ⟨bO, 1, none⟩ = some (.int .i64 z1) := O.out.cell 1
      have O_c2 : w21.cell? ⟨bO, 2, none⟩ = some (.int .i64 z2) := O.out.cell 2
      have O_z : bO < w21.heap.size := O.out.lt
      clear c0 c1 c2
      have p0 := pickZ_nonneg z1 12 (by decide)
      have p1 := pickZ_lt z1 12 (by decide)
      have q0 := pickZ_nonneg z2 4294967296 (by decide)
      have q1 := pickZ_lt z2 4294967296 (by decide)
      have r0 := pickZ_nonneg z0 3 (by decide)
      have r1 := pickZ_lt z0 3 (by decide)
      have r3 : (pickZ z0 3).toNat < ([.int .i64 1, .int .i64 1, .int .i64 2] : List Value).length := by show (pickZ z0 3).toNat < 3; omega
      obtain ⟨wh, hwh⟩ : ∃ wh : Int, ([.int .i64 1, .int .i64 1, .int .i64 2] : List Value)[(pickZ z0 3).toNat]'r3 = .int .i64 wh := by
        have : ∀ n (hn : n < 3), ∃ wh : Int, ([.int .i64 1, .int .i64 1, .int .i64 2] : List Value)[n]'hn = .int .i64 wh := fun n hn => match n, hn with
          | 0, _ => ⟨1, rfl⟩
          | 1, _ => ⟨1, rfl⟩
          | 2, _ => ⟨2, rfl⟩
        exact this _ r3
      replace hwh := Lib.hid hwh
      go_wp2_with (go_at_call 21; refine (pick_any _ _ _ (by decide) (by decide)).mono ?_; rintro e w' ⟨rfl, rfl⟩)
      simp only [hwh.out]
      have hb22 := balloc (Below.refl _ w21) (Obj.cells #[.int .i64 1, .int .i64 1, .int .i64 2] 3)
      have L := Lib.hid (Blk.new w21 [.int .i64 1, .int .i64 1, .int .i64 2] 3)
      change Hid (Blk (w21.alloc (Obj.cells #[.int .i64 1, .int .i64 1, .int .i64 2] 3)) _ _ _) at L
      have ZL : Hid ((w21.alloc (Obj.cells #[.int .i64 1, .int .i64 1, .int .i64 2] 3)).heap.size = w21.heap.size + 1) := World.size_alloc _ _
      clear O_c0 O_c1 O_c2 O_z
      replace HB := Lib.hid (bcall HB.out hb22)
      replace R := Lib.hid (R.out.below hb22)
      replace T := Lib.hid (T.out.below hb22)
      replace O := Lib.hid (O.out.below hb22)
      clear hb22
      generalize w21.alloc (Obj.cells #[.int .i64 1, .int .i64 1, .int .i64 2] 3) = w22 at *
      generalize w21.heap.size = bL at *
      have O_c0 : w22.cell? ⟨bO, 0, none⟩ = some (.int .i64 z0) := O.out.cell 0
      have O_c1 : w22.cell? ⟨bO, 1, none⟩ = some (.int .i64 z1) := O.out.cell 1
      have O_c2 : w22.cell? ⟨bO, 2, none⟩ = some (.int .i64 z2) := O.out.cell 2
      have O_z : bO < w22.heap.size := O.out.lt
      clear hwh L O_c0 O_c1 O_c2
      have hdo := fun w => table_do w t Gt.out wh (1 + pickZ z1 12) (pickZ z2 4294967296)
      have hg2 := doT_good Gt.out wh (1 + pickZ z1 12) (pickZ z2 4294967296) q0 (by omega)
      generalize (doT t wh (1 + pickZ z1 12) (pickZ z2 4294967296)).1 = u at *
      generalize (doT t wh (1 + pickZ z1 12) (pickZ z2 4294967296)).2.1 = c at *
      generalize (doT t wh (1 + pickZ z1 12) (pickZ z2 4294967296)).2.2 = v at *
      have HLu : Hid ((tcells u).length = 16) := Lib.hid (by rw [tcells_len]; exact hg2.len)
      have HCu := Lib.hid (tcells_take u hg2.len)
      have HOu := Lib.hid (tcells_one u)
      have Gu := Lib.hid hg2
      have HDO := Lib.hid hdo
      clear hdo hg2
      have hq0 : IntKind.i64.wrap (1 + pickZ z1 12) = 1 + pickZ z1 12 := IntWalk.i64_in _ (by omega)
      have F1 : ∀ w' : World, Below w22.heap.size w22 w' → w'.cell? ⟨bO, 1, none⟩ = some (.int .i64 z1) := fun w' h => (O.out.below h).cell 1
      have F2 : ∀ w' : World, Below w22.heap.size w22 w' → w'.cell? ⟨bO, 2, none⟩ = some (.int .i64 z2) := fun w' h => (O.out.below h).cell 2
      refine wp_region_stable (fun j w' => match j with | 0 => Below w22.heap.size w22 w' | _ => Blk w' (w.heap.size + 1) (tcells u) 27 ∧ Blk w' w.heap.size [.int .i64 0, .int .i64 0, .int .i64 0, .int .i64 0, .int .i64 0, .int .i64 0, .int .i64 0, .int .i64 0, .int .i64 0, .int .i64 0, .int .i64 0, .int .i64 0, .int .i64 0, .int .i64 0, .int .i64 0, .int .i64 0] 27 ∧ Below w.heap.size w w') (by kernel_rfl) (by kernel_rfl) (Below.drew (Below.refl _ _)) ?_
      refine wpB_load 27 _ rfl (w.heap.size + 1) (0) (tcells t) _ (by kernel_rfl) rfl 0 (by kernel_rfl) (fun j w' hj hS => by
        obtain rfl : j = 0 := by omega
        exact (T.out.below hS).range) Try.underlying27 rfl (by rw [HLt.out]; kernel_rfl) (fun K hK => ?_)
      go_simp
      refine hK _ ?_
      clear hK K
      refine wpB_val (v := ?v1) (by kernel_rfl) (by kernel_rfl) _ rfl (fun j w' hj hS => ?h1) (fun K hK => ?k1)
      case h1 =>
        go_simp
        try rfl
      go_simp
      refine hK _ ?_
      clear hK K
      refine wpB_val (v := ?v2) (by kernel_rfl) (by kernel_rfl) _ rfl (fun j w' hj hS => ?h2) (fun K hK => ?k2)
      case h2 =>
        go_simp
        try rfl
      go_simp
      refine hK _ ?_
      clear hK K
      refine wpB_val (v := ?v3) (by kernel_rfl) (by kernel_rfl) 0 (by kernel_rfl) (fun j w' hj hS => ?h3) (fun K hK => ?k3)
      case h3 =>
        obtain rfl : j = 0 := by omega
        have c1 := F1 w' hS
        have c2 := F2 w' hS
        go_simp
        try rfl
      go_simp
      refine hK _ ?_
      clear hK K
      refine wpB_call _ _ (by kernel_rfl) (by kernel_rfl) (fun w' => by kernel_rfl) 0 (by kernel_rfl) (fun j w' hj hS => (pick_any z1 12 w' (by decide) (by decide)).mono (fun e w2 h => ⟨h.1, h.2 ▸ hS⟩)) (fun K hK => ?_)
      go_simp
      refine hK _ ?_
      clear hK K
      refine wpB_val (v := ?v4) (by kernel_rfl) (by kernel_rfl) _ rfl (fun j w' hj hS => ?h4) (fun K hK => ?k4)
      case h4 =>
        go_simp
        try rfl
      go_simp
      refine hK _ ?_
      clear hK K
      refine wpB_val (v := ?v5) (by kernel_rfl) (by kernel_rfl) _ rfl (fun j w' hj hS => ?h5) (fun K hK => ?k5)
      case h5 =>
        go_simp
        try rfl
      go_simp
      refine hK _ ?_
      clear hK K
      refine wpB_val (v := ?v6) (by kernel_rfl) (by kernel_rfl) 0 (by kernel_rfl) (fun j w' hj hS => ?h6) (fun K hK => ?k6)
      case h6 =>
        obtain rfl : j = 0 := by omega
        have c1 := F1 w' hS
        have c2 := F2 w' hS
        go_simp
        try rfl
      go_simp
      refine hK _ ?_
      clear hK K
      refine wpB_call _ _ (by kernel_rfl) (by kernel_rfl) (fun w' => by kernel_rfl) 0 (by kernel_rfl) (fun j w' hj hS => (pick_any z2 4294967296 w' (by decide) (by decide)).mono (fun e w2 h => ⟨h.1, h.2 ▸ hS⟩)) (fun K hK => ?_)
      go_simp
      refine hK _ ?_
      clear hK K
      refine wpB_val (v := ?v7) (by kernel_rfl) (by kernel_rfl) _ rfl (fun j w' hj hS => ?h7) (fun K hK => ?k7)
      case h7 =>
        go_simp
        try rfl
      go_simp
      refine hK _ ?_
      clear hK K
      refine wpB_call _ _ (by kernel_rfl) (by kernel_rfl) (fun w' => by kernel_rfl) 0 (by kernel_rfl) (fun j w' hj hS => by
        obtain rfl : j = 0 := by omega
        exact (HDO.out w').mono (fun e w2 h => ⟨h.1, Below.trans hS (Below.mono h.2 hS.size)⟩)) (fun K hK => ?_)
      go_simp
      refine hK _ ?_
      clear hK K
      refine wpB_val (v := ?v8) (by kernel_rfl) (by kernel_rfl) _ rfl (fun j w' hj hS => ?h8) (fun K hK => ?k8)
      case h8 =>
        go_simp
        try rfl
      go_simp
      refine hK _ ?_
      clear hK K
      refine wpB_val (v := ?v9) (by kernel_rfl) (by kernel_rfl) _ rfl (fun j w' hj hS => ?h9) (fun K hK => ?k9)
      case h9 =>
        go_simp
        try rfl
      go_simp
      refine hK _ ?_
      clear hK K
      refine wpB_val (v := ?v10) (by kernel_rfl) (by kernel_rfl) _ rfl (fun j w' hj hS => ?h10) (fun K hK => ?k10)
      case h10 =>
        go_simp
        try rfl
      go_simp
      refine hK _ ?_
      clear hK K
      refine wpB_store_part 27 _ _ rfl (w.heap.size + 1) 0 16 (tcells u) (by kernel_rfl) (by kernel_rfl) (by kernel_rfl) 27 (tcells t) (fun w' hS => T.out.below hS) HLu.out (by rw [HLt.out]; decide) (by kernel_rfl) HOu.out (fun w' hS => by
        rw [spl_whole _ _ (by rw [HLt.out, HLu.out])]
        exact ⟨(T.out.below hS).setBlk _, (R.out.below hS).otherBlk _ (by omega), bsetBlk (Below.trans HB.out (Below.mono hS HB.out.size)) (by omega) _⟩) (fun K hK => ?_)
      go_simp
      refine hK _ ?_
      clear hK K
      refine wpB_nil (fun w' hS => ?_)
      obtain ⟨hT, hR, hB⟩ := hS
      go_wp2_with fail
      go_roundw
      case rel => exact ⟨k + 1, by omega, by go_num, hB, hR, u, Gu.out, hT⟩
      case measure => simp [intOf]; omega
    · obtain rfl : k = len0 := by omega
      clear hb
      go_wp2_with (first | (refine wpList_load_part rfl 27 _ rfl (w.heap.size + 1) 0 16 rfl 27 (tcells t) _ T.out (by rw [HLt.out]; decide) Try.underlying27 rfl (by kernel_rfl) ?_; rw [HCt.out]) | (refine wpList_store_part rfl 27 _ _ rfl w.heap.size 0 16 (tcells t) rfl rfl 27 _ R.out HLt.out (by decide) (by kernel_rfl) HOt.out ?_; rw [spl_z16 _ HLt.out]))
      refine bodyPost_ret (v := .agg (tcells t).toArray) (results1_cell _ _ rfl w.heap.size (tcells t) 27 _ rfl (R.out.setBlk _) Try.underlying27 rfl (by rw [HLt.out]; kernel_rfl)) rfl ⟨t, Gt.out, rfl, bsetBlk HB.out (Nat.le_refl _) _⟩
set_option maxHeartbeats 2000000 in
theorem filled_many (w : World) (a0 : Option Addr) (len0 cap0 : Nat) (f : Nat → Nat → Int) (h : Rws 3 (fun _ => .i64) w a0 len0 cap0 f) (hl : 30 < len0) :
    Calls Try.prog 20 #[.slice a0 len0 cap0] w fun e w' => ∃ t, Good t ∧ e = .returned (.agg (tcells t).toArray) ∧ Below w.heap.size w w' := by
  have hcap := h.1
  have hmax := h.2.1
  have HR := Lib.hid (h.take 30 (by omega))
  clear h
  have HB := Lib.hid (Below.refl w.heap.size w)
  have h30 : (30 : Int) < (len0 : Int) := by omega
  go_enter Try.func20, Try.ntmps20
  go_upto_region 2 with fail
  have hb1 := balloc (Below.refl _ w) (Obj.cells #[.int .i64 0, .int .i64 0, .int .i64 0, .int .i64 0, .int .i64 0, .int .i64 0, .int .i64 0, .int .i64 0, .int .i64 0, .int .i64 0, .int .i64 0, .int .i64 0, .int .i64 0, .int .i64 0, .int .i64 0, .int .i64 0] 27)
  have R := Lib.hid (Blk.new w [.int .i64 0, .int .i64 0, .int .i64 0, .int .i64 0, .int .i64 0, .int .i64 0, .int .i64 0, .int .i64 0, .int .i64 0, .int .i64 0, .int .i64 0, .int .i64 0, .int .i64 0, .int .i64 0, .int .i64 0, .int .i64 0] 27)
  change Hid (Blk (w.alloc (Obj.cells #[.int .i64 0, .int .i64 0, .int .i64 0, .int .i64 0, .int .i64 0, .int .i64 0, .int .i64 0, .int .i64 0, .int .i64 0, .int .i64 0, .int .i64 0, .int .i64 0, .int .i64 0, .int .i64 0, .int .i64 0, .int .i64 0] 27)) _ _ _) at R
  have ZR : Hid ((w.alloc (Obj.cells #[.int .i64 0, .int .i64 0, .int .i64 0, .int .i64 0, .int .i64 0, .int .i64 0, .int .i64 0, .int .i64 0, .int .i64 0, .int .i64 0, .int .i64 0, .int .i64 0, .int .i64 0, .int .i64 0, .int .i64 0, .int .i64 0] 27)).heap.size = w.heap.size + 1) := World.size_alloc _ _
  replace HB := Lib.hid (bcall HB.out hb1)
  clear hb1
  generalize w.alloc (Obj.cells #[.int .i64 0, .int .i64 0, .int .i64 0, .int .i64 0, .int .i64 0, .int .i64 0, .int .i64 0, .int .i64 0, .int .i64 0, .int .i64 0, .int .i64 0, .int .i64 0, .int .i64 0, .int .i64 0, .int .i64 0, .int .i64 0] 27) = w1 at *
  have hb2 := balloc (Below.refl _ w1) (Obj.cells #[.int .i64 0, .int .i64 0, .int .i64 0, .int .i64 0, .int .i64 0, .int .i64 0, .int .i64 0, .int .i64 0, .int .i64 0, .int .i64 0, .int .i64 0, .int .i64 0, .int .i64 0, .int .i64 0, .int .i64 0, .int .i64 0] 27)
  have T := Lib.hid (Blk.new w1 [.int .i64 0, .int .i64 0, .int .i64 0, .int .i64 0, .int .i64 0, .int .i64 0, .int .i64 0, .int .i64 0, .int .i64 0, .int .i64 0, .int .i64 0, .int .i64 0, .int .i64 0, .int .i64 0, .int .i64 0, .int .i64 0] 27)
  change Hid (Blk (w1.alloc (Obj.cells #[.int .i64 0, .int .i64 0, .int .i64 0, .int .i64 0, .int .i64 0, .int .i64 0, .int .i64 0, .int .i64 0, .int .i64 0, .int .i64 0, .int .i64 0, .int .i64 0, .int .i64 0, .int .i64 0, .int .i64 0, .int .i64 0] 27)) _ _ _) at T
  have ZT : Hid ((w1.alloc (Obj.cells #[.int .i64 0, .int .i64 0, .int .i64 0, .int .i64 0, .int .i64 0, .int .i64 0, .int .i64 0, .int .i64 0, .int .i64 0, .int .i64 0, .int .i64 0, .int .i64 0, .int .i64 0, .int .i64 0, .int .i64 0, .int .i64 0] 27)).heap.size = w1.heap.size + 1) := World.size_alloc _ _
  replace HB := Lib.hid (bcall HB.out hb2)
  replace R := Lib.hid (R.out.below hb2)
  clear hb2
  rw [ZR.out] at T ZT
  clear ZR
  generalize w1.alloc (Obj.cells #[.int .i64 0, .int .i64 0, .int .i64 0, .int .i64 0, .int .i64 0, .int .i64 0, .int .i64 0, .int .i64 0, .int .i64 0, .int .i64 0, .int .i64 0, .int .i64 0, .int .i64 0, .int .i64 0, .int .i64 0, .int .i64 0] 27) = w2 at *
  go_wp2_with fail
  go_loopw [13] (fun i wr => ∃ k : Nat, k ≤ 30 ∧ i = .int .i64 k ∧ Below w.heap.size w wr ∧ Blk wr w.heap.size [.int .i64 0, .int .i64 0, .int .i64 0, .int .i64 0, .int .i64 0, .int .i64 0, .int .i64 0, .int .i64 0, .int .i64 0, .int .i64 0, .int .i64 0, .int .i64 0, .int .i64 0, .int .i64 0, .int .i64 0, .int .i64 0] 27 ∧ ∃ t, Good t ∧ Blk wr (w.heap.size + 1) (tcells t) 27) (fun i _ => 30 - (intOf i).toNat)
  case atStart => exact ⟨0, Nat.zero_le _, rfl, HB.out, R.out, _, zero_good, T.out⟩
  case round =>
    clear HB R T
    obtain ⟨k, hk, rfl, hb, hr, t, g, ht⟩ := hrel
    have HB := Lib.hid hb
    have R := Lib.hid hr
    have T := Lib.hid ht
    have HLt : Hid ((tcells t).length = 16) := Lib.hid (by rw [tcells_len]; exact g.len)
    have HCt := Lib.hid (tcells_take t g.len)
    have HOt := Lib.hid (tcells_one t)
    have Gt := Lib.hid g
    clear hr ht g
    by_cases hlt : k < 30
    · obtain ⟨b, off, rfl, hbb, hc⟩ := HR.out.at k hlt
      have c0 := (hc 0 (by decide)).1
      have c1 := (hc 1 (by decide)).1
      have c2 := (hc 2 (by decide)).1
      rw [← hb.cell (p := ⟨b, off + k * 3 + 0, none⟩) hbb] at c0
      rw [← hb.cell (p := ⟨b, off + k * 3 + 1, none⟩) hbb] at c1
      rw [← hb.cell (p := ⟨b, off + k * 3 + 2, none⟩) hbb] at c2
      rw [Nat.add_zero] at c0
      clear hb hc
      generalize f k 0 = z0 at *
      generalize f k 1 = z1 at *
      generalize f k 2 = z2 at *
      go_upto_region 5 with fail
      have hltO0 := T.out.lt
      have hltO1 := R.out.lt
      have hb21 := balloc (Below.refl _ wr) (Obj.cells #[.int .i64 z0, .int .i64 z1, .int .i64 z2] 36)
      have O := Lib.hid (Blk.new wr [.int .i64 z0, .int .i64 z1, .int .i64 z2] 36)
      change Hid (Blk (wr.alloc (Obj.cells #[.int .i64 z0, .int .i64 z1, .int .i64 z2] 36)) _ _ _) at O
      have ZO : Hid ((wr.alloc (Obj.cells #[.int .i64 z0, .int .i64 z1, .int .i64 z2] 36)).heap.size = wr.heap.size + 1) := World.size_alloc _ _
      replace HB := Lib.hid (bcall HB.out hb21)
      replace R := Lib.hid (R.out.below hb21)
      replace T := Lib.hid (T.out.below hb21)
      clear hb21
      generalize wr.alloc (Obj.cells #[.int .i64 z0, .int .i64 z1, .int .i64 z2] 36) = w21 at *
      generalize wr.heap.size = bO at *
      have O_c0 : w21.cell? ⟨bO, 0, none⟩ = some (.int .i64 z0) := O.out.cell 0
      have O_c1 : w21.cell? ⟨bO, 1, none⟩ = some (.int .i64 z1) := O.out.cell 1
      have O_c2 : w21.cell? ⟨bO, 2, none⟩ = some (.int .i64 z2) := O.out.cell 2
      have O_z : bO < w21.heap.size := O.out.lt
      clear c0 c1 c2
      have p0 := pickZ_nonneg z1 12 (by decide)
      have p1 := pickZ_lt z1 12 (by decide)
      have q0 := pickZ_nonneg z2 4294967296 (by decide)
      have q1 := pickZ_lt z2 4294967296 (by decide)
      have r0 := pickZ_nonneg z0 3 (by decide)
      have r1 := pickZ_lt z0 3 (by decide)
      have r3 : (pickZ z0 3).toNat < ([.int .i64 1, .int .i64 1, .int .i64 2] : List Value).length := by show (pickZ z0 3).toNat < 3; omega
      obtain ⟨wh, hwh⟩ : ∃ wh : Int, ([.int .i64 1, .int .i64 1, .int .i64 2] : List Value)[(pickZ z0 3).toNat]'r3 = .int .i64 wh := by
        have : ∀ n (hn : n < 3), ∃ wh : Int, ([.int .i64 1, .int .i64 1, .int .i64 2] : List Value)[n]'hn = .int .i64 wh := fun n hn => match n, hn with
          | 0, _ => ⟨1, rfl⟩
          | 1, _ => ⟨1, rfl⟩
          | 2, _ => ⟨2, rfl⟩
        exact this _ r3
      replace hwh := Lib.hid hwh
      go_wp2_with (go_at_call 21; refine (pick_any _ _ _ (by decide) (by decide)).mono ?_; rintro e w' ⟨rfl, rfl⟩)
      simp only [hwh.out]
      have hb22 := balloc (Below.refl _ w21) (Obj.cells #[.int .i64 1, .int .i64 1, .int .i64 2] 3)
      have L := Lib.hid (Blk.new w21 [.int .i64 1, .int .i64 1, .int .i64 2] 3)
      change Hid (Blk (w21.alloc (Obj.cells #[.int .i64 1, .int .i64 1, .int .i64 2] 3)) _ _ _) at L
      have ZL : Hid ((w21.alloc (Obj.cells #[.int .i64 1, .int .i64 1, .int .i64 2] 3)).heap.size = w21.heap.size + 1) := World.size_alloc _ _
      clear O_c0 O_c1 O_c2 O_z
      replace HB := Lib.hid (bcall HB.out hb22)
      replace R := Lib.hid (R.out.below hb22)
      replace T := Lib.hid (T.out.below hb22)
      replace O := Lib.hid (O.out.below hb22)
      clear hb22
      generalize w21.alloc (Obj.cells #[.int .i64 1, .int .i64 1, .int .i64 2] 3) = w22 at *
      generalize w21.heap.size = bL at *
      have O_c0 : w22.cell? ⟨bO, 0, none⟩ = some (.int .i64 z0) := O.out.cell 0
      have O_c1 : w22.cell? ⟨bO, 1, none⟩ = some (.int .i64 z1) := O.out.cell 1
      have O_c2 : w22.cell? ⟨bO, 2, none⟩ = some (.int .i64 z2) := O.out.cell 2
      have O_z : bO < w22.heap.size := O.out.lt
      clear hwh L O_c0 O_c1 O_c2
      have hdo := fun w => table_do w t Gt.out wh (1 + pickZ z1 12) (pickZ z2 4294967296)
      have hg2 := doT_good Gt.out wh (1 + pickZ z1 12) (pickZ z2 4294967296) q0 (by omega)
      generalize (doT t wh (1 + pickZ z1 12) (pickZ z2 4294967296)).1 = u at *
      generalize (doT t wh (1 + pickZ z1 12) (pickZ z2 4294967296)).2.1 = c at *
      generalize (doT t wh (1 + pickZ z1 12) (pickZ z2 4294967296)).2.2 = v at *
      have HLu : Hid ((tcells u).length = 16) := Lib.hid (by rw [tcells_len]; exact hg2.len)
      have HCu := Lib.hid (tcells_take u hg2.len)
      have HOu := Lib.hid (tcells_one u)
      have Gu := Lib.hid hg2
      have HDO := Lib.hid hdo
      clear hdo hg2
      have hq0 : IntKind.i64.wrap (1 + pickZ z1 12) = 1 + pickZ z1 12 := IntWalk.i64_in _ (by omega)
      have F1 : ∀ w' : World, Below w22.heap.size w22 w' → w'.cell? ⟨bO, 1, none⟩ = some (.int .i64 z1) := fun w' h => (O.out.below h).cell 1
      have F2 : ∀ w' : World, Below w22.heap.size w22 w' → w'.cell? ⟨bO, 2, none⟩ = some (.int .i64 z2) := fun w' h => (O.out.below h).cell 2
      refine wp_region_stable (fun j w' => match j with | 0 => Below w22.heap.size w22 w' | _ => Blk w' (w.heap.size + 1) (tcells u) 27 ∧ Blk w' w.heap.size [.int .i64 0, .int .i64 0, .int .i64 0, .int .i64 0, .int .i64 0, .int .i64 0, .int .i64 0, .int .i64 0, .int .i64 0, .int .i64 0, .int .i64 0, .int .i64 0, .int .i64 0, .int .i64 0, .int .i64 0, .int .i64 0] 27 ∧ Below w.heap.size w w') (by kernel_rfl) (by kernel_rfl) (Below.drew (Below.refl _ _)) ?_
      refine wpB_load 27 _ rfl (w.heap.size + 1) (0) (tcells t) _ (by kernel_rfl) rfl 0 (by kernel_rfl) (fun j w' hj hS => by
        obtain rfl : j = 0 := by omega
        exact (T.out.below hS).range) Try.underlying27 rfl (by rw [HLt.out]; kernel_rfl) (fun K hK => ?_)
      go_simp
      refine hK _ ?_
      clear hK K
      refine wpB_val (v := ?v11) (by kernel_rfl) (by kernel_rfl) _ rfl (fun j w' hj hS => ?h11) (fun K hK => ?k11)
      case h11 =>
        go_simp
        try rfl
      go_simp
      refine hK _ ?_
      clear hK K
      refine wpB_val (v := ?v12) (by kernel_rfl) (by kernel_rfl) _ rfl (fun j w' hj hS => ?h12) (fun K hK => ?k12)
      case h12 =>
        go_simp
        try rfl
      go_simp
      refine hK _ ?_
      clear hK K
      refine wpB_val (v := ?v13) (by kernel_rfl) (by kernel_rfl) 0 (by kernel_rfl) (fun j w' hj hS => ?h13) (fun K hK => ?k13)
      case h13 =>
        obtain rfl : j = 0 := by omega
        have c1 := F1 w' hS
        have c2 := F2 w' hS
        go_simp
        try rfl
      go_simp
      refine hK _ ?_
      clear hK K
      refine wpB_call _ _ (by kernel_rfl) (by kernel_rfl) (fun w' => by kernel_rfl) 0 (by kernel_rfl) (fun j w' hj hS => (pick_any z1 12 w' (by decide) (by decide)).mono (fun e w2 h => ⟨h.1, h.2 ▸ hS⟩)) (fun K hK => ?_)
      go_simp
      refine hK _ ?_
      clear hK K
      refine wpB_val (v := ?v14) (by kernel_rfl) (by kernel_rfl) _ rfl (fun j w' hj hS => ?h14) (fun K hK => ?k14)
      case h14 =>
        go_simp
        try rfl
      go_simp
      refine hK _ ?_
      clear hK K
      refine wpB_val (v := ?v15) (by kernel_rfl) (by kernel_rfl) _ rfl (fun j w' hj hS => ?h15) (fun K hK => ?k15)
      case h15 =>
        go_simp
        try rfl
      go_simp
      refine hK _ ?_
      clear hK K
      refine wpB_val (v := ?v16) (by kernel_rfl) (by kernel_rfl) 0 (by kernel_rfl) (fun j w' hj hS => ?h16) (fun K hK => ?k16)
      case h16 =>
        obtain rfl : j = 0 := by omega
        have c1 := F1 w' hS
        have c2 := F2 w' hS
        go_simp
        try rfl
      go_simp
      refine hK _ ?_
      clear hK K
      refine wpB_call _ _ (by kernel_rfl) (by kernel_rfl) (fun w' => by kernel_rfl) 0 (by kernel_rfl) (fun j w' hj hS => (pick_any z2 4294967296 w' (by decide) (by decide)).mono (fun e w2 h => ⟨h.1, h.2 ▸ hS⟩)) (fun K hK => ?_)
      go_simp
      refine hK _ ?_
      clear hK K
      refine wpB_val (v := ?v17) (by kernel_rfl) (by kernel_rfl) _ rfl (fun j w' hj hS => ?h17) (fun K hK => ?k17)
      case h17 =>
        go_simp
        try rfl
      go_simp
      refine hK _ ?_
      clear hK K
      refine wpB_call _ _ (by kernel_rfl) (by kernel_rfl) (fun w' => by kernel_rfl) 0 (by kernel_rfl) (fun j w' hj hS => by
        obtain rfl : j = 0 := by omega
        exact (HDO.out w').mono (fun e w2 h => ⟨h.1, Below.trans hS (Below.mono h.2 hS.size)⟩)) (fun K hK => ?_)
      go_simp
      refine hK _ ?_
      clear hK K
      refine wpB_val (v := ?v18) (by kernel_rfl) (by kernel_rfl) _ rfl (fun j w' hj hS => ?h18) (fun K hK => ?k18)
      case h18 =>
        go_simp
        try rfl
      go_simp
      refine hK _ ?_
      clear hK K
      refine wpB_val (v := ?v19) (by kernel_rfl) (by kernel_rfl) _ rfl (fun j w' hj hS => ?h19) (fun K hK => ?k19)
      case h19 =>
        go_simp
        try rfl
      go_simp
      refine hK _ ?_
      clear hK K
      refine wpB_val (v := ?v20) (by kernel_rfl) (by kernel_rfl) _ rfl (fun j w' hj hS => ?h20) (fun K hK => ?k20)
      case h20 =>
        go_simp
        try rfl
      go_simp
      refine hK _ ?_
      clear hK K
      refine wpB_store_part 27 _ _ rfl (w.heap.size + 1) 0 16 (tcells u) (by kernel_rfl) (by kernel_rfl) (by kernel_rfl) 27 (tcells t) (fun w' hS => T.out.below hS) HLu.out (by rw [HLt.out]; decide) (by kernel_rfl) HOu.out (fun w' hS => by
        rw [spl_whole _ _ (by rw [HLt.out, HLu.out])]
        exact ⟨(T.out.below hS).setBlk _, (R.out.below hS).otherBlk _ (by omega), bsetBlk (Below.trans HB.out (Below.mono hS HB.out.size)) (by omega) _⟩) (fun K hK => ?_)
      go_simp
      refine hK _ ?_
      clear hK K
      refine wpB_nil (fun w' hS => ?_)
      obtain ⟨hT, hR, hB⟩ := hS
      go_wp2_with fail
      go_roundw
      case rel => exact ⟨k + 1, by omega, by go_num, hB, hR, u, Gu.out, hT⟩
      case measure => simp [intOf]; omega
    · obtain rfl : k = 30 := by omega
      clear hb
      go_wp2_with (first | (refine wpList_load_part rfl 27 _ rfl (w.heap.size + 1) 0 16 rfl 27 (tcells t) _ T.out (by rw [HLt.out]; decide) Try.underlying27 rfl (by kernel_rfl) ?_; rw [HCt.out]) | (refine wpList_store_part rfl 27 _ _ rfl w.heap.size 0 16 (tcells t) rfl rfl 27 _ R.out HLt.out (by decide) (by kernel_rfl) HOt.out ?_; rw [spl_z16 _ HLt.out]))
      refine bodyPost_ret (v := .agg (tcells t).toArray) (results1_cell _ _ rfl w.heap.size (tcells t) 27 _ rfl (R.out.setBlk _) Try.underlying27 rfl (by rw [HLt.out]; kernel_rfl)) rfl ⟨t, Gt.out, rfl, bsetBlk HB.out (Nat.le_refl _) _⟩
theorem filled_any (w : World) (a0 : Option Addr) (len0 cap0 : Nat) (f : Nat → Nat → Int) (h : Rws 3 (fun _ => .i64) w a0 len0 cap0 f) :
    Calls Try.prog 20 #[.slice a0 len0 cap0] w fun e w' => ∃ t, Good t ∧ e = .returned (.agg (tcells t).toArray) ∧ Below w.heap.size w w' := by
  by_cases hl : len0 ≤ 30
  · exact filled_few w a0 len0 cap0 f h hl
  · exact filled_many w a0 len0 cap0 f h (by omega)
end Go.Proofs.Ytakemnpicokaiaa
