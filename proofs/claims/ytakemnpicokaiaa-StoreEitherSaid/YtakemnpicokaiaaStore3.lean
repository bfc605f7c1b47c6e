/- The contracts of the Store's New, Good, Dirty and Copy, and of the law package's lineNow. -/
import Derived.Test.YtakemnpicokaiaaStore2
import Derived.Test.YtakemnpicokaiaaArrEq
import Derived.Deep.QuietTactic
namespace Go.Proofs.Ytakemnpicokaiaa
open Go.RowKit
set_option linter.unusedVariables false
theorem below_drewN (w : World) (q : Nat) : Below w.heap.size w (w.drewN q) := ⟨rfl, rfl, rfl, Nat.le_refl _, fun _ _ => rfl⟩
theorem init_ok : St.init.ok := by unfold St.init St.ok; simp
set_option maxRecDepth 100000 in
theorem store_new (w : World) :
    Calls Try.prog 44 #[] w fun e w' => e = .returned (.pointer (some ⟨w.heap.size, 0, none⟩)) ∧ StoreAt w' w.heap.size St.init ∧ Below w.heap.size w w' := by
  have HB := Lib.hid (balloc (Below.refl _ w) (Obj.cells St.init.cells.toArray 87))
  have HS : Hid (StoreAt (w.alloc (Obj.cells St.init.cells.toArray 87)) w.heap.size St.init) := ⟨init_ok, Blk.new _ _ _⟩
  have hbuilt : (Try.prog.built 87 []).getD #[] = St.init.cells.toArray := by kernel_rfl
  have HBU := Lib.hid hbuilt
  clear hbuilt
  go_enter Try.func44, Try.ntmps44
  go_wp2_with (refine wpList_build rfl 87 #[] rfl (by kernel_rfl) ?_; simp only [List.map_toArray, List.map_nil])
  rw [HBU.out]
  go_ret
  exact ⟨rfl, HS.out, HB.out⟩
theorem store_copy (w : World) (b : Nat) (S : St) (h : StoreAt w b S) :
    Calls Try.prog 36 #[.pointer (some ⟨b, 0, none⟩)] w fun e w' => e = .returned (.pointer (some ⟨w.heap.size, 0, none⟩)) ∧ StoreAt w' w.heap.size S ∧ Below w.heap.size w w' := by
  have hl := St.cells_len h.1
  have HB := Lib.hid h.2
  have HL := Lib.hid hl
  have hct : (S.cells.drop 0).take 182 = S.cells := by rw [List.drop_zero, List.take_of_length_le (by omega)]
  have HCT := Lib.hid hct
  clear hl hct
  have hz : ∀ w : World, (zeroValue 87).run Try.prog w = .ok (.agg St.init.cells.toArray) w := fun w => by kernel_rfl
  have hone : ∀ v ∈ S.cells, v.oneCell' = true := by
    intro v hv
    unfold St.cells at hv
    simp only [List.mem_append, List.mem_map, List.mem_cons, List.not_mem_nil, or_false] at hv
    rcases hv with ⟨_, _, rfl⟩ | ⟨_, _, rfl⟩ | ⟨_, _, rfl⟩ | rfl | rfl <;> rfl
  have HONE := Lib.hid hone
  have hspl : spl St.init.cells 0 S.cells = S.cells := by
    unfold spl
    rw [HL.out, List.take_zero, List.nil_append, List.drop_of_length_le (by rw [St.cells_len init_ok]; decide), List.append_nil]
  have HE : Hid (StoreAt (setBlk (w.alloc (Obj.cells St.init.cells.toArray 87)) w.heap.size (spl St.init.cells 0 S.cells)) w.heap.size S) := by
    rw [hspl]; exact ⟨h.1, (Blk.new w St.init.cells 87).setBlk _⟩
  have HK : Hid (Below w.heap.size w (setBlk (w.alloc (Obj.cells St.init.cells.toArray 87)) w.heap.size (spl St.init.cells 0 S.cells))) :=
    bsetBlk (balloc (Below.refl _ w) _) (Nat.le_refl _) _
  clear hone hspl h
  generalize S.cells = C at *
  go_enter Try.func36, Try.ntmps36
  go_wp2_with (first | (refine wpList_load_part rfl 87 _ rfl b 0 182 rfl 87 C _ HB.out (by rw [HL.out]; decide) Try.underlying87 rfl (by kernel_rfl) ?_; rw [HCT.out]) | (refine wpList_store_part rfl 87 _ _ rfl w.heap.size 0 182 C rfl rfl 87 St.init.cells (Blk.new _ _ _) HL.out (by rw [St.cells_len init_ok]; decide) (by kernel_rfl) HONE.out ?_))
  go_ret
  exact ⟨rfl, HE.out, HK.out⟩
/-- A line of a list of words, as a value. -/
def lineV (s : List Int) (l : Nat) : Array Value := #[.int .u64 (s.getD (l * 8) 0), .int .u64 (s.getD (l * 8 + 1) 0), .int .u64 (s.getD (l * 8 + 2) 0), .int .u64 (s.getD (l * 8 + 3) 0), .int .u64 (s.getD (l * 8 + 4) 0), .int .u64 (s.getD (l * 8 + 5) 0), .int .u64 (s.getD (l * 8 + 6) 0), .int .u64 (s.getD (l * 8 + 7) 0)]
set_option maxHeartbeats 1000000 in
theorem store_good (w : World) (b : Nat) (S : St) (l : Int) (h : StoreAt w b S) (h2 : 0 ≤ l) (h3 : l < 9) :
    Calls Try.prog 39 #[.pointer (some ⟨b, 0, none⟩), .int .i64 l] w fun e w' => e = .returned (.tuple #[.agg (lineV S.good l.toNat), .nilIface]) ∧ Below w.heap.size w w' := by
  obtain ⟨l, rfl⟩ := Int.eq_ofNat_of_zero_le h2
  rw [Int.toNat_natCast]
  have hbw := h.2.lt
  have c0 : w.cell? ⟨b, l * 8, none⟩ = some (.int .u64 (S.now.getD (l * 8) 0)) := by rw [h.2.cell, St.at_now h.1 _ (by omega)]
  have d0 : w.cell? ⟨b, 72 + l * 8, none⟩ = some (.int .u64 (S.good.getD (l * 8) 0)) := by rw [h.2.cell, show 72 + l * 8 = 72 + (l * 8) from by omega, St.at_good h.1 _ (by omega)]
  have c1 : w.cell? ⟨b, l * 8 + 1, none⟩ = some (.int .u64 (S.now.getD (l * 8 + 1) 0)) := by rw [h.2.cell, St.at_now h.1 _ (by omega)]
  have d1 : w.cell? ⟨b, 72 + l * 8 + 1, none⟩ = some (.int .u64 (S.good.getD (l * 8 + 1) 0)) := by rw [h.2.cell, show 72 + l * 8 + 1 = 72 + (l * 8 + 1) from by omega, St.at_good h.1 _ (by omega)]
  have c2 : w.cell? ⟨b, l * 8 + 2, none⟩ = some (.int .u64 (S.now.getD (l * 8 + 2) 0)) := by rw [h.2.cell, St.at_now h.1 _ (by omega)]
  have d2 : w.cell? ⟨b, 72 + l * 8 + 2, none⟩ = some (.int .u64 (S.good.getD (l * 8 + 2) 0)) := by rw [h.2.cell, show 72 + l * 8 + 2 = 72 + (l * 8 + 2) from by omega, St.at_good h.1 _ (by omega)]
  have c3 : w.cell? ⟨b, l * 8 + 3, none⟩ = some (.int .u64 (S.now.getD (l * 8 + 3) 0)) := by rw [h.2.cell, St.at_now h.1 _ (by omega)]
  have d3 : w.cell? ⟨b, 72 + l * 8 + 3, none⟩ = some (.int .u64 (S.good.getD (l * 8 + 3) 0)) := by rw [h.2.cell, show 72 + l * 8 + 3 = 72 + (l * 8 + 3) from by omega, St.at_good h.1 _ (by omega)]
  have c4 : w.cell? ⟨b, l * 8 + 4, none⟩ = some (.int .u64 (S.now.getD (l * 8 + 4) 0)) := by rw [h.2.cell, St.at_now h.1 _ (by omega)]
  have d4 : w.cell? ⟨b, 72 + l * 8 + 4, none⟩ = some (.int .u64 (S.good.getD (l * 8 + 4) 0)) := by rw [h.2.cell, show 72 + l * 8 + 4 = 72 + (l * 8 + 4) from by omega, St.at_good h.1 _ (by omega)]
  have c5 : w.cell? ⟨b, l * 8 + 5, none⟩ = some (.int .u64 (S.now.getD (l * 8 + 5) 0)) := by rw [h.2.cell, St.at_now h.1 _ (by omega)]
  have d5 : w.cell? ⟨b, 72 + l * 8 + 5, none⟩ = some (.int .u64 (S.good.getD (l * 8 + 5) 0)) := by rw [h.2.cell, show 72 + l * 8 + 5 = 72 + (l * 8 + 5) from by omega, St.at_good h.1 _ (by omega)]
  have c6 : w.cell? ⟨b, l * 8 + 6, none⟩ = some (.int .u64 (S.now.getD (l * 8 + 6) 0)) := by rw [h.2.cell, St.at_now h.1 _ (by omega)]
  have d6 : w.cell? ⟨b, 72 + l * 8 + 6, none⟩ = some (.int .u64 (S.good.getD (l * 8 + 6) 0)) := by rw [h.2.cell, show 72 + l * 8 + 6 = 72 + (l * 8 + 6) from by omega, St.at_good h.1 _ (by omega)]
  have c7 : w.cell? ⟨b, l * 8 + 7, none⟩ = some (.int .u64 (S.now.getD (l * 8 + 7) 0)) := by rw [h.2.cell, St.at_now h.1 _ (by omega)]
  have d7 : w.cell? ⟨b, 72 + l * 8 + 7, none⟩ = some (.int .u64 (S.good.getD (l * 8 + 7) 0)) := by rw [h.2.cell, show 72 + l * 8 + 7 = 72 + (l * 8 + 7) from by omega, St.at_good h.1 _ (by omega)]
  unfold lineV
  generalize S.now.getD (l * 8) 0 = x0 at *
  generalize S.good.getD (l * 8) 0 = y0 at *
  generalize S.now.getD (l * 8 + 1) 0 = x1 at *
  generalize S.good.getD (l * 8 + 1) 0 = y1 at *
  generalize S.now.getD (l * 8 + 2) 0 = x2 at *
  generalize S.good.getD (l * 8 + 2) 0 = y2 at *
  generalize S.now.getD (l * 8 + 3) 0 = x3 at *
  generalize S.good.getD (l * 8 + 3) 0 = y3 at *
  generalize S.now.getD (l * 8 + 4) 0 = x4 at *
  generalize S.good.getD (l * 8 + 4) 0 = y4 at *
  generalize S.now.getD (l * 8 + 5) 0 = x5 at *
  generalize S.good.getD (l * 8 + 5) 0 = y5 at *
  generalize S.now.getD (l * 8 + 6) 0 = x6 at *
  generalize S.good.getD (l * 8 + 6) 0 = y6 at *
  generalize S.now.getD (l * 8 + 7) 0 = x7 at *
  generalize S.good.getD (l * 8 + 7) 0 = y7 at *
  clear h c0 c1 c2 c3 c4 c5 c6 c7
  go_enter Try.func39, Try.ntmps39
  go_wp2_with fail
  refine bodyPost_ret (v := .tuple #[.agg #[.int .u64 y0, .int .u64 y1, .int .u64 y2, .int .u64 y3, .int .u64 y4, .int .u64 y5, .int .u64 y6, .int .u64 y7], .nilIface]) (by simp [results, Try.results39, go_sem]) rfl ⟨rfl, balloc (Below.refl _ w) _⟩
/-- A line as a list. -/
def lineL (s : List Int) (l : Nat) : List Int := [s.getD (l * 8) 0, s.getD (l * 8 + 1) 0, s.getD (l * 8 + 2) 0, s.getD (l * 8 + 3) 0, s.getD (l * 8 + 4) 0, s.getD (l * 8 + 5) 0, s.getD (l * 8 + 6) 0, s.getD (l * 8 + 7) 0]
theorem line_neq (x0 x1 x2 x3 x4 x5 x6 x7 y0 y1 y2 y3 y4 y5 y6 y7 : Int) (w : World) :
    (binOp .neq 62 (.agg #[.int .u64 x0, .int .u64 x1, .int .u64 x2, .int .u64 x3, .int .u64 x4, .int .u64 x5, .int .u64 x6, .int .u64 x7]) (.agg #[.int .u64 y0, .int .u64 y1, .int .u64 y2, .int .u64 y3, .int .u64 y4, .int .u64 y5, .int .u64 y6, .int .u64 y7])).run Try.prog w =
      .ok (.bool (!decide ([x0, x1, x2, x3, x4, x5, x6, x7] = [y0, y1, y2, y3, y4, y5, y6, y7]))) w :=
  run_neq_words (P := Try.prog) w 62 47 8 .u64 .u64 [x0, x1, x2, x3, x4, x5, x6, x7] [y0, y1, y2, y3, y4, y5, y6, y7] rfl rfl Try.underlying62 (by kernel_rfl) Try.underlying47
set_option maxHeartbeats 1000000 in
theorem store_dirty (w : World) (b : Nat) (S : St) (l : Int) (h : StoreAt w b S) (h2 : 0 ≤ l) (h3 : l < 9) :
    Calls Try.prog 38 #[.pointer (some ⟨b, 0, none⟩), .int .i64 l] w fun e w' => e = .returned (.bool (!decide (lineL S.now l.toNat = lineL S.good l.toNat))) ∧ Below w.heap.size w w' := by
  obtain ⟨l, rfl⟩ := Int.eq_ofNat_of_zero_le h2
  rw [Int.toNat_natCast]
  have hd1 : decide ((0 : Int) ≤ (l : Int)) = true := by simp
  have hd2 : decide ((l : Int) < 9) = true := by simp; omega
  unfold lineL
  have c0 : w.cell? ⟨b, l * 8, none⟩ = some (.int .u64 (S.now.getD (l * 8) 0)) := by rw [h.2.cell, St.at_now h.1 _ (by omega)]
  have d0 : w.cell? ⟨b, 72 + l * 8, none⟩ = some (.int .u64 (S.good.getD (l * 8) 0)) := by rw [h.2.cell, show 72 + l * 8 = 72 + (l * 8) from by omega, St.at_good h.1 _ (by omega)]
  have c1 : w.cell? ⟨b, l * 8 + 1, none⟩ = some (.int .u64 (S.now.getD (l * 8 + 1) 0)) := by rw [h.2.cell, St.at_now h.1 _ (by omega)]
  have d1 : w.cell? ⟨b, 72 + l * 8 + 1, none⟩ = some (.int .u64 (S.good.getD (l * 8 + 1) 0)) := by rw [h.2.cell, show 72 + l * 8 + 1 = 72 + (l * 8 + 1) from by omega, St.at_good h.1 _ (by omega)]
  have c2 : w.cell? ⟨b, l * 8 + 2, none⟩ = some (.int .u64 (S.now.getD (l * 8 + 2) 0)) := by rw [h.2.cell, St.at_now h.1 _ (by omega)]
  have d2 : w.cell? ⟨b, 72 + l * 8 + 2, none⟩ = some (.int .u64 (S.good.getD (l * 8 + 2) 0)) := by rw [h.2.cell, show 72 + l * 8 + 2 = 72 + (l * 8 + 2) from by omega, St.at_good h.1 _ (by omega)]
  have c3 : w.cell? ⟨b, l * 8 + 3, none⟩ = some (.int .u64 (S.now.getD (l * 8 + 3) 0)) := by rw [h.2.cell, St.at_now h.1 _ (by omega)]
  have d3 : w.cell? ⟨b, 72 + l * 8 + 3, none⟩ = some (.int .u64 (S.good.getD (l * 8 + 3) 0)) := by rw [h.2.cell, show 72 + l * 8 + 3 = 72 + (l * 8 + 3) from by omega, St.at_good h.1 _ (by omega)]
  have c4 : w.cell? ⟨b, l * 8 + 4, none⟩ = some (.int .u64 (S.now.getD (l * 8 + 4) 0)) := by rw [h.2.cell, St.at_now h.1 _ (by omega)]
  have d4 : w.cell? ⟨b, 72 + l * 8 + 4, none⟩ = some (.int .u64 (S.good.getD (l * 8 + 4) 0)) := by rw [h.2.cell, show 72 + l * 8 + 4 = 72 + (l * 8 + 4) from by omega, St.at_good h.1 _ (by omega)]
  have c5 : w.cell? ⟨b, l * 8 + 5, none⟩ = some (.int .u64 (S.now.getD (l * 8 + 5) 0)) := by rw [h.2.cell, St.at_now h.1 _ (by omega)]
  have d5 : w.cell? ⟨b, 72 + l * 8 + 5, none⟩ = some (.int .u64 (S.good.getD (l * 8 + 5) 0)) := by rw [h.2.cell, show 72 + l * 8 + 5 = 72 + (l * 8 + 5) from by omega, St.at_good h.1 _ (by omega)]
  have c6 : w.cell? ⟨b, l * 8 + 6, none⟩ = some (.int .u64 (S.now.getD (l * 8 + 6) 0)) := by rw [h.2.cell, St.at_now h.1 _ (by omega)]
  have d6 : w.cell? ⟨b, 72 + l * 8 + 6, none⟩ = some (.int .u64 (S.good.getD (l * 8 + 6) 0)) := by rw [h.2.cell, show 72 + l * 8 + 6 = 72 + (l * 8 + 6) from by omega, St.at_good h.1 _ (by omega)]
  have c7 : w.cell? ⟨b, l * 8 + 7, none⟩ = some (.int .u64 (S.now.getD (l * 8 + 7) 0)) := by rw [h.2.cell, St.at_now h.1 _ (by omega)]
  have d7 : w.cell? ⟨b, 72 + l * 8 + 7, none⟩ = some (.int .u64 (S.good.getD (l * 8 + 7) 0)) := by rw [h.2.cell, show 72 + l * 8 + 7 = 72 + (l * 8 + 7) from by omega, St.at_good h.1 _ (by omega)]
  generalize S.now.getD (l * 8) 0 = x0 at *
  generalize S.good.getD (l * 8) 0 = y0 at *
  generalize S.now.getD (l * 8 + 1) 0 = x1 at *
  generalize S.good.getD (l * 8 + 1) 0 = y1 at *
  generalize S.now.getD (l * 8 + 2) 0 = x2 at *
  generalize S.good.getD (l * 8 + 2) 0 = y2 at *
  generalize S.now.getD (l * 8 + 3) 0 = x3 at *
  generalize S.good.getD (l * 8 + 3) 0 = y3 at *
  generalize S.now.getD (l * 8 + 4) 0 = x4 at *
  generalize S.good.getD (l * 8 + 4) 0 = y4 at *
  generalize S.now.getD (l * 8 + 5) 0 = x5 at *
  generalize S.good.getD (l * 8 + 5) 0 = y5 at *
  generalize S.now.getD (l * 8 + 6) 0 = x6 at *
  generalize S.good.getD (l * 8 + 6) 0 = y6 at *
  generalize S.now.getD (l * 8 + 7) 0 = x7 at *
  generalize S.good.getD (l * 8 + 7) 0 = y7 at *
  clear h
  generalize hd : (!decide ([x0, x1, x2, x3, x4, x5, x6, x7] = [y0, y1, y2, y3, y4, y5, y6, y7])) = dd
  have hne := line_neq x0 x1 x2 x3 x4 x5 x6 x7 y0 y1 y2 y3 y4 y5 y6 y7
  rw [hd] at hne
  clear hd
  go_enter Try.func38, Try.ntmps38
  go_wp2_with fail
  go_quiet (fail)
  go_wp2_with fail
  go_ret
  exact ⟨rfl, below_drewN _ _⟩
end Go.Proofs.Ytakemnpicokaiaa
