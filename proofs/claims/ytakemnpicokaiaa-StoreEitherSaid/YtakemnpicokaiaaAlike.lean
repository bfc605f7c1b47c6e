/- The contracts of the law package's helper alike and of word.Bit. -/
import Derived.Test.YtakemnpicokaiaaStoreLine
import Derived.Deep.RegionHeld3
namespace Go.Proofs.Ytakemnpicokaiaa
open Go.RowKit
set_option linter.unusedVariables false
theorem crash_same (S : St) (h : S.ok) (x : Int) (i : Nat) (hi : i < 72) : (crashSt S x).now.getD i 0 = (crashSt S x).good.getD i 0 := by
  rw [crash_now S h x i hi, crash_good S h x i hi]
  cases bitZ x (i / 8) <;> simp
theorem crashSt_ok (S : St) (x : Int) (h : S.ok) : (crashSt S x).ok := by
  have h1 := crashTo_len S x 9 h.1 h.2.1
  unfold crashSt
  generalize crashTo S x 9 = c at *
  exact ⟨h1.1, h1.2, List.length_replicate⟩
theorem bitZ_ones (k : Nat) (hk : k < 9) : bitZ 18446744073709551615 k = true := by
  match k, hk with
  | 0, _ => decide +kernel
  | 1, _ => decide +kernel
  | 2, _ => decide +kernel
  | 3, _ => decide +kernel
  | 4, _ => decide +kernel
  | 5, _ => decide +kernel
  | 6, _ => decide +kernel
  | 7, _ => decide +kernel
  | 8, _ => decide +kernel
theorem lineL_of_V {s : List Int} {l : Nat} {x0 x1 x2 x3 x4 x5 x6 x7 : Int} (h : lineV s l = #[.int .u64 x0, .int .u64 x1, .int .u64 x2, .int .u64 x3, .int .u64 x4, .int .u64 x5, .int .u64 x6, .int .u64 x7]) : lineL s l = [x0, x1, x2, x3, x4, x5, x6, x7] := by
  unfold lineV at h; unfold lineL
  simp only [Array.mk.injEq, List.cons.injEq, Value.int.injEq, true_and, and_true] at h
  obtain ⟨h0, h1, h2, h3, h4, h5, h6, h7⟩ := h
  rw [h0, h1, h2, h3, h4, h5, h6, h7]
theorem word_bit (x : Int) (k : Nat) (w : World) (hk : k < 64) :
    Calls Try.prog 40 #[.int .u64 x, .int .i64 k] w fun e w' => e = .returned (.bool (bitZ x k)) ∧ w = w' := by
  have hb : Hid (bitZ x k = (bits BinOp.and IntKind.u64 (x / 2 ^ k) 1 == 1)) := Lib.hid rfl
  have e1 : min k 64 = k := by omega
  go_enter Try.func40, Try.ntmps40
  go_wp2_with fail
  go_ret
  exact ⟨by rw [hb.out]; rfl, rfl⟩
theorem word_bit' (x l : Int) (w : World) (h0 : 0 ≤ l) (h1 : l < 64) :
    Calls Try.prog 40 #[.int .u64 x, .int .i64 l] w fun e w' => e = .returned (.bool (bitZ x l.toNat)) ∧ w = w' := by
  obtain ⟨k, rfl⟩ := Int.eq_ofNat_of_zero_le h0
  exact word_bit x k w (by omega)
set_option maxHeartbeats 2000000 in
theorem alike_yes (w : World) (b c : Nat) (S T : St) (hS : StoreAt w b S) (hT : StoreAt w c T) (hn : ∀ i, i < 72 → T.now.getD i 0 = S.now.getD i 0) (hg : ∀ i, i < 72 → T.good.getD i 0 = S.good.getD i 0) :
    Calls Try.prog 41 #[.pointer (some ⟨b, 0, none⟩), .pointer (some ⟨c, 0, none⟩)] w fun e w' => e = .returned (.bool true) ∧ Below w.heap.size w w' := by
  have HS0 := Lib.hid hS
  have HT0 := Lib.hid hT
  have Hn := Lib.hid hn
  have Hg := Lib.hid hg
  clear hS hT hn hg
  go_enter Try.func41, Try.ntmps41
  go_wp2_with fail
  go_loopw [5] (fun i wr => ∃ k : Nat, k ≤ 9 ∧ i = .int .i64 k ∧ Below w.heap.size w wr) (fun i _ => 9 - (intOf i).toNat)
  case atStart => exact ⟨0, by omega, rfl, Below.refl _ _⟩
  case round =>
    obtain ⟨k, hk, rfl, hb⟩ := hrel
    have HB := Lib.hid hb
    have HS := Lib.hid (HS0.out.below hb)
    have HT := Lib.hid (HT0.out.below hb)
    clear hb
    by_cases hlt : k < 9
    · have hVg' := Lib.hid (lineV_congr T.good S.good k (fun i hi => Hg.out i (by omega)))
      have hVn' := Lib.hid (lineV_congr T.now S.now k (fun i hi => Hn.out i (by omega)))
      obtain ⟨x0, x1, x2, x3, x4, x5, x6, x7, hV⟩ : ∃ x0 x1 x2 x3 x4 x5 x6 x7 : Int, lineV S.good k = #[.int .u64 x0, .int .u64 x1, .int .u64 x2, .int .u64 x3, .int .u64 x4, .int .u64 x5, .int .u64 x6, .int .u64 x7] := ⟨_, _, _, _, _, _, _, _, rfl⟩
      replace hV := Lib.hid hV
      obtain ⟨y0, y1, y2, y3, y4, y5, y6, y7, hN⟩ : ∃ y0 y1 y2 y3 y4 y5 y6 y7 : Int, lineV S.now k = #[.int .u64 y0, .int .u64 y1, .int .u64 y2, .int .u64 y3, .int .u64 y4, .int .u64 y5, .int .u64 y6, .int .u64 y7] := ⟨_, _, _, _, _, _, _, _, rfl⟩
      replace hN := Lib.hid hN
      have h1 : ∀ w, (binOp .neq 62 (.agg #[.int .u64 x0, .int .u64 x1, .int .u64 x2, .int .u64 x3, .int .u64 x4, .int .u64 x5, .int .u64 x6, .int .u64 x7]) (.agg #[.int .u64 x0, .int .u64 x1, .int .u64 x2, .int .u64 x3, .int .u64 x4, .int .u64 x5, .int .u64 x6, .int .u64 x7])).run Try.prog w = .ok (.bool false) w := fun w => by
        rw [line_neq]; simp
      have h2 : ∀ w, (binOp .neq 62 (.agg #[.int .u64 y0, .int .u64 y1, .int .u64 y2, .int .u64 y3, .int .u64 y4, .int .u64 y5, .int .u64 y6, .int .u64 y7]) (.agg #[.int .u64 y0, .int .u64 y1, .int .u64 y2, .int .u64 y3, .int .u64 y4, .int .u64 y5, .int .u64 y6, .int .u64 y7])).run Try.prog w = .ok (.bool false) w := fun w => by
        rw [line_neq]; simp
      go_wp2_with fail
      refine (store_good _ _ S k HS.out (by omega) (by omega)).mono ?_
      rw [Int.toNat_natCast, hV.out]
      rintro e w1 ⟨rfl, hb1⟩
      replace HB := Lib.hid (bcall HB.out hb1)
      replace HS := Lib.hid (HS.out.below hb1)
      replace HT := Lib.hid (HT.out.below hb1)
      clear hb1
      go_wp2_with fail
      have hb2 := balloc (Below.refl _ w1) (Obj.cells #[.int .u64 x0, .int .u64 x1, .int .u64 x2, .int .u64 x3, .int .u64 x4, .int .u64 x5, .int .u64 x6, .int .u64 x7] 62)
      have X := Lib.hid (Blk.new w1 [.int .u64 x0, .int .u64 x1, .int .u64 x2, .int .u64 x3, .int .u64 x4, .int .u64 x5, .int .u64 x6, .int .u64 x7] 62)
      change Hid (Blk (w1.alloc (Obj.cells #[.int .u64 x0, .int .u64 x1, .int .u64 x2, .int .u64 x3, .int .u64 x4, .int .u64 x5, .int .u64 x6, .int .u64 x7] 62)) _ _ _) at X
      have ZX : Hid ((w1.alloc (Obj.cells #[.int .u64 x0, .int .u64 x1, .int .u64 x2, .int .u64 x3, .int .u64 x4, .int .u64 x5, .int .u64 x6, .int .u64 x7] 62)).heap.size = w1.heap.size + 1) := World.size_alloc _ _
      replace HB := Lib.hid (bcall HB.out hb2)
      replace HS := Lib.hid (HS.out.below hb2)
      replace HT := Lib.hid (HT.out.below hb2)
      clear hb2
      generalize w1.alloc (Obj.cells #[.int .u64 x0, .int .u64 x1, .int .u64 x2, .int .u64 x3, .int .u64 x4, .int .u64 x5, .int .u64 x6, .int .u64 x7] 62) = w2 at *
      generalize w1.heap.size = bX at *
      have X_c0 : w2.cell? ⟨bX, 0, none⟩ = some (.int .u64 x0) := X.out.cell 0
      have X_c1 : w2.cell? ⟨bX, 1, none⟩ = some (.int .u64 x1) := X.out.cell 1
      have X_c2 : w2.cell? ⟨bX, 2, none⟩ = some (.int .u64 x2) := X.out.cell 2
      have X_c3 : w2.cell? ⟨bX, 3, none⟩ = some (.int .u64 x3) := X.out.cell 3
      have X_c4 : w2.cell? ⟨bX, 4, none⟩ = some (.int .u64 x4) := X.out.cell 4
      have X_c5 : w2.cell? ⟨bX, 5, none⟩ = some (.int .u64 x5) := X.out.cell 5
      have X_c6 : w2.cell? ⟨bX, 6, none⟩ = some (.int .u64 x6) := X.out.cell 6
      have X_c7 : w2.cell? ⟨bX, 7, none⟩ = some (.int .u64 x7) := X.out.cell 7
      have X_z : bX < w2.heap.size := X.out.lt
      refine (store_good _ _ T k HT.out (by omega) (by omega)).mono ?_
      rw [Int.toNat_natCast, hVg'.out, hV.out]
      rintro e w3 ⟨rfl, hb3⟩
      clear X_c0 X_c1 X_c2 X_c3 X_c4 X_c5 X_c6 X_c7 X_z
      replace HB := Lib.hid (bcall HB.out hb3)
      replace HS := Lib.hid (HS.out.below hb3)
      replace HT := Lib.hid (HT.out.below hb3)
      replace X := Lib.hid (X.out.below hb3)
      clear hb3
      have X_c0 : w3.cell? ⟨bX, 0, none⟩ = some (.int .u64 x0) := X.out.cell 0
      have X_c1 : w3.cell? ⟨bX, 1, none⟩ = some (.int .u64 x1) := X.out.cell 1
      have X_c2 : w3.cell? ⟨bX, 2, none⟩ = some (.int .u64 x2) := X.out.cell 2
      have X_c3 : w3.cell? ⟨bX, 3, none⟩ = some (.int .u64 x3) := X.out.cell 3
      have X_c4 : w3.cell? ⟨bX, 4, none⟩ = some (.int .u64 x4) := X.out.cell 4
      have X_c5 : w3.cell? ⟨bX, 5, none⟩ = some (.int .u64 x5) := X.out.cell 5
      have X_c6 : w3.cell? ⟨bX, 6, none⟩ = some (.int .u64 x6) := X.out.cell 6
      have X_c7 : w3.cell? ⟨bX, 7, none⟩ = some (.int .u64 x7) := X.out.cell 7
      have X_z : bX < w3.heap.size := X.out.lt
      go_wp2_with fail
      have hb4 := balloc (Below.refl _ w3) (Obj.cells #[.int .u64 x0, .int .u64 x1, .int .u64 x2, .int .u64 x3, .int .u64 x4, .int .u64 x5, .int .u64 x6, .int .u64 x7] 62)
      have Y := Lib.hid (Blk.new w3 [.int .u64 x0, .int .u64 x1, .int .u64 x2, .int .u64 x3, .int .u64 x4, .int .u64 x5, .int .u64 x6, .int .u64 x7] 62)
      change Hid (Blk (w3.alloc (Obj.cells #[.int .u64 x0, .int .u64 x1, .int .u64 x2, .int .u64 x3, .int .u64 x4, .int .u64 x5, .int .u64 x6, .int .u64 x7] 62)) _ _ _) at Y
      have ZY : Hid ((w3.alloc (Obj.cells #[.int .u64 x0, .int .u64 x1, .int .u64 x2, .int .u64 x3, .int .u64 x4, .int .u64 x5, .int .u64 x6, .int .u64 x7] 62)).heap.size = w3.heap.size + 1) := World.size_alloc _ _
      clear X_c0 X_c1 X_c2 X_c3 X_c4 X_c5 X_c6 X_c7 X_z
      replace HB := Lib.hid (bcall HB.out hb4)
      replace HS := Lib.hid (HS.out.below hb4)
      replace HT := Lib.hid (HT.out.below hb4)
      replace X := Lib.hid (X.out.below hb4)
      clear hb4
      generalize w3.alloc (Obj.cells #[.int .u64 x0, .int .u64 x1, .int .u64 x2, .int .u64 x3, .int .u64 x4, .int .u64 x5, .int .u64 x6, .int .u64 x7] 62) = w4 at *
      generalize w3.heap.size = bY at *
      have X_c0 : w4.cell? ⟨bX, 0, none⟩ = some (.int .u64 x0) := X.out.cell 0
      have X_c1 : w4.cell? ⟨bX, 1, none⟩ = some (.int .u64 x1) := X.out.cell 1
      have X_c2 : w4.cell? ⟨bX, 2, none⟩ = some (.int .u64 x2) := X.out.cell 2
      have X_c3 : w4.cell? ⟨bX, 3, none⟩ = some (.int .u64 x3) := X.out.cell 3
      have X_c4 : w4.cell? ⟨bX, 4, none⟩ = some (.int .u64 x4) := X.out.cell 4
      have X_c5 : w4.cell? ⟨bX, 5, none⟩ = some (.int .u64 x5) := X.out.cell 5
      have X_c6 : w4.cell? ⟨bX, 6, none⟩ = some (.int .u64 x6) := X.out.cell 6
      have X_c7 : w4.cell? ⟨bX, 7, none⟩ = some (.int .u64 x7) := X.out.cell 7
      have X_z : bX < w4.heap.size := X.out.lt
      have Y_c0 : w4.cell? ⟨bY, 0, none⟩ = some (.int .u64 x0) := Y.out.cell 0
      have Y_c1 : w4.cell? ⟨bY, 1, none⟩ = some (.int .u64 x1) := Y.out.cell 1
      have Y_c2 : w4.cell? ⟨bY, 2, none⟩ = some (.int .u64 x2) := Y.out.cell 2
      have Y_c3 : w4.cell? ⟨bY, 3, none⟩ = some (.int .u64 x3) := Y.out.cell 3
      have Y_c4 : w4.cell? ⟨bY, 4, none⟩ = some (.int .u64 x4) := Y.out.cell 4
      have Y_c5 : w4.cell? ⟨bY, 5, none⟩ = some (.int .u64 x5) := Y.out.cell 5
      have Y_c6 : w4.cell? ⟨bY, 6, none⟩ = some (.int .u64 x6) := Y.out.cell 6
      have Y_c7 : w4.cell? ⟨bY, 7, none⟩ = some (.int .u64 x7) := Y.out.cell 7
      have Y_z : bY < w4.heap.size := Y.out.lt
      go_wp2_with fail
      refine (lineNow_any _ _ S k HS.out (by omega) (by omega)).mono ?_
      rw [Int.toNat_natCast, hN.out]
      rintro e w5 ⟨rfl, hb5⟩
      clear X_c0 X_c1 X_c2 X_c3 X_c4 X_c5 X_c6 X_c7 X_z
      clear Y_c0 Y_c1 Y_c2 Y_c3 Y_c4 Y_c5 Y_c6 Y_c7 Y_z
      replace HB := Lib.hid (bcall HB.out hb5)
      replace HS := Lib.hid (HS.out.below hb5)
      replace HT := Lib.hid (HT.out.below hb5)
      replace X := Lib.hid (X.out.below hb5)
      replace Y := Lib.hid (Y.out.below hb5)
      clear hb5
      have X_c0 : w5.cell? ⟨bX, 0, none⟩ = some (.int .u64 x0) := X.out.cell 0
      have X_c1 : w5.cell? ⟨bX, 1, none⟩ = some (.int .u64 x1) := X.out.cell 1
      have X_c2 : w5.cell? ⟨bX, 2, none⟩ = some (.int .u64 x2) := X.out.cell 2
      have X_c3 : w5.cell? ⟨bX, 3, none⟩ = some (.int .u64 x3) := X.out.cell 3
      have X_c4 : w5.cell? ⟨bX, 4, none⟩ = some (.int .u64 x4) := X.out.cell 4
      have X_c5 : w5.cell? ⟨bX, 5, none⟩ = some (.int .u64 x5) := X.out.cell 5
      have X_c6 : w5.cell? ⟨bX, 6, none⟩ = some (.int .u64 x6) := X.out.cell 6
      have X_c7 : w5.cell? ⟨bX, 7, none⟩ = some (.int .u64 x7) := X.out.cell 7
      have X_z : bX < w5.heap.size := X.out.lt
      have Y_c0 : w5.cell? ⟨bY, 0, none⟩ = some (.int .u64 x0) := Y.out.cell 0
      have Y_c1 : w5.cell? ⟨bY, 1, none⟩ = some (.int .u64 x1) := Y.out.cell 1
      have Y_c2 : w5.cell? ⟨bY, 2, none⟩ = some (.int .u64 x2) := Y.out.cell 2
      have Y_c3 : w5.cell? ⟨bY, 3, none⟩ = some (.int .u64 x3) := Y.out.cell 3
      have Y_c4 : w5.cell? ⟨bY, 4, none⟩ = some (.int .u64 x4) := Y.out.cell 4
      have Y_c5 : w5.cell? ⟨bY, 5, none⟩ = some (.int .u64 x5) := Y.out.cell 5
      have Y_c6 : w5.cell? ⟨bY, 6, none⟩ = some (.int .u64 x6) := Y.out.cell 6
      have Y_c7 : w5.cell? ⟨bY, 7, none⟩ = some (.int .u64 x7) := Y.out.cell 7
      have Y_z : bY < w5.heap.size := Y.out.lt
      go_wp2_with fail
      refine (lineNow_any _ _ T k HT.out (by omega) (by omega)).mono ?_
      rw [Int.toNat_natCast, hVn'.out, hN.out]
      rintro e w6 ⟨rfl, hb6⟩
      clear X_c0 X_c1 X_c2 X_c3 X_c4 X_c5 X_c6 X_c7 X_z
      clear Y_c0 Y_c1 Y_c2 Y_c3 Y_c4 Y_c5 Y_c6 Y_c7 Y_z
      replace HB := Lib.hid (bcall HB.out hb6)
      replace HS := Lib.hid (HS.out.below hb6)
      replace HT := Lib.hid (HT.out.below hb6)
      replace X := Lib.hid (X.out.below hb6)
      replace Y := Lib.hid (Y.out.below hb6)
      clear hb6
      have X_c0 : w6.cell? ⟨bX, 0, none⟩ = some (.int .u64 x0) := X.out.cell 0
      have X_c1 : w6.cell? ⟨bX, 1, none⟩ = some (.int .u64 x1) := X.out.cell 1
      have X_c2 : w6.cell? ⟨bX, 2, none⟩ = some (.int .u64 x2) := X.out.cell 2
      have X_c3 : w6.cell? ⟨bX, 3, none⟩ = some (.int .u64 x3) := X.out.cell 3
      have X_c4 : w6.cell? ⟨bX, 4, none⟩ = some (.int .u64 x4) := X.out.cell 4
      have X_c5 : w6.cell? ⟨bX, 5, none⟩ = some (.int .u64 x5) := X.out.cell 5
      have X_c6 : w6.cell? ⟨bX, 6, none⟩ = some (.int .u64 x6) := X.out.cell 6
      have X_c7 : w6.cell? ⟨bX, 7, none⟩ = some (.int .u64 x7) := X.out.cell 7
      have X_z : bX < w6.heap.size := X.out.lt
      have Y_c0 : w6.cell? ⟨bY, 0, none⟩ = some (.int .u64 x0) := Y.out.cell 0
      have Y_c1 : w6.cell? ⟨bY, 1, none⟩ = some (.int .u64 x1) := Y.out.cell 1
      have Y_c2 : w6.cell? ⟨bY, 2, none⟩ = some (.int .u64 x2) := Y.out.cell 2
      have Y_c3 : w6.cell? ⟨bY, 3, none⟩ = some (.int .u64 x3) := Y.out.cell 3
      have Y_c4 : w6.cell? ⟨bY, 4, none⟩ = some (.int .u64 x4) := Y.out.cell 4
      have Y_c5 : w6.cell? ⟨bY, 5, none⟩ = some (.int .u64 x5) := Y.out.cell 5
      have Y_c6 : w6.cell? ⟨bY, 6, none⟩ = some (.int .u64 x6) := Y.out.cell 6
      have Y_c7 : w6.cell? ⟨bY, 7, none⟩ = some (.int .u64 x7) := Y.out.cell 7
      have Y_z : bY < w6.heap.size := Y.out.lt
      go_wp2_with fail
      go_roundw
      case rel => exact ⟨k + 1, by omega, by go_num, HB.out⟩
      case measure => simp [intOf]; omega
    · obtain rfl : k = 9 := by omega
      go_wp2_with fail
      go_ret
      exact ⟨rfl, HB.out⟩
end Go.Proofs.Ytakemnpicokaiaa
