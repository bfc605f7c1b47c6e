/- The walk of the law StoreAll. -/
import Derived.Test.YtakemnpicokaiaaAlike
namespace Go.Proofs.Ytakemnpicokaiaa
open Go.RowKit
set_option linter.unusedVariables false
set_option maxHeartbeats 2000000 in
theorem walk_StoreAll (a0 : Option Addr) (len0 cap0 : Nat) (f0 : Nat → Nat → Int) (w : World) (h0 : Deeds w a0 len0 cap0 f0) :
    Calls Try.prog 12 #[.slice a0 len0 cap0] w fun e w' => e = .returned (.bool true) ∧ Below w.heap.size w w' := by
  have hcap0 := h0.1
  have hmax0 := h0.2.1
  have HD0 := Lib.hid h0
  clear h0
  by_cases hl : 60 < len0
  · go_enter Try.func12, Try.ntmps12
    go_wp2_with fail
    refine (kept_any _).mono ?_
    rintro e w1 ⟨rfl, hb1⟩
    go_wp2_with fail
    refine (done_many _ _ _ _ hl (by omega)).mono ?_
    rintro e w2 ⟨rfl, hb2⟩
    go_wp2_with fail
    go_ret
    exact ⟨by simp; omega, bcall hb1 hb2⟩
  go_enter Try.func12, Try.ntmps12
  go_wp2_with fail
  refine (kept_any _).mono ?_
  rintro e w1 ⟨rfl, hb1⟩
  go_wp2_with fail
  refine (done_any _ _ _ _ f0 (HD0.out.below hb1) (by omega)).mono ?_
  rintro e w2 ⟨rfl, ⟨S, hs2⟩, hb2⟩
  have HB := Lib.hid (bcall hb1 hb2)
  have hge := hb1.size
  generalize w1.heap.size = b at *
  clear hb1 hb2 HD0
  have HS := Lib.hid hs2
  clear hs2
  go_wp2_with (go_at_call 21; refine (pick_any _ _ _ (by decide) (by decide)).mono ?_; rintro e w' ⟨rfl, rfl⟩)
  have hlt := HS.out.2.lt
  have hok := Lib.hid HS.out.1
  refine (store_copy _ _ _ HS.out).mono ?_
  rintro e w3 ⟨rfl, HT, hb3⟩
  replace HB := Lib.hid (bcall HB.out hb3)
  replace HS := Lib.hid (HS.out.below hb3)
  replace HT := Lib.hid HT
  clear hb3
  generalize hc : w2.heap.size = c at *
  clear hc
  go_wp2_with fail
  refine (store_crash _ _ _ 18446744073709551615 HT.out (by decide) (by decide)).mono ?_
  rintro e w4 ⟨rfl, HT1, hb4⟩
  replace HB := Lib.hid (bkept HB.out hb4 (by rintro n rfl; omega))
  replace HS := Lib.hid (HS.out.kept hb4 (by intro hh; omega))
  clear HT
  replace HT1 := Lib.hid HT1
  clear hb4
  have Hn : Hid (∀ i, i < 72 → (crashSt S 18446744073709551615).now.getD i 0 = S.now.getD i 0) := Lib.hid (fun i hi => by rw [crash_now S hok.out _ i hi, bitZ_ones _ (by omega)]; rfl)
  have Hg : Hid (∀ i, i < 72 → (crashSt S 18446744073709551615).now.getD i 0 = (crashSt S 18446744073709551615).good.getD i 0) := Lib.hid (crash_same S hok.out _)
  generalize crashSt S 18446744073709551615 = T at *
  go_wp2_with fail
  go_loopw [5] (fun i wr => ∃ k : Nat, k ≤ 9 ∧ i = .int .i64 k ∧ Below w.heap.size w wr ∧ StoreAt wr b S ∧ StoreAt wr c T) (fun i _ => 9 - (intOf i).toNat)
  case atStart => exact ⟨0, by omega, rfl, HB.out, HS.out, HT1.out⟩
  case round =>
    clear HB HS HT1
    obtain ⟨k, hk, rfl, hb, hs, ht⟩ := hrel
    have HB := Lib.hid hb
    have HS := Lib.hid hs
    have HT := Lib.hid ht
    clear hb hs ht
    by_cases hlt9 : k < 9
    · have hVn' := Lib.hid (lineV_congr T.now S.now k (fun i hi => Hn.out i (by omega)))
      have hLg' := Lib.hid (lineL_congr T.now T.good k (fun i hi => Hg.out i (by omega)))
      obtain ⟨y0, y1, y2, y3, y4, y5, y6, y7, hN⟩ : ∃ y0 y1 y2 y3 y4 y5 y6 y7 : Int, lineV S.now k = #[.int .u64 y0, .int .u64 y1, .int .u64 y2, .int .u64 y3, .int .u64 y4, .int .u64 y5, .int .u64 y6, .int .u64 y7] := ⟨_, _, _, _, _, _, _, _, rfl⟩
      replace hN := Lib.hid hN
      have h2 : ∀ w, (binOp .neq 62 (.agg #[.int .u64 y0, .int .u64 y1, .int .u64 y2, .int .u64 y3, .int .u64 y4, .int .u64 y5, .int .u64 y6, .int .u64 y7]) (.agg #[.int .u64 y0, .int .u64 y1, .int .u64 y2, .int .u64 y3, .int .u64 y4, .int .u64 y5, .int .u64 y6, .int .u64 y7])).run Try.prog w = .ok (.bool false) w := fun w => by
        rw [line_neq]; simp
      go_wp2_with fail
      refine (lineNow_any _ _ S k HS.out (by omega) (by omega)).mono ?_
      rw [Int.toNat_natCast, hN.out]
      rintro e w1 ⟨rfl, hb1⟩
      replace HB := Lib.hid (bcall HB.out hb1)
      replace HS := Lib.hid (HS.out.below hb1)
      replace HT := Lib.hid (HT.out.below hb1)
      clear hb1
      go_wp2_with fail
      refine (lineNow_any _ _ T k HT.out (by omega) (by omega)).mono ?_
      rw [Int.toNat_natCast, hVn'.out, hN.out]
      rintro e w2 ⟨rfl, hb2⟩
      replace HB := Lib.hid (bcall HB.out hb2)
      replace HS := Lib.hid (HS.out.below hb2)
      replace HT := Lib.hid (HT.out.below hb2)
      clear hb2
      go_wp2_with fail
      refine (store_dirty _ _ T k HT.out (by omega) (by omega)).mono ?_
      rw [Int.toNat_natCast, show (!decide (lineL T.now k = lineL T.good k)) = false by rw [hLg'.out]; simp]
      rintro e w3 ⟨rfl, hb3⟩
      replace HB := Lib.hid (bcall HB.out hb3)
      replace HS := Lib.hid (HS.out.below hb3)
      replace HT := Lib.hid (HT.out.below hb3)
      clear hb3
      go_wp2_with fail
      go_roundw
      case rel => exact ⟨k + 1, by omega, by go_num, HB.out, HS.out, HT.out⟩
      case measure => simp [intOf]; omega
    · obtain rfl : k = 9 := by omega
      go_wp2_with fail
      go_ret
      exact ⟨rfl, HB.out⟩
end Go.Proofs.Ytakemnpicokaiaa
