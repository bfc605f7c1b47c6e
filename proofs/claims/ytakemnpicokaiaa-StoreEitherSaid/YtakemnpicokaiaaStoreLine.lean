/- Plain laws of a line: two stores whose words agree on a line show the same line. -/
import Derived.Test.YtakemnpicokaiaaStorePlain
namespace Go.Proofs.Ytakemnpicokaiaa
set_option linter.unusedVariables false
theorem Blk.drew {w : World} {b : Nat} {C : List Value} {t : TypeId} (h : Blk w b C t) : Blk w.drew b C t := h
theorem lineV_congr (a b : List Int) (l : Nat) (h : ∀ i, i / 8 = l → a.getD i 0 = b.getD i 0) : lineV a l = lineV b l := by
  unfold lineV
  rw [h (l * 8) (by omega), h (l * 8 + 1) (by omega), h (l * 8 + 2) (by omega), h (l * 8 + 3) (by omega), h (l * 8 + 4) (by omega), h (l * 8 + 5) (by omega), h (l * 8 + 6) (by omega), h (l * 8 + 7) (by omega)]
theorem lineL_congr (a b : List Int) (l : Nat) (h : ∀ i, i / 8 = l → a.getD i 0 = b.getD i 0) : lineL a l = lineL b l := by
  unfold lineL
  rw [h (l * 8) (by omega), h (l * 8 + 1) (by omega), h (l * 8 + 2) (by omega), h (l * 8 + 3) (by omega), h (l * 8 + 4) (by omega), h (l * 8 + 5) (by omega), h (l * 8 + 6) (by omega), h (l * 8 + 7) (by omega)]
theorem line_eql (x0 x1 x2 x3 x4 x5 x6 x7 y0 y1 y2 y3 y4 y5 y6 y7 : Int) (w : World) :
    (binOp .eql 62 (.agg #[.int .u64 x0, .int .u64 x1, .int .u64 x2, .int .u64 x3, .int .u64 x4, .int .u64 x5, .int .u64 x6, .int .u64 x7]) (.agg #[.int .u64 y0, .int .u64 y1, .int .u64 y2, .int .u64 y3, .int .u64 y4, .int .u64 y5, .int .u64 y6, .int .u64 y7])).run Try.prog w =
      .ok (.bool (decide ([x0, x1, x2, x3, x4, x5, x6, x7] = [y0, y1, y2, y3, y4, y5, y6, y7]))) w :=
  run_eql_words (P := Try.prog) w 62 47 8 .u64 .u64 [x0, x1, x2, x3, x4, x5, x6, x7] [y0, y1, y2, y3, y4, y5, y6, y7] rfl rfl Try.underlying62 (by kernel_rfl) Try.underlying47
theorem wf_u64 {a : Int} (h : (Lit.int .u64 a).wf = true) : 0 ≤ a ∧ a < 18446744073709551616 := by
  have hm : (IntKind.u64).min = 0 := by rfl
  have hM : (IntKind.u64).max = 18446744073709551615 := by rfl
  simp only [Lit.wf, hm, hM, Bool.and_eq_true, decide_eq_true_eq] at h
  omega
theorem self_eql (s : List Int) (l : Nat) (w : World) : (binOp .eql 62 (.agg (lineV s l)) (.agg (lineV s l))).run Try.prog w = .ok (.bool true) w := by
  unfold lineV; rw [line_eql]; simp
theorem crash_now (S : St) (h : S.ok) (x : Int) (i : Nat) (hi : i < 72) : (crashSt S x).now.getD i 0 = if bitZ x (i / 8) = false then S.good.getD i 0 else S.now.getD i 0 := by
  unfold crashSt
  dsimp only
  rw [(crashTo_get S x 9 i hi h.1 h.2.1 (Nat.le_refl _)).1]
  by_cases hb : bitZ x (i / 8) = false
  · rw [if_pos ⟨by omega, hb⟩, if_pos hb]
  · rw [if_neg (fun c => hb c.2), if_neg hb]
theorem crash_good (S : St) (h : S.ok) (x : Int) (i : Nat) (hi : i < 72) : (crashSt S x).good.getD i 0 = if bitZ x (i / 8) = true then S.now.getD i 0 else S.good.getD i 0 := by
  unfold crashSt
  dsimp only
  rw [(crashTo_get S x 9 i hi h.1 h.2.1 (Nat.le_refl _)).2]
  by_cases hb : bitZ x (i / 8) = true
  · rw [if_pos ⟨by omega, hb⟩, if_pos hb]
  · rw [if_neg (fun c => hb c.2), if_neg hb]
theorem fence_good (S : St) (h : S.ok) (t i : Nat) (hi : i < 72) : (fenceSt S t).good.getD i 0 = if S.wanted.getD (t * 9 + i / 8) false = true then S.now.getD i 0 else S.good.getD i 0 := by
  unfold fenceSt
  dsimp only
  rw [fenceTo_get S t 9 i hi h.2.1 (Nat.le_refl _)]
  by_cases hb : S.wanted.getD (t * 9 + i / 8) false = true
  · rw [if_pos ⟨by omega, hb⟩, if_pos hb]
  · rw [if_neg (fun c => hb c.2), if_neg hb]
theorem flush_wanted (W : List Bool) (j : Nat) (hj : j < W.length) : (W.set j true).getD j false = true := by
  rw [List.getD_eq_getElem?_getD, List.getElem?_set]
  simp [hj]
end Go.Proofs.Ytakemnpicokaiaa
