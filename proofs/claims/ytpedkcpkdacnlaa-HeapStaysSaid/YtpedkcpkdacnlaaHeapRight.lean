/- The contract of heap.Right. -/
import Derived.Test.YtpedkcpkdacnlaaRev
import Derived.Test.YtpedkcpkdacnlaaHeapLaws
import Derived.Test.YtpedkcpkdacnlaaStableOps
import Derived.Deep.Cut
import Derived.BigQuiet
namespace Go.Proofs.Ytpedkcpkdacnlaa
open Go.RowKit
set_option linter.unusedVariables false
def heapTo (xs : List Int) : Nat → Bool
  | 0 => true
  | j + 1 => heapTo xs j && decide (j = 0 ∨ hp xs ((j - 1) / 2) ≤ hp xs j)
theorem heapTo_iff (xs : List Int) (n : Nat) : heapTo xs n = true ↔ ∀ j, 0 < j → j < n → hp xs ((j - 1) / 2) ≤ hp xs j := by
  induction n with
  | zero => simp [heapTo]
  | succ n ih =>
    simp only [heapTo, Bool.and_eq_true, ih, decide_eq_true_eq]
    constructor
    · rintro ⟨a, b⟩ j h0 hj
      by_cases e : j = n
      · subst e; rcases b with b | b
        · omega
        · exact b
      · exact a j h0 (by omega)
    · intro h
      exact ⟨fun j h0 hj => h j h0 (by omega), by by_cases e : n = 0; exact .inl e; exact .inr (h n (by omega) (by omega))⟩
def heapB (xs : List Int) : Bool := heapTo xs xs.length && decide (xs.length ≤ 6)
theorem heapB_iff (xs : List Int) : heapB xs = true ↔ IsHeap xs ∧ xs.length ≤ 6 := by
  unfold heapB; rw [Bool.and_eq_true, heapTo_iff, decide_eq_true_eq]; exact Iff.rfl
theorem heapTo_bad (xs : List Int) (j n : Nat) (h : heapTo xs j = false) (hj : j ≤ n) : heapTo xs n = false := by
  cases e : heapTo xs n
  · rfl
  · have := (heapTo_iff xs j).2 (fun i a b => (heapTo_iff xs n).1 e i a (by omega)); rw [h] at this; cases this
set_option maxRecDepth 20000 in
set_option maxHeartbeats 4000000 in
theorem heap_right (w : World) (v : Value) (xs : List Int) (h : Sl w v xs) :
    Calls Try.prog 18 #[v] w fun e w' => e = .returned (.bool (heapB xs)) ∧ Below w.heap.size w w' := by
  obtain ⟨a, cap, rfl, h1, h2, h3⟩ := h
  have H3 := Lib.hid h3
  clear h3
  have HB := Lib.hid (Below.refl w.heap.size w)
  have hl : (xs.length : Int) ≤ 9223372036854775807 := by omega
  go_enter Try.func18, Try.ntmps18
  go_wp2_with fail
  go_loopw [6] (fun i wr => ∃ j : Nat, j ≤ xs.length ∧ i = .int .i64 j ∧ heapTo xs j = true ∧ Below w.heap.size w wr) (fun i _ => xs.length - (intOf i).toNat)
  case atStart => exact ⟨0, by omega, rfl, rfl, HB.out⟩
  case round =>
    obtain ⟨j, hj, rfl, hto, hb⟩ := hrel
    have HTO := Lib.hid hto
    have HB := Lib.hid hb
    clear hto
    by_cases hlt : j < xs.length
    · obtain ⟨b, off, rfl, hbl, hc⟩ : ∃ b off, a = some ⟨b, off, none⟩ ∧ b < w.heap.size ∧ ∀ j, j < xs.length → w.cell? ⟨b, off + j, none⟩ = some (.int .i64 (xs.getD j 0)) := by
        rcases H3.out with h | h
        · omega
        · exact h
      have hse : heapTo xs (j + 1) = (heapTo xs j && decide (j = 0 ∨ hp xs ((j - 1) / 2) ≤ hp xs j)) := rfl
      rw [HTO.out, Bool.true_and] at hse
      by_cases h0 : j = 0
      · have g0 : decide ((0 : Int) < (j : Int)) = false := by simp; omega
        have hok : heapTo xs (j + 1) = true := by rw [hse]; simp [h0]
        have HOK := Lib.hid hok
        clear hse hok hc hb
        go_upto_region 4 with fail
        go_quiet (fail)
        go_wp2_with fail
        go_roundw
        case rel => exact ⟨j + 1, by omega, by go_num, HOK.out, HB.out.trans (Below.mono (below_drewN _ _) HB.out.size)⟩
        case measure => simp [intOf]; omega
      · have g0 : decide ((0 : Int) < (j : Int)) = true := by simp; omega
        have g00 : (0 : Int) < (j : Int) := by omega
        have g01 : 0 < j := by omega
        obtain ⟨p, hp0⟩ : ∃ p, p = (j - 1) / 2 := ⟨_, rfl⟩
        have hpj : p < xs.length := by omega
        have cj := (hb.cell (p := ⟨b, off + j, none⟩) hbl).trans (hc j hlt)
        have cp := (hb.cell (p := ⟨b, off + p, none⟩) hbl).trans (hc p hpj)
        have hw1 : IntKind.i64.wrap ((j : Int) - 1) = (j : Int) - 1 := IntWalk.i64_in _ (by omega)
        have hw2 : IntKind.i64.wrap (((j : Int) - 1).tdiv 2) = (p : Int) := by
          rw [Int.tdiv_eq_ediv_of_nonneg (by omega)]
          rw [IntWalk.i64_in _ (by omega)]; omega
        have hw3 : ((j : Int) - 1).tdiv 2 = (p : Int) := by
          rw [Int.tdiv_eq_ediv_of_nonneg (by omega)]; omega
        rw [← hp0] at hse
        have hse2 : heapTo xs (j + 1) = decide (hp xs p ≤ hp xs j) := by rw [hse]; simp [h0]
        have HSE := Lib.hid hse2
        change wr.cell? ⟨b, off + j, none⟩ = some (.int .i64 (hp xs j)) at cj
        change wr.cell? ⟨b, off + p, none⟩ = some (.int .i64 (hp xs p)) at cp
        have HP := Lib.hid hp0
        clear hse hse2 hc hb hp0
        generalize hp xs j = zj at *
        generalize hp xs p = zp at *
        by_cases hz : zj < zp
        · have g1 : decide (zj < zp) = true := by simp [hz]
          go_upto_region 4 with fail
          go_quiet (fail)
          go_wp2_with fail
          go_ret
          exact ⟨by rw [show heapB xs = false from by unfold heapB; rw [heapTo_bad xs (j + 1) xs.length (by rw [HSE.out]; simp [hz]) (by omega)]; rfl]; first | rfl | go_simp, HB.out.trans (Below.mono (below_drewN _ _) HB.out.size)⟩
        · have g1 : decide (zj < zp) = false := by simp [hz]
          have hok : heapTo xs (j + 1) = true := by rw [HSE.out]; simp; omega
          have HOK := Lib.hid hok
          clear hok
          go_upto_region 4 with fail
          go_quiet (fail)
          go_wp2_with fail
          go_roundw
          case rel => exact ⟨j + 1, by omega, by go_num, HOK.out, HB.out.trans (Below.mono (below_drewN _ _) HB.out.size)⟩
          case measure => simp [intOf]; omega
    · obtain rfl : j = xs.length := by omega
      go_wp2_with fail
      go_ret
      refine ⟨?_, HB.out⟩
      unfold heapB
      rw [HTO.out, Bool.true_and]
      go_simp
      omega
end Go.Proofs.Ytpedkcpkdacnlaa
