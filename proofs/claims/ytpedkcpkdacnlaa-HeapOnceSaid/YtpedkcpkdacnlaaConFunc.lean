/- slices.ContainsFunc at []int with the law HeapOnce's own function: is there a number below 1? -/
import Derived.Test.YtpedkcpkdacnlaaSortRow
import Derived.Test.YtpedkcpkdacnlaaRev
namespace Go.Proofs.Ytpedkcpkdacnlaa
open Go.RowKit
set_option linter.unusedVariables false
theorem once1_any (x : Int) (w : World) :
    Calls Try.prog 43 #[.int .i64 x] w fun e w' => e = .returned (.bool (decide (x < 1))) ∧ w = w' := by
  go_enter Try.func43, Try.ntmps43
  go_wp2
  go_ret
  exact ⟨rfl, rfl⟩
def LowAt (xs : List Int) (w : World) (e : Ending) (w' : World) : Prop := ∃ r : Int, e = .returned (.int .i64 r) ∧ -1 ≤ r ∧ (0 ≤ r ↔ ∃ j, j < xs.length ∧ hp xs j < 1) ∧ w = w'
set_option maxRecDepth 20000 in
set_option maxHeartbeats 4000000 in
theorem indexFunc_any (w : World) (v : Value) (xs : List Int) (h : Sl w v xs) :
    Calls Try.prog 57 #[v, .func (.func 43) #[] #[]] w (LowAt xs w) := by
  obtain ⟨a, cap, rfl, h1, h2, h3⟩ := h
  have H3 := Lib.hid h3
  clear h3
  go_enter Try.func57, Try.ntmps57
  go_wp2_with fail
  go_loop [8] (fun i => ∃ j : Nat, j ≤ xs.length ∧ i = .int .i64 j ∧ Hid (∀ i, i < j → 1 ≤ hp xs i)) (fun i => xs.length - (intOf i).toNat)
  case atStart => exact ⟨0, by omega, rfl, Lib.hid (fun i hi => by omega)⟩
  case round =>
    obtain ⟨j, hj, rfl, HI⟩ := hrel
    by_cases hlt : j < xs.length
    · obtain ⟨b, off, rfl, hbl, hc⟩ : ∃ b off, a = some ⟨b, off, none⟩ ∧ b < w.heap.size ∧ ∀ j, j < xs.length → w.cell? ⟨b, off + j, none⟩ = some (.int .i64 (xs.getD j 0)) := by
        rcases H3.out with h | h
        · omega
        · exact h
      have cj : w.cell? ⟨b, off + j, none⟩ = some (.int .i64 (hp xs j)) := hc j hlt
      clear hc
      obtain ⟨x, hx⟩ : ∃ x, hp xs j = x := ⟨_, rfl⟩
      rw [hx] at cj
      have HX := Lib.hid hx
      clear hx
      go_wp2_with fail
      refine (once1_any x _).mono ?_
      rintro e w' ⟨rfl, rfl⟩
      by_cases hz : x < 1
      · have t1 : decide (x < 1) = true := by simp [hz]
        go_wp2_with fail
        go_ret
        exact ⟨_, rfl, by omega, ⟨fun _ => ⟨j, hlt, by rw [HX.out]; exact hz⟩, fun _ => by omega⟩, rfl⟩
      · have t1 : decide (x < 1) = false := by simp [hz]
        go_wp2_with fail
        go_round
        case rel => exact ⟨j + 1, by omega, by go_num, Lib.hid (fun i hi => by
          by_cases e : i = j
          · subst e; rw [HX.out]; omega
          · exact HI.out i (by omega))⟩
        case measure => simp [intOf]; omega
    · obtain rfl : j = xs.length := by omega
      go_wp2_with fail
      go_ret
      exact ⟨_, rfl, by omega, ⟨fun h => by omega, fun ⟨i, hi, hl⟩ => by have := HI.out i hi; omega⟩, rfl⟩
def lowB (xs : List Int) : Bool := decide (∃ j, j < xs.length ∧ hp xs j < 1)
set_option maxRecDepth 20000 in
set_option maxHeartbeats 4000000 in
theorem contFunc_any (w : World) (v : Value) (xs : List Int) (h : Sl w v xs) :
    Calls Try.prog 42 #[v, .func (.func 43) #[] #[]] w fun e w' => e = .returned (.bool (lowB xs)) ∧ Below w.heap.size w w' := by
  have HS := Lib.hid h
  obtain ⟨a, cap, rfl⟩ := h.slice
  clear h
  go_enter Try.func42, Try.ntmps42
  go_wp2_with fail
  refine (indexFunc_any _ _ xs HS.out).mono ?_
  rintro e w' ⟨r, rfl, hr1, hr, rfl⟩
  have HR := Lib.hid hr
  clear hr
  go_wp2_with fail
  go_ret
  refine ⟨?_, Below.refl _ _⟩
  unfold lowB
  simp only [← HR.out]
  rfl
end Go.Proofs.Ytpedkcpkdacnlaa
