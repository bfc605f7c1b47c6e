/- The contract of op.Right. -/
import Derived.Test.YtpedkcpkdacnlaaBase
import Derived.Test.YtpedkcpkdacnlaaKeep
import Derived.Test.YtpedkcpkdacnlaaRows
import Derived.Test.YtpedkcpkdacnlaaResOps
import Derived.StillTailTactics
import Derived.Deep.Cut
namespace Go.Proofs.Ytpedkcpkdacnlaa
open Go.RowKit
set_option linter.unusedVariables false
def opOk (a b c : Int) : Bool := decide (1 ≤ a ∧ a ≤ 6 ∧ 0 ≤ b ∧ b ≤ 1000 ∧ 0 ≤ c ∧ c ≤ 4294967295)
set_option maxHeartbeats 4000000 in
theorem op_right (a b c : Int) (w : World) :
    Calls Try.prog 29 #[.agg #[.int .i64 a, .int .i64 b, .int .i64 c]] w fun e w' => e = .returned (.bool (opOk a b c)) ∧ Below w.heap.size w w' := by
  have HB := Lib.hid (Below.refl w.heap.size w)
  go_enter Try.func29, Try.ntmps29
  go_upto_region 1 with fail
  have hb1 := balloc (Below.refl _ w) (Obj.cells #[.int .i64 a, .int .i64 b, .int .i64 c] 30)
  have O := Lib.hid (Blk.new w [.int .i64 a, .int .i64 b, .int .i64 c] 30)
  change Hid (Blk (w.alloc (Obj.cells #[.int .i64 a, .int .i64 b, .int .i64 c] 30)) _ _ _) at O
  have ZO : Hid ((w.alloc (Obj.cells #[.int .i64 a, .int .i64 b, .int .i64 c] 30)).heap.size = w.heap.size + 1) := World.size_alloc _ _
  replace HB := Lib.hid (bcall HB.out hb1)
  clear hb1
  generalize w.alloc (Obj.cells #[.int .i64 a, .int .i64 b, .int .i64 c] 30) = w1 at *
  have O_c0 : w1.cell? ⟨w.heap.size, 0, none⟩ = some (.int .i64 a) := O.out.cell 0
  have O_c1 : w1.cell? ⟨w.heap.size, 1, none⟩ = some (.int .i64 b) := O.out.cell 1
  have O_c2 : w1.cell? ⟨w.heap.size, 2, none⟩ = some (.int .i64 c) := O.out.cell 2
  have O_z : w.heap.size < w1.heap.size := O.out.lt
  by_cases q0 : 1 ≤ a
  · have e0 : decide (1 ≤ a) = true := decide_eq_true q0
    by_cases q1 : a ≤ 6
    · have e1 : decide (a ≤ 6) = true := decide_eq_true q1
      by_cases q2 : 0 ≤ b
      · have e2 : decide (0 ≤ b) = true := decide_eq_true q2
        by_cases q3 : b ≤ 1000
        · have e3 : decide (b ≤ 1000) = true := decide_eq_true q3
          by_cases q4 : 0 ≤ c
          · have e4 : decide (0 ≤ c) = true := decide_eq_true q4
            by_cases q5 : c ≤ 4294967295
            · have e5 : decide (c ≤ 4294967295) = true := decide_eq_true q5
              have hr : opOk a b c = true := by simp [opOk]; omega
              have HR := Lib.hid hr
              clear hr
              clear q0 q1 q2 q3 q4 q5
              go_wp2_with fail
              go_ret
              exact ⟨by rw [HR.out]; rfl, HB.out⟩
            · have e5 : decide (c ≤ 4294967295) = false := decide_eq_false q5
              have hr : opOk a b c = false := by simp [opOk]; omega
              have HR := Lib.hid hr
              clear hr
              clear q0 q1 q2 q3 q4 q5
              go_wp2_with fail
              go_ret
              exact ⟨by rw [HR.out]; rfl, HB.out⟩
          · have e4 : decide (0 ≤ c) = false := decide_eq_false q4
            have hr : opOk a b c = false := by simp [opOk]; omega
            have HR := Lib.hid hr
            clear hr
            clear q0 q1 q2 q3 q4
            go_wp2_with fail
            go_ret
            exact ⟨by rw [HR.out]; rfl, HB.out⟩
        · have e3 : decide (b ≤ 1000) = false := decide_eq_false q3
          have hr : opOk a b c = false := by simp [opOk]; omega
          have HR := Lib.hid hr
          clear hr
          clear q0 q1 q2 q3
          go_wp2_with fail
          go_ret
          exact ⟨by rw [HR.out]; rfl, HB.out⟩
      · have e2 : decide (0 ≤ b) = false := decide_eq_false q2
        have hr : opOk a b c = false := by simp [opOk]; omega
        have HR := Lib.hid hr
        clear hr
        clear q0 q1 q2
        go_wp2_with fail
        go_ret
        exact ⟨by rw [HR.out]; rfl, HB.out⟩
    · have e1 : decide (a ≤ 6) = false := decide_eq_false q1
      have hr : opOk a b c = false := by simp [opOk]; omega
      have HR := Lib.hid hr
      clear hr
      clear q0 q1
      go_wp2_with fail
      go_ret
      exact ⟨by rw [HR.out]; rfl, HB.out⟩
  · have e0 : decide (1 ≤ a) = false := decide_eq_false q0
    have hr : opOk a b c = false := by simp [opOk]; omega
    have HR := Lib.hid hr
    clear hr
    clear q0
    go_wp2_with fail
    go_ret
    exact ⟨by rw [HR.out]; rfl, HB.out⟩
end Go.Proofs.Ytpedkcpkdacnlaa
