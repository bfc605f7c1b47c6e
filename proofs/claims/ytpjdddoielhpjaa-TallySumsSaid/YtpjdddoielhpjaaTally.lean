/- What the tally's Do returns: the contract of tally.Do for a tally and a value in their ranges. -/
import Derived.Test.YtpjdddoielhpjaaRows
import Derived.Test.YtpjdddoielhpjaaBase
namespace Go.Proofs.Ytpjdddoielhpjaa
open Go.RowKit
def tallyR (n k v : Int) : Int := if k = 1 then (if 4294967295 - n < v then n else n + v) else if k = 2 then (if n < v then n else n - v) else n
def tallyC (n k v : Int) : Int := if k = 1 then (if 4294967295 - n < v then 3 else 1) else if k = 2 then (if n < v then 2 else 1) else if k = 5 ∨ k = 6 then 1 else 5
def tallyV (n k v : Int) : Int := if k = 1 then (if 4294967295 - n < v then 0 else n) else if k = 2 then (if n < v then 0 else n) else if k = 5 ∨ k = 6 then n else 0
theorem tup2 {a b a' b' c c' : Int} (h1 : a = a') (h2 : b = b') (h3 : c = c') : Value.tuple #[.int .i64 a, .agg #[.int .i64 b, .int .i64 c]] = Value.tuple #[.int .i64 a', .agg #[.int .i64 b', .int .i64 c']] := by rw [h1, h2, h3]

set_option maxHeartbeats 400000 in
theorem tally_any (n k key v : Int) (w : World) (h0 : 0 ≤ n) (h1 : n ≤ 4294967295) (h2 : 0 ≤ v) (h3 : v ≤ 4294967295) :
    Calls Try.prog 17 #[.int .i64 n, .agg #[.int .i64 k, .int .i64 key, .int .i64 v]] w fun e w' =>
      e = .returned (.tuple #[.int .i64 (tallyR n k v), .agg #[.int .i64 (tallyC n k v), .int .i64 (tallyV n k v)]]) ∧ Below w.heap.size w w' := by
  go_enter Try.func17, Try.ntmps17
  go_wp2
  all_goals (refine bodyPost_ret (by simp [results, Try.results17, go_sem]; exact rfl) rfl ⟨congrArg Ending.returned ?_, ?_⟩)
  all_goals first
    | exact ((Below.refl _ _).alloc (Nat.le_refl _) _).alloc (by simp) _
    | (refine tup2 ?_ ?_ ?_ <;> (simp only [tallyR, tallyC, tallyV, beq_iff_eq, beq_eq_false_iff_ne] at *; omega))
theorem tally_is (n k key v r c x : Int) (w : World) (h0 : 0 ≤ n) (h1 : n ≤ 4294967295) (h2 : 0 ≤ v) (h3 : v ≤ 4294967295)
    (hr : tallyR n k v = r) (hc : tallyC n k v = c) (hx : tallyV n k v = x) :
    Calls Try.prog 17 #[.int .i64 n, .agg #[.int .i64 k, .int .i64 key, .int .i64 v]] w fun e w' =>
      e = .returned (.tuple #[.int .i64 r, .agg #[.int .i64 c, .int .i64 x]]) ∧ Below w.heap.size w w' := by
  subst hr hc hx; exact tally_any n k key v w h0 h1 h2 h3
theorem tallyR_lo (n k v : Int) (h0 : 0 ≤ n) (h2 : 0 ≤ v) : 0 ≤ tallyR n k v := by unfold tallyR; split <;> split <;> omega
theorem tallyR_hi (n k v : Int) (h1 : n ≤ 4294967295) (h2 : 0 ≤ v) : tallyR n k v ≤ 4294967295 := by unfold tallyR; split <;> split <;> omega
end Go.Proofs.Ytpjdddoielhpjaa
