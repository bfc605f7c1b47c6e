/- The contract of the law package's helper 'put'. -/
import Derived.Test.YtpedkcpkdacnlaaPick
namespace Go.Proofs.Ytpedkcpkdacnlaa
open Go.RowKit
theorem put_any (v : Int) (w : World) :
    Calls Try.prog 38 #[.int .i64 v] w fun e w' => e = .returned (.agg #[.int .i64 1, .int .i64 0, .int .i64 v]) ∧ Below w.heap.size w w' := by
  go_enter Try.func38, Try.ntmps38
  go_wp2
  refine bodyPost_ret (v := .agg #[.int .i64 1, .int .i64 0, .int .i64 v]) (by simp [results, Try.results38, go_sem]) rfl ⟨rfl, ?_⟩
  exact (Below.refl _ _).alloc (Nat.le_refl _) _
end Go.Proofs.Ytpedkcpkdacnlaa
