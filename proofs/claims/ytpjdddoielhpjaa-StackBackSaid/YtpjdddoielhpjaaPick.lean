/- The contracts of the law package's helpers 'pick' and 'put'. -/
import Derived.Test.YtpjdddoielhpjaaRows
import Derived.Test.YtpjdddoielhpjaaBase
namespace Go.Proofs.Ytpjdddoielhpjaa
open Go.RowKit

theorem pick_any (a n : Int) (w : World) (hn : 0 < n) (hn' : n ≤ 9223372036854775807) :
    Calls Try.prog 16 #[.int .i64 a, .int .i64 n] w fun e w' => e = .returned (.int .i64 (pickZ a n)) ∧ w = w' := by
  have H0 := pick_eq a n hn hn'
  have H := Lib.hid H0; clear H0
  go_enter Try.func16, Try.ntmps16
  go_wp2
  go_ret
  exact ⟨ret_int H.out, rfl⟩
theorem put_any (v : Int) (w : World) :
    Calls Try.prog 18 #[.int .i64 v] w fun e w' => e = .returned (.agg #[.int .i64 1, .int .i64 0, .int .i64 v]) ∧ Below w.heap.size w w' := by
  go_enter Try.func18, Try.ntmps18
  go_wp2
  refine bodyPost_ret (v := .agg #[.int .i64 1, .int .i64 0, .int .i64 v]) (by simp [results, Try.results18, go_sem]) rfl ⟨rfl, ?_⟩
  exact (Below.refl _ _).alloc (Nat.le_refl _) _
end Go.Proofs.Ytpjdddoielhpjaa
