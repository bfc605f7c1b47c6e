/- The contracts of the law package's helper 'pick'. -/
import Derived.Test.YtpedkcpkdacnlaaRows
import Derived.Test.YtpedkcpkdacnlaaBase
namespace Go.Proofs.Ytpedkcpkdacnlaa
open Go.RowKit

theorem pick_any (a n : Int) (w : World) (hn : 0 < n) (hn' : n ≤ 9223372036854775807) :
    Calls Try.prog 24 #[.int .i64 a, .int .i64 n] w fun e w' => e = .returned (.int .i64 (pickZ a n)) ∧ w = w' := by
  have H0 := pick_eq a n hn hn'
  have H := Lib.hid H0; clear H0
  go_enter Try.func24, Try.ntmps24
  go_wp2
  go_ret
  exact ⟨ret_int H.out, rfl⟩
end Go.Proofs.Ytpedkcpkdacnlaa
