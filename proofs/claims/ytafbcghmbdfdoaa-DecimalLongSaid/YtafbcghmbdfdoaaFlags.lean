/- Contracts of package flags and of its reference. -/
import Derived.Test.YtafbcghmbdfdoaaFacts
import Derived.Test.YtafbcghmbdfdoaaBits
import Derived.Test.YtafbcghmbdfdoaaRefBits
import Derived.BigQuiet
namespace Go.Proofs.Ytafbcghmbdfdoaa
open Go.RowKit
set_option linter.unusedVariables false



theorem of_any (r : Int) (w : World) (h : 0 ≤ r) (h' : r ≤ 255) :
    Calls Try.prog 16 #[.int .u8 r] w fun e w' => e = .returned (.agg #[.bool (decide (128 ≤ r)), .bool (r == 0), .bool false, .bool false, .bool (par r), .bool false, .bool false]) ∧ Below w.heap.size w w' := by
  go_enter Try.func16, Try.ntmps16
  go_wp2_with (first | (go_at_call 27; refine (parity_any _ _ (by omega) (by omega)).mono ?_; rintro e w' ⟨rfl, rfl⟩))
  go_returns
  exact ⟨rfl, by go_grown⟩

/-- The same, with the very world behind the call. -/
theorem of_exact (r : Int) (w : World) (h : 0 ≤ r) (h' : r ≤ 255) :
    Calls Try.prog 16 #[.int .u8 r] w fun e w' => e = .returned (.agg #[.bool (decide (128 ≤ r)), .bool (r == 0), .bool false, .bool false, .bool (par r), .bool false, .bool false]) ∧ w.alloc (.cells #[.bool (decide (128 ≤ r)), .bool (r == 0), .bool false, .bool false, .bool (par r), .bool false, .bool false] 23) = w' := by
  go_enter Try.func16, Try.ntmps16
  go_wp2_with (first | (go_at_call 27; refine (parity_any _ _ (by omega) (by omega)).mono ?_; rintro e w' ⟨rfl, rfl⟩))
  go_returns
  exact ⟨rfl, rfl⟩


theorem on_any (chip : Int) (w : World) : Calls Try.prog 30 #[.int .i64 chip] w fun e w' => e = .returned (.bool (chip == 2)) ∧ w = w' := by
  go_enter Try.func30, Try.ntmps30
  go_wp2
  go_ret
  exact ⟨rfl, rfl⟩



theorem rof_any (r : Int) (w : World) (h : 0 ≤ r) (h' : r ≤ 255) :
    Calls Try.prog 19 #[.int .u8 r] w fun e w' => e = .returned (.agg #[.bool (decide (128 ≤ r)), .bool (r == 0), .bool false, .bool false, .bool (par r), .bool false, .bool false]) ∧ Below w.heap.size w w' := by
  go_enter Try.func19, Try.ntmps19
  go_wp2_with (first | (go_at_call 29; refine (rparity_any _ _ (by omega) (by omega)).mono ?_; rintro e w' ⟨rfl, rfl⟩))
  go_returns
  exact ⟨rfl, by go_grown⟩

end Go.Proofs.Ytafbcghmbdfdoaa
