/- Contracts of the reference of package alu. -/
import Derived.Test.YtjbmgnkolbficaaAlu
namespace Go.Proofs.Ytjbmgnkolbficaa
open Go.RowKit
set_option linter.unusedVariables false

theorem rof_exact (r : Int) (w : World) (h : 0 ≤ r) (h' : r ≤ 255) :
    Calls Try.prog 23 #[.int .u8 r] w fun e w' => e = .returned (.agg #[.bool (decide (128 ≤ r)), .bool (r == 0), .bool false, .bool false, .bool (par r), .bool false, .bool false]) ∧ w.alloc (.cells #[.bool (decide (128 ≤ r)), .bool (r == 0), .bool false, .bool false, .bool (par r), .bool false, .bool false] 23) = w' := by
  go_enter Try.func23, Try.ntmps23
  go_wp2_with (first | (go_at_call 32; refine (rparity_any _ _ (by omega) (by omega)).mono ?_; rintro e w' ⟨rfl, rfl⟩))
  go_returns
  exact ⟨rfl, rfl⟩
theorem only_any (chip : Int) (kk vv : Bool) (on s z k ac p v cy : Bool) (w : World) (hc : (chip == 2) = on) :
    Calls Try.prog 24 #[.int .i64 chip, .agg #[.bool s, .bool z, .bool k, .bool ac, .bool p, .bool v, .bool cy], .bool kk, .bool vv] w fun e w' =>
      e = .returned (.agg #[.bool s, .bool z, .bool (on && kk), .bool ac, .bool p, .bool (on && vv), .bool cy]) ∧ ∃ o1 o2, (w.alloc o1).alloc o2 = w' := by
  cases on
  all_goals
    go_enter Try.func24, Try.ntmps24
    go_wp2
    go_returns
    exact ⟨rfl, _, _, rfl⟩
end Go.Proofs.Ytjbmgnkolbficaa
