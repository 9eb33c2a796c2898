/- Contracts of package decimal and of its reference. -/
import Derived.Test.YtafbcghmbdfdoaaDaa
namespace Go.Proofs.Ytafbcghmbdfdoaa
open Go.RowKit
set_option linter.unusedVariables false


theorem rof_exact (r : Int) (w : World) (h : 0 ≤ r) (h' : r ≤ 255) :
    Calls Try.prog 19 #[.int .u8 r] w fun e w' => e = .returned (.agg #[.bool (decide (128 ≤ r)), .bool (r == 0), .bool false, .bool false, .bool (par r), .bool false, .bool false]) ∧ w.alloc (.cells #[.bool (decide (128 ≤ r)), .bool (r == 0), .bool false, .bool false, .bool (par r), .bool false, .bool false] 23) = w' := by
  go_enter Try.func19, Try.ntmps19
  go_wp2_with (first | (go_at_call 29; refine (rparity_any _ _ (by omega) (by omega)).mono ?_; rintro e w' ⟨rfl, rfl⟩))
  go_returns
  exact ⟨rfl, rfl⟩
theorem only_any (chip : Int) (kk vv : Bool) (on s z k ac p v cy : Bool) (w : World) (hc : (chip == 2) = on) :
    Calls Try.prog 20 #[.int .i64 chip, .agg #[.bool s, .bool z, .bool k, .bool ac, .bool p, .bool v, .bool cy], .bool kk, .bool vv] w fun e w' =>
      e = .returned (.agg #[.bool s, .bool z, .bool (on && kk), .bool ac, .bool p, .bool (on && vv), .bool cy]) ∧ ∃ o1 o2, (w.alloc o1).alloc o2 = w' := by
  cases on
  all_goals
    go_enter Try.func20, Try.ntmps20
    go_wp2
    go_returns
    exact ⟨rfl, _, _, rfl⟩

set_option maxHeartbeats 4000000 in
theorem rdaa_any (chip a : Int) (lo hi : Bool) (on s z k ac p v cy : Bool) (w : World) (hc : (chip == 2) = on) (ha : 0 ≤ a) (ha' : a ≤ 255) (hlo : IsLo a ac lo) (hhi : IsHi a cy hi) :
    Calls Try.prog 8 #[.int .i64 chip, .int .u8 a, .agg #[.bool s, .bool z, .bool k, .bool ac, .bool p, .bool v, .bool cy]] w fun e w' => e = .returned (.tuple #[.int .u8 (daaR a lo hi), .agg #[.bool (decide (128 ≤ daaR a lo hi)), .bool (daaR a lo hi == 0), .bool (on && majB (decide (128 ≤ a)) false (decide (128 ≤ daaR a lo hi))), .bool (sumH a (daaX lo hi) false), .bool (par (daaR a lo hi)), .bool (on && sumV a (daaX lo hi) false), .bool hi]]) ∧ Below w.heap.size w w' := by
  have l1 : 0 ≤ daaR a lo hi := sumR_lo _ _ _
  have l2 : daaR a lo hi ≤ 255 := sumR_hi _ _ _
  unfold IsLo at hlo
  unfold IsHi at hhi
  rcases hlo with ⟨rfl, rfl⟩ | ⟨rfl, rfl, tlo⟩ | ⟨rfl, rfl, tlo⟩ <;> rcases hhi with ⟨rfl, rfl⟩ | ⟨rfl, rfl, thi⟩ | ⟨rfl, rfl, thi⟩ <;> cases on
  all_goals
    go_enter Try.func8, Try.ntmps8
    go_wp2_with (first | (go_at_call 18; refine (rsum_any _ _ _ _ ha ha' (by omega) (by omega)).mono ?_; rintro e w' ⟨rfl, rfl⟩) | (go_at_call 19; refine (rof_exact _ _ l1 l2).mono ?_; rintro e w' ⟨rfl, rfl⟩))
    go_region_with (first | (go_at_call 21; refine (rmaj_any _ _ _ _).mono ?_; rintro e w' ⟨rfl, rfl⟩) | (go_at_call 20; refine (only_any chip _ _ _ _ _ _ _ _ _ _ _ hc).mono ?_; rintro e w' ⟨rfl, o1, o2, rfl⟩))
    all_goals
      go_wp2_with fail
      go_returns
      exact ⟨rfl, by go_grown⟩
end Go.Proofs.Ytafbcghmbdfdoaa
