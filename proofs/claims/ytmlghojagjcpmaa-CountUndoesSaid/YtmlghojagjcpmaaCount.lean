/- Contracts of package count and of its reference. -/
import Derived.Test.YtmlghojagjcpmaaFlags
import Derived.RegionTactic
import Derived.Deep.RegionWith
namespace Go.Proofs.Ytmlghojagjcpmaa
open Go.RowKit
set_option linter.unusedVariables false

/-- New blocks alone. -/
def New2 (w w' : World) : Prop := ∃ o1 o2 n, ((w.alloc o1).alloc o2).drewN n = w'

theorem inx_any (chip x : Int) (on s z k ac p v cy : Bool) (w : World) (hc : (chip == 2) = on) (hx : 0 ≤ x) (hx' : x ≤ 65535) :
    Calls Try.prog 7 #[.int .i64 chip, .int .u16 x, .agg #[.bool s, .bool z, .bool k, .bool ac, .bool p, .bool v, .bool cy]] w fun e w' =>
      e = .returned (.tuple #[.int .u16 ((x + 1) % 65536), .agg #[.bool s, .bool z, .bool (cond on (x == 65535) k), .bool ac, .bool p, .bool v, .bool cy]]) ∧ ∃ o1 o2, ((w.alloc o1).alloc o2).drew = w' := by
  have e1 : IntKind.u16.wrap (x + 1) = (x + 1) % 65536 := IntKind.wrap_u16 _
  cases on
  all_goals
    go_enter Try.func7, Try.ntmps7
    go_wp2
    go_region
    all_goals
      go_wp2
      go_returns
      exact ⟨rfl, _, _, rfl⟩

theorem dcx_any (chip x : Int) (on s z k ac p v cy : Bool) (w : World) (hc : (chip == 2) = on) (hx : 0 ≤ x) (hx' : x ≤ 65535) :
    Calls Try.prog 9 #[.int .i64 chip, .int .u16 x, .agg #[.bool s, .bool z, .bool k, .bool ac, .bool p, .bool v, .bool cy]] w fun e w' =>
      e = .returned (.tuple #[.int .u16 ((x - 1) % 65536), .agg #[.bool s, .bool z, .bool (cond on (x == 0) k), .bool ac, .bool p, .bool v, .bool cy]]) ∧ ∃ o1 o2, ((w.alloc o1).alloc o2).drew = w' := by
  have e1 : IntKind.u16.wrap (x - 1) = (x - 1) % 65536 := IntKind.wrap_u16 _
  cases on
  all_goals
    go_enter Try.func9, Try.ntmps9
    go_wp2
    go_region
    all_goals
      go_wp2
      go_returns
      exact ⟨rfl, _, _, rfl⟩

theorem rinx_any (chip x : Int) (on s z k ac p v cy : Bool) (w : World) (hc : (chip == 2) = on) (hx : 0 ≤ x) (hx' : x ≤ 65535) :
    Calls Try.prog 8 #[.int .i64 chip, .int .u16 x, .agg #[.bool s, .bool z, .bool k, .bool ac, .bool p, .bool v, .bool cy]] w fun e w' =>
      e = .returned (.tuple #[.int .u16 ((x + 1) % 65536), .agg #[.bool s, .bool z, .bool (cond on (x == 65535) k), .bool ac, .bool p, .bool v, .bool cy]]) ∧ ∃ o1 o2, ((w.alloc o1).alloc o2).drew = w' := by
  have e1 : IntKind.u16.wrap (x + 1) = (x + 1) % 65536 := IntKind.wrap_u16 _
  cases on
  all_goals
    go_enter Try.func8, Try.ntmps8
    go_wp2
    go_region
    all_goals
      go_wp2
      go_returns
      exact ⟨rfl, _, _, rfl⟩

theorem rdcx_any (chip x : Int) (on s z k ac p v cy : Bool) (w : World) (hc : (chip == 2) = on) (hx : 0 ≤ x) (hx' : x ≤ 65535) :
    Calls Try.prog 10 #[.int .i64 chip, .int .u16 x, .agg #[.bool s, .bool z, .bool k, .bool ac, .bool p, .bool v, .bool cy]] w fun e w' =>
      e = .returned (.tuple #[.int .u16 ((x - 1) % 65536), .agg #[.bool s, .bool z, .bool (cond on (x == 0) k), .bool ac, .bool p, .bool v, .bool cy]]) ∧ ∃ o1 o2, ((w.alloc o1).alloc o2).drew = w' := by
  have e1 : IntKind.u16.wrap (x - 1) = (x - 1) % 65536 := IntKind.wrap_u16 _
  cases on
  all_goals
    go_enter Try.func10, Try.ntmps10
    go_wp2
    go_region
    all_goals
      go_wp2
      go_returns
      exact ⟨rfl, _, _, rfl⟩

theorem result_any (chip a r : Int) (h o x : Bool) (on s z k ac p v cy : Bool) (w : World) (hc : (chip == 2) = on) (ha : 0 ≤ a) (ha' : a ≤ 255) (hr : 0 ≤ r) (hr' : r ≤ 255) :
    Calls Try.prog 20 #[.int .i64 chip, .int .u8 a, .int .u8 r, .bool h, .bool o, .bool x, .agg #[.bool s, .bool z, .bool k, .bool ac, .bool p, .bool v, .bool cy]] w fun e w' =>
      e = .returned (.agg #[.bool (decide (128 ≤ r)), .bool (r == 0), .bool (on && majB (decide (128 ≤ a)) x (decide (128 ≤ r))), .bool h, .bool (par r), .bool (on && o), .bool cy]) ∧ ∃ o1 o2 o3 o4, ((((w.alloc o1).alloc o2).alloc o3).alloc o4).drew = w' := by
  cases on
  all_goals
    go_enter Try.func20, Try.ntmps20
    go_wp2_with (first | (go_at_call 30; refine (of_exact _ _ hr hr').mono ?_; rintro e w' ⟨rfl, rfl⟩))
    go_region
    all_goals
      go_wp2_with (first | (go_at_call 31; refine (maj_any _ _ _ _).mono ?_; rintro e w' ⟨rfl, rfl⟩))
      go_returns
      exact ⟨rfl, _, _, _, _, rfl⟩

theorem inr_any (chip x : Int) (on s z k ac p v cy : Bool) (w : World) (hc : (chip == 2) = on) (hx : 0 ≤ x) (hx' : x ≤ 255) :
    Calls Try.prog 12 #[.int .i64 chip, .int .u8 x, .agg #[.bool s, .bool z, .bool k, .bool ac, .bool p, .bool v, .bool cy]] w fun e w' =>
      e = .returned (.tuple #[.int .u8 (sumR x 1 false), .agg #[.bool (decide (128 ≤ sumR x 1 false)), .bool (sumR x 1 false == 0), .bool (on && majB (decide (128 ≤ x)) false (decide (128 ≤ sumR x 1 false))), .bool (sumH x 1 false), .bool (par (sumR x 1 false)), .bool (on && sumV x 1 false), .bool cy]]) ∧ Below w.heap.size w w' := by
  have l1 := sumR_lo x 1 false
  have l2 := sumR_hi x 1 false
  go_enter Try.func12, Try.ntmps12
  go_wp2_with fail
  refine (sum_any _ _ _ _ hx hx' (by omega) (by omega)).mono ?_; rintro e w' ⟨rfl, rfl⟩
  go_wp2_with fail
  refine (result_any chip _ _ _ _ _ on _ _ _ _ _ _ _ _ hc hx hx' l1 l2).mono ?_; rintro e w' ⟨rfl, o1, o2, o3, o4, rfl⟩
  go_wp2_with fail
  go_returns
  exact ⟨rfl, by go_grown⟩

theorem dcr_any (chip x : Int) (on s z k ac p v cy : Bool) (w : World) (hc : (chip == 2) = on) (hx : 0 ≤ x) (hx' : x ≤ 255) :
    Calls Try.prog 14 #[.int .i64 chip, .int .u8 x, .agg #[.bool s, .bool z, .bool k, .bool ac, .bool p, .bool v, .bool cy]] w fun e w' =>
      e = .returned (.tuple #[.int .u8 (difR x 1 false), .agg #[.bool (decide (128 ≤ difR x 1 false)), .bool (difR x 1 false == 0), .bool (on && majB (decide (128 ≤ x)) true (decide (128 ≤ difR x 1 false))), .bool (difH x 1 false), .bool (par (difR x 1 false)), .bool (on && difV x 1 false), .bool cy]]) ∧ Below w.heap.size w w' := by
  have l1 := difR_lo x 1 false
  have l2 := difR_hi x 1 false
  go_enter Try.func14, Try.ntmps14
  go_wp2_with fail
  refine (dif_any _ _ _ _ hx hx' (by omega) (by omega)).mono ?_; rintro e w' ⟨rfl, rfl⟩
  go_wp2_with fail
  refine (result_any chip _ _ _ _ _ on _ _ _ _ _ _ _ _ hc hx hx' l1 l2).mono ?_; rintro e w' ⟨rfl, o1, o2, o3, o4, rfl⟩
  go_wp2_with fail
  go_returns
  exact ⟨rfl, by go_grown⟩

theorem rof_exact (r : Int) (w : World) (h : 0 ≤ r) (h' : r ≤ 255) :
    Calls Try.prog 22 #[.int .u8 r] w fun e w' => e = .returned (.agg #[.bool (decide (128 ≤ r)), .bool (r == 0), .bool false, .bool false, .bool (par r), .bool false, .bool false]) ∧ w.alloc (.cells #[.bool (decide (128 ≤ r)), .bool (r == 0), .bool false, .bool false, .bool (par r), .bool false, .bool false] 24) = w' := by
  go_enter Try.func22, Try.ntmps22
  go_wp2_with (first | (go_at_call 34; refine (rparity_any _ _ (by omega) (by omega)).mono ?_; rintro e w' ⟨rfl, rfl⟩))
  go_returns
  exact ⟨rfl, rfl⟩
theorem only_any (chip : Int) (kk vv : Bool) (on s z k ac p v cy : Bool) (w : World) (hc : (chip == 2) = on) :
    Calls Try.prog 23 #[.int .i64 chip, .agg #[.bool s, .bool z, .bool k, .bool ac, .bool p, .bool v, .bool cy], .bool kk, .bool vv] w fun e w' =>
      e = .returned (.agg #[.bool s, .bool z, .bool (on && kk), .bool ac, .bool p, .bool (on && vv), .bool cy]) ∧ ∃ o1 o2, (w.alloc o1).alloc o2 = w' := by
  cases on
  all_goals
    go_enter Try.func23, Try.ntmps23
    go_wp2
    go_returns
    exact ⟨rfl, _, _, rfl⟩

set_option maxHeartbeats 1000000 in
theorem rinr_any (chip x : Int) (on s z k ac p v cy : Bool) (w : World) (hc : (chip == 2) = on) (hx : 0 ≤ x) (hx' : x ≤ 255) :
    Calls Try.prog 13 #[.int .i64 chip, .int .u8 x, .agg #[.bool s, .bool z, .bool k, .bool ac, .bool p, .bool v, .bool cy]] w fun e w' =>
      e = .returned (.tuple #[.int .u8 (sumR x 1 false), .agg #[.bool (decide (128 ≤ sumR x 1 false)), .bool (sumR x 1 false == 0), .bool (on && majB (decide (128 ≤ x)) false (decide (128 ≤ sumR x 1 false))), .bool (sumH x 1 false), .bool (par (sumR x 1 false)), .bool (on && sumV x 1 false), .bool cy]]) ∧ Below w.heap.size w w' := by
  have l1 := sumR_lo x 1 false
  have l2 := sumR_hi x 1 false
  go_enter Try.func13, Try.ntmps13
  go_wp2_with fail
  refine (rsum_any _ _ _ _ hx hx' (by omega) (by omega)).mono ?_; rintro e w' ⟨rfl, rfl⟩
  go_wp2_with fail
  refine (rof_exact _ _ l1 l2).mono ?_; rintro e w' ⟨rfl, rfl⟩
  go_wp2_with fail
  go_region
  all_goals
    go_wp2_with fail
    go_region_with (first | (go_at_call 24; refine (rmaj_any _ _ _ _).mono ?_; rintro e w' ⟨rfl, rfl⟩) | (go_at_call 23; refine (only_any chip _ _ on _ _ _ _ _ _ _ _ hc).mono ?_; rintro e w' ⟨rfl, o1, o2, rfl⟩))
    all_goals
      go_wp2_with fail
      go_returns
      exact ⟨rfl, by go_grown⟩

set_option maxHeartbeats 1000000 in
theorem rdcr_any (chip x : Int) (on s z k ac p v cy : Bool) (w : World) (hc : (chip == 2) = on) (hx : 0 ≤ x) (hx' : x ≤ 255) :
    Calls Try.prog 15 #[.int .i64 chip, .int .u8 x, .agg #[.bool s, .bool z, .bool k, .bool ac, .bool p, .bool v, .bool cy]] w fun e w' =>
      e = .returned (.tuple #[.int .u8 (difR x 1 false), .agg #[.bool (decide (128 ≤ difR x 1 false)), .bool (difR x 1 false == 0), .bool (on && majB (decide (128 ≤ x)) true (decide (128 ≤ difR x 1 false))), .bool (difH x 1 false), .bool (par (difR x 1 false)), .bool (on && difV x 1 false), .bool cy]]) ∧ Below w.heap.size w w' := by
  have l1 := difR_lo x 1 false
  have l2 := difR_hi x 1 false
  go_enter Try.func15, Try.ntmps15
  go_wp2_with fail
  refine (rdif_any _ _ _ _ hx hx' (by omega) (by omega)).mono ?_; rintro e w' ⟨rfl, rfl⟩
  go_wp2_with fail
  refine (rof_exact _ _ l1 l2).mono ?_; rintro e w' ⟨rfl, rfl⟩
  go_wp2_with fail
  go_region
  all_goals
    go_wp2_with fail
    go_region_with (first | (go_at_call 24; refine (rmaj_any _ _ _ _).mono ?_; rintro e w' ⟨rfl, rfl⟩) | (go_at_call 23; refine (only_any chip _ _ on _ _ _ _ _ _ _ _ hc).mono ?_; rintro e w' ⟨rfl, o1, o2, rfl⟩))
    all_goals
      go_wp2_with fail
      go_returns
      exact ⟨rfl, by go_grown⟩
end Go.Proofs.Ytmlghojagjcpmaa
