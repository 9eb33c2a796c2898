/- Contracts of the reference of package alu. -/
import Derived.Test.YtjbmgnkolbficaaRefAlu0
namespace Go.Proofs.Ytjbmgnkolbficaa
open Go.RowKit
set_option linter.unusedVariables false

set_option maxHeartbeats 2000000 in
theorem rdo_6 (chip op a b : Int) (on s z k ac p v cy : Bool) (w : World) (hc : (chip == 2) = on) (hq : bits .and .i64 op 7 = 6) (ha : 0 ≤ a) (ha' : a ≤ 255) (hb : 0 ≤ b) (hb' : b ≤ 255) :
    Calls Try.prog 10 #[.int .i64 chip, .int .i64 op, .int .u8 a, .int .u8 b, .agg #[.bool s, .bool z, .bool k, .bool ac, .bool p, .bool v, .bool cy]] w fun e w' => e = .returned (.tuple #[.int .u8 (aA 6 a b cy), .agg #[.bool (decide (128 ≤ aR 6 a b cy)), .bool (aR 6 a b cy == 0), .bool (on && aK 6 a b cy), .bool (aH 6 a b cy on), .bool (par (aR 6 a b cy)), .bool (on && aV 6 a b cy), .bool (aO 6 a b cy)]]) ∧ Below w.heap.size w w' := by
  have l1 := u8or_lo a b ha ha' hb hb'
  have l2 := u8or_hi a b ha ha' hb hb'
  cases on <;> cases cy
  all_goals
    go_enter Try.func10, Try.ntmps10
    go_wp2_with (first | (go_at_call 20; refine (rsum_any _ _ _ _ ha ha' hb hb').mono ?_; rintro e w' ⟨rfl, rfl⟩) | (go_at_call 21; refine (rdif_any _ _ _ _ ha ha' hb hb').mono ?_; rintro e w' ⟨rfl, rfl⟩) | (go_at_call 23; refine (rof_exact _ _ l1 l2).mono ?_; rintro e w' ⟨rfl, rfl⟩) | (go_at_call 22; refine (on_any _ _).mono ?_; rintro e w' ⟨rfl, rfl⟩))
    go_region_with (first | (go_at_call 25; refine (rmaj_any _ _ _ _).mono ?_; rintro e w' ⟨rfl, rfl⟩) | (go_at_call 24; refine (only_any chip _ _ _ _ _ _ _ _ _ _ _ hc).mono ?_; rintro e w' ⟨rfl, o1, o2, rfl⟩))
    all_goals
      go_wp2_with fail
      go_region
      all_goals
        go_wp2_with fail
        go_returns
        exact ⟨rfl, by go_grown⟩

set_option maxHeartbeats 2000000 in
theorem rdo_7 (chip op a b : Int) (on s z k ac p v cy : Bool) (w : World) (hc : (chip == 2) = on) (hq : bits .and .i64 op 7 = 7) (ha : 0 ≤ a) (ha' : a ≤ 255) (hb : 0 ≤ b) (hb' : b ≤ 255) :
    Calls Try.prog 10 #[.int .i64 chip, .int .i64 op, .int .u8 a, .int .u8 b, .agg #[.bool s, .bool z, .bool k, .bool ac, .bool p, .bool v, .bool cy]] w fun e w' => e = .returned (.tuple #[.int .u8 (aA 7 a b cy), .agg #[.bool (decide (128 ≤ aR 7 a b cy)), .bool (aR 7 a b cy == 0), .bool (on && aK 7 a b cy), .bool (aH 7 a b cy on), .bool (par (aR 7 a b cy)), .bool (on && aV 7 a b cy), .bool (aO 7 a b cy)]]) ∧ Below w.heap.size w w' := by
  have l1 := difR_lo a b false
  have l2 := difR_hi a b false
  have hx : (!decide (128 ≤ b)) = decide (b < 128) := by rw [← decide_not, decide_eq_decide]; omega
  cases on <;> cases cy
  all_goals
    go_enter Try.func10, Try.ntmps10
    go_wp2_with (first | (go_at_call 20; refine (rsum_any _ _ _ _ ha ha' hb hb').mono ?_; rintro e w' ⟨rfl, rfl⟩) | (go_at_call 21; refine (rdif_any _ _ _ _ ha ha' hb hb').mono ?_; rintro e w' ⟨rfl, rfl⟩) | (go_at_call 23; refine (rof_exact _ _ l1 l2).mono ?_; rintro e w' ⟨rfl, rfl⟩) | (go_at_call 22; refine (on_any _ _).mono ?_; rintro e w' ⟨rfl, rfl⟩))
    go_region_with (first | (go_at_call 25; refine (rmaj_any _ _ _ _).mono ?_; rintro e w' ⟨rfl, rfl⟩) | (go_at_call 24; refine (only_any chip _ _ _ _ _ _ _ _ _ _ _ hc).mono ?_; rintro e w' ⟨rfl, o1, o2, rfl⟩))
    all_goals
      go_wp2_with fail
      go_region
      all_goals
        go_wp2_with fail
        go_returns
        exact ⟨rfl, by go_grown⟩
end Go.Proofs.Ytjbmgnkolbficaa
