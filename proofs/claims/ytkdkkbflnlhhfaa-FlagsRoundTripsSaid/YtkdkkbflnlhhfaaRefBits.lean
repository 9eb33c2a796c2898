/- Contracts of the reference of package bits. -/
import Derived.Test.YtkdkkbflnlhhfaaPlain
namespace Go.Proofs.Ytkdkkbflnlhhfaa
open Go.RowKit
set_option linter.unusedVariables false







theorem rparity_nat (n : Nat) (hn : n < 256) (w : World) : Calls Try.prog 19 #[.int .u8 n] w fun e w' => e = .returned (.bool (parTo 8 n)) ∧ w = w' := by
  go_enter Try.func19, Try.ntmps19
  go_wp2
  go_loop [3, 4] (fun e i => ∃ k : Nat, k ≤ 8 ∧ i = .int .i64 k ∧ e = .bool (parTo k n)) (fun _ i => 8 - (intOf i).toNat)
  case atStart => exact ⟨0, by omega, rfl, rfl⟩
  case round =>
    obtain ⟨k, hk, rfl, rfl⟩ := hrel
    by_cases hz : k < 8
    · go_wp2
      all_goals
        refine ⟨⟨k + 1, by omega, by go_num, ?_⟩, by simp [intOf]; omega⟩
        first | exact congrArg Value.bool (parTo_yes n k hn ‹_›) | exact congrArg Value.bool (parTo_no n k hn ‹_›)
    · go_wp2
      go_ret
      obtain rfl : k = 8 := by omega
      exact ⟨ret_b rfl, rfl⟩

theorem rparity_any (b : Int) (w : World) (h : 0 ≤ b) (h' : b ≤ 255) : Calls Try.prog 19 #[.int .u8 b] w fun e w' => e = .returned (.bool (par b)) ∧ w = w' := by
  obtain ⟨n, rfl⟩ := Int.eq_ofNat_of_zero_le h
  exact rparity_nat n (by omega) w
end Go.Proofs.Ytkdkkbflnlhhfaa
