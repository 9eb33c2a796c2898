/- Contracts of the reference of package bits. -/
import Derived.Test.YtafbcghmbdfdoaaPlain
namespace Go.Proofs.Ytafbcghmbdfdoaa
open Go.RowKit
set_option linter.unusedVariables false

theorem rone_any (c : Bool) (w : World) : Calls Try.prog 14 #[.bool c] w fun e w' => e = .returned (.int .i64 (b2i c)) ∧ w = w' := by
  cases c <;>
  ( go_enter Try.func14, Try.ntmps14
    go_wp2
    go_ret
    exact ⟨rfl, rfl⟩)

theorem rsigned_any (b : Int) (w : World) (h : 0 ≤ b) (h' : b ≤ 255) : Calls Try.prog 28 #[.int .u8 b] w fun e w' => e = .returned (.int .i64 (s8 b)) ∧ w = w' := by
  have e1 := s8_wrap b h h'
  have l1 := s8_lo b h h'
  have l2 := s8_hi b h h'
  go_enter Try.func28, Try.ntmps28
  go_wp2
  go_ret
  exact ⟨rfl, rfl⟩

theorem rsum_any (a b : Int) (c : Bool) (w : World) (ha : 0 ≤ a) (ha' : a ≤ 255) (hb : 0 ≤ b) (hb' : b ≤ 255) :
    Calls Try.prog 18 #[.int .u8 a, .int .u8 b, .bool c] w fun e w' => e = .returned (.tuple #[.int .u8 (sumR a b c), .bool (sumO a b c), .bool (sumH a b c), .bool (sumV a b c)]) ∧ w = w' := by
  have l1 := s8_lo a ha ha'
  have l2 := s8_hi a ha ha'
  have l3 := s8_lo b hb hb'
  have l4 := s8_hi b hb hb'
  have l5 := b2i_lo c
  have l6 := b2i_hi c
  by_cases hs : s8 a + s8 b + b2i c < -128 <;>
  ( have HS := Lib.hid hs
    go_enter Try.func18, Try.ntmps18
    go_wp2_with fail
    refine (rone_any _ _).mono ?_; rintro e w' ⟨rfl, rfl⟩
    go_wp2_with fail
    refine (rsigned_any _ _ ha ha').mono ?_; rintro e w' ⟨rfl, rfl⟩
    go_wp2_with fail
    refine (rsigned_any _ _ hb hb').mono ?_; rintro e w' ⟨rfl, rfl⟩
    go_wp2_with fail
    go_returns
    exact ⟨ret_4 rfl rfl (by first | rfl | (unfold difH; rw [decide_eq_decide]; omega)) (by first | rfl | exact or_t HS.out), rfl⟩)



theorem rmaj_any (a b c : Bool) (w : World) : Calls Try.prog 21 #[.bool a, .bool b, .bool c] w fun e w' => e = .returned (.bool (majB a b c)) ∧ w = w' := by
  cases a <;> cases b <;> cases c <;>
  ( go_enter Try.func21, Try.ntmps21
    go_wp2
    go_ret
    exact ⟨rfl, rfl⟩)

theorem rparity_nat (n : Nat) (hn : n < 256) (w : World) : Calls Try.prog 29 #[.int .u8 n] w fun e w' => e = .returned (.bool (parTo 8 n)) ∧ w = w' := by
  go_enter Try.func29, Try.ntmps29
  go_wp2
  go_loop [3, 4] (fun e i => ∃ k : Nat, k ≤ 8 ∧ i = .int .i64 k ∧ e = .bool (parTo k n)) (fun _ i => 8 - (intOf i).toNat)
  case atStart => exact ⟨0, by omega, rfl, rfl⟩
  case round =>
    obtain ⟨k, hk, rfl, rfl⟩ := hrel
    by_cases hz : k < 8
    · go_wp2
      all_goals
        refine ⟨⟨k + 1, by omega, by go_num, ?_⟩, by simp [intOf]; omega⟩
        first | exact congrArg Value.bool (parTo_yes n k hn ‹_›) | exact congrArg Value.bool (parTo_no n k hn ‹_›)
    · go_wp2
      go_ret
      obtain rfl : k = 8 := by omega
      exact ⟨ret_b rfl, rfl⟩

theorem rparity_any (b : Int) (w : World) (h : 0 ≤ b) (h' : b ≤ 255) : Calls Try.prog 29 #[.int .u8 b] w fun e w' => e = .returned (.bool (par b)) ∧ w = w' := by
  obtain ⟨n, rfl⟩ := Int.eq_ofNat_of_zero_le h
  exact rparity_nat n (by omega) w
end Go.Proofs.Ytafbcghmbdfdoaa
