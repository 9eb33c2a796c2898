/- Contracts of package bits and of its reference: each function once. -/
import Derived.Test.YtafbcghmbdfdoaaPlain
namespace Go.Proofs.Ytafbcghmbdfdoaa
open Go.RowKit
set_option linter.unusedVariables false

theorem one_any (c : Bool) (w : World) : Calls Try.prog 25 #[.bool c] w fun e w' => e = .returned (.int .i64 (b2i c)) ∧ w = w' := by
  cases c <;>
  ( go_enter Try.func25, Try.ntmps25
    go_wp2
    go_ret
    exact ⟨rfl, rfl⟩)

theorem signed_any (n : Int) (w : World) : Calls Try.prog 26 #[.int .i64 n] w fun e w' => e = .returned (.bool (ovf n)) ∧ w = w' := by
  have h : Hid (ovf n = (decide (n < -128) || decide (127 < n))) := rfl
  by_cases h1 : n < -128
  · go_enter Try.func26, Try.ntmps26
    go_wp2
    go_ret
    exact ⟨ret_b (by rw [h.out]; simp [h1]), rfl⟩
  · go_enter Try.func26, Try.ntmps26
    go_wp2
    go_ret
    exact ⟨ret_b (by rw [h.out, decide_eq_false (show ¬ n < -128 by omega)]; rfl), rfl⟩

theorem sum_any (a b : Int) (c : Bool) (w : World) (ha : 0 ≤ a) (ha' : a ≤ 255) (hb : 0 ≤ b) (hb' : b ≤ 255) :
    Calls Try.prog 15 #[.int .u8 a, .int .u8 b, .bool c] w fun e w' => e = .returned (.tuple #[.int .u8 (sumR a b c), .bool (sumO a b c), .bool (sumH a b c), .bool (sumV a b c)]) ∧ w = w' := by
  have e1 := s8_wrap a ha ha'
  have e2 := s8_wrap b hb hb'
  have l1 := s8_lo a ha ha'
  have l2 := s8_hi a ha ha'
  have l3 := s8_lo b hb hb'
  have l4 := s8_hi b hb hb'
  have l5 := b2i_lo c
  have l6 := b2i_hi c
  go_enter Try.func15, Try.ntmps15
  go_wp2_with (first | (go_at_call 25; refine (one_any _ _).mono ?_; rintro e w' ⟨rfl, rfl⟩) | (go_at_call 26; refine (signed_any _ _).mono ?_; rintro e w' ⟨rfl, rfl⟩))
  go_returns
  exact ⟨rfl, rfl⟩

theorem dif_any (a b : Int) (c : Bool) (w : World) (ha : 0 ≤ a) (ha' : a ≤ 255) (hb : 0 ≤ b) (hb' : b ≤ 255) :
    Calls Try.prog 24 #[.int .u8 a, .int .u8 b, .bool c] w fun e w' => e = .returned (.tuple #[.int .u8 (difR a b c), .bool (difO a b c), .bool (difH a b c), .bool (difV a b c)]) ∧ w = w' := by
  have e1 := s8_wrap a ha ha'
  have e2 := s8_wrap b hb hb'
  have l1 := s8_lo a ha ha'
  have l2 := s8_hi a ha ha'
  have l3 := s8_lo b hb hb'
  have l4 := s8_hi b hb hb'
  have l5 := b2i_lo c
  have l6 := b2i_hi c
  go_enter Try.func24, Try.ntmps24
  go_wp2_with (first | (go_at_call 25; refine (one_any _ _).mono ?_; rintro e w' ⟨rfl, rfl⟩) | (go_at_call 26; refine (signed_any _ _).mono ?_; rintro e w' ⟨rfl, rfl⟩))
  go_returns
  exact ⟨rfl, rfl⟩


theorem maj_any (a b c : Bool) (w : World) : Calls Try.prog 17 #[.bool a, .bool b, .bool c] w fun e w' => e = .returned (.bool (majB a b c)) ∧ w = w' := by
  cases a <;> cases b <;> cases c <;>
  ( go_enter Try.func17, Try.ntmps17
    go_wp2
    go_ret
    exact ⟨rfl, rfl⟩)

theorem parity_nat (n : Nat) (hn : n < 256) (w : World) : Calls Try.prog 27 #[.int .u8 n] w fun e w' => e = .returned (.bool (parTo 8 n)) ∧ w = w' := by
  go_enter Try.func27, Try.ntmps27
  go_wp2
  go_loop [0, 3] (fun b e => ∃ (x : Nat) (v : Bool), x < 256 ∧ b = .int .u8 x ∧ e = .bool v ∧ Hid ((v == parTo 8 x) = parTo 8 n)) (fun b _ => (intOf b).toNat)
  case atStart => exact ⟨n, true, hn, rfl, rfl, Lib.hid (by simp)⟩
  case round =>
    obtain ⟨x, v, hx, rfl, rfl, hv⟩ := hrel
    by_cases hz : x = 0
    · subst hz
      go_wp2
      go_ret
      exact ⟨ret_b (by have := hv.out; rw [par_zero] at this; simpa using this), rfl⟩
    · have hp : 0 < x := by omega
      have ht : ((x : Int) != 0) = true := by simp; omega
      go_wp2
      have hl := and_lt ⟨x, hx⟩ hp
      have hd := par_drop ⟨x, hx⟩ hp
      simp only at hl hd
      rw [drop_bit x hx hp]
      refine ⟨⟨x &&& (x - 1), !v, by omega, rfl, rfl, Lib.hid ?_⟩, ?_⟩
      · rw [hd, ← hv.out]; cases v <;> cases parTo 8 x <;> rfl
      · simp only [intOf, Int.toNat_natCast]; exact hl

theorem parity_any (b : Int) (w : World) (h : 0 ≤ b) (h' : b ≤ 255) : Calls Try.prog 27 #[.int .u8 b] w fun e w' => e = .returned (.bool (par b)) ∧ w = w' := by
  obtain ⟨n, rfl⟩ := Int.eq_ofNat_of_zero_le h
  exact parity_nat n (by omega) w
end Go.Proofs.Ytafbcghmbdfdoaa
