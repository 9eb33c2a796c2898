/- Contracts of package bits and of its reference: each function once. -/
import Derived.Test.YtkdkkbflnlhhfaaPlain
namespace Go.Proofs.Ytkdkkbflnlhhfaa
open Go.RowKit
set_option linter.unusedVariables false







theorem parity_nat (n : Nat) (hn : n < 256) (w : World) : Calls Try.prog 18 #[.int .u8 n] w fun e w' => e = .returned (.bool (parTo 8 n)) ∧ w = w' := by
  go_enter Try.func18, Try.ntmps18
  go_wp2
  go_loop [0, 3] (fun b e => ∃ (x : Nat) (v : Bool), x < 256 ∧ b = .int .u8 x ∧ e = .bool v ∧ Hid ((v == parTo 8 x) = parTo 8 n)) (fun b _ => (intOf b).toNat)
  case atStart => exact ⟨n, true, hn, rfl, rfl, Lib.hid (by simp)⟩
  case round =>
    obtain ⟨x, v, hx, rfl, rfl, hv⟩ := hrel
    by_cases hz : x = 0
    · subst hz
      go_wp2
      go_ret
      exact ⟨ret_b (by have := hv.out; rw [par_zero] at this; simpa using this), rfl⟩
    · have hp : 0 < x := by omega
      have ht : ((x : Int) != 0) = true := by simp; omega
      go_wp2
      have hl := and_lt ⟨x, hx⟩ hp
      have hd := par_drop ⟨x, hx⟩ hp
      simp only at hl hd
      rw [drop_bit x hx hp]
      refine ⟨⟨x &&& (x - 1), !v, by omega, rfl, rfl, Lib.hid ?_⟩, ?_⟩
      · rw [hd, ← hv.out]; cases v <;> cases parTo 8 x <;> rfl
      · simp only [intOf, Int.toNat_natCast]; exact hl

theorem parity_any (b : Int) (w : World) (h : 0 ≤ b) (h' : b ≤ 255) : Calls Try.prog 18 #[.int .u8 b] w fun e w' => e = .returned (.bool (par b)) ∧ w = w' := by
  obtain ⟨n, rfl⟩ := Int.eq_ofNat_of_zero_le h
  exact parity_nat n (by omega) w
end Go.Proofs.Ytkdkkbflnlhhfaa
