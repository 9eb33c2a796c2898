/- Contracts of package alu and of its reference. -/
import Derived.Test.YtafbcghmbdfdoaaFlags
import Derived.RegionTactic
import Derived.Deep.RegionWith
namespace Go.Proofs.Ytafbcghmbdfdoaa
open Go.RowKit
set_option linter.unusedVariables false

/-! ### Plain: what the operation with number q computes -/
theorem u8and_lo (a b : Int) (ha : 0 ≤ a) (ha' : a ≤ 255) (hb : 0 ≤ b) (hb' : b ≤ 255) : 0 ≤ bits .and .u8 a b := by rw [u8_and a b ha (by omega) hb (by omega)]; omega
theorem u8and_hi (a b : Int) (ha : 0 ≤ a) (ha' : a ≤ 255) (hb : 0 ≤ b) (hb' : b ≤ 255) : bits .and .u8 a b ≤ 255 := by
  rw [u8_and a b ha (by omega) hb (by omega)]; have : a.toNat &&& b.toNat ≤ a.toNat := Nat.and_le_left; omega
theorem u8xor_lo (a b : Int) (ha : 0 ≤ a) (ha' : a ≤ 255) (hb : 0 ≤ b) (hb' : b ≤ 255) : 0 ≤ bits .xor .u8 a b := by rw [u8_xor a b ha (by omega) hb (by omega)]; omega
theorem u8xor_hi (a b : Int) (ha : 0 ≤ a) (ha' : a ≤ 255) (hb : 0 ≤ b) (hb' : b ≤ 255) : bits .xor .u8 a b ≤ 255 := by
  rw [u8_xor a b ha (by omega) hb (by omega)]; have : a.toNat ^^^ b.toNat < 2 ^ 8 := Nat.xor_lt_two_pow (by omega) (by omega); omega
theorem u8or_lo (a b : Int) (ha : 0 ≤ a) (ha' : a ≤ 255) (hb : 0 ≤ b) (hb' : b ≤ 255) : 0 ≤ bits .or .u8 a b := by rw [u8_or a b ha (by omega) hb (by omega)]; omega
theorem u8or_hi (a b : Int) (ha : 0 ≤ a) (ha' : a ≤ 255) (hb : 0 ≤ b) (hb' : b ≤ 255) : bits .or .u8 a b ≤ 255 := by
  rw [u8_or a b ha (by omega) hb (by omega)]; have : a.toNat ||| b.toNat < 2 ^ 8 := Nat.or_lt_two_pow (by omega) (by omega); omega
/-- The computed byte. -/
def aR (q a b : Int) (cy : Bool) : Int :=
  if q = 0 then sumR a b false else if q = 1 then sumR a b cy else if q = 2 then difR a b false else if q = 3 then difR a b cy else
  if q = 4 then bits .and .u8 a b else if q = 5 then bits .xor .u8 a b else if q = 6 then bits .or .u8 a b else difR a b false
/-- The carry out. -/
def aO (q a b : Int) (cy : Bool) : Bool :=
  if q = 0 then sumO a b false else if q = 1 then sumO a b cy else if q = 2 then difO a b false else if q = 3 then difO a b cy else
  if q = 4 then false else if q = 5 then false else if q = 6 then false else difO a b false
/-- The half carry; on: the 8085. -/
def aH (q a b : Int) (cy on : Bool) : Bool :=
  if q = 0 then sumH a b false else if q = 1 then sumH a b cy else if q = 2 then difH a b false else if q = 3 then difH a b cy else
  if q = 4 then (on || bits .and .u8 (bits .or .u8 a b) 8 != 0) else if q = 5 then false else if q = 6 then false else difH a b false
/-- The overflow. -/
def aV (q a b : Int) (cy : Bool) : Bool :=
  if q = 0 then sumV a b false else if q = 1 then sumV a b cy else if q = 2 then difV a b false else if q = 3 then difV a b cy else
  if q = 4 then false else if q = 5 then false else if q = 6 then false else difV a b false
/-- The second operand's sign, as K has it. -/
def aX (q b : Int) : Bool := if q = 2 then decide (b < 128) else if q = 3 then decide (b < 128) else if q = 7 then decide (b < 128) else decide (128 ≤ b)
/-- What the accumulator holds behind it. -/
def aA (q a b : Int) (cy : Bool) : Int := if q = 7 then a else aR q a b cy
def aK (q a b : Int) (cy : Bool) : Bool := majB (decide (128 ≤ a)) (aX q b) (decide (128 ≤ aR q a b cy))

set_option maxHeartbeats 1000000 in
theorem do_1 (chip op a b : Int) (on s z k ac p v cy : Bool) (w : World) (hc : (chip == 2) = on) (hq : bits .and .i64 op 7 = 1) (ha : 0 ≤ a) (ha' : a ≤ 255) (hb : 0 ≤ b) (hb' : b ≤ 255) :
    Calls Try.prog 13 #[.int .i64 chip, .int .i64 op, .int .u8 a, .int .u8 b, .agg #[.bool s, .bool z, .bool k, .bool ac, .bool p, .bool v, .bool cy]] w fun e w' => e = .returned (.tuple #[.int .u8 (aA 1 a b cy), .agg #[.bool (decide (128 ≤ aR 1 a b cy)), .bool (aR 1 a b cy == 0), .bool (on && aK 1 a b cy), .bool (aH 1 a b cy on), .bool (par (aR 1 a b cy)), .bool (on && aV 1 a b cy), .bool (aO 1 a b cy)]]) ∧ Below w.heap.size w w' := by
  have l1 := sumR_lo a b cy
  have l2 := sumR_hi a b cy
  cases on <;> cases cy
  all_goals
    go_enter Try.func13, Try.ntmps13
    go_wp2_with (first | (go_at_call 15; refine (sum_any _ _ _ _ ha ha' hb hb').mono ?_; rintro e w' ⟨rfl, rfl⟩) | (go_at_call 24; refine (dif_any _ _ _ _ ha ha' hb hb').mono ?_; rintro e w' ⟨rfl, rfl⟩) | (go_at_call 16; refine (of_exact _ _ l1 l2).mono ?_; rintro e w' ⟨rfl, rfl⟩) | (go_at_call 17; refine (maj_any _ _ _ _).mono ?_; rintro e w' ⟨rfl, rfl⟩))
    go_region
    all_goals
      go_wp2_with fail
      go_returns
      exact ⟨rfl, by go_grown⟩
end Go.Proofs.Ytafbcghmbdfdoaa
