/- Contracts of package decimal and of its reference. -/
import Derived.Test.YtafbcghmbdfdoaaAluOne
namespace Go.Proofs.Ytafbcghmbdfdoaa
open Go.RowKit
set_option linter.unusedVariables false

/-! ### Plain: the decimal adjustment -/
def daaX (lo hi : Bool) : Int := (if lo then 6 else 0) + (if hi then 96 else 0)
def daaR (a : Int) (lo hi : Bool) : Int := sumR a (daaX lo hi) false
/-- The low digit is adjusted. -/
def IsLo (a : Int) (ac lo : Bool) : Prop := (lo = true ∧ ac = true) ∨ (lo = true ∧ ac = false ∧ 9 < a % 16) ∨ (lo = false ∧ ac = false ∧ ¬ 9 < a % 16)
/-- The high digit is adjusted. -/
def IsHi (a : Int) (cy hi : Bool) : Prop := (hi = true ∧ cy = true) ∨ (hi = true ∧ cy = false ∧ 153 < a) ∨ (hi = false ∧ cy = false ∧ ¬ 153 < a)
theorem isLo_of (a : Int) (ac : Bool) : IsLo a ac (ac || decide (9 < a % 16)) := by
  unfold IsLo; cases ac <;> by_cases h : 9 < a % 16 <;> simp [h]
theorem isHi_of (a : Int) (cy : Bool) : IsHi a cy (cy || decide (153 < a)) := by
  unfold IsHi; cases cy <;> by_cases h : 153 < a <;> simp [h]

set_option maxHeartbeats 4000000 in
theorem daa_any (chip a : Int) (lo hi : Bool) (on s z k ac p v cy : Bool) (w : World) (hc : (chip == 2) = on) (ha : 0 ≤ a) (ha' : a ≤ 255) (hlo : IsLo a ac lo) (hhi : IsHi a cy hi) :
    Calls Try.prog 7 #[.int .i64 chip, .int .u8 a, .agg #[.bool s, .bool z, .bool k, .bool ac, .bool p, .bool v, .bool cy]] w fun e w' => e = .returned (.tuple #[.int .u8 (daaR a lo hi), .agg #[.bool (decide (128 ≤ daaR a lo hi)), .bool (daaR a lo hi == 0), .bool (on && majB (decide (128 ≤ a)) false (decide (128 ≤ daaR a lo hi))), .bool (sumH a (daaX lo hi) false), .bool (par (daaR a lo hi)), .bool (on && sumV a (daaX lo hi) false), .bool hi]]) ∧ Below w.heap.size w w' := by
  have l1 : 0 ≤ daaR a lo hi := sumR_lo _ _ _
  have l2 : daaR a lo hi ≤ 255 := sumR_hi _ _ _
  unfold IsLo at hlo
  unfold IsHi at hhi
  rcases hlo with ⟨rfl, rfl⟩ | ⟨rfl, rfl, tlo⟩ | ⟨rfl, rfl, tlo⟩ <;> rcases hhi with ⟨rfl, rfl⟩ | ⟨rfl, rfl, thi⟩ | ⟨rfl, rfl, thi⟩ <;> cases on
  all_goals
    go_enter Try.func7, Try.ntmps7
    go_wp2_with (first | (go_at_call 15; refine (sum_any _ _ _ _ ha ha' (by omega) (by omega)).mono ?_; rintro e w' ⟨rfl, rfl⟩) | (go_at_call 16; refine (of_exact _ _ l1 l2).mono ?_; rintro e w' ⟨rfl, rfl⟩) | (go_at_call 17; refine (maj_any _ _ _ _).mono ?_; rintro e w' ⟨rfl, rfl⟩))
    go_region
    all_goals
      go_wp2_with fail
      go_returns
      exact ⟨rfl, by go_grown⟩
end Go.Proofs.Ytafbcghmbdfdoaa
