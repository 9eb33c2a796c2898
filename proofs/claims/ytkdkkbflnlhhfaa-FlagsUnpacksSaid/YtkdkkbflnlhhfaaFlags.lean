/- Contracts of package flags and of its reference. -/
import Derived.Test.YtkdkkbflnlhhfaaFacts
import Derived.Test.YtkdkkbflnlhhfaaBits
import Derived.Test.YtkdkkbflnlhhfaaRefBits
import Derived.BigQuiet
namespace Go.Proofs.Ytkdkkbflnlhhfaa
open Go.RowKit
set_option linter.unusedVariables false

theorem bit_any (b : Bool) (k : Int) (w : World) (h : 0 ≤ k) (h' : k ≤ 7) : Calls Try.prog 15 #[.bool b, .int .i64 k] w fun e w' => e = .returned (.int .u8 (bitB b k)) ∧ w = w' := by
  obtain rfl | rfl | rfl | rfl | rfl | rfl | rfl | rfl : k = 0 ∨ k = 1 ∨ k = 2 ∨ k = 3 ∨ k = 4 ∨ k = 5 ∨ k = 6 ∨ k = 7 := by omega
  all_goals
  ( cases b <;>
    ( go_enter Try.func15, Try.ntmps15
      go_wp2
      go_ret
      exact ⟨rfl, rfl⟩))

theorem unpack_any (chip b : Int) (on : Bool) (w : World) (hc : (chip == 2) = on) (h : 0 ≤ b) (h' : b ≤ 255) :
    Calls Try.prog 11 #[.int .i64 chip, .int .u8 b] w fun e w' => e = .returned (.agg #[.bool (tb b 128), .bool (tb b 64), .bool (on && tb b 32), .bool (tb b 16), .bool (tb b 4), .bool (on && tb b 2), .bool (tb b 1)]) ∧ Below w.heap.size w w' := by
  cases on
  all_goals
    go_enter Try.func11, Try.ntmps11
    go_wp2
    go_returns
    exact ⟨rfl, by go_grown⟩

theorem of_any (r : Int) (w : World) (h : 0 ≤ r) (h' : r ≤ 255) :
    Calls Try.prog 13 #[.int .u8 r] w fun e w' => e = .returned (.agg #[.bool (decide (128 ≤ r)), .bool (r == 0), .bool false, .bool false, .bool (par r), .bool false, .bool false]) ∧ Below w.heap.size w w' := by
  go_enter Try.func13, Try.ntmps13
  go_wp2_with (first | (go_at_call 18; refine (parity_any _ _ (by omega) (by omega)).mono ?_; rintro e w' ⟨rfl, rfl⟩))
  go_returns
  exact ⟨rfl, by go_grown⟩

theorem pack_any (chip : Int) (on s z k ac p v cy : Bool) (w : World) (hc : (chip == 2) = on) :
    Calls Try.prog 8 #[.int .i64 chip, .agg #[.bool s, .bool z, .bool k, .bool ac, .bool p, .bool v, .bool cy]] w fun e w' => e = .returned (.int .u8 (packB on s z k ac p v cy)) ∧ Below w.heap.size w w' := by
  cases on
  · go_enter Try.func8, Try.ntmps8
    go_wp2
    go_quiet ((go_at_call 15; exact quietL (bit_any _ _ _ (by omega) (by omega))))
    go_wp2
    go_returns
    exact ⟨rfl, belowDrewN (by go_grown) _⟩
  · go_enter Try.func8, Try.ntmps8
    go_wp2
    go_quiet ((go_at_call 15; exact quietL (bit_any _ _ _ (by omega) (by omega))))
    go_wp2
    go_quiet ((go_at_call 15; exact quietAddL (bit_any _ _ _ (by omega) (by omega))))
    go_wp2
    go_returns
    exact ⟨rfl, belowDrewN (belowDrewN (by go_grown) _) _⟩

theorem on_any (chip : Int) (w : World) : Calls Try.prog 17 #[.int .i64 chip] w fun e w' => e = .returned (.bool (chip == 2)) ∧ w = w' := by
  go_enter Try.func17, Try.ntmps17
  go_wp2
  go_ret
  exact ⟨rfl, rfl⟩

theorem rbit_any (b : Bool) (k : Int) (w : World) (h : 0 ≤ k) (h' : k ≤ 7) : Calls Try.prog 16 #[.bool b, .int .i64 k] w fun e w' => e = .returned (.int .u8 (bitB b k)) ∧ w = w' := by
  obtain rfl | rfl | rfl | rfl | rfl | rfl | rfl | rfl : k = 0 ∨ k = 1 ∨ k = 2 ∨ k = 3 ∨ k = 4 ∨ k = 5 ∨ k = 6 ∨ k = 7 := by omega
  all_goals
  ( cases b <;>
    ( go_enter Try.func16, Try.ntmps16
      go_wp2
      go_ret
      exact ⟨rfl, rfl⟩))

theorem runpack_any (chip b : Int) (on : Bool) (w : World) (hc : (chip == 2) = on) (h : 0 ≤ b) (h' : b ≤ 255) :
    Calls Try.prog 12 #[.int .i64 chip, .int .u8 b] w fun e w' => e = .returned (.agg #[.bool (tb b 128), .bool (tb b 64), .bool (on && tb b 32), .bool (tb b 16), .bool (tb b 4), .bool (on && tb b 2), .bool (tb b 1)]) ∧ Below w.heap.size w w' := by
  cases on
  all_goals
    go_enter Try.func12, Try.ntmps12
    go_wp2
    go_returns
    exact ⟨rfl, by go_grown⟩

theorem rof_any (r : Int) (w : World) (h : 0 ≤ r) (h' : r ≤ 255) :
    Calls Try.prog 14 #[.int .u8 r] w fun e w' => e = .returned (.agg #[.bool (decide (128 ≤ r)), .bool (r == 0), .bool false, .bool false, .bool (par r), .bool false, .bool false]) ∧ Below w.heap.size w w' := by
  go_enter Try.func14, Try.ntmps14
  go_wp2_with (first | (go_at_call 19; refine (rparity_any _ _ (by omega) (by omega)).mono ?_; rintro e w' ⟨rfl, rfl⟩))
  go_returns
  exact ⟨rfl, by go_grown⟩

theorem rpack_any (chip : Int) (on s z k ac p v cy : Bool) (w : World) (hc : (chip == 2) = on) :
    Calls Try.prog 9 #[.int .i64 chip, .agg #[.bool s, .bool z, .bool k, .bool ac, .bool p, .bool v, .bool cy]] w fun e w' => e = .returned (.int .u8 (packB on s z k ac p v cy)) ∧ Below w.heap.size w w' := by
  cases on
  · go_enter Try.func9, Try.ntmps9
    go_wp2
    go_quiet ((go_at_call 16; exact quietL (rbit_any _ _ _ (by omega) (by omega))))
    go_wp2
    go_returns
    exact ⟨rfl, belowDrewN (by go_grown) _⟩
  · go_enter Try.func9, Try.ntmps9
    go_wp2
    go_quiet ((go_at_call 16; exact quietL (rbit_any _ _ _ (by omega) (by omega))))
    go_wp2
    go_quiet ((go_at_call 16; exact quietAddL (rbit_any _ _ _ (by omega) (by omega))))
    go_wp2
    go_returns
    exact ⟨rfl, belowDrewN (belowDrewN (by go_grown) _) _⟩
end Go.Proofs.Ytkdkkbflnlhhfaa
