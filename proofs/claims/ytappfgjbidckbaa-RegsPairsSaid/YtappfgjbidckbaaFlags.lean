/- Contracts of package flags and of its reference. -/
import Derived.Test.YtappfgjbidckbaaFacts
import Derived.Test.YtappfgjbidckbaaBits
import Derived.Test.YtappfgjbidckbaaRefBits
import Derived.BigQuiet
namespace Go.Proofs.Ytappfgjbidckbaa
open Go.RowKit
set_option linter.unusedVariables false

theorem bit_any (b : Bool) (k : Int) (w : World) (h : 0 ≤ k) (h' : k ≤ 7) : Calls Try.prog 29 #[.bool b, .int .i64 k] w fun e w' => e = .returned (.int .u8 (bitB b k)) ∧ w = w' := by
  obtain rfl | rfl | rfl | rfl | rfl | rfl | rfl | rfl : k = 0 ∨ k = 1 ∨ k = 2 ∨ k = 3 ∨ k = 4 ∨ k = 5 ∨ k = 6 ∨ k = 7 := by omega
  all_goals
  ( cases b <;>
    ( go_enter Try.func29, Try.ntmps29
      go_wp2
      go_ret
      exact ⟨rfl, rfl⟩))

theorem unpack_any (chip b : Int) (on : Bool) (w : World) (hc : (chip == 2) = on) (h : 0 ≤ b) (h' : b ≤ 255) :
    Calls Try.prog 27 #[.int .i64 chip, .int .u8 b] w fun e w' => e = .returned (.agg #[.bool (tb b 128), .bool (tb b 64), .bool (on && tb b 32), .bool (tb b 16), .bool (tb b 4), .bool (on && tb b 2), .bool (tb b 1)]) ∧ Below w.heap.size w w' := by
  cases on
  all_goals
    go_enter Try.func27, Try.ntmps27
    go_wp2
    go_returns
    exact ⟨rfl, by go_grown⟩



theorem pack_any (chip : Int) (on s z k ac p v cy : Bool) (w : World) (hc : (chip == 2) = on) :
    Calls Try.prog 25 #[.int .i64 chip, .agg #[.bool s, .bool z, .bool k, .bool ac, .bool p, .bool v, .bool cy]] w fun e w' => e = .returned (.int .u8 (packB on s z k ac p v cy)) ∧ Below w.heap.size w w' := by
  cases on
  · go_enter Try.func25, Try.ntmps25
    go_wp2
    go_quiet ((go_at_call 29; exact quietL (bit_any _ _ _ (by omega) (by omega))))
    go_wp2
    go_returns
    exact ⟨rfl, belowDrewN (by go_grown) _⟩
  · go_enter Try.func25, Try.ntmps25
    go_wp2
    go_quiet ((go_at_call 29; exact quietL (bit_any _ _ _ (by omega) (by omega))))
    go_wp2
    go_quiet ((go_at_call 29; exact quietAddL (bit_any _ _ _ (by omega) (by omega))))
    go_wp2
    go_returns
    exact ⟨rfl, belowDrewN (belowDrewN (by go_grown) _) _⟩

theorem on_any (chip : Int) (w : World) : Calls Try.prog 31 #[.int .i64 chip] w fun e w' => e = .returned (.bool (chip == 2)) ∧ w = w' := by
  go_enter Try.func31, Try.ntmps31
  go_wp2
  go_ret
  exact ⟨rfl, rfl⟩

theorem rbit_any (b : Bool) (k : Int) (w : World) (h : 0 ≤ k) (h' : k ≤ 7) : Calls Try.prog 30 #[.bool b, .int .i64 k] w fun e w' => e = .returned (.int .u8 (bitB b k)) ∧ w = w' := by
  obtain rfl | rfl | rfl | rfl | rfl | rfl | rfl | rfl : k = 0 ∨ k = 1 ∨ k = 2 ∨ k = 3 ∨ k = 4 ∨ k = 5 ∨ k = 6 ∨ k = 7 := by omega
  all_goals
  ( cases b <;>
    ( go_enter Try.func30, Try.ntmps30
      go_wp2
      go_ret
      exact ⟨rfl, rfl⟩))

theorem runpack_any (chip b : Int) (on : Bool) (w : World) (hc : (chip == 2) = on) (h : 0 ≤ b) (h' : b ≤ 255) :
    Calls Try.prog 28 #[.int .i64 chip, .int .u8 b] w fun e w' => e = .returned (.agg #[.bool (tb b 128), .bool (tb b 64), .bool (on && tb b 32), .bool (tb b 16), .bool (tb b 4), .bool (on && tb b 2), .bool (tb b 1)]) ∧ Below w.heap.size w w' := by
  cases on
  all_goals
    go_enter Try.func28, Try.ntmps28
    go_wp2
    go_returns
    exact ⟨rfl, by go_grown⟩


theorem rpack_any (chip : Int) (on s z k ac p v cy : Bool) (w : World) (hc : (chip == 2) = on) :
    Calls Try.prog 26 #[.int .i64 chip, .agg #[.bool s, .bool z, .bool k, .bool ac, .bool p, .bool v, .bool cy]] w fun e w' => e = .returned (.int .u8 (packB on s z k ac p v cy)) ∧ Below w.heap.size w w' := by
  cases on
  · go_enter Try.func26, Try.ntmps26
    go_wp2
    go_quiet ((go_at_call 30; exact quietL (rbit_any _ _ _ (by omega) (by omega))))
    go_wp2
    go_returns
    exact ⟨rfl, belowDrewN (by go_grown) _⟩
  · go_enter Try.func26, Try.ntmps26
    go_wp2
    go_quiet ((go_at_call 30; exact quietL (rbit_any _ _ _ (by omega) (by omega))))
    go_wp2
    go_quiet ((go_at_call 30; exact quietAddL (rbit_any _ _ _ (by omega) (by omega))))
    go_wp2
    go_returns
    exact ⟨rfl, belowDrewN (belowDrewN (by go_grown) _) _⟩
end Go.Proofs.Ytappfgjbidckbaa
