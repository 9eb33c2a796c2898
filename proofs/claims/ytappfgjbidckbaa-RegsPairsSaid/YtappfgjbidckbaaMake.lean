/- Contracts of package tstatemake: the first number of a list, and which chip it gives. -/
import Derived.Test.YtappfgjbidckbaaFacts
import Derived.Test.YtappfgjbidckbaaOpen
import Derived.BigQuiet
import Derived.RegionTactic
namespace Go.Proofs.Ytappfgjbidckbaa
open Go.RowKit
set_option linter.unusedVariables false

/-- A number from 0 to n - 1. -/
def placeN (x n : Int) : Int := (IntKind.u64.wrap x).tmod n
theorem placeN_eq (x n : Int) : placeN x n = (x % 18446744073709551616) % n := by
  unfold placeN; rw [IntKind.wrap_u64, Int.tmod_eq_emod_of_nonneg (by omega)]
theorem placeN_lo (x n : Int) (h : 0 < n) : 0 ≤ placeN x n := by rw [placeN_eq]; exact Int.emod_nonneg _ (by omega)
theorem placeN_hi (x n : Int) (h : 0 < n) : placeN x n < n := by rw [placeN_eq]; exact Int.emod_lt_of_pos _ h

theorem place_any (x n : Int) (w : World) (h : 0 < n) (h' : n ≤ 1000000000) :
    Calls Try.prog 13 #[.int .i64 x, .int .i64 n] w fun e w' => e = .returned (.int .i64 (placeN x n)) ∧ w = w' := by
  have l1 := placeN_lo x n h
  have l2 := placeN_hi x n h
  have e1 : IntKind.u64.wrap n = n := IntWalk.u64_in n ⟨by omega, by omega⟩
  have e2 : (IntKind.u64.wrap x).tmod n = placeN x n := rfl
  have e3 : (n == 0) = false := by rw [beq_eq_false_iff_ne]; omega
  go_enter Try.func13, Try.ntmps13
  go_wp2
  go_ret
  exact ⟨rfl, rfl⟩



end Go.Proofs.Ytappfgjbidckbaa
