/- regs.Get: walked once for each register. -/
import Derived.Test.YtappfgjbidckbaaFlags
import Derived.Test.YtappfgjbidckbaaOpenRegs
namespace Go.Proofs.Ytappfgjbidckbaa
open Go.RowKit
set_option linter.unusedVariables false

/-- The register with a number. -/
def regN (a b c d e h l n : Int) : Int :=
  if n % 8 = 0 then b else if n % 8 = 1 then c else if n % 8 = 2 then d else if n % 8 = 3 then e else if n % 8 = 4 then h else if n % 8 = 5 then l else if n % 8 = 7 then a else 0

/-- Where the register with a number lies. -/
def ptrN (x : Nat) (n : Int) : Option Addr :=
  if n % 8 = 0 then some ⟨x, 1, none⟩ else if n % 8 = 1 then some ⟨x, 2, none⟩ else if n % 8 = 2 then some ⟨x, 3, none⟩ else if n % 8 = 3 then some ⟨x, 4, none⟩ else if n % 8 = 4 then some ⟨x, 5, none⟩ else if n % 8 = 5 then some ⟨x, 6, none⟩ else if n % 8 = 7 then some ⟨x, 0, none⟩ else none
theorem at_any (x : Nat) (n : Int) (w : World) :
    Calls Try.prog 22 #[.pointer (some ⟨x, 0, none⟩), .int .i64 n] w fun e' w' => e' = .returned (.pointer (ptrN x n)) ∧ w = w' := by
  have hm := i64_and7 n
  go_enter Try.func22, Try.ntmps22
  go_wp2_with fail
  all_goals (go_ret; refine ⟨?_, rfl⟩; simp_all [ptrN])
theorem get_any (a b c d e h l : Int) (s z k ac p v cy : Bool) (sp pc n : Int) (w : World) :
    Calls Try.prog 8 #[.agg #[.int .u8 a, .int .u8 b, .int .u8 c, .int .u8 d, .int .u8 e, .int .u8 h, .int .u8 l, .bool s, .bool z, .bool k, .bool ac, .bool p, .bool v, .bool cy, .int .u16 sp, .int .u16 pc], .int .i64 n] w fun e' w' => e' = .returned (.int .u8 (regN a b c d e h l n)) ∧ Below w.heap.size w w' := by
  go_enter Try.func8, Try.ntmps8
  go_wp2_with fail
  refine (at_any _ _ _).mono ?_; rintro e' w' ⟨rfl, rfl⟩
  rcases (by omega : n % 8 = 0 ∨ n % 8 = 1 ∨ n % 8 = 2 ∨ n % 8 = 3 ∨ n % 8 = 4 ∨ n % 8 = 5 ∨ n % 8 = 6 ∨ n % 8 = 7) with q | q | q | q | q | q | q | q
  · rw [show ptrN w.heap.size n = some ⟨w.heap.size, 1, none⟩ from by simp [ptrN, q]]
    go_wp2_with fail
    go_ret
    exact ⟨by simp [regN, q], by go_grown⟩
  · rw [show ptrN w.heap.size n = some ⟨w.heap.size, 2, none⟩ from by simp [ptrN, q]]
    go_wp2_with fail
    go_ret
    exact ⟨by simp [regN, q], by go_grown⟩
  · rw [show ptrN w.heap.size n = some ⟨w.heap.size, 3, none⟩ from by simp [ptrN, q]]
    go_wp2_with fail
    go_ret
    exact ⟨by simp [regN, q], by go_grown⟩
  · rw [show ptrN w.heap.size n = some ⟨w.heap.size, 4, none⟩ from by simp [ptrN, q]]
    go_wp2_with fail
    go_ret
    exact ⟨by simp [regN, q], by go_grown⟩
  · rw [show ptrN w.heap.size n = some ⟨w.heap.size, 5, none⟩ from by simp [ptrN, q]]
    go_wp2_with fail
    go_ret
    exact ⟨by simp [regN, q], by go_grown⟩
  · rw [show ptrN w.heap.size n = some ⟨w.heap.size, 6, none⟩ from by simp [ptrN, q]]
    go_wp2_with fail
    go_ret
    exact ⟨by simp [regN, q], by go_grown⟩
  · rw [show ptrN w.heap.size n = none from by simp [ptrN, q]]
    go_wp2_with fail
    go_ret
    exact ⟨by simp [regN, q], by go_grown⟩
  · rw [show ptrN w.heap.size n = some ⟨w.heap.size, 0, none⟩ from by simp [ptrN, q]]
    go_wp2_with fail
    go_ret
    exact ⟨by simp [regN, q], by go_grown⟩
end Go.Proofs.Ytappfgjbidckbaa
