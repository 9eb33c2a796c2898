/- Set for any number. -/
import Derived.Test.YtappfgjbidckbaaRegsSet0
import Derived.Test.YtappfgjbidckbaaRegsSet1
import Derived.Test.YtappfgjbidckbaaRegsSet2
import Derived.Test.YtappfgjbidckbaaRegsSet3
import Derived.Test.YtappfgjbidckbaaRegsRSet0
import Derived.Test.YtappfgjbidckbaaRegsRSet1
import Derived.Test.YtappfgjbidckbaaRegsRSet2
import Derived.Test.YtappfgjbidckbaaRegsRSet3
namespace Go.Proofs.Ytappfgjbidckbaa
open Go.RowKit
set_option linter.unusedVariables false

/-- What stands in register i behind a Set of register n. -/
def setN (n i x old : Int) : Int := if n % 8 = i then x else old
theorem set_any (a b c d e h l : Int) (s z k ac p v cy : Bool) (sp pc : Int) (n x : Int) (w : World) :
    Calls Try.prog 14 #[.agg #[.int .u8 a, .int .u8 b, .int .u8 c, .int .u8 d, .int .u8 e, .int .u8 h, .int .u8 l, .bool s, .bool z, .bool k, .bool ac, .bool p, .bool v, .bool cy, .int .u16 sp, .int .u16 pc], .int .i64 n, .int .u8 x] w fun e' w' => e' = .returned (.agg #[.int .u8 (setN n 7 x a), .int .u8 (setN n 0 x b), .int .u8 (setN n 1 x c), .int .u8 (setN n 2 x d), .int .u8 (setN n 3 x e), .int .u8 (setN n 4 x h), .int .u8 (setN n 5 x l), .bool s, .bool z, .bool k, .bool ac, .bool p, .bool v, .bool cy, .int .u16 sp, .int .u16 pc]) ∧ ∃ o, (w.alloc o).alloc o = w' := by
  rcases (by omega : n % 8 = 0 ∨ n % 8 = 1 ∨ n % 8 = 2 ∨ n % 8 = 3 ∨ n % 8 = 4 ∨ n % 8 = 5 ∨ n % 8 = 6 ∨ n % 8 = 7) with q | q | q | q | q | q | q | q
  · exact (set_0 a b c d e h l s z k ac p v cy sp pc n x w q).mono fun e' w' ⟨he, hw⟩ => ⟨by rw [he]; simp [setN, q], _, hw⟩
  · exact (set_1 a b c d e h l s z k ac p v cy sp pc n x w q).mono fun e' w' ⟨he, hw⟩ => ⟨by rw [he]; simp [setN, q], _, hw⟩
  · exact (set_2 a b c d e h l s z k ac p v cy sp pc n x w q).mono fun e' w' ⟨he, hw⟩ => ⟨by rw [he]; simp [setN, q], _, hw⟩
  · exact (set_3 a b c d e h l s z k ac p v cy sp pc n x w q).mono fun e' w' ⟨he, hw⟩ => ⟨by rw [he]; simp [setN, q], _, hw⟩
  · exact (set_4 a b c d e h l s z k ac p v cy sp pc n x w q).mono fun e' w' ⟨he, hw⟩ => ⟨by rw [he]; simp [setN, q], _, hw⟩
  · exact (set_5 a b c d e h l s z k ac p v cy sp pc n x w q).mono fun e' w' ⟨he, hw⟩ => ⟨by rw [he]; simp [setN, q], _, hw⟩
  · exact (set_6 a b c d e h l s z k ac p v cy sp pc n x w q).mono fun e' w' ⟨he, hw⟩ => ⟨by rw [he]; simp [setN, q], _, hw⟩
  · exact (set_7 a b c d e h l s z k ac p v cy sp pc n x w q).mono fun e' w' ⟨he, hw⟩ => ⟨by rw [he]; simp [setN, q], _, hw⟩
theorem set_below (a b c d e h l : Int) (s z k ac p v cy : Bool) (sp pc : Int) (n x : Int) (w : World) :
    Calls Try.prog 14 #[.agg #[.int .u8 a, .int .u8 b, .int .u8 c, .int .u8 d, .int .u8 e, .int .u8 h, .int .u8 l, .bool s, .bool z, .bool k, .bool ac, .bool p, .bool v, .bool cy, .int .u16 sp, .int .u16 pc], .int .i64 n, .int .u8 x] w fun e' w' => e' = .returned (.agg #[.int .u8 (setN n 7 x a), .int .u8 (setN n 0 x b), .int .u8 (setN n 1 x c), .int .u8 (setN n 2 x d), .int .u8 (setN n 3 x e), .int .u8 (setN n 4 x h), .int .u8 (setN n 5 x l), .bool s, .bool z, .bool k, .bool ac, .bool p, .bool v, .bool cy, .int .u16 sp, .int .u16 pc]) ∧ Below w.heap.size w w' :=
  (set_any a b c d e h l s z k ac p v cy sp pc n x w).mono fun e' w' ⟨he, o, hw⟩ => ⟨he, by rw [← hw]; go_grown⟩
theorem rset_any (a b c d e h l : Int) (s z k ac p v cy : Bool) (sp pc : Int) (n x : Int) (w : World) :
    Calls Try.prog 15 #[.agg #[.int .u8 a, .int .u8 b, .int .u8 c, .int .u8 d, .int .u8 e, .int .u8 h, .int .u8 l, .bool s, .bool z, .bool k, .bool ac, .bool p, .bool v, .bool cy, .int .u16 sp, .int .u16 pc], .int .i64 n, .int .u8 x] w fun e' w' => e' = .returned (.agg #[.int .u8 (setN n 7 x a), .int .u8 (setN n 0 x b), .int .u8 (setN n 1 x c), .int .u8 (setN n 2 x d), .int .u8 (setN n 3 x e), .int .u8 (setN n 4 x h), .int .u8 (setN n 5 x l), .bool s, .bool z, .bool k, .bool ac, .bool p, .bool v, .bool cy, .int .u16 sp, .int .u16 pc]) ∧ ∃ o, (w.alloc o).alloc o = w' := by
  rcases (by omega : n % 8 = 0 ∨ n % 8 = 1 ∨ n % 8 = 2 ∨ n % 8 = 3 ∨ n % 8 = 4 ∨ n % 8 = 5 ∨ n % 8 = 6 ∨ n % 8 = 7) with q | q | q | q | q | q | q | q
  · exact (rset_0 a b c d e h l s z k ac p v cy sp pc n x w q).mono fun e' w' ⟨he, hw⟩ => ⟨by rw [he]; simp [setN, q], _, hw⟩
  · exact (rset_1 a b c d e h l s z k ac p v cy sp pc n x w q).mono fun e' w' ⟨he, hw⟩ => ⟨by rw [he]; simp [setN, q], _, hw⟩
  · exact (rset_2 a b c d e h l s z k ac p v cy sp pc n x w q).mono fun e' w' ⟨he, hw⟩ => ⟨by rw [he]; simp [setN, q], _, hw⟩
  · exact (rset_3 a b c d e h l s z k ac p v cy sp pc n x w q).mono fun e' w' ⟨he, hw⟩ => ⟨by rw [he]; simp [setN, q], _, hw⟩
  · exact (rset_4 a b c d e h l s z k ac p v cy sp pc n x w q).mono fun e' w' ⟨he, hw⟩ => ⟨by rw [he]; simp [setN, q], _, hw⟩
  · exact (rset_5 a b c d e h l s z k ac p v cy sp pc n x w q).mono fun e' w' ⟨he, hw⟩ => ⟨by rw [he]; simp [setN, q], _, hw⟩
  · exact (rset_6 a b c d e h l s z k ac p v cy sp pc n x w q).mono fun e' w' ⟨he, hw⟩ => ⟨by rw [he]; simp [setN, q], _, hw⟩
  · exact (rset_7 a b c d e h l s z k ac p v cy sp pc n x w q).mono fun e' w' ⟨he, hw⟩ => ⟨by rw [he]; simp [setN, q], _, hw⟩
theorem rset_below (a b c d e h l : Int) (s z k ac p v cy : Bool) (sp pc : Int) (n x : Int) (w : World) :
    Calls Try.prog 15 #[.agg #[.int .u8 a, .int .u8 b, .int .u8 c, .int .u8 d, .int .u8 e, .int .u8 h, .int .u8 l, .bool s, .bool z, .bool k, .bool ac, .bool p, .bool v, .bool cy, .int .u16 sp, .int .u16 pc], .int .i64 n, .int .u8 x] w fun e' w' => e' = .returned (.agg #[.int .u8 (setN n 7 x a), .int .u8 (setN n 0 x b), .int .u8 (setN n 1 x c), .int .u8 (setN n 2 x d), .int .u8 (setN n 3 x e), .int .u8 (setN n 4 x h), .int .u8 (setN n 5 x l), .bool s, .bool z, .bool k, .bool ac, .bool p, .bool v, .bool cy, .int .u16 sp, .int .u16 pc]) ∧ Below w.heap.size w w' :=
  (rset_any a b c d e h l s z k ac p v cy sp pc n x w).mono fun e' w' ⟨he, o, hw⟩ => ⟨he, by rw [← hw]; go_grown⟩
end Go.Proofs.Ytappfgjbidckbaa
