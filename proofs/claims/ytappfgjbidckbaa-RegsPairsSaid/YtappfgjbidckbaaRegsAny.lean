/- SetPair for any number; Pair for any number; the example. -/
import Derived.Test.YtappfgjbidckbaaRegsSetPair0
import Derived.Test.YtappfgjbidckbaaRegsSetPair1
import Derived.Test.YtappfgjbidckbaaRegsRSetPair0
import Derived.Test.YtappfgjbidckbaaRegsRSetPair1
import Derived.Test.YtappfgjbidckbaaRegsPair
import Derived.Test.YtappfgjbidckbaaRegsRPair
import Derived.Test.YtappfgjbidckbaaRegsWords
namespace Go.Proofs.Ytappfgjbidckbaa
open Go.RowKit
set_option linter.unusedVariables false

/-- What stands in a register of pair j behind a SetPair of pair n. -/
def spN (n j x old : Int) : Int := if n % 4 = j then x else old
theorem setpair_any (a b c d e h l : Int) (s z k ac p v cy : Bool) (sp pc : Int) (n x : Int) (w : World) (hx : 0 ≤ x) (hx' : x ≤ 65535) :
    Calls Try.prog 16 #[.agg #[.int .u8 a, .int .u8 b, .int .u8 c, .int .u8 d, .int .u8 e, .int .u8 h, .int .u8 l, .bool s, .bool z, .bool k, .bool ac, .bool p, .bool v, .bool cy, .int .u16 sp, .int .u16 pc], .int .i64 n, .int .u16 x] w fun e' w' => e' = .returned (.agg #[.int .u8 a, .int .u8 (spN n 0 (x / 256) b), .int .u8 (spN n 0 (x % 256) c), .int .u8 (spN n 1 (x / 256) d), .int .u8 (spN n 1 (x % 256) e), .int .u8 (spN n 2 (x / 256) h), .int .u8 (spN n 2 (x % 256) l), .bool s, .bool z, .bool k, .bool ac, .bool p, .bool v, .bool cy, .int .u16 (spN n 3 x sp), .int .u16 pc]) ∧ Below w.heap.size w w' := by
  rcases (by omega : n % 4 = 0 ∨ n % 4 = 1 ∨ n % 4 = 2 ∨ n % 4 = 3) with q | q | q | q
  · exact (setpair_0 a b c d e h l s z k ac p v cy sp pc n x w q hx hx').mono fun e' w' ⟨he, hw⟩ => ⟨by rw [he]; simp [spN, q], hw⟩
  · exact (setpair_1 a b c d e h l s z k ac p v cy sp pc n x w q hx hx').mono fun e' w' ⟨he, hw⟩ => ⟨by rw [he]; simp [spN, q], hw⟩
  · exact (setpair_2 a b c d e h l s z k ac p v cy sp pc n x w q hx hx').mono fun e' w' ⟨he, hw⟩ => ⟨by rw [he]; simp [spN, q], hw⟩
  · exact (setpair_3 a b c d e h l s z k ac p v cy sp pc n x w q hx hx').mono fun e' w' ⟨he, hw⟩ => ⟨by rw [he]; simp [spN, q], hw⟩
theorem pair_any (a b c d e h l : Int) (s z k ac p v cy : Bool) (sp pc : Int) (n : Int) (w : World) (R0 : Hid (∀ i : Int, 0 ≤ regN a b c d e h l i)) (R1 : Hid (∀ i : Int, regN a b c d e h l i ≤ 255)) :
    Calls Try.prog 10 #[.agg #[.int .u8 a, .int .u8 b, .int .u8 c, .int .u8 d, .int .u8 e, .int .u8 h, .int .u8 l, .bool s, .bool z, .bool k, .bool ac, .bool p, .bool v, .bool cy, .int .u16 sp, .int .u16 pc], .int .i64 n] w fun e' w' => e' = .returned (.int .u16 (pairN a b c d e h l sp n)) ∧ Below w.heap.size w w' := by
  rcases (by omega : n % 4 = 0 ∨ n % 4 = 1 ∨ n % 4 = 2 ∨ n % 4 = 3) with q | q | q | q
  · exact pair_0 a b c d e h l s z k ac p v cy sp pc n w q R0 R1
  · exact pair_1 a b c d e h l s z k ac p v cy sp pc n w q R0 R1
  · exact pair_2 a b c d e h l s z k ac p v cy sp pc n w q R0 R1
  · exact pair_3 a b c d e h l s z k ac p v cy sp pc n w q R0 R1
theorem rsetpair_any (a b c d e h l : Int) (s z k ac p v cy : Bool) (sp pc : Int) (n x : Int) (w : World) (hx : 0 ≤ x) (hx' : x ≤ 65535) :
    Calls Try.prog 17 #[.agg #[.int .u8 a, .int .u8 b, .int .u8 c, .int .u8 d, .int .u8 e, .int .u8 h, .int .u8 l, .bool s, .bool z, .bool k, .bool ac, .bool p, .bool v, .bool cy, .int .u16 sp, .int .u16 pc], .int .i64 n, .int .u16 x] w fun e' w' => e' = .returned (.agg #[.int .u8 a, .int .u8 (spN n 0 (x / 256) b), .int .u8 (spN n 0 (x % 256) c), .int .u8 (spN n 1 (x / 256) d), .int .u8 (spN n 1 (x % 256) e), .int .u8 (spN n 2 (x / 256) h), .int .u8 (spN n 2 (x % 256) l), .bool s, .bool z, .bool k, .bool ac, .bool p, .bool v, .bool cy, .int .u16 (spN n 3 x sp), .int .u16 pc]) ∧ Below w.heap.size w w' := by
  rcases (by omega : n % 4 = 0 ∨ n % 4 = 1 ∨ n % 4 = 2 ∨ n % 4 = 3) with q | q | q | q
  · exact (rsetpair_0 a b c d e h l s z k ac p v cy sp pc n x w q hx hx').mono fun e' w' ⟨he, hw⟩ => ⟨by rw [he]; simp [spN, q], hw⟩
  · exact (rsetpair_1 a b c d e h l s z k ac p v cy sp pc n x w q hx hx').mono fun e' w' ⟨he, hw⟩ => ⟨by rw [he]; simp [spN, q], hw⟩
  · exact (rsetpair_2 a b c d e h l s z k ac p v cy sp pc n x w q hx hx').mono fun e' w' ⟨he, hw⟩ => ⟨by rw [he]; simp [spN, q], hw⟩
  · exact (rsetpair_3 a b c d e h l s z k ac p v cy sp pc n x w q hx hx').mono fun e' w' ⟨he, hw⟩ => ⟨by rw [he]; simp [spN, q], hw⟩
theorem rpair_any (a b c d e h l : Int) (s z k ac p v cy : Bool) (sp pc : Int) (n : Int) (w : World) (R0 : Hid (∀ i : Int, 0 ≤ regN a b c d e h l i)) (R1 : Hid (∀ i : Int, regN a b c d e h l i ≤ 255)) :
    Calls Try.prog 11 #[.agg #[.int .u8 a, .int .u8 b, .int .u8 c, .int .u8 d, .int .u8 e, .int .u8 h, .int .u8 l, .bool s, .bool z, .bool k, .bool ac, .bool p, .bool v, .bool cy, .int .u16 sp, .int .u16 pc], .int .i64 n] w fun e' w' => e' = .returned (.int .u16 (pairN a b c d e h l sp n)) ∧ Below w.heap.size w w' := by
  rcases (by omega : n % 4 = 0 ∨ n % 4 = 1 ∨ n % 4 = 2 ∨ n % 4 = 3) with q | q | q | q
  · exact rpair_0 a b c d e h l s z k ac p v cy sp pc n w q R0 R1
  · exact rpair_1 a b c d e h l s z k ac p v cy sp pc n w q R0 R1
  · exact rpair_2 a b c d e h l s z k ac p v cy sp pc n w q R0 R1
  · exact rpair_3 a b c d e h l s z k ac p v cy sp pc n w q R0 R1

theorem reg0 {a b c d e h l : Int} (la : 0 ≤ a) (ua : a ≤ 255) (lb : 0 ≤ b) (ub : b ≤ 255) (lc : 0 ≤ c) (uc : c ≤ 255) (ld : 0 ≤ d) (ud : d ≤ 255) (le : 0 ≤ e) (ue : e ≤ 255) (lh : 0 ≤ h) (uh : h ≤ 255) (ll : 0 ≤ l) (ul : l ≤ 255) : Hid (∀ i : Int, 0 ≤ regN a b c d e h l i) := Lib.hid fun i => regN_lo a b c d e h l i la ua lb ub lc uc ld ud le ue lh uh ll ul
theorem reg1 {a b c d e h l : Int} (la : 0 ≤ a) (ua : a ≤ 255) (lb : 0 ≤ b) (ub : b ≤ 255) (lc : 0 ≤ c) (uc : c ≤ 255) (ld : 0 ≤ d) (ud : d ≤ 255) (le : 0 ≤ e) (ue : e ≤ 255) (lh : 0 ≤ h) (uh : h ≤ 255) (ll : 0 ≤ l) (ul : l ≤ 255) : Hid (∀ i : Int, regN a b c d e h l i ≤ 255) := Lib.hid fun i => regN_hi a b c d e h l i la ua lb ub lc uc ld ud le ue lh uh ll ul
set_option maxHeartbeats 2000000 in
theorem known_any (w : World) : Calls Try.prog 12 #[] w fun e w' => e = .returned (.bool true) ∧ Below w.heap.size w w' := by
  have k1 : pairN 0 18 52 0 0 0 0 0 0 = 4660 := by decide
  have k2 : joinW 85 (packB false false false false false false false false) = 21762 := by decide
  have k3 : regN 0 18 52 0 0 0 0 6 = 0 := by decide
  go_enter Try.func12, Try.ntmps12
  go_wp2_with fail
  refine (set_1 _ _ _ _ _ _ _ _ _ _ _ _ _ _ _ _ _ _ _ (by decide)).mono ?_; rintro e w1 ⟨rfl, rfl⟩
  go_wp2_with fail
  refine (pair_any _ _ _ _ _ _ _ _ _ _ _ _ _ _ _ _ _ _ (reg0 (by decide) (by decide) (by decide) (by decide) (by decide) (by decide) (by decide) (by decide) (by decide) (by decide) (by decide) (by decide) (by decide) (by decide)) (reg1 (by decide) (by decide) (by decide) (by decide) (by decide) (by decide) (by decide) (by decide) (by decide) (by decide) (by decide) (by decide) (by decide) (by decide))).mono ?_; rintro e w2 ⟨rfl, hq⟩; obtain ⟨hc, hf, hz, hB⟩ := thru hq
  go_wp2_with fail
  refine (psw_any _ _ _ _ _ _ _ _ _ _ _ _ _ _ _ _ _ _ (by decide) (by decide)).mono ?_; rintro e w3 ⟨rfl, hq2⟩; obtain ⟨hc2, hf2, hz2, hB2⟩ := thru hq2
  go_wp2_with fail
  refine (get_any _ _ _ _ _ _ _ _ _ _ _ _ _ _ _ _ _ _).mono ?_; rintro e w4 ⟨rfl, hq3⟩
  go_wp2_with fail
  go_ret
  exact ⟨rfl, thenB (thenB (thenB (by go_grown) hq) hq2) hq3⟩
end Go.Proofs.Ytappfgjbidckbaa
