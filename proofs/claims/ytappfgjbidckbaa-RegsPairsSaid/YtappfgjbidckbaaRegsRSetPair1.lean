/- SetPair. -/
import Derived.Test.YtappfgjbidckbaaRegsSets
namespace Go.Proofs.Ytappfgjbidckbaa
open Go.RowKit
set_option linter.unusedVariables false

set_option maxHeartbeats 2000000 in
theorem rsetpair_2 (a b c d e h l : Int) (s z k ac p v cy : Bool) (sp pc : Int) (n x : Int) (w : World) (q : n % 4 = 2) (hx : 0 ≤ x) (hx' : x ≤ 65535) :
    Calls Try.prog 17 #[.agg #[.int .u8 a, .int .u8 b, .int .u8 c, .int .u8 d, .int .u8 e, .int .u8 h, .int .u8 l, .bool s, .bool z, .bool k, .bool ac, .bool p, .bool v, .bool cy, .int .u16 sp, .int .u16 pc], .int .i64 n, .int .u16 x] w fun e' w' => e' = .returned (.agg #[.int .u8 a, .int .u8 b, .int .u8 c, .int .u8 d, .int .u8 e, .int .u8 (x / 256), .int .u8 (x % 256), .bool s, .bool z, .bool k, .bool ac, .bool p, .bool v, .bool cy, .int .u16 sp, .int .u16 pc]) ∧ Below w.heap.size w w' := by
  have hm := i64_and3 n
  rw [q] at hm
  clear q
  go_enter Try.func17, Try.ntmps17
  go_wp2_with fail
  refine (rset_4 _ _ _ _ _ _ _ _ _ _ _ _ _ _ _ _ _ _ _ (by decide)).mono ?_; rintro e w1 ⟨rfl, rfl⟩
  go_wp2_with fail
  refine (rset_5 _ _ _ _ _ _ _ _ _ _ _ _ _ _ _ _ _ _ _ (by decide)).mono ?_; rintro e w2 ⟨rfl, rfl⟩
  go_wp2_with fail
  go_returns
  exact ⟨rfl, by go_grown⟩

set_option maxHeartbeats 2000000 in
theorem rsetpair_3 (a b c d e h l : Int) (s z k ac p v cy : Bool) (sp pc : Int) (n x : Int) (w : World) (q : n % 4 = 3) (hx : 0 ≤ x) (hx' : x ≤ 65535) :
    Calls Try.prog 17 #[.agg #[.int .u8 a, .int .u8 b, .int .u8 c, .int .u8 d, .int .u8 e, .int .u8 h, .int .u8 l, .bool s, .bool z, .bool k, .bool ac, .bool p, .bool v, .bool cy, .int .u16 sp, .int .u16 pc], .int .i64 n, .int .u16 x] w fun e' w' => e' = .returned (.agg #[.int .u8 a, .int .u8 b, .int .u8 c, .int .u8 d, .int .u8 e, .int .u8 h, .int .u8 l, .bool s, .bool z, .bool k, .bool ac, .bool p, .bool v, .bool cy, .int .u16 x, .int .u16 pc]) ∧ Below w.heap.size w w' := by
  have hm := i64_and3 n
  rw [q] at hm
  clear q
  go_enter Try.func17, Try.ntmps17
  go_wp2_with fail
  go_returns
  exact ⟨rfl, by go_grown⟩
end Go.Proofs.Ytappfgjbidckbaa
