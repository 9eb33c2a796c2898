/- Set, register by register. -/
import Derived.Test.YtappfgjbidckbaaRegsGet
namespace Go.Proofs.Ytappfgjbidckbaa
open Go.RowKit
set_option linter.unusedVariables false

set_option maxHeartbeats 2000000 in
theorem rset_4 (a b c d e h l : Int) (s z k ac p v cy : Bool) (sp pc : Int) (n x : Int) (w : World) (q : n % 8 = 4) :
    Calls Try.prog 15 #[.agg #[.int .u8 a, .int .u8 b, .int .u8 c, .int .u8 d, .int .u8 e, .int .u8 h, .int .u8 l, .bool s, .bool z, .bool k, .bool ac, .bool p, .bool v, .bool cy, .int .u16 sp, .int .u16 pc], .int .i64 n, .int .u8 x] w fun e' w' => e' = .returned (.agg #[.int .u8 a, .int .u8 b, .int .u8 c, .int .u8 d, .int .u8 e, .int .u8 x, .int .u8 l, .bool s, .bool z, .bool k, .bool ac, .bool p, .bool v, .bool cy, .int .u16 sp, .int .u16 pc]) ∧ (w.alloc (.cells #[.int .u8 a, .int .u8 b, .int .u8 c, .int .u8 d, .int .u8 e, .int .u8 x, .int .u8 l, .bool s, .bool z, .bool k, .bool ac, .bool p, .bool v, .bool cy, .int .u16 sp, .int .u16 pc] 26)).alloc (.cells #[.int .u8 a, .int .u8 b, .int .u8 c, .int .u8 d, .int .u8 e, .int .u8 x, .int .u8 l, .bool s, .bool z, .bool k, .bool ac, .bool p, .bool v, .bool cy, .int .u16 sp, .int .u16 pc] 26) = w' := by
  have hm := i64_and7 n
  rw [q] at hm
  go_enter Try.func15, Try.ntmps15
  go_wp2_with fail
  go_returns
  exact ⟨rfl, rfl⟩

set_option maxHeartbeats 2000000 in
theorem rset_5 (a b c d e h l : Int) (s z k ac p v cy : Bool) (sp pc : Int) (n x : Int) (w : World) (q : n % 8 = 5) :
    Calls Try.prog 15 #[.agg #[.int .u8 a, .int .u8 b, .int .u8 c, .int .u8 d, .int .u8 e, .int .u8 h, .int .u8 l, .bool s, .bool z, .bool k, .bool ac, .bool p, .bool v, .bool cy, .int .u16 sp, .int .u16 pc], .int .i64 n, .int .u8 x] w fun e' w' => e' = .returned (.agg #[.int .u8 a, .int .u8 b, .int .u8 c, .int .u8 d, .int .u8 e, .int .u8 h, .int .u8 x, .bool s, .bool z, .bool k, .bool ac, .bool p, .bool v, .bool cy, .int .u16 sp, .int .u16 pc]) ∧ (w.alloc (.cells #[.int .u8 a, .int .u8 b, .int .u8 c, .int .u8 d, .int .u8 e, .int .u8 h, .int .u8 x, .bool s, .bool z, .bool k, .bool ac, .bool p, .bool v, .bool cy, .int .u16 sp, .int .u16 pc] 26)).alloc (.cells #[.int .u8 a, .int .u8 b, .int .u8 c, .int .u8 d, .int .u8 e, .int .u8 h, .int .u8 x, .bool s, .bool z, .bool k, .bool ac, .bool p, .bool v, .bool cy, .int .u16 sp, .int .u16 pc] 26) = w' := by
  have hm := i64_and7 n
  rw [q] at hm
  go_enter Try.func15, Try.ntmps15
  go_wp2_with fail
  go_returns
  exact ⟨rfl, rfl⟩
end Go.Proofs.Ytappfgjbidckbaa
