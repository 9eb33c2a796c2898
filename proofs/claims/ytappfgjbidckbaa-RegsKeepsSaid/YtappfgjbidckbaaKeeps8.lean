/- The walk of the law RegsKeeps. -/
import Derived.Test.YtappfgjbidckbaaKeepsO8
import Derived.Test.YtappfgjbidckbaaKeepsS8
namespace Go.Proofs.Ytappfgjbidckbaa
open Go.RowKit
set_option linter.unusedVariables false

theorem regsKeeps_walk (a b c d e h l : Int) (s z k_ ac p v cy : Bool) (sp pc : Int) (n k x : Int) (w : World) (wa : (Lit.int .u8 a).wf = true) (wb : (Lit.int .u8 b).wf = true) (wc : (Lit.int .u8 c).wf = true) (wd : (Lit.int .u8 d).wf = true) (we : (Lit.int .u8 e).wf = true) (wh : (Lit.int .u8 h).wf = true) (wl : (Lit.int .u8 l).wf = true) (wsp : (Lit.int .u16 sp).wf = true) (wpc : (Lit.int .u16 pc).wf = true) (wn : (Lit.int .i64 n).wf = true) (wk : (Lit.int .i64 k).wf = true) (wx : (Lit.int .u8 x).wf = true) :
    Calls Try.prog 4 #[.agg #[.int .u8 a, .int .u8 b, .int .u8 c, .int .u8 d, .int .u8 e, .int .u8 h, .int .u8 l, .bool s, .bool z, .bool (k_), .bool ac, .bool p, .bool v, .bool cy, .int .u16 sp, .int .u16 pc], .int .i64 n, .int .i64 k, .int .u8 x] w fun e w' => e = .returned (.bool true) ∧ Below w.heap.size w w' := by
  have l1 := placeN_lo n 8 (by omega)
  have l2 := placeN_hi n 8 (by omega)
  have l3 := placeN_lo k 8 (by omega)
  have l4 := placeN_hi k 8 (by omega)
  by_cases h6 : placeN n 8 = 6
  · exact keeps_six a b c d e h l s z k_ ac p v cy sp pc n k x w h6
  · by_cases hk : placeN k 8 = placeN n 8
    · exact keeps_same a b c d e h l s z k_ ac p v cy sp pc n k x w _ rfl hk l1 l2 h6
    · exact keeps_other a b c d e h l s z k_ ac p v cy sp pc n k x w _ _ rfl rfl l1 l2 h6 l3 l4 hk
end Go.Proofs.Ytappfgjbidckbaa
