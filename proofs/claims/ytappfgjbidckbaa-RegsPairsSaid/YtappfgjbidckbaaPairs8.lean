/- The walk of the law RegsPairs. -/
import Derived.Test.YtappfgjbidckbaaPairsLS8
import Derived.Test.YtappfgjbidckbaaPairsLO8
import Derived.Test.YtappfgjbidckbaaPairsHS8
import Derived.Test.YtappfgjbidckbaaPairsHO8
namespace Go.Proofs.Ytappfgjbidckbaa
open Go.RowKit
set_option linter.unusedVariables false

theorem regsPairs_walk (a b c d e h l : Int) (s z k_ ac p v cy : Bool) (sp pc : Int) (n k x : Int) (w : World) (wa : (Lit.int .u8 a).wf = true) (wb : (Lit.int .u8 b).wf = true) (wc : (Lit.int .u8 c).wf = true) (wd : (Lit.int .u8 d).wf = true) (we : (Lit.int .u8 e).wf = true) (wh : (Lit.int .u8 h).wf = true) (wl : (Lit.int .u8 l).wf = true) (wsp : (Lit.int .u16 sp).wf = true) (wpc : (Lit.int .u16 pc).wf = true) (wn : (Lit.int .i64 n).wf = true) (wk : (Lit.int .i64 k).wf = true) (wx : (Lit.int .u16 x).wf = true) :
    Calls Try.prog 6 #[.agg #[.int .u8 a, .int .u8 b, .int .u8 c, .int .u8 d, .int .u8 e, .int .u8 h, .int .u8 l, .bool s, .bool z, .bool (k_), .bool ac, .bool p, .bool v, .bool cy, .int .u16 sp, .int .u16 pc], .int .i64 n, .int .i64 k, .int .u16 x] w fun e w' => e = .returned (.bool true) ∧ Below w.heap.size w w' := by
  obtain ⟨la, ua⟩ := wf_byte wa
  obtain ⟨lb, ub⟩ := wf_byte wb
  obtain ⟨lc, uc⟩ := wf_byte wc
  obtain ⟨ld, ud⟩ := wf_byte wd
  obtain ⟨le, ue⟩ := wf_byte we
  obtain ⟨lh, uh⟩ := wf_byte wh
  obtain ⟨ll, ul⟩ := wf_byte wl
  obtain ⟨hx, hx'⟩ := wf_word wx
  have l1 := placeN_lo n 4 (by omega)
  have l2 := placeN_hi n 4 (by omega)
  have l3 := placeN_lo k 4 (by omega)
  have l4 := placeN_hi k 4 (by omega)
  by_cases h3 : placeN n 4 = 3
  · by_cases hk : placeN k 4 = 3
    · exact pairs_hi_same a b c d e h l s z k_ ac p v cy sp pc n k x w h3 hk hx hx' la ua lb ub lc uc ld ud le ue lh uh ll ul
    · exact pairs_hi_other a b c d e h l s z k_ ac p v cy sp pc n k x w _ h3 rfl l3 l4 hk hx hx' la ua lb ub lc uc ld ud le ue lh uh ll ul
  · by_cases hk : placeN k 4 = placeN n 4
    · exact pairs_lo_same a b c d e h l s z k_ ac p v cy sp pc n k x w _ rfl hk l1 (by omega) hx hx' la ua lb ub lc uc ld ud le ue lh uh ll ul
    · exact pairs_lo_other a b c d e h l s z k_ ac p v cy sp pc n k x w _ _ rfl rfl l1 (by omega) l3 l4 hk hx hx' la ua lb ub lc uc ld ud le ue lh uh ll ul
end Go.Proofs.Ytappfgjbidckbaa
