/- Contracts of package bits and of its reference: each function once. -/
import Derived.Test.YtappfgjbidckbaaPlain
namespace Go.Proofs.Ytappfgjbidckbaa
open Go.RowKit
set_option linter.unusedVariables false





theorem join_any (h l : Int) (w : World) (ha : 0 ≤ h) (ha' : h ≤ 255) (hb : 0 ≤ l) (hb' : l ≤ 255) :
    Calls Try.prog 23 #[.int .u8 h, .int .u8 l] w fun e w' => e = .returned (.int .u16 (joinW h l)) ∧ w = w' := by
  have ej := join_or h l ha ha' hb hb'
  go_enter Try.func23, Try.ntmps23
  go_wp2
  go_ret
  exact ⟨rfl, rfl⟩



end Go.Proofs.Ytappfgjbidckbaa
