/- Place, for the laws with a place. -/
import Derived.Test.YtappfgjbidckbaaKept8
namespace Go.Proofs.Ytappfgjbidckbaa
open Go.RowKit
set_option linter.unusedVariables false
theorem place_to (x n N : Int) (w : World) (h : 0 < n) (h' : n ≤ 1000000000) (e : placeN x n = N) :
    Calls Try.prog 13 #[.int .i64 x, .int .i64 n] w fun e w' => e = .returned (.int .i64 N) ∧ w = w' := e ▸ place_any x n w h h'
theorem keepBoth {A w1 w2 : World} {blk blk2 : Nat} {a b c d e h l a' b' c' d' e' h' l' : Int} {s z k ac p v cy : Bool} {sp pc sp' : Int} (hb : Below w1.heap.size w1 w2)
    (H : HeldR A blk a b c d e h l s z k ac p v cy sp pc w1 ∧ HeldR A blk2 a' b' c' d' e' h' l' s z k ac p v cy sp' pc w1) : HeldR A blk a b c d e h l s z k ac p v cy sp pc w2 ∧ HeldR A blk2 a' b' c' d' e' h' l' s z k ac p v cy sp' pc w2 := ⟨H.1.thru hb, H.2.thru hb⟩
end Go.Proofs.Ytappfgjbidckbaa
