/- A SetPair and what it leaves. -/
import Derived.Test.YtappfgjbidckbaaPlace8
namespace Go.Proofs.Ytappfgjbidckbaa
open Go.RowKit
set_option linter.unusedVariables false

theorem spN_lo (n j x old : Int) (hx : 0 ≤ x) (ho : 0 ≤ old) : 0 ≤ spN n j x old := by unfold spN; split <;> assumption
theorem spN_hi (n j x old : Int) (hx : x ≤ 255) (ho : old ≤ 255) : spN n j x old ≤ 255 := by unfold spN; split <;> assumption
/-- Registers of which a pair is new. -/
def SetPTo (a b c d e h l : Int) (s z k ac p v cy : Bool) (sp pc : Int) (n x : Int) (w : World) (e_ : Ending) (w' : World) : Prop := ∃ b' c' d' e' h' l' sp' : Int, KeptP n x a b c d e h l sp a b' c' d' e' h' l' sp' ∧ (Hid (∀ i : Int, 0 ≤ regN a b' c' d' e' h' l' i) ∧ Hid (∀ i : Int, regN a b' c' d' e' h' l' i ≤ 255)) ∧ e_ = .returned (.agg #[.int .u8 a, .int .u8 (b'), .int .u8 (c'), .int .u8 (d'), .int .u8 (e'), .int .u8 (h'), .int .u8 (l'), .bool s, .bool z, .bool k, .bool ac, .bool p, .bool v, .bool cy, .int .u16 (sp'), .int .u16 pc]) ∧ Below w.heap.size w w'
theorem setpair_kept (a b c d e h l : Int) (s z k ac p v cy : Bool) (sp pc : Int) (n x : Int) (w : World) (h0 : 0 ≤ n) (h1 : n < 4) (hx : 0 ≤ x) (hx' : x ≤ 65535) (la : 0 ≤ a) (ua : a ≤ 255) (lb : 0 ≤ b) (ub : b ≤ 255) (lc : 0 ≤ c) (uc : c ≤ 255) (ld : 0 ≤ d) (ud : d ≤ 255) (le : 0 ≤ e) (ue : e ≤ 255) (lh : 0 ≤ h) (uh : h ≤ 255) (ll : 0 ≤ l) (ul : l ≤ 255) :
    Calls Try.prog 16 #[.agg #[.int .u8 a, .int .u8 b, .int .u8 c, .int .u8 d, .int .u8 e, .int .u8 h, .int .u8 l, .bool s, .bool z, .bool k, .bool ac, .bool p, .bool v, .bool cy, .int .u16 sp, .int .u16 pc], .int .i64 n, .int .u16 x] w (SetPTo a b c d e h l s z k ac p v cy sp pc n x w) := by
  have i0 : 0 ≤ x / 256 := by omega
  have i1 : x / 256 ≤ 255 := by omega
  have i2 : 0 ≤ x % 256 := by omega
  have i3 : x % 256 ≤ 255 := by omega
  exact (setpair_any a b c d e h l s z k ac p v cy sp pc n x w hx hx').mono fun e' w' ⟨he, hw⟩ => ⟨_, _, _, _, _, _, _, kept_setpair n x a b c d e h l sp h0 h1 hx,
    ⟨reg0 la ua (spN_lo _ _ _ _ i0 lb) (spN_hi _ _ _ _ i1 ub) (spN_lo _ _ _ _ i2 lc) (spN_hi _ _ _ _ i3 uc) (spN_lo _ _ _ _ i0 ld) (spN_hi _ _ _ _ i1 ud) (spN_lo _ _ _ _ i2 le) (spN_hi _ _ _ _ i3 ue) (spN_lo _ _ _ _ i0 lh) (spN_hi _ _ _ _ i1 uh) (spN_lo _ _ _ _ i2 ll) (spN_hi _ _ _ _ i3 ul), reg1 la ua (spN_lo _ _ _ _ i0 lb) (spN_hi _ _ _ _ i1 ub) (spN_lo _ _ _ _ i2 lc) (spN_hi _ _ _ _ i3 uc) (spN_lo _ _ _ _ i0 ld) (spN_hi _ _ _ _ i1 ud) (spN_lo _ _ _ _ i2 le) (spN_hi _ _ _ _ i3 ue) (spN_lo _ _ _ _ i0 lh) (spN_hi _ _ _ _ i1 uh) (spN_lo _ _ _ _ i2 ll) (spN_hi _ _ _ _ i3 ul)⟩, he, hw⟩
theorem keepTwo {A w1 w2 : World} {blk blk2 : Nat} {a b c d e h l b' c' d' e' h' l' : Int} {s z k ac p v cy : Bool} {sp pc sp' : Int} (hb : Below w1.heap.size w1 w2)
    (H : HeldR A blk a b c d e h l s z k ac p v cy sp pc w1 ∧ HeldR A blk2 a b' c' d' e' h' l' s z k ac p v cy sp' pc w1) : HeldR A blk a b c d e h l s z k ac p v cy sp pc w2 ∧ HeldR A blk2 a b' c' d' e' h' l' s z k ac p v cy sp' pc w2 := ⟨H.1.thru hb, H.2.thru hb⟩
end Go.Proofs.Ytappfgjbidckbaa
