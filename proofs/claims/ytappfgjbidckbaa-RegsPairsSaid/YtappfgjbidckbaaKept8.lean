/- Plain facts of a Set, for the law RegsKeeps. -/
import Derived.Test.YtappfgjbidckbaaRegsAny
import Derived.Test.YtappfgjbidckbaaMake
namespace Go.Proofs.Ytappfgjbidckbaa
open Go.RowKit
set_option linter.unusedVariables false

def Ok7 (a b c d e h l : Int) : Prop := 0 ≤ a ∧ a ≤ 255 ∧ 0 ≤ b ∧ b ≤ 255 ∧ 0 ≤ c ∧ c ≤ 255 ∧ 0 ≤ d ∧ d ≤ 255 ∧ 0 ≤ e ∧ e ≤ 255 ∧ 0 ≤ h ∧ h ≤ 255 ∧ 0 ≤ l ∧ l ≤ 255
/-- What a Set of register n leaves. -/
def Kept (n x a b c d e h l a' b' c' d' e' h' l' : Int) : Prop := regN a' b' c' d' e' h' l' n = x ∧ ∀ k, 0 ≤ k → k < 8 → k ≠ n → regN a' b' c' d' e' h' l' k = regN a b c d e h l k
theorem kept_set (n x a b c d e h l : Int) (h0 : 0 ≤ n) (h1 : n < 8) (h6 : n ≠ 6) : Kept n x a b c d e h l (setN n 7 x a) (setN n 0 x b) (setN n 1 x c) (setN n 2 x d) (setN n 3 x e) (setN n 4 x h) (setN n 5 x l) := by
  refine ⟨?_, fun k k0 k1 kn => ?_⟩
  · rcases (by omega : n = 0 ∨ n = 1 ∨ n = 2 ∨ n = 3 ∨ n = 4 ∨ n = 5 ∨ n = 7) with rfl | rfl | rfl | rfl | rfl | rfl | rfl <;> simp [regN, setN]
  · rcases (by omega : n = 0 ∨ n = 1 ∨ n = 2 ∨ n = 3 ∨ n = 4 ∨ n = 5 ∨ n = 7) with rfl | rfl | rfl | rfl | rfl | rfl | rfl <;>
      rcases (by omega : k = 0 ∨ k = 1 ∨ k = 2 ∨ k = 3 ∨ k = 4 ∨ k = 5 ∨ k = 6 ∨ k = 7) with rfl | rfl | rfl | rfl | rfl | rfl | rfl | rfl <;> first | (exfalso; omega) | simp [regN, setN]
/-- Registers of which some are new. -/
def SetTo (a b c d e h l : Int) (s z k ac p v cy : Bool) (sp pc : Int) (n x : Int) (w : World) (e' : Ending) (w' : World) : Prop := ∃ a' b' c' d' e'' h' l' : Int, Kept n x a b c d e h l a' b' c' d' e'' h' l' ∧ e' = .returned (.agg #[.int .u8 a', .int .u8 b', .int .u8 c', .int .u8 d', .int .u8 e'', .int .u8 h', .int .u8 l', .bool s, .bool z, .bool k, .bool ac, .bool p, .bool v, .bool cy, .int .u16 sp, .int .u16 pc]) ∧ Below w.heap.size w w'
theorem set_kept (a b c d e h l : Int) (s z k ac p v cy : Bool) (sp pc : Int) (n x : Int) (w : World) (h0 : 0 ≤ n) (h1 : n < 8) (h6 : n ≠ 6) :
    Calls Try.prog 14 #[.agg #[.int .u8 a, .int .u8 b, .int .u8 c, .int .u8 d, .int .u8 e, .int .u8 h, .int .u8 l, .bool s, .bool z, .bool k, .bool ac, .bool p, .bool v, .bool cy, .int .u16 sp, .int .u16 pc], .int .i64 n, .int .u8 x] w (SetTo a b c d e h l s z k ac p v cy sp pc n x w) :=
  (set_below a b c d e h l s z k ac p v cy sp pc n x w).mono fun e' w' ⟨he, hw⟩ => ⟨_, _, _, _, _, _, _, kept_set n x a b c d e h l h0 h1 h6, he, hw⟩
/-- What a SetPair of pair n leaves. -/
def KeptP (n x a b c d e h l sp a' b' c' d' e' h' l' sp' : Int) : Prop :=
  (n < 3 → regN a' b' c' d' e' h' l' (2 * n) = x / 256 ∧ regN a' b' c' d' e' h' l' (2 * n + 1) = x % 256) ∧ pairN a' b' c' d' e' h' l' sp' n = x ∧ a' = a ∧ ∀ k, 0 ≤ k → k < 4 → k ≠ n → pairN a' b' c' d' e' h' l' sp' k = pairN a b c d e h l sp k
theorem kept_setpair (n x a b c d e h l sp : Int) (h0 : 0 ≤ n) (h1 : n < 4) (hx : 0 ≤ x) : KeptP n x a b c d e h l sp a (spN n 0 (x / 256) b) (spN n 0 (x % 256) c) (spN n 1 (x / 256) d) (spN n 1 (x % 256) e) (spN n 2 (x / 256) h) (spN n 2 (x % 256) l) (spN n 3 x sp) := by
  refine ⟨fun n3 => ?_, ?_, rfl, fun k k0 k1 kn => ?_⟩
  · rcases (by omega : n = 0 ∨ n = 1 ∨ n = 2) with rfl | rfl | rfl <;> simp [regN, spN]
  · rcases (by omega : n = 0 ∨ n = 1 ∨ n = 2 ∨ n = 3) with rfl | rfl | rfl | rfl <;> simp [pairN, regN, spN, joinW] <;> omega
  · rcases (by omega : n = 0 ∨ n = 1 ∨ n = 2 ∨ n = 3) with rfl | rfl | rfl | rfl <;>
      rcases (by omega : k = 0 ∨ k = 1 ∨ k = 2 ∨ k = 3) with rfl | rfl | rfl | rfl <;> first | (exfalso; omega) | simp [pairN, regN, spN]
end Go.Proofs.Ytappfgjbidckbaa
