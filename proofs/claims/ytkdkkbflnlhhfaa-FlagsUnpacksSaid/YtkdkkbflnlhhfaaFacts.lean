/- Plain facts on the numbers of the layers, used by several walks. -/
import Derived.Test.YtkdkkbflnlhhfaaPlain
import Derived.OpenShut
import Derived.Deep.QuietTactic
import Derived.Below
namespace Go.Proofs.Ytkdkkbflnlhhfaa
open Go.RowKit
set_option linter.unusedVariables false

theorem wf_byte {a : Int} (h : (Lit.int .u8 a).wf = true) : 0 ≤ a ∧ a ≤ 255 := by have := (bounds_u8 h); omega
theorem wf_word {a : Int} (h : (Lit.int .u16 a).wf = true) : 0 ≤ a ∧ a ≤ 65535 := by have := (bounds_u16 h); omega
theorem sumR_lo (a b : Int) (c : Bool) : 0 ≤ sumR a b c := by unfold sumR; omega
theorem sumR_hi (a b : Int) (c : Bool) : sumR a b c ≤ 255 := by unfold sumR; omega
theorem difR_lo (a b : Int) (c : Bool) : 0 ≤ difR a b c := by unfold difR; omega
theorem difR_hi (a b : Int) (c : Bool) : difR a b c ≤ 255 := by unfold difR; omega

/-! ### A call that writes nothing, inside a region that draws its order -/
theorem quietL {P : Program} {f : FuncId} {args : Array Value} {w : World} {n : Nat} {v : Value}
    (h : Calls P f args (w.drewN n) fun e w' => e = .returned v ∧ w.drewN n = w') : Calls P f args (w.drewN n) fun e w'' => e = .returned v ∧ ∃ m, w'' = w.drewN m :=
  h.mono fun _ _ ⟨he, hm⟩ => ⟨he, n, hm.symm⟩
theorem quietAddL {P : Program} {f : FuncId} {args : Array Value} {w : World} {a n : Nat} {v : Value}
    (h : Calls P f args (w.drewN (a + n)) fun e w' => e = .returned v ∧ w.drewN (a + n) = w') : Calls P f args (w.drewN (a + n)) fun e w'' => e = .returned v ∧ ∃ m, w'' = w.drewN (a + m) :=
  h.mono fun _ _ ⟨he, hm⟩ => ⟨he, n, hm.symm⟩
theorem belowDrewN {B : Nat} {a w : World} (h : Below B a w) (n : Nat) : Below B a (w.drewN n) := ⟨h.os, h.tape, h.output, h.size, h.block⟩
theorem belowDrew {B : Nat} {a w : World} (h : Below B a w) : Below B a w.drew := h.drew
theorem bcell {W w1 : World} (hb : Below W.heap.size W w1) : (∀ b o, b < W.heap.size → w1.cell? ⟨b, o, none⟩ = W.cell? ⟨b, o, none⟩) ∧ (∀ b o, b < W.heap.size → w1.frozen? ⟨b, o, none⟩ = W.frozen? ⟨b, o, none⟩) :=
  ⟨fun b o h => hb.cell (p := ⟨b, o, none⟩) h, fun b o h => hb.frozen (p := ⟨b, o, none⟩) h⟩

/-- What a call that makes memory alone leaves of what is known. -/
theorem thru {w1 w2 : World} (hb : Below w1.heap.size w1 w2) :
    (∀ b o, b < w1.heap.size → w2.cell? ⟨b, o, none⟩ = w1.cell? ⟨b, o, none⟩) ∧ (∀ b o, b < w1.heap.size → w2.frozen? ⟨b, o, none⟩ = w1.frozen? ⟨b, o, none⟩) ∧
    (∀ n, n < w1.heap.size → n < w2.heap.size) ∧ (∀ B a, Below B a w1 → B < w1.heap.size → Below B a w2) :=
  ⟨(bcell hb).1, (bcell hb).2, fun n h => Nat.lt_of_lt_of_le h hb.size, fun B a h k => h.trans (hb.mono (Nat.le_of_lt k))⟩
theorem thenB {w w1 w2 : World} (h : Below w.heap.size w w1) (k : Below w1.heap.size w1 w2) : Below w.heap.size w w2 := h.trans (k.mono h.size)

/-- Boxed flags (in block b) stay as they are, and nothing that is older than a has changed. -/
def Held7 (a : World) (b : Nat) (s z k ac p v cy : Bool) (w' : World) : Prop :=
  w'.cell? ⟨b, 0, none⟩ = some (.bool s) ∧ w'.cell? ⟨b, 1, none⟩ = some (.bool z) ∧ w'.cell? ⟨b, 2, none⟩ = some (.bool k) ∧ w'.cell? ⟨b, 3, none⟩ = some (.bool ac) ∧ w'.cell? ⟨b, 4, none⟩ = some (.bool p) ∧ w'.cell? ⟨b, 5, none⟩ = some (.bool v) ∧ w'.cell? ⟨b, 6, none⟩ = some (.bool cy) ∧ b < w'.heap.size ∧ a.heap.size ≤ w'.heap.size ∧ Below a.heap.size a w'
theorem Held7.thru {a w1 w2 : World} {b : Nat} {s z k ac p v cy : Bool} (hb : Below w1.heap.size w1 w2) (h : Held7 a b s z k ac p v cy w1) : Held7 a b s z k ac p v cy w2 := by
  obtain ⟨c0, c1, c2, c3, c4, c5, c6, hz, hs, hB⟩ := h
  have hc := (bcell hb).1
  exact ⟨(hc _ _ hz).trans c0, (hc _ _ hz).trans c1, (hc _ _ hz).trans c2, (hc _ _ hz).trans c3, (hc _ _ hz).trans c4, (hc _ _ hz).trans c5, (hc _ _ hz).trans c6, Nat.lt_of_lt_of_le hz hb.size, Nat.le_trans hs hb.size, hB.trans (hb.mono hs)⟩
theorem Held7.drew {a w1 : World} {b : Nat} {s z k ac p v cy : Bool} (h : Held7 a b s z k ac p v cy w1) : Held7 a b s z k ac p v cy w1.drew :=
  h.thru (Below.refl _ _).drew

/-! ### Flags -/
/-- The bit at place k. -/
def bitB (b : Bool) (k : Int) : Int := if b then 2 ^ k.toNat else 0
theorem bitB_lo (b : Bool) (k : Int) : 0 ≤ bitB b k := by unfold bitB; split <;> first | exact Int.le_of_lt (Int.pow_pos (by omega)) | omega
/-- Is a bit of a byte set? -/
def tb (b m : Int) : Bool := bits .and .u8 b m != 0
/-- The byte of flags, for the 8085 (on) and for any other chip. -/
def packB (on s z k ac p v cy : Bool) : Int :=
  let b := bits .or .u8 (bits .or .u8 (bits .or .u8 (bits .or .u8 (bitB s 7) (bitB z 6)) (bitB ac 4)) (bitB p 2)) (bitB cy 0)
  if on then bits .or .u8 (bits .or .u8 b (bitB k 5)) (bitB v 1) else bits .or .u8 b 2
theorem packB_lo (on s z k ac p v cy : Bool) : 0 ≤ packB on s z k ac p v cy := by
  cases on <;> cases s <;> cases z <;> cases k <;> cases ac <;> cases p <;> cases v <;> cases cy <;> decide
theorem packB_hi (on s z k ac p v cy : Bool) : packB on s z k ac p v cy ≤ 255 := by
  cases on <;> cases s <;> cases z <;> cases k <;> cases ac <;> cases p <;> cases v <;> cases cy <;> decide
theorem back_s (on s z k ac p v cy : Bool) : tb (packB on s z k ac p v cy) 128 = s := by
  cases on <;> cases s <;> cases z <;> cases k <;> cases ac <;> cases p <;> cases v <;> cases cy <;> decide
theorem back_z (on s z k ac p v cy : Bool) : tb (packB on s z k ac p v cy) 64 = z := by
  cases on <;> cases s <;> cases z <;> cases k <;> cases ac <;> cases p <;> cases v <;> cases cy <;> decide
theorem back_k (on s z k ac p v cy : Bool) : tb (packB on s z k ac p v cy) 32 = (on && k) := by
  cases on <;> cases s <;> cases z <;> cases k <;> cases ac <;> cases p <;> cases v <;> cases cy <;> decide
theorem back_ac (on s z k ac p v cy : Bool) : tb (packB on s z k ac p v cy) 16 = ac := by
  cases on <;> cases s <;> cases z <;> cases k <;> cases ac <;> cases p <;> cases v <;> cases cy <;> decide
theorem back_p (on s z k ac p v cy : Bool) : tb (packB on s z k ac p v cy) 4 = p := by
  cases on <;> cases s <;> cases z <;> cases k <;> cases ac <;> cases p <;> cases v <;> cases cy <;> decide
theorem back_v (on s z k ac p v cy : Bool) : tb (packB on s z k ac p v cy) 2 = (!on || v) := by
  cases on <;> cases s <;> cases z <;> cases k <;> cases ac <;> cases p <;> cases v <;> cases cy <;> decide
theorem back_cy (on s z k ac p v cy : Bool) : tb (packB on s z k ac p v cy) 1 = cy := by
  cases on <;> cases s <;> cases z <;> cases k <;> cases ac <;> cases p <;> cases v <;> cases cy <;> decide
theorem same80 : ∀ n : Fin 256, bits .andNot .u8 (bits .xor .u8 (packB false (tb n.val 128) (tb n.val 64) false (tb n.val 16) (tb n.val 4) false (tb n.val 1)) n.val) 42 = 0 ∧ bits .and .u8 (packB false (tb n.val 128) (tb n.val 64) false (tb n.val 16) (tb n.val 4) false (tb n.val 1)) 42 = 2 := by decide +kernel
theorem same85 : ∀ n : Fin 256, bits .andNot .u8 (bits .xor .u8 (packB true (tb n.val 128) (tb n.val 64) (tb n.val 32) (tb n.val 16) (tb n.val 4) (tb n.val 2) (tb n.val 1)) n.val) 8 = 0 ∧ bits .and .u8 (packB true (tb n.val 128) (tb n.val 64) (tb n.val 32) (tb n.val 16) (tb n.val 4) (tb n.val 2) (tb n.val 1)) 8 = 0 := by decide +kernel
theorem same80_int (b : Int) (h : 0 ≤ b) (h' : b ≤ 255) : bits .andNot .u8 (bits .xor .u8 (packB false (tb b 128) (tb b 64) false (tb b 16) (tb b 4) false (tb b 1)) b) 42 = 0 ∧ bits .and .u8 (packB false (tb b 128) (tb b 64) false (tb b 16) (tb b 4) false (tb b 1)) 42 = 2 := by
  obtain ⟨n, rfl⟩ := Int.eq_ofNat_of_zero_le h
  exact same80 ⟨n, by omega⟩
theorem same85_int (b : Int) (h : 0 ≤ b) (h' : b ≤ 255) : bits .andNot .u8 (bits .xor .u8 (packB true (tb b 128) (tb b 64) (tb b 32) (tb b 16) (tb b 4) (tb b 2) (tb b 1)) b) 8 = 0 ∧ bits .and .u8 (packB true (tb b 128) (tb b 64) (tb b 32) (tb b 16) (tb b 4) (tb b 2) (tb b 1)) 8 = 0 := by
  obtain ⟨n, rfl⟩ := Int.eq_ofNat_of_zero_le h
  exact same85 ⟨n, by omega⟩
end Go.Proofs.Ytkdkkbflnlhhfaa
