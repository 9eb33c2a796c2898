/- Plain facts on the numbers of the layers, used by several walks. -/
import Derived.Test.YtafbcghmbdfdoaaPlain
import Derived.OpenShut
import Derived.Deep.QuietTactic
import Derived.Below
namespace Go.Proofs.Ytafbcghmbdfdoaa
open Go.RowKit
set_option linter.unusedVariables false

theorem wf_byte {a : Int} (h : (Lit.int .u8 a).wf = true) : 0 ≤ a ∧ a ≤ 255 := by have := (bounds_u8 h); omega
theorem wf_word {a : Int} (h : (Lit.int .u16 a).wf = true) : 0 ≤ a ∧ a ≤ 65535 := by have := (bounds_u16 h); omega
theorem sumR_lo (a b : Int) (c : Bool) : 0 ≤ sumR a b c := by unfold sumR; omega
theorem sumR_hi (a b : Int) (c : Bool) : sumR a b c ≤ 255 := by unfold sumR; omega
theorem difR_lo (a b : Int) (c : Bool) : 0 ≤ difR a b c := by unfold difR; omega
theorem difR_hi (a b : Int) (c : Bool) : difR a b c ≤ 255 := by unfold difR; omega

theorem i64_and7 (n : Int) : bits .and .i64 n 7 = n % 8 := by
  have h7 : (BitVec.ofInt 64 7).toNat = 2 ^ 3 - 1 := by decide
  have key : (BitVec.ofInt 64 n &&& BitVec.ofInt 64 7).toNat = (n % ((2 ^ 64 : Nat) : Int)).toNat % 2 ^ 3 := by
    rw [BitVec.toNat_and, BitVec.toNat_ofInt, h7, Nat.and_two_pow_sub_one_eq_mod]
  show IntKind.i64.wrap ((BitVec.ofInt 64 n &&& BitVec.ofInt 64 7).toNat : Nat) = n % 8
  rw [key, IntKind.wrap_i64]
  omega
theorem i64_and3 (n : Int) : bits .and .i64 n 3 = n % 4 := by
  have h3 : (BitVec.ofInt 64 3).toNat = 2 ^ 2 - 1 := by decide
  have key : (BitVec.ofInt 64 n &&& BitVec.ofInt 64 3).toNat = (n % ((2 ^ 64 : Nat) : Int)).toNat % 2 ^ 2 := by
    rw [BitVec.toNat_and, BitVec.toNat_ofInt, h3, Nat.and_two_pow_sub_one_eq_mod]
  show IntKind.i64.wrap ((BitVec.ofInt 64 n &&& BitVec.ofInt 64 3).toNat : Nat) = n % 4
  rw [key, IntKind.wrap_i64]
  omega

/-! ### A call that writes nothing, inside a region that draws its order -/
theorem quietL {P : Program} {f : FuncId} {args : Array Value} {w : World} {n : Nat} {v : Value}
    (h : Calls P f args (w.drewN n) fun e w' => e = .returned v ∧ w.drewN n = w') : Calls P f args (w.drewN n) fun e w'' => e = .returned v ∧ ∃ m, w'' = w.drewN m :=
  h.mono fun _ _ ⟨he, hm⟩ => ⟨he, n, hm.symm⟩
theorem quietAddL {P : Program} {f : FuncId} {args : Array Value} {w : World} {a n : Nat} {v : Value}
    (h : Calls P f args (w.drewN (a + n)) fun e w' => e = .returned v ∧ w.drewN (a + n) = w') : Calls P f args (w.drewN (a + n)) fun e w'' => e = .returned v ∧ ∃ m, w'' = w.drewN (a + m) :=
  h.mono fun _ _ ⟨he, hm⟩ => ⟨he, n, hm.symm⟩
theorem belowDrewN {B : Nat} {a w : World} (h : Below B a w) (n : Nat) : Below B a (w.drewN n) := ⟨h.os, h.tape, h.output, h.size, h.block⟩
theorem belowDrew {B : Nat} {a w : World} (h : Below B a w) : Below B a w.drew := h.drew
theorem bcell {W w1 : World} (hb : Below W.heap.size W w1) : (∀ b o, b < W.heap.size → w1.cell? ⟨b, o, none⟩ = W.cell? ⟨b, o, none⟩) ∧ (∀ b o, b < W.heap.size → w1.frozen? ⟨b, o, none⟩ = W.frozen? ⟨b, o, none⟩) :=
  ⟨fun b o h => hb.cell (p := ⟨b, o, none⟩) h, fun b o h => hb.frozen (p := ⟨b, o, none⟩) h⟩

/-- What a call that makes memory alone leaves of what is known. -/
theorem thru {w1 w2 : World} (hb : Below w1.heap.size w1 w2) :
    (∀ b o, b < w1.heap.size → w2.cell? ⟨b, o, none⟩ = w1.cell? ⟨b, o, none⟩) ∧ (∀ b o, b < w1.heap.size → w2.frozen? ⟨b, o, none⟩ = w1.frozen? ⟨b, o, none⟩) ∧
    (∀ n, n < w1.heap.size → n < w2.heap.size) ∧ (∀ B a, Below B a w1 → B < w1.heap.size → Below B a w2) :=
  ⟨(bcell hb).1, (bcell hb).2, fun n h => Nat.lt_of_lt_of_le h hb.size, fun B a h k => h.trans (hb.mono (Nat.le_of_lt k))⟩
theorem thenB {w w1 w2 : World} (h : Below w.heap.size w w1) (k : Below w1.heap.size w1 w2) : Below w.heap.size w w2 := h.trans (k.mono h.size)

/-- Only block g, and what is new, has changed. -/
theorem onlyCells {w1 w2 : World} {g : Nat} (h : w1.grownBy w2 (some g)) :
    (∀ b o, b < w1.heap.size → b ≠ g → w2.cell? ⟨b, o, none⟩ = w1.cell? ⟨b, o, none⟩) ∧ (∀ b o, b < w1.heap.size → b ≠ g → w2.frozen? ⟨b, o, none⟩ = w1.frozen? ⟨b, o, none⟩) ∧ (∀ n, n < w1.heap.size → n < w2.heap.size) :=
  ⟨fun b o hb hg => World.cell?_of_block (h.block b hb (fun e => hg (by injection e))), fun b o hb hg => World.frozen?_of_block (h.block b hb (fun e => hg (by injection e))), fun n hn => Nat.lt_of_lt_of_le hn h.size⟩
theorem onlyBelow {w1 w2 : World} {g : Nat} (h : w1.grownBy w2 (some g)) : g ≤ w1.heap.size → Below g w1 w2 := fun hg =>
  ⟨h.os, h.tape, h.output, h.size, fun i hi => h.block i (Nat.lt_of_lt_of_le hi hg) (fun e => by injection e with e; omega)⟩
theorem onlySet {w : World} (n b m : Nat) (v : Value) : w.grownBy ((w.drewN n).setCell ⟨b, m, none⟩ v) (some b) :=
  ⟨rfl, rfl, rfl, by simp [World.setCell], fun i hi hne => Below.heap_setCell (w.drewN n) _ _ _ (fun e => hne (by rw [e]))⟩
theorem onlyDrewN {a w : World} {row : Option Nat} (h : a.grownBy w row) (n : Nat) : a.grownBy (w.drewN n) row := ⟨h.os, h.tape, h.output, h.size, h.block⟩

/-- Boxed flags (in block b) stay as they are, and nothing that is older than a has changed. -/
def Held7 (a : World) (b : Nat) (s z k ac p v cy : Bool) (w' : World) : Prop :=
  w'.cell? ⟨b, 0, none⟩ = some (.bool s) ∧ w'.cell? ⟨b, 1, none⟩ = some (.bool z) ∧ w'.cell? ⟨b, 2, none⟩ = some (.bool k) ∧ w'.cell? ⟨b, 3, none⟩ = some (.bool ac) ∧ w'.cell? ⟨b, 4, none⟩ = some (.bool p) ∧ w'.cell? ⟨b, 5, none⟩ = some (.bool v) ∧ w'.cell? ⟨b, 6, none⟩ = some (.bool cy) ∧ b < w'.heap.size ∧ a.heap.size ≤ w'.heap.size ∧ Below a.heap.size a w'
theorem Held7.thru {a w1 w2 : World} {b : Nat} {s z k ac p v cy : Bool} (hb : Below w1.heap.size w1 w2) (h : Held7 a b s z k ac p v cy w1) : Held7 a b s z k ac p v cy w2 := by
  obtain ⟨c0, c1, c2, c3, c4, c5, c6, hz, hs, hB⟩ := h
  have hc := (bcell hb).1
  exact ⟨(hc _ _ hz).trans c0, (hc _ _ hz).trans c1, (hc _ _ hz).trans c2, (hc _ _ hz).trans c3, (hc _ _ hz).trans c4, (hc _ _ hz).trans c5, (hc _ _ hz).trans c6, Nat.lt_of_lt_of_le hz hb.size, Nat.le_trans hs hb.size, hB.trans (hb.mono hs)⟩
theorem Held7.thruAt {a w1 w2 : World} {b B : Nat} {s z k ac p v cy : Bool} (hb : Below B w1 w2) (hB : B ≤ w1.heap.size) (hlt : b < B) (hs : a.heap.size ≤ B) (h : Held7 a b s z k ac p v cy w1) : Held7 a b s z k ac p v cy w2 := by
  obtain ⟨c0, c1, c2, c3, c4, c5, c6, hz, hs', hb'⟩ := h
  have hc : ∀ o, w2.cell? ⟨b, o, none⟩ = w1.cell? ⟨b, o, none⟩ := fun o => hb.cell (p := ⟨b, o, none⟩) hlt
  exact ⟨(hc _).trans c0, (hc _).trans c1, (hc _).trans c2, (hc _).trans c3, (hc _).trans c4, (hc _).trans c5, (hc _).trans c6, Nat.lt_of_lt_of_le hz hb.size, Nat.le_trans hs' hb.size, hb'.trans (hb.mono hs)⟩
theorem Held7.only {a w1 w2 : World} {b g : Nat} {s z k ac p v cy : Bool} (hb : w1.grownBy w2 (some g)) (hne : b ≠ g) (hs : a.heap.size ≤ g) (h : Held7 a b s z k ac p v cy w1) : Held7 a b s z k ac p v cy w2 := by
  obtain ⟨c0, c1, c2, c3, c4, c5, c6, hz, hs', hb'⟩ := h
  have hc := fun o => (onlyCells hb).1 b o hz hne
  exact ⟨(hc _).trans c0, (hc _).trans c1, (hc _).trans c2, (hc _).trans c3, (hc _).trans c4, (hc _).trans c5, (hc _).trans c6, Nat.lt_of_lt_of_le hz hb.size, Nat.le_trans hs' hb.size, hb'.grown hb hs' (fun k hk => by injection hk with hk; omega)⟩
theorem Held7.two {a w1 W w2 : World} {b : Nat} {s z k ac p v cy : Bool} (h : Held7 a b s z k ac p v cy w1) (hb : Below W.heap.size W w2) (hk : Below w1.heap.size w1 W) : Held7 a b s z k ac p v cy w2 :=
  (h.thru hk).thru hb
theorem Held7.fresh {a w : World} {b t : Nat} {s z k ac p v cy s' z' k' ac' p' v' cy' : Bool} (h : Held7 a b s z k ac p v cy w) : Held7 a w.heap.size s' z' k' ac' p' v' cy' (w.alloc (.cells #[.bool s', .bool z', .bool k', .bool ac', .bool p', .bool v', .bool cy'] t)) := by
  obtain ⟨_, _, _, _, _, _, _, _, hs, hB⟩ := h
  exact ⟨by simp, by simp, by simp, by simp, by simp, by simp, by simp, by simp, by simp; omega, hB.alloc hs _⟩
theorem Held7.upto {a w w' : World} {b : Nat} {s z k ac p v cy : Bool} (h : Held7 a b s z k ac p v cy w) (hk : Below w.heap.size w w') : Below a.heap.size a w' := by
  obtain ⟨_, _, _, _, _, _, _, _, hs, hB⟩ := h
  exact hB.trans (hk.mono hs)
theorem Held7.drew {a w1 : World} {b : Nat} {s z k ac p v cy : Bool} (h : Held7 a b s z k ac p v cy w1) : Held7 a b s z k ac p v cy w1.drew :=
  h.thru (Below.refl _ _).drew

/-! ### Flags -/
/-- The bit at place k. -/
def bitB (b : Bool) (k : Int) : Int := if b then 2 ^ k.toNat else 0
theorem bitB_lo (b : Bool) (k : Int) : 0 ≤ bitB b k := by unfold bitB; split <;> first | exact Int.le_of_lt (Int.pow_pos (by omega)) | omega
/-- Is a bit of a byte set? -/
def tb (b m : Int) : Bool := bits .and .u8 b m != 0
/-- The byte of flags, for the 8085 (on) and for any other chip. -/
def packB (on s z k ac p v cy : Bool) : Int :=
  let b := bits .or .u8 (bits .or .u8 (bits .or .u8 (bits .or .u8 (bitB s 7) (bitB z 6)) (bitB ac 4)) (bitB p 2)) (bitB cy 0)
  if on then bits .or .u8 (bits .or .u8 b (bitB k 5)) (bitB v 1) else bits .or .u8 b 2
theorem packB_lo (on s z k ac p v cy : Bool) : 0 ≤ packB on s z k ac p v cy := by
  cases on <;> cases s <;> cases z <;> cases k <;> cases ac <;> cases p <;> cases v <;> cases cy <;> decide
theorem packB_hi (on s z k ac p v cy : Bool) : packB on s z k ac p v cy ≤ 255 := by
  cases on <;> cases s <;> cases z <;> cases k <;> cases ac <;> cases p <;> cases v <;> cases cy <;> decide
theorem back_s (on s z k ac p v cy : Bool) : tb (packB on s z k ac p v cy) 128 = s := by
  cases on <;> cases s <;> cases z <;> cases k <;> cases ac <;> cases p <;> cases v <;> cases cy <;> decide
theorem back_z (on s z k ac p v cy : Bool) : tb (packB on s z k ac p v cy) 64 = z := by
  cases on <;> cases s <;> cases z <;> cases k <;> cases ac <;> cases p <;> cases v <;> cases cy <;> decide
theorem back_k (on s z k ac p v cy : Bool) : tb (packB on s z k ac p v cy) 32 = (on && k) := by
  cases on <;> cases s <;> cases z <;> cases k <;> cases ac <;> cases p <;> cases v <;> cases cy <;> decide
theorem back_ac (on s z k ac p v cy : Bool) : tb (packB on s z k ac p v cy) 16 = ac := by
  cases on <;> cases s <;> cases z <;> cases k <;> cases ac <;> cases p <;> cases v <;> cases cy <;> decide
theorem back_p (on s z k ac p v cy : Bool) : tb (packB on s z k ac p v cy) 4 = p := by
  cases on <;> cases s <;> cases z <;> cases k <;> cases ac <;> cases p <;> cases v <;> cases cy <;> decide
theorem back_v (on s z k ac p v cy : Bool) : tb (packB on s z k ac p v cy) 2 = (!on || v) := by
  cases on <;> cases s <;> cases z <;> cases k <;> cases ac <;> cases p <;> cases v <;> cases cy <;> decide
theorem back_cy (on s z k ac p v cy : Bool) : tb (packB on s z k ac p v cy) 1 = cy := by
  cases on <;> cases s <;> cases z <;> cases k <;> cases ac <;> cases p <;> cases v <;> cases cy <;> decide
theorem same80 : ∀ n : Fin 256, bits .andNot .u8 (bits .xor .u8 (packB false (tb n.val 128) (tb n.val 64) false (tb n.val 16) (tb n.val 4) false (tb n.val 1)) n.val) 42 = 0 ∧ bits .and .u8 (packB false (tb n.val 128) (tb n.val 64) false (tb n.val 16) (tb n.val 4) false (tb n.val 1)) 42 = 2 := by decide +kernel
theorem same85 : ∀ n : Fin 256, bits .andNot .u8 (bits .xor .u8 (packB true (tb n.val 128) (tb n.val 64) (tb n.val 32) (tb n.val 16) (tb n.val 4) (tb n.val 2) (tb n.val 1)) n.val) 8 = 0 ∧ bits .and .u8 (packB true (tb n.val 128) (tb n.val 64) (tb n.val 32) (tb n.val 16) (tb n.val 4) (tb n.val 2) (tb n.val 1)) 8 = 0 := by decide +kernel
theorem same80_int (b : Int) (h : 0 ≤ b) (h' : b ≤ 255) : bits .andNot .u8 (bits .xor .u8 (packB false (tb b 128) (tb b 64) false (tb b 16) (tb b 4) false (tb b 1)) b) 42 = 0 ∧ bits .and .u8 (packB false (tb b 128) (tb b 64) false (tb b 16) (tb b 4) false (tb b 1)) 42 = 2 := by
  obtain ⟨n, rfl⟩ := Int.eq_ofNat_of_zero_le h
  exact same80 ⟨n, by omega⟩
theorem same85_int (b : Int) (h : 0 ≤ b) (h' : b ≤ 255) : bits .andNot .u8 (bits .xor .u8 (packB true (tb b 128) (tb b 64) (tb b 32) (tb b 16) (tb b 4) (tb b 2) (tb b 1)) b) 8 = 0 ∧ bits .and .u8 (packB true (tb b 128) (tb b 64) (tb b 32) (tb b 16) (tb b 4) (tb b 2) (tb b 1)) 8 = 0 := by
  obtain ⟨n, rfl⟩ := Int.eq_ofNat_of_zero_le h
  exact same85 ⟨n, by omega⟩
end Go.Proofs.Ytafbcghmbdfdoaa
