/- Plain functions on numbers and truth values: what package bits computes. No program in sight. -/
import Derived.Test.YtafbcghmbdfdoaaRows
import Derived.WalkKit
import Derived.Handy
import Derived.Lib.Hide
namespace Go.Proofs.Ytafbcghmbdfdoaa
open Go.RowKit
set_option linter.unusedVariables false

/-- A byte as a signed number. -/
def s8 (a : Int) : Int := if a < 128 then a else a - 256
theorem s8_wrap (a : Int) (h : 0 ≤ a) (h' : a ≤ 255) : IntKind.i8.wrap a = s8 a := by
  simp [IntKind.wrap, IntKind.bits, IntKind.signed, s8]; omega
theorem s8_lo (a : Int) (h : 0 ≤ a) (h' : a ≤ 255) : -128 ≤ s8 a := by unfold s8; omega
theorem s8_hi (a : Int) (h : 0 ≤ a) (h' : a ≤ 255) : s8 a ≤ 127 := by unfold s8; omega
/-- 1 for true. -/
def b2i (c : Bool) : Int := if c then 1 else 0
theorem b2i_lo (c : Bool) : 0 ≤ b2i c := by cases c <;> simp [b2i]
theorem b2i_hi (c : Bool) : b2i c ≤ 1 := by cases c <;> simp [b2i]
/-- A number that does not fit into a signed byte. -/
def ovf (n : Int) : Bool := decide (n < -128) || decide (127 < n)

def sumR (a b : Int) (c : Bool) : Int := (a + b + b2i c) % 256
def sumO (a b : Int) (c : Bool) : Bool := decide (255 < a + b + b2i c)
def sumH (a b : Int) (c : Bool) : Bool := decide (15 < a % 16 + b % 16 + b2i c)
def sumV (a b : Int) (c : Bool) : Bool := ovf (s8 a + s8 b + b2i c)
def difR (a b : Int) (c : Bool) : Int := (a - b - b2i c) % 256
def difO (a b : Int) (c : Bool) : Bool := decide (a - b - b2i c < 0)
def difH (a b : Int) (c : Bool) : Bool := decide (15 < a % 16 + 15 - b % 16 + 1 - b2i c)
def difV (a b : Int) (c : Bool) : Bool := ovf (s8 a - s8 b - b2i c)
def majB (a b c : Bool) : Bool := a && b || a && c || b && c
def joinW (h l : Int) : Int := h * 256 + l

/-- The parity of the low k bits. -/
def parTo : Nat → Nat → Bool
  | 0, _ => true
  | k + 1, n => if n / 2 ^ k % 2 = 1 then !(parTo k n) else parTo k n
def par (a : Int) : Bool := parTo 8 a.toNat
theorem par_drop : ∀ n : Fin 256, 0 < n.val → parTo 8 (n.val &&& (n.val - 1)) = !(parTo 8 n.val) := by decide +kernel
theorem and_lt : ∀ n : Fin 256, 0 < n.val → n.val &&& (n.val - 1) < n.val := by decide +kernel
theorem drop_bit (x : Nat) (hx : x < 256) (h : 0 < x) : bits .and .u8 (x : Int) ((x : Int) - 1) = ((x &&& (x - 1) : Nat) : Int) := by
  rw [show (x : Int) - 1 = ((x - 1 : Nat) : Int) from by omega]
  exact u8_and_nat x (x - 1) hx (by omega)
theorem par_zero : parTo 8 0 = true := by decide
theorem join_or (h l : Int) (ha : 0 ≤ h) (ha' : h ≤ 255) (hb : 0 ≤ l) (hb' : l ≤ 255) : bits .or .u16 (h * 256) l = joinW h l := by
  rw [u16_or _ _ (by omega) (by omega) hb (by omega)]
  rw [nat_join 8 _ _ (by omega) (by omega)]
  unfold joinW; omega
theorem or_t {p : Prop} [Decidable p] {q : Bool} (h : p) : true = (decide p || q) := by simp [h]
theorem or_f {p : Prop} [Decidable p] {q : Bool} (h : ¬ p) : q = (decide p || q) := by simp [h]
theorem or_f' {x y : Int} {q : Bool} (h : y ≤ x) : q = (decide (x < y) || q) := or_f (by omega)
theorem bit_at (n k : Nat) (hn : n < 256) : bits .and .u8 ((n : Int) / 2 ^ k) 1 = ((n / 2 ^ k % 2 : Nat) : Int) := by
  rw [show (n : Int) / 2 ^ k = ((n / 2 ^ k : Nat) : Int) from by simp]
  have h : n / 2 ^ k ≤ n := Nat.div_le_self _ _
  have e := u8_and_nat (n / 2 ^ k) 1 (by omega) (by omega)
  rw [nat_mask1] at e
  exact e
theorem parTo_yes (n k : Nat) (hn : n < 256) (h : (bits .and .u8 ((n : Int) / 2 ^ k) 1 == 1) = true) : (!parTo k n) = parTo (k + 1) n := by
  rw [bit_at n k hn] at h
  have h' : n / 2 ^ k % 2 = 1 := by have := eq_of_beq h; omega
  simp [parTo, h']
theorem parTo_no (n k : Nat) (hn : n < 256) (h : (bits .and .u8 ((n : Int) / 2 ^ k) 1 == 1) = false) : parTo k n = parTo (k + 1) n := by
  rw [bit_at n k hn] at h
  have h' : ¬ n / 2 ^ k % 2 = 1 := by have := ne_of_beq_false h; omega
  simp [parTo, h']
theorem ret_4 {k : IntKind} {a a' : Int} {b b' c c' d d' : Bool} (h1 : a = a') (h2 : b = b') (h3 : c = c') (h4 : d = d') :
    Ending.returned (.tuple #[.int k a, .bool b, .bool c, .bool d]) = .returned (.tuple #[.int k a', .bool b', .bool c', .bool d']) := by rw [h1, h2, h3, h4]
theorem ret_b {a b : Bool} (h : a = b) : Ending.returned (.bool a) = .returned (.bool b) := by rw [h]
theorem ret_i {k : IntKind} {a b : Int} (h : a = b) : Ending.returned (.int k a) = .returned (.int k b) := by rw [h]
end Go.Proofs.Ytafbcghmbdfdoaa
