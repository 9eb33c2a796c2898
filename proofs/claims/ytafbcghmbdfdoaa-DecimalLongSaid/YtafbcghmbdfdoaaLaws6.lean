/- The walks of the laws of layer 6: each answers true. -/
import Derived.Test.YtafbcghmbdfdoaaDaa
import Derived.Test.YtafbcghmbdfdoaaMake
namespace Go.Proofs.Ytafbcghmbdfdoaa
open Go.RowKit
set_option linter.unusedVariables false

theorem and7 (q : Int) (h : 0 ≤ q) (h' : q ≤ 7) : bits .and .i64 q 7 = q := by rw [i64_and7]; omega

theorem known_any (w : World) : Calls Try.prog 9 #[] w fun e w' => e = .returned (.bool true) ∧ Below w.heap.size w w' := by
  have k1 : daaR 155 true true = 1 := by decide
  have k2 : sumH 155 (daaX true true) false = true := by decide
  have k3 : par 1 = false := by decide
  go_enter Try.func9, Try.ntmps9
  go_wp2_with fail
  refine (daa_any 1 155 true true false _ _ _ _ _ _ _ _ rfl (by omega) (by omega) (isLo_of 155 false) (isHi_of 155 false)).mono ?_; rintro e w1 ⟨rfl, h1⟩
  go_wp2_with fail
  go_ret
  exact ⟨rfl, thenB h1 (by go_grown)⟩

/-! ### Plain -/
/-- The decimal byte of a number of two digits. -/
def bcd (m : Int) : Int := m / 10 * 16 + m % 10
theorem keep_all : ∀ m : Fin 100, daaR (bcd m.val) false false = bcd m.val ∧ ¬ 153 < bcd m.val ∧ ¬ 9 < bcd m.val % 16 ∧ sumH (bcd m.val) 0 false = false := by decide +kernel
theorem keep_int (m : Int) (h : 0 ≤ m) (h' : m < 100) : daaR (bcd m) false false = bcd m ∧ ¬ 153 < bcd m ∧ ¬ 9 < bcd m % 16 ∧ sumH (bcd m) 0 false = false := by
  obtain ⟨n, rfl⟩ := Int.eq_ofNat_of_zero_le h
  exact keep_all ⟨n, by omega⟩
theorem bcd_lo (m : Int) (h : 0 ≤ m) : 0 ≤ bcd m := by unfold bcd; omega
theorem bcd_hi (m : Int) (h : 0 ≤ m) (h' : m < 100) : bcd m ≤ 255 := by unfold bcd; omega

set_option maxHeartbeats 2000000 in
theorem decimalKeeps_walk (l : Option Addr) (len cap : Nat) (zs : List Int) (x : Int) (w : World) (wl : IsRow .i64 w l len cap zs) (wx : (Lit.int .i64 x).wf = true) :
    Calls Try.prog 4 #[.slice l len cap, .int .i64 x] w fun e w' => e = .returned (.bool true) ∧ Below w.heap.size w w' := by
  have l1 := placeN_lo x 100 (by omega)
  have l2 := placeN_hi x 100 (by omega)
  have WL := Lib.hid wl
  clear wl
  go_enter Try.func4, Try.ntmps4
  go_wp2_with fail
  refine (from_any _ _ _ _).mono ?_; rintro e w1 ⟨rfl, rfl⟩
  go_wp2_with fail
  refine (chip_gen _ l len cap zs w _ (by go_size) WL.out (by go_grown) (by simp) (by simp) (by simp)).mono ?_; rintro e w2 ⟨⟨c, hc, rfl⟩, hq⟩
  have HQ := Lib.hid (onlyBelow hq (by simp))
  clear hq
  go_wp2_with fail
  refine (place_any x 100 _ (by omega) (by omega)).mono ?_; rintro e w' ⟨rfl, rfl⟩
  generalize placeN x 100 = m at *
  obtain ⟨K1, K2, K3, K4⟩ := keep_int m l1 l2
  have l3 := bcd_lo m l1
  have l4 := bcd_hi m l1 l2
  have b0 : m / 10 * 16 + m % 10 = bcd m := rfl
  have L := Lib.hid K3
  have H := Lib.hid K2
  have k5 : daaX false false = 0 := rfl
  clear K2 K3
  generalize bcd m = n at *
  go_wp2_with fail
  refine (daa_any c n false false _ _ _ _ _ _ _ _ _ rfl l3 l4 (.inr (.inr ⟨rfl, rfl, by have := L.out; omega⟩)) (.inr (.inr ⟨rfl, rfl, by have := H.out; omega⟩))).mono ?_; rintro e w3 ⟨rfl, h3⟩
  have H3 := Lib.hid (thenB (((Below.refl w.heap.size w).alloc (Nat.le_refl _) _).trans HQ.out) h3)
  clear h3
  go_wp2_with fail
  refine (known_any _).mono ?_; rintro e wk ⟨rfl, hk⟩
  have HB := Lib.hid (thenB H3.out (thenB (by go_grown) hk))
  go_wp2_with fail
  go_ret
  exact ⟨rfl, HB.out⟩

/-! ### An addition and its adjustment -/
theorem add_all : ∀ (m n : Fin 100) (c : Bool), daaR (sumR (bcd m.val) (bcd n.val) c) (sumH (bcd m.val) (bcd n.val) c || decide (9 < sumR (bcd m.val) (bcd n.val) c % 16)) (sumO (bcd m.val) (bcd n.val) c || decide (153 < sumR (bcd m.val) (bcd n.val) c)) = (m.val + n.val + b2i c) % 100 / 10 * 16 + (m.val + n.val + b2i c) % 10 ∧
    (sumO (bcd m.val) (bcd n.val) c || decide (153 < sumR (bcd m.val) (bcd n.val) c)) = decide (99 < m.val + n.val + b2i c) := by decide +kernel
/-- The sum of two decimal bytes, and whether its low and its high digit are adjusted. -/
def addL (m n : Int) (c : Bool) : Bool := sumH (bcd m) (bcd n) c || decide (9 < sumR (bcd m) (bcd n) c % 16)
def addH (m n : Int) (c : Bool) : Bool := sumO (bcd m) (bcd n) c || decide (153 < sumR (bcd m) (bcd n) c)
theorem add_int (m n : Int) (c : Bool) (h : 0 ≤ m) (h' : m < 100) (k : 0 ≤ n) (k' : n < 100) :
    daaR (sumR (bcd m) (bcd n) c) (addL m n c) (addH m n c) = (m + n + b2i c) % 100 / 10 * 16 + (m + n + b2i c) % 10 ∧ addH m n c = decide (99 < m + n + b2i c) := by
  obtain ⟨M, rfl⟩ := Int.eq_ofNat_of_zero_le h
  obtain ⟨N, rfl⟩ := Int.eq_ofNat_of_zero_le k
  exact add_all ⟨M, by omega⟩ ⟨N, by omega⟩ c

set_option maxHeartbeats 2000000 in
theorem decimalAdds_walk (l : Option Addr) (len cap : Nat) (zs : List Int) (x y : Int) (carry : Bool) (w : World) (wl : IsRow .i64 w l len cap zs) (wx : (Lit.int .i64 x).wf = true) (wy : (Lit.int .i64 y).wf = true) :
    Calls Try.prog 5 #[.slice l len cap, .int .i64 x, .int .i64 y, .bool carry] w fun e w' => e = .returned (.bool true) ∧ Below w.heap.size w w' := by
  have l1 := placeN_lo x 100 (by omega)
  have l2 := placeN_hi x 100 (by omega)
  have r1 := placeN_lo y 100 (by omega)
  have r2 := placeN_hi y 100 (by omega)
  have WL := Lib.hid wl
  clear wl
  go_enter Try.func5, Try.ntmps5
  go_wp2_with fail
  refine (from_any _ _ _ _).mono ?_; rintro e w1 ⟨rfl, rfl⟩
  go_wp2_with fail
  refine (chip_gen _ l len cap zs w _ (by go_size) WL.out (by go_grown) (by simp) (by simp) (by simp)).mono ?_; rintro e w2 ⟨⟨c, hc, rfl⟩, hq⟩
  have HQ := Lib.hid (onlyBelow hq (by simp))
  clear hq
  go_wp2_with fail
  refine (place_any x 100 _ (by omega) (by omega)).mono ?_; rintro e w' ⟨rfl, rfl⟩
  go_wp2_with fail
  refine (place_any y 100 _ (by omega) (by omega)).mono ?_; rintro e w' ⟨rfl, rfl⟩
  generalize placeN x 100 = m at *
  generalize placeN y 100 = n at *
  obtain ⟨K1, K2⟩ := add_int m n carry l1 l2 r1 r2
  have s1 := bcd_lo m l1
  have s2 := bcd_hi m l1 l2
  have s3 := bcd_lo n r1
  have s4 := bcd_hi n r1 r2
  have b0 : m / 10 * 16 + m % 10 = bcd m := rfl
  have b1 : n / 10 * 16 + n % 10 = bcd n := rfl
  have HL : Hid (IsLo (sumR (bcd m) (bcd n) carry) (sumH (bcd m) (bcd n) carry) (addL m n carry)) := isLo_of _ _
  have HH : Hid (IsHi (sumR (bcd m) (bcd n) carry) (sumO (bcd m) (bcd n) carry) (addH m n carry)) := isHi_of _ _
  generalize addH m n carry = AH at *
  have K3 : decide (99 < m + n + b2i carry) = AH := K2.symm
  clear K2
  have t1 := sumR_lo (bcd m) (bcd n) carry
  have t2 := sumR_hi (bcd m) (bcd n) carry
  have q1 : aA 1 (bcd m) (bcd n) carry = sumR (bcd m) (bcd n) carry := rfl
  have q2 : aH 1 (bcd m) (bcd n) carry (c == 2) = sumH (bcd m) (bcd n) carry := rfl
  have q3 : aO 1 (bcd m) (bcd n) carry = sumO (bcd m) (bcd n) carry := rfl
  have t3 := b2i_lo carry
  have t4 := b2i_hi carry
  go_wp2_with fail
  refine (do_1 c 1 (bcd m) (bcd n) _ _ _ _ _ _ _ carry _ rfl (and7 1 (by omega) (by omega)) s1 s2 s3 s4).mono ?_; rintro e w3 ⟨rfl, h3⟩
  have H3 := Lib.hid (thenB (((Below.refl w.heap.size w).alloc (Nat.le_refl _) _).trans HQ.out) h3)
  clear h3
  go_wp2_with fail
  refine (daa_any c _ (addL m n carry) AH _ _ _ _ _ _ _ _ _ rfl t1 t2 HL.out HH.out).mono ?_; rintro e w4 ⟨rfl, h4⟩
  have H4 := Lib.hid (thenB (H3.out.alloc (H3.out.size) _) h4)
  clear h4
  go_wp2_with fail
  refine (rone_any _ _).mono ?_; rintro e w' ⟨rfl, rfl⟩
  go_wp2_with fail
  refine (known_any _).mono ?_; rintro e wk ⟨rfl, hk⟩
  have HB := Lib.hid (thenB H4.out (thenB (by go_grown) hk))
  go_wp2_with fail
  go_ret
  exact ⟨rfl, HB.out⟩
end Go.Proofs.Ytafbcghmbdfdoaa
