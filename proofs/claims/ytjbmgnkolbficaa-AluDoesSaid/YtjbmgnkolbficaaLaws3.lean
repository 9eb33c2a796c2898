/- The walks of the laws of layer 3: each answers true. -/
import Derived.Test.YtjbmgnkolbficaaAlu
import Derived.Test.YtjbmgnkolbficaaMake
namespace Go.Proofs.Ytjbmgnkolbficaa
open Go.RowKit
set_option linter.unusedVariables false

theorem do_all (chip op q a b : Int) (on s z k ac p v cy : Bool) (w : World) (hc : (chip == 2) = on) (hq : bits .and .i64 op 7 = q) (ha : 0 ≤ a) (ha' : a ≤ 255) (hb : 0 ≤ b) (hb' : b ≤ 255) :
    Calls Try.prog 9 #[.int .i64 chip, .int .i64 op, .int .u8 a, .int .u8 b, .agg #[.bool s, .bool z, .bool k, .bool ac, .bool p, .bool v, .bool cy]] w fun e w' => e = .returned (.tuple #[.int .u8 (aA q a b cy), .agg #[.bool (decide (128 ≤ aR q a b cy)), .bool (aR q a b cy == 0), .bool (on && aK q a b cy), .bool (aH q a b cy on), .bool (par (aR q a b cy)), .bool (on && aV q a b cy), .bool (aO q a b cy)]]) ∧ Below w.heap.size w w' := by
  have h8 := i64_and7 op
  rw [hq] at h8
  obtain rfl | rfl | rfl | rfl | rfl | rfl | rfl | rfl : q = 0 ∨ q = 1 ∨ q = 2 ∨ q = 3 ∨ q = 4 ∨ q = 5 ∨ q = 6 ∨ q = 7 := by omega
  · exact do_0 chip op a b on s z k ac p v cy w hc hq ha ha' hb hb'
  · exact do_1 chip op a b on s z k ac p v cy w hc hq ha ha' hb hb'
  · exact do_2 chip op a b on s z k ac p v cy w hc hq ha ha' hb hb'
  · exact do_3 chip op a b on s z k ac p v cy w hc hq ha ha' hb hb'
  · exact do_4 chip op a b on s z k ac p v cy w hc hq ha ha' hb hb'
  · exact do_5 chip op a b on s z k ac p v cy w hc hq ha ha' hb hb'
  · exact do_6 chip op a b on s z k ac p v cy w hc hq ha ha' hb hb'
  · exact do_7 chip op a b on s z k ac p v cy w hc hq ha ha' hb hb'
theorem and7 (q : Int) (h : 0 ≤ q) (h' : q ≤ 7) : bits .and .i64 q 7 = q := by rw [i64_and7]; omega

theorem known_any (w : World) : Calls Try.prog 11 #[] w fun e w' => e = .returned (.bool true) ∧ Below w.heap.size w w' := by
  have k1 : aA 0 127 1 false = 128 := by decide
  have k2 : aR 0 127 1 false = 128 := by decide
  have k3 : aK 0 127 1 false = false := by decide
  have k4 : aH 0 127 1 false true = true := by decide
  have k5 : par 128 = false := by decide
  have k6 : aV 0 127 1 false = true := by decide
  have k7 : aO 0 127 1 false = false := by decide
  go_enter Try.func11, Try.ntmps11
  go_wp2_with fail
  refine (do_all 2 0 0 127 1 true _ _ _ _ _ _ _ _ rfl (and7 0 (by omega) (by omega)) (by omega) (by omega) (by omega) (by omega)).mono ?_; rintro e w1 ⟨rfl, h1⟩
  go_wp2_with fail
  go_ret
  exact ⟨rfl, thenB h1 (by go_grown)⟩

/-! ### Plain -/
theorem difR_zero (a b : Int) (ha : 0 ≤ a) (ha' : a ≤ 255) (hb : 0 ≤ b) (hb' : b ≤ 255) : (difR a b false == 0) = (a == b) := by
  unfold difR b2i; rw [Bool.eq_iff_iff, beq_iff_eq, beq_iff_eq]; simp only [Bool.false_eq_true, if_false]; omega
theorem difO_lt (a b : Int) : difO a b false = decide (a < b) := by
  unfold difO b2i; rw [decide_eq_decide]; simp only [Bool.false_eq_true, if_false]; omega
theorem chainR (a b : Int) (ha : 0 ≤ a) (ha' : a ≤ 65535) (hb : 0 ≤ b) (hb' : b ≤ 65535) :
    joinW (sumR (a / 256) (b / 256) (sumO (a % 256) (b % 256) false)) (sumR (a % 256) (b % 256) false) = (a + b) % 65536 := by
  unfold joinW sumR sumO
  by_cases h : 255 < a % 256 + b % 256 + b2i false
  · rw [decide_eq_true h]; simp [b2i] at h ⊢; omega
  · rw [decide_eq_false h]; simp [b2i] at h ⊢; omega
theorem chainO (a b : Int) (ha : 0 ≤ a) (ha' : a ≤ 65535) (hb : 0 ≤ b) (hb' : b ≤ 65535) :
    sumO (a / 256) (b / 256) (sumO (a % 256) (b % 256) false) = decide (65535 < a + b) := by
  unfold sumO
  by_cases h : 255 < a % 256 + b % 256 + b2i false
  · rw [decide_eq_true h, decide_eq_decide]; simp [b2i] at h ⊢; omega
  · rw [decide_eq_false h, decide_eq_decide]; simp [b2i] at h ⊢; omega
theorem chainDR (a b : Int) (ha : 0 ≤ a) (ha' : a ≤ 65535) (hb : 0 ≤ b) (hb' : b ≤ 65535) :
    joinW (difR (a / 256) (b / 256) (difO (a % 256) (b % 256) false)) (difR (a % 256) (b % 256) false) = (a - b) % 65536 := by
  unfold joinW difR difO
  by_cases h : a % 256 - b % 256 - b2i false < 0
  · rw [decide_eq_true h]; simp [b2i] at h ⊢; omega
  · rw [decide_eq_false h]; simp [b2i] at h ⊢; omega
theorem chainDO (a b : Int) (ha : 0 ≤ a) (ha' : a ≤ 65535) (hb : 0 ≤ b) (hb' : b ≤ 65535) :
    difO (a / 256) (b / 256) (difO (a % 256) (b % 256) false) = decide (a < b) := by
  unfold difO
  by_cases h : a % 256 - b % 256 - b2i false < 0
  · rw [decide_eq_true h, decide_eq_decide]; simp [b2i] at h ⊢; omega
  · rw [decide_eq_false h, decide_eq_decide]; simp [b2i] at h ⊢; omega
theorem sv_key (h v : Int) (p : Prop) [Decidable p] (k : ((128 ≤ h ∧ ¬ (v < -128 ∨ 127 < v)) ∨ (¬ 128 ≤ h ∧ (v < -128 ∨ 127 < v))) ↔ p) : (decide (128 ≤ h) == (decide (v < -128) || decide (127 < v))) = !decide p := by
  rw [Bool.eq_iff_iff, Bool.not_eq_true', decide_eq_false_iff_not, ← k]
  by_cases h1 : 128 ≤ h <;> by_cases h2 : v < -128 <;> by_cases h3 : 127 < v <;> simp [h1, h2, h3]
theorem signed8 (a b : Int) (ha : 0 ≤ a) (ha' : a ≤ 255) (hb : 0 ≤ b) (hb' : b ≤ 255) : (decide (128 ≤ difR a b false) == difV a b false) = !decide (s8 a < s8 b) := by
  unfold difV ovf
  apply sv_key
  unfold difR s8 b2i; simp only [Bool.false_eq_true, if_false]; omega
theorem and_self (a : Int) (ha : 0 ≤ a) (ha' : a ≤ 255) : bits .and .u8 a a = a := by rw [u8_and a a ha (by omega) ha (by omega), Nat.and_self]; omega
theorem or_self (a : Int) (ha : 0 ≤ a) (ha' : a ≤ 255) : bits .or .u8 a a = a := by rw [u8_or a a ha (by omega) ha (by omega), Nat.or_self]; omega
theorem xor_self (a : Int) (ha : 0 ≤ a) (ha' : a ≤ 255) : bits .xor .u8 a a = 0 := by rw [u8_xor a a ha (by omega) ha (by omega), Nat.xor_self]; rfl
theorem and_xor_or (n m : Nat) : (n &&& m) ^^^ (n ^^^ m) = n ||| m := by
  apply Nat.eq_of_testBit_eq; intro i
  rw [Nat.testBit_xor, Nat.testBit_and, Nat.testBit_xor, Nat.testBit_or]
  cases n.testBit i <;> cases m.testBit i <;> rfl
theorem and_xor_or8 (a b : Int) (ha : 0 ≤ a) (ha' : a ≤ 255) (hb : 0 ≤ b) (hb' : b ≤ 255) : bits .xor .u8 (bits .and .u8 a b) (bits .xor .u8 a b) = bits .or .u8 a b := by
  obtain ⟨n, rfl⟩ := Int.eq_ofNat_of_zero_le ha
  obtain ⟨m, rfl⟩ := Int.eq_ofNat_of_zero_le hb
  have hn : n < 256 := by omega
  have hm : m < 256 := by omega
  rw [u8_and_nat n m hn hm, u8_xor_nat n m hn hm, u8_or_nat n m hn hm, u8_xor_nat _ _ (Nat.lt_of_le_of_lt Nat.and_le_left hn) (Nat.xor_lt_two_pow (n := 8) hn hm), and_xor_or]

set_option maxHeartbeats 2000000 in
theorem aluCompares_walk (l : Option Addr) (len cap : Nat) (zs : List Int) (a b : Int) (s z k ac p v cy : Bool) (w : World) (wl : IsRow .i64 w l len cap zs) (wa : (Lit.int .u8 a).wf = true) (wb : (Lit.int .u8 b).wf = true) :
    Calls Try.prog 4 #[.slice l len cap, .int .u8 a, .int .u8 b, .agg #[.bool s, .bool z, .bool k, .bool ac, .bool p, .bool v, .bool cy]] w fun e w' => e = .returned (.bool true) ∧ Below w.heap.size w w' := by
  obtain ⟨ha, ha'⟩ := wf_byte wa
  obtain ⟨hb, hb'⟩ := wf_byte wb
  have x1 : aR 7 a b cy = aR 2 a b cy := rfl
  have x2 : aK 7 a b cy = aK 2 a b cy := rfl
  have x3 : ∀ on, aH 7 a b cy on = aH 2 a b cy on := fun _ => rfl
  have x4 : aV 7 a b cy = aV 2 a b cy := rfl
  have x5 : aO 7 a b cy = decide (a < b) := difO_lt a b
  have x6 : aO 2 a b cy = decide (a < b) := difO_lt a b
  have x7 : aA 7 a b cy = a := rfl
  have x8 : aA 2 a b cy = difR a b false := rfl
  have x9 : IntKind.u8.wrap (a - b) = difR a b false := by rw [IntKind.wrap_u8']; unfold difR b2i; simp only [Bool.false_eq_true, if_false]; omega
  have x10 : (aR 2 a b cy == 0) = (a == b) := difR_zero a b ha ha' hb hb'
  have WL := Lib.hid wl
  clear wl
  go_enter Try.func4, Try.ntmps4
  go_wp2_with fail
  refine (from_any _ _ _ _).mono ?_; rintro e w1 ⟨rfl, rfl⟩
  go_wp2_with fail
  refine (chip_gen _ l len cap zs w _ (by go_size) WL.out (by go_grown) (by simp) (by simp) (by simp)).mono ?_; rintro e w2 ⟨⟨c, hc, rfl⟩, hq⟩
  have F0 : Hid (Held7 w w.heap.size s z k ac p v cy w2) := Held7.only hq (by simp) (by simp) (by exact ⟨by simp, by simp, by simp, by simp, by simp, by simp, by simp, by go_size, by go_size, by go_grown⟩)
  clear hq
  obtain ⟨F0c0, F0c1, F0c2, F0c3, F0c4, F0c5, F0c6, F0z, F0s, F0B⟩ := F0.out
  clear F0B F0s
  have F0n : ¬ w.heap.size = w2.heap.size := by omega
  go_wp2_with fail
  refine (do_2 c 2 a b _ _ _ _ _ _ _ cy _ rfl (and7 2 (by omega) (by omega)) ha ha' hb hb').mono ?_; rintro e u1 ⟨rfl, hu1⟩
  clear F0c0 F0c1 F0c2 F0c3 F0c4 F0c5 F0c6 F0z F0n
  have F1 : Hid (Held7 w (w.heap.size) s z k ac p v cy u1) := Lib.hid (Held7.two F0.out hu1 (by go_grown))
  clear F0 hu1
  obtain ⟨F1c0, F1c1, F1c2, F1c3, F1c4, F1c5, F1c6, F1z, F1s, F1B⟩ := F1.out
  clear F1B F1s
  have F1n : ¬ w.heap.size = u1.heap.size := by omega
  go_wp2_with fail
  refine (do_7 c 7 a b _ _ _ _ _ _ _ cy _ rfl (and7 7 (by omega) (by omega)) ha ha' hb hb').mono ?_; rintro e u2 ⟨rfl, hu2⟩
  clear F1c0 F1c1 F1c2 F1c3 F1c4 F1c5 F1c6 F1z F1n
  have F2 : Hid (Held7 w (w.heap.size) s z k ac p v cy u2) := Lib.hid (Held7.two F1.out hu2 (by go_grown))
  have G2 : Hid (Held7 w (u1.heap.size) (decide (128 ≤ aR 2 a b cy)) (a == b) ((c == 2) && aK 2 a b cy) (aH 2 a b cy (c == 2)) (par (aR 2 a b cy)) ((c == 2) && aV 2 a b cy) (decide (a < b)) u2) := Lib.hid (Held7.thru hu2 (Held7.fresh F1.out))
  clear F1 hu2
  obtain ⟨F2c0, F2c1, F2c2, F2c3, F2c4, F2c5, F2c6, F2z, F2s, F2B⟩ := F2.out
  clear F2B F2s
  have F2n : ¬ w.heap.size = u2.heap.size := by omega
  obtain ⟨G2c0, G2c1, G2c2, G2c3, G2c4, G2c5, G2c6, G2z, G2s, G2B⟩ := G2.out
  clear G2B G2s
  have G2n : ¬ u1.heap.size = u2.heap.size := by omega
  go_wp2_with fail
  refine (known_any _).mono ?_; rintro e wk ⟨rfl, hk⟩
  have HB := Lib.hid (thenB (Held7.upto F2.out (by go_grown)) hk)
  go_wp2_with fail
  go_ret
  exact ⟨rfl, HB.out⟩

set_option maxHeartbeats 2000000 in
theorem aluSigned_walk (a b : Int) (s z k ac p v cy : Bool) (w : World) (wa : (Lit.int .u8 a).wf = true) (wb : (Lit.int .u8 b).wf = true) :
    Calls Try.prog 8 #[.int .u8 a, .int .u8 b, .agg #[.bool s, .bool z, .bool k, .bool ac, .bool p, .bool v, .bool cy]] w fun e w' => e = .returned (.bool true) ∧ Below w.heap.size w w' := by
  obtain ⟨ha, ha'⟩ := wf_byte wa
  obtain ⟨hb, hb'⟩ := wf_byte wb
  have x1 : aR 7 a b cy = difR a b false := rfl
  have x4 : aV 7 a b cy = difV a b false := rfl
  have x5 : aO 7 a b cy = decide (a < b) := difO_lt a b
  have x6 := signed8 a b ha ha' hb hb'
  have x7 := s8_wrap a ha ha'
  have x8 := s8_wrap b hb hb'
  go_enter Try.func8, Try.ntmps8
  go_wp2_with fail
  refine (do_7 2 7 a b true _ _ _ _ _ _ cy _ rfl (and7 7 (by omega) (by omega)) ha ha' hb hb').mono ?_; rintro e w1 ⟨rfl, h1⟩
  have H1 := Lib.hid h1
  clear h1
  go_wp2_with fail
  refine (known_any _).mono ?_; rintro e wk ⟨rfl, hk⟩
  have HB := Lib.hid (thenB (thenB (((Below.refl w.heap.size w).alloc (Nat.le_refl _) _)) H1.out) (thenB (by go_grown) hk))
  go_wp2_with fail
  go_ret
  exact ⟨rfl, HB.out⟩

set_option maxHeartbeats 2000000 in
theorem aluWords_walk (l : Option Addr) (len cap : Nat) (zs : List Int) (a b : Int) (s z k ac p v cy : Bool) (w : World) (wl : IsRow .i64 w l len cap zs) (wa : (Lit.int .u16 a).wf = true) (wb : (Lit.int .u16 b).wf = true) :
    Calls Try.prog 5 #[.slice l len cap, .int .u16 a, .int .u16 b, .agg #[.bool s, .bool z, .bool k, .bool ac, .bool p, .bool v, .bool cy]] w fun e w' => e = .returned (.bool true) ∧ Below w.heap.size w w' := by
  obtain ⟨ha, ha'⟩ := wf_word wa
  obtain ⟨hb, hb'⟩ := wf_word wb
  have b1 : 0 ≤ a % 256 ∧ a % 256 ≤ 255 := by omega
  have b2 : 0 ≤ b % 256 ∧ b % 256 ≤ 255 := by omega
  have b3 : 0 ≤ a / 256 ∧ a / 256 ≤ 255 := by omega
  have b4 : 0 ≤ b / 256 ∧ b / 256 ≤ 255 := by omega
  have y1 : IntKind.u16.wrap (a + b) = (a + b) % 65536 := IntKind.wrap_u16 _
  have y2 : IntKind.u16.wrap (a - b) = (a - b) % 65536 := IntKind.wrap_u16 _
  obtain ⟨CA, hCA⟩ : ∃ c, sumO (a % 256) (b % 256) false = c := ⟨_, rfl⟩
  obtain ⟨CD, hCD⟩ : ∃ c, difO (a % 256) (b % 256) false = c := ⟨_, rfl⟩
  have x1 : aO 0 (a % 256) (b % 256) cy = CA := hCA
  have x2 : aO 2 (a % 256) (b % 256) cy = CD := hCD
  have x3 : aO 1 (a / 256) (b / 256) CA = decide (65535 < a + b) := by rw [← hCA]; exact chainO a b ha ha' hb hb'
  have x4 : aO 3 (a / 256) (b / 256) CD = decide (a < b) := by rw [← hCD]; exact chainDO a b ha ha' hb hb'
  have x5 : joinW (aA 1 (a / 256) (b / 256) CA) (aA 0 (a % 256) (b % 256) cy) = (a + b) % 65536 := by rw [← hCA]; exact chainR a b ha ha' hb hb'
  have x6 : joinW (aA 3 (a / 256) (b / 256) CD) (aA 2 (a % 256) (b % 256) cy) = (a - b) % 65536 := by rw [← hCD]; exact chainDR a b ha ha' hb hb'
  have m1 : 0 ≤ aA 0 (a % 256) (b % 256) cy := sumR_lo _ _ _
  have m2 : aA 0 (a % 256) (b % 256) cy ≤ 255 := sumR_hi _ _ _
  have m3 : 0 ≤ aA 1 (a / 256) (b / 256) CA := sumR_lo _ _ _
  have m4 : aA 1 (a / 256) (b / 256) CA ≤ 255 := sumR_hi _ _ _
  have m5 : 0 ≤ aA 2 (a % 256) (b % 256) cy := difR_lo _ _ _
  have m6 : aA 2 (a % 256) (b % 256) cy ≤ 255 := difR_hi _ _ _
  have m7 : 0 ≤ aA 3 (a / 256) (b / 256) CD := difR_lo _ _ _
  have m8 : aA 3 (a / 256) (b / 256) CD ≤ 255 := difR_hi _ _ _
  clear hCA hCD
  have WL := Lib.hid wl
  clear wl
  go_enter Try.func5, Try.ntmps5
  go_wp2_with fail
  refine (from_any _ _ _ _).mono ?_; rintro e w1 ⟨rfl, rfl⟩
  go_wp2_with fail
  refine (chip_gen _ l len cap zs w _ (by go_size) WL.out (by go_grown) (by simp) (by simp) (by simp)).mono ?_; rintro e w2 ⟨⟨c, hc, rfl⟩, hq⟩
  have F0 : Hid (Held7 w w.heap.size s z k ac p v cy w2) := Held7.only hq (by simp) (by simp) (by exact ⟨by simp, by simp, by simp, by simp, by simp, by simp, by simp, by go_size, by go_size, by go_grown⟩)
  clear hq
  obtain ⟨F0c0, F0c1, F0c2, F0c3, F0c4, F0c5, F0c6, F0z, F0s, F0B⟩ := F0.out
  clear F0B F0s
  have F0n : ¬ w.heap.size = w2.heap.size := by omega
  go_wp2_with fail
  refine (do_0 c 0 (a % 256) (b % 256) _ _ _ _ _ _ _ cy _ rfl (and7 0 (by omega) (by omega)) b1.1 b1.2 b2.1 b2.2).mono ?_; rintro e u1 ⟨rfl, hu1⟩
  clear F0c0 F0c1 F0c2 F0c3 F0c4 F0c5 F0c6 F0z F0n
  have F1 : Hid (Held7 w (w.heap.size) s z k ac p v cy u1) := Lib.hid (Held7.two F0.out hu1 (by go_grown))
  clear F0 hu1
  obtain ⟨F1c0, F1c1, F1c2, F1c3, F1c4, F1c5, F1c6, F1z, F1s, F1B⟩ := F1.out
  clear F1B F1s
  have F1n : ¬ w.heap.size = u1.heap.size := by omega
  go_wp2_with fail
  refine (do_1 c 1 (a / 256) (b / 256) _ _ _ _ _ _ _ CA _ rfl (and7 1 (by omega) (by omega)) b3.1 b3.2 b4.1 b4.2).mono ?_; rintro e u2 ⟨rfl, hu2⟩
  clear F1c0 F1c1 F1c2 F1c3 F1c4 F1c5 F1c6 F1z F1n
  have F2 : Hid (Held7 w (w.heap.size) s z k ac p v cy u2) := Lib.hid (Held7.two F1.out hu2 (by go_grown))
  have G2 : Hid (Held7 w (u1.heap.size) (decide (128 ≤ aR 0 (a % 256) (b % 256) cy)) (aR 0 (a % 256) (b % 256) cy == 0) ((c == 2) && aK 0 (a % 256) (b % 256) cy) (aH 0 (a % 256) (b % 256) cy (c == 2)) (par (aR 0 (a % 256) (b % 256) cy)) ((c == 2) && aV 0 (a % 256) (b % 256) cy) CA u2) := Lib.hid (Held7.thru hu2 (Held7.fresh F1.out))
  clear F1 hu2
  obtain ⟨F2c0, F2c1, F2c2, F2c3, F2c4, F2c5, F2c6, F2z, F2s, F2B⟩ := F2.out
  clear F2B F2s
  have F2n : ¬ w.heap.size = u2.heap.size := by omega
  obtain ⟨G2c0, G2c1, G2c2, G2c3, G2c4, G2c5, G2c6, G2z, G2s, G2B⟩ := G2.out
  clear G2B G2s
  have G2n : ¬ u1.heap.size = u2.heap.size := by omega
  go_wp2_with fail
  refine (do_2 c 2 (a % 256) (b % 256) _ _ _ _ _ _ _ cy _ rfl (and7 2 (by omega) (by omega)) b1.1 b1.2 b2.1 b2.2).mono ?_; rintro e u3 ⟨rfl, hu3⟩
  clear F2c0 F2c1 F2c2 F2c3 F2c4 F2c5 F2c6 F2z F2n
  clear G2c0 G2c1 G2c2 G2c3 G2c4 G2c5 G2c6 G2z G2n
  have F3 : Hid (Held7 w (w.heap.size) s z k ac p v cy u3) := Lib.hid (Held7.two F2.out hu3 (by go_grown))
  have G3 : Hid (Held7 w (u1.heap.size) (decide (128 ≤ aR 0 (a % 256) (b % 256) cy)) (aR 0 (a % 256) (b % 256) cy == 0) ((c == 2) && aK 0 (a % 256) (b % 256) cy) (aH 0 (a % 256) (b % 256) cy (c == 2)) (par (aR 0 (a % 256) (b % 256) cy)) ((c == 2) && aV 0 (a % 256) (b % 256) cy) CA u3) := Lib.hid (Held7.two G2.out hu3 (by go_grown))
  have H3 : Hid (Held7 w (u2.heap.size) (decide (128 ≤ aR 1 (a / 256) (b / 256) CA)) (aR 1 (a / 256) (b / 256) CA == 0) ((c == 2) && aK 1 (a / 256) (b / 256) CA) (aH 1 (a / 256) (b / 256) CA (c == 2)) (par (aR 1 (a / 256) (b / 256) CA)) ((c == 2) && aV 1 (a / 256) (b / 256) CA) (decide (65535 < a + b)) u3) := Lib.hid (Held7.thru hu3 (Held7.fresh F2.out))
  clear F2 G2 hu3
  obtain ⟨F3c0, F3c1, F3c2, F3c3, F3c4, F3c5, F3c6, F3z, F3s, F3B⟩ := F3.out
  clear F3B F3s
  have F3n : ¬ w.heap.size = u3.heap.size := by omega
  obtain ⟨G3c0, G3c1, G3c2, G3c3, G3c4, G3c5, G3c6, G3z, G3s, G3B⟩ := G3.out
  clear G3B G3s
  have G3n : ¬ u1.heap.size = u3.heap.size := by omega
  obtain ⟨H3c0, H3c1, H3c2, H3c3, H3c4, H3c5, H3c6, H3z, H3s, H3B⟩ := H3.out
  clear H3B H3s
  have H3n : ¬ u2.heap.size = u3.heap.size := by omega
  go_wp2_with fail
  refine (do_3 c 3 (a / 256) (b / 256) _ _ _ _ _ _ _ CD _ rfl (and7 3 (by omega) (by omega)) b3.1 b3.2 b4.1 b4.2).mono ?_; rintro e u4 ⟨rfl, hu4⟩
  clear F3c0 F3c1 F3c2 F3c3 F3c4 F3c5 F3c6 F3z F3n
  clear G3c0 G3c1 G3c2 G3c3 G3c4 G3c5 G3c6 G3z G3n
  clear H3c0 H3c1 H3c2 H3c3 H3c4 H3c5 H3c6 H3z H3n
  have F4 : Hid (Held7 w (w.heap.size) s z k ac p v cy u4) := Lib.hid (Held7.two F3.out hu4 (by go_grown))
  have G4 : Hid (Held7 w (u1.heap.size) (decide (128 ≤ aR 0 (a % 256) (b % 256) cy)) (aR 0 (a % 256) (b % 256) cy == 0) ((c == 2) && aK 0 (a % 256) (b % 256) cy) (aH 0 (a % 256) (b % 256) cy (c == 2)) (par (aR 0 (a % 256) (b % 256) cy)) ((c == 2) && aV 0 (a % 256) (b % 256) cy) CA u4) := Lib.hid (Held7.two G3.out hu4 (by go_grown))
  have H4 : Hid (Held7 w (u2.heap.size) (decide (128 ≤ aR 1 (a / 256) (b / 256) CA)) (aR 1 (a / 256) (b / 256) CA == 0) ((c == 2) && aK 1 (a / 256) (b / 256) CA) (aH 1 (a / 256) (b / 256) CA (c == 2)) (par (aR 1 (a / 256) (b / 256) CA)) ((c == 2) && aV 1 (a / 256) (b / 256) CA) (decide (65535 < a + b)) u4) := Lib.hid (Held7.two H3.out hu4 (by go_grown))
  have I4 : Hid (Held7 w (u3.heap.size) (decide (128 ≤ aR 2 (a % 256) (b % 256) cy)) (aR 2 (a % 256) (b % 256) cy == 0) ((c == 2) && aK 2 (a % 256) (b % 256) cy) (aH 2 (a % 256) (b % 256) cy (c == 2)) (par (aR 2 (a % 256) (b % 256) cy)) ((c == 2) && aV 2 (a % 256) (b % 256) cy) CD u4) := Lib.hid (Held7.thru hu4 (Held7.fresh F3.out))
  clear F3 G3 H3 hu4
  obtain ⟨F4c0, F4c1, F4c2, F4c3, F4c4, F4c5, F4c6, F4z, F4s, F4B⟩ := F4.out
  clear F4B F4s
  have F4n : ¬ w.heap.size = u4.heap.size := by omega
  obtain ⟨G4c0, G4c1, G4c2, G4c3, G4c4, G4c5, G4c6, G4z, G4s, G4B⟩ := G4.out
  clear G4B G4s
  have G4n : ¬ u1.heap.size = u4.heap.size := by omega
  obtain ⟨H4c0, H4c1, H4c2, H4c3, H4c4, H4c5, H4c6, H4z, H4s, H4B⟩ := H4.out
  clear H4B H4s
  have H4n : ¬ u2.heap.size = u4.heap.size := by omega
  obtain ⟨I4c0, I4c1, I4c2, I4c3, I4c4, I4c5, I4c6, I4z, I4s, I4B⟩ := I4.out
  clear I4B I4s
  have I4n : ¬ u3.heap.size = u4.heap.size := by omega
  go_wp2_with fail
  refine (rjoin_any _ _ _ m3 m4 m1 m2).mono ?_; rintro e wj ⟨rfl, rfl⟩
  go_wp2_with fail
  refine (rjoin_any _ _ _ m7 m8 m5 m6).mono ?_; rintro e wj ⟨rfl, rfl⟩
  go_wp2_with fail
  refine (known_any _).mono ?_; rintro e wk ⟨rfl, hk⟩
  have HB := Lib.hid (thenB (Held7.upto F4.out (by go_grown)) hk)
  go_wp2_with fail
  go_ret
  exact ⟨rfl, HB.out⟩

set_option maxHeartbeats 4000000 in
theorem aluLogic_walk (l : Option Addr) (len cap : Nat) (zs : List Int) (a b : Int) (s z k ac p v cy : Bool) (w : World) (wl : IsRow .i64 w l len cap zs) (wa : (Lit.int .u8 a).wf = true) (wb : (Lit.int .u8 b).wf = true) :
    Calls Try.prog 6 #[.slice l len cap, .int .u8 a, .int .u8 b, .agg #[.bool s, .bool z, .bool k, .bool ac, .bool p, .bool v, .bool cy]] w fun e w' => e = .returned (.bool true) ∧ Below w.heap.size w w' := by
  obtain ⟨ha, ha'⟩ := wf_byte wa
  obtain ⟨hb, hb'⟩ := wf_byte wb
  have x1 : aA 5 a a cy = 0 := xor_self a ha ha'
  have x2 : aR 5 a a cy = 0 := xor_self a ha ha'
  have x3 : aA 4 a a cy = a := and_self a ha ha'
  have x4 : aA 6 a a cy = a := or_self a ha ha'
  have x5 : par 0 = true := by decide
  have x6 : ∀ a b, aO 4 a b cy = false := fun _ _ => rfl
  have x7 : ∀ a b, aO 5 a b cy = false := fun _ _ => rfl
  have x8 : ∀ a b, aO 6 a b cy = false := fun _ _ => rfl
  have x9 : ∀ a b on, aH 5 a b cy on = false := fun _ _ _ => rfl
  have x10 : ∀ a b on, aH 6 a b cy on = false := fun _ _ _ => rfl
  have x11 : bits .xor .u8 (aA 4 a b cy) (aA 5 a b cy) = aA 6 a b cy := and_xor_or8 a b ha ha' hb hb'
  have WL := Lib.hid wl
  clear wl
  go_enter Try.func6, Try.ntmps6
  go_wp2_with fail
  refine (from_any _ _ _ _).mono ?_; rintro e w1 ⟨rfl, rfl⟩
  go_wp2_with fail
  refine (chip_gen _ l len cap zs w _ (by go_size) WL.out (by go_grown) (by simp) (by simp) (by simp)).mono ?_; rintro e w2 ⟨⟨c, hc, rfl⟩, hq⟩
  have F0 : Hid (Held7 w w.heap.size s z k ac p v cy w2) := Held7.only hq (by simp) (by simp) (by exact ⟨by simp, by simp, by simp, by simp, by simp, by simp, by simp, by go_size, by go_size, by go_grown⟩)
  clear hq
  obtain ⟨F0c0, F0c1, F0c2, F0c3, F0c4, F0c5, F0c6, F0z, F0s, F0B⟩ := F0.out
  clear F0B F0s
  have F0n : ¬ w.heap.size = w2.heap.size := by omega
  go_wp2_with fail
  refine (do_5 c 5 a a _ _ _ _ _ _ _ cy _ rfl (and7 5 (by omega) (by omega)) ha ha' ha ha').mono ?_; rintro e u1 ⟨rfl, hu1⟩
  clear F0c0 F0c1 F0c2 F0c3 F0c4 F0c5 F0c6 F0z F0n
  have F1 : Hid (Held7 w (w.heap.size) s z k ac p v cy u1) := Lib.hid (Held7.two F0.out hu1 (by go_grown))
  clear F0 hu1
  obtain ⟨F1c0, F1c1, F1c2, F1c3, F1c4, F1c5, F1c6, F1z, F1s, F1B⟩ := F1.out
  clear F1B F1s
  have F1n : ¬ w.heap.size = u1.heap.size := by omega
  go_wp2_with fail
  refine (do_4 c 4 a a _ _ _ _ _ _ _ cy _ rfl (and7 4 (by omega) (by omega)) ha ha' ha ha').mono ?_; rintro e u2 ⟨rfl, hu2⟩
  clear F1c0 F1c1 F1c2 F1c3 F1c4 F1c5 F1c6 F1z F1n
  have F2 : Hid (Held7 w (w.heap.size) s z k ac p v cy u2) := Lib.hid (Held7.two F1.out hu2 (by go_grown))
  have G2 : Hid (Held7 w (u1.heap.size) false true ((c == 2) && aK 5 a a cy) false true ((c == 2) && aV 5 a a cy) false u2) := Lib.hid (Held7.thru hu2 (Held7.fresh F1.out))
  clear F1 hu2
  obtain ⟨F2c0, F2c1, F2c2, F2c3, F2c4, F2c5, F2c6, F2z, F2s, F2B⟩ := F2.out
  clear F2B F2s
  have F2n : ¬ w.heap.size = u2.heap.size := by omega
  obtain ⟨G2c0, G2c1, G2c2, G2c3, G2c4, G2c5, G2c6, G2z, G2s, G2B⟩ := G2.out
  clear G2B G2s
  have G2n : ¬ u1.heap.size = u2.heap.size := by omega
  go_wp2_with fail
  refine (do_6 c 6 a a _ _ _ _ _ _ _ cy _ rfl (and7 6 (by omega) (by omega)) ha ha' ha ha').mono ?_; rintro e u3 ⟨rfl, hu3⟩
  clear F2c0 F2c1 F2c2 F2c3 F2c4 F2c5 F2c6 F2z F2n
  clear G2c0 G2c1 G2c2 G2c3 G2c4 G2c5 G2c6 G2z G2n
  have F3 : Hid (Held7 w (w.heap.size) s z k ac p v cy u3) := Lib.hid (Held7.two F2.out hu3 (by go_grown))
  have G3 : Hid (Held7 w (u1.heap.size) false true ((c == 2) && aK 5 a a cy) false true ((c == 2) && aV 5 a a cy) false u3) := Lib.hid (Held7.two G2.out hu3 (by go_grown))
  have H3 : Hid (Held7 w (u2.heap.size) (decide (128 ≤ aR 4 a a cy)) (aR 4 a a cy == 0) ((c == 2) && aK 4 a a cy) (aH 4 a a cy (c == 2)) (par (aR 4 a a cy)) ((c == 2) && aV 4 a a cy) false u3) := Lib.hid (Held7.thru hu3 (Held7.fresh F2.out))
  clear F2 G2 hu3
  obtain ⟨F3c0, F3c1, F3c2, F3c3, F3c4, F3c5, F3c6, F3z, F3s, F3B⟩ := F3.out
  clear F3B F3s
  have F3n : ¬ w.heap.size = u3.heap.size := by omega
  obtain ⟨G3c0, G3c1, G3c2, G3c3, G3c4, G3c5, G3c6, G3z, G3s, G3B⟩ := G3.out
  clear G3B G3s
  have G3n : ¬ u1.heap.size = u3.heap.size := by omega
  obtain ⟨H3c0, H3c1, H3c2, H3c3, H3c4, H3c5, H3c6, H3z, H3s, H3B⟩ := H3.out
  clear H3B H3s
  have H3n : ¬ u2.heap.size = u3.heap.size := by omega
  go_wp2_with fail
  refine (do_4 c 4 a b _ _ _ _ _ _ _ cy _ rfl (and7 4 (by omega) (by omega)) ha ha' hb hb').mono ?_; rintro e u4 ⟨rfl, hu4⟩
  clear F3c0 F3c1 F3c2 F3c3 F3c4 F3c5 F3c6 F3z F3n
  clear G3c0 G3c1 G3c2 G3c3 G3c4 G3c5 G3c6 G3z G3n
  clear H3c0 H3c1 H3c2 H3c3 H3c4 H3c5 H3c6 H3z H3n
  have F4 : Hid (Held7 w (w.heap.size) s z k ac p v cy u4) := Lib.hid (Held7.two F3.out hu4 (by go_grown))
  have G4 : Hid (Held7 w (u1.heap.size) false true ((c == 2) && aK 5 a a cy) false true ((c == 2) && aV 5 a a cy) false u4) := Lib.hid (Held7.two G3.out hu4 (by go_grown))
  have H4 : Hid (Held7 w (u2.heap.size) (decide (128 ≤ aR 4 a a cy)) (aR 4 a a cy == 0) ((c == 2) && aK 4 a a cy) (aH 4 a a cy (c == 2)) (par (aR 4 a a cy)) ((c == 2) && aV 4 a a cy) false u4) := Lib.hid (Held7.two H3.out hu4 (by go_grown))
  have I4 : Hid (Held7 w (u3.heap.size) (decide (128 ≤ aR 6 a a cy)) (aR 6 a a cy == 0) ((c == 2) && aK 6 a a cy) false (par (aR 6 a a cy)) ((c == 2) && aV 6 a a cy) false u4) := Lib.hid (Held7.thru hu4 (Held7.fresh F3.out))
  clear F3 G3 H3 hu4
  obtain ⟨F4c0, F4c1, F4c2, F4c3, F4c4, F4c5, F4c6, F4z, F4s, F4B⟩ := F4.out
  clear F4B F4s
  have F4n : ¬ w.heap.size = u4.heap.size := by omega
  obtain ⟨G4c0, G4c1, G4c2, G4c3, G4c4, G4c5, G4c6, G4z, G4s, G4B⟩ := G4.out
  clear G4B G4s
  have G4n : ¬ u1.heap.size = u4.heap.size := by omega
  obtain ⟨H4c0, H4c1, H4c2, H4c3, H4c4, H4c5, H4c6, H4z, H4s, H4B⟩ := H4.out
  clear H4B H4s
  have H4n : ¬ u2.heap.size = u4.heap.size := by omega
  obtain ⟨I4c0, I4c1, I4c2, I4c3, I4c4, I4c5, I4c6, I4z, I4s, I4B⟩ := I4.out
  clear I4B I4s
  have I4n : ¬ u3.heap.size = u4.heap.size := by omega
  go_wp2_with fail
  refine (do_5 c 5 a b _ _ _ _ _ _ _ cy _ rfl (and7 5 (by omega) (by omega)) ha ha' hb hb').mono ?_; rintro e u5 ⟨rfl, hu5⟩
  clear F4c0 F4c1 F4c2 F4c3 F4c4 F4c5 F4c6 F4z F4n
  clear G4c0 G4c1 G4c2 G4c3 G4c4 G4c5 G4c6 G4z G4n
  clear H4c0 H4c1 H4c2 H4c3 H4c4 H4c5 H4c6 H4z H4n
  clear I4c0 I4c1 I4c2 I4c3 I4c4 I4c5 I4c6 I4z I4n
  have F5 : Hid (Held7 w (w.heap.size) s z k ac p v cy u5) := Lib.hid (Held7.two F4.out hu5 (by go_grown))
  have G5 : Hid (Held7 w (u1.heap.size) false true ((c == 2) && aK 5 a a cy) false true ((c == 2) && aV 5 a a cy) false u5) := Lib.hid (Held7.two G4.out hu5 (by go_grown))
  have H5 : Hid (Held7 w (u2.heap.size) (decide (128 ≤ aR 4 a a cy)) (aR 4 a a cy == 0) ((c == 2) && aK 4 a a cy) (aH 4 a a cy (c == 2)) (par (aR 4 a a cy)) ((c == 2) && aV 4 a a cy) false u5) := Lib.hid (Held7.two H4.out hu5 (by go_grown))
  have I5 : Hid (Held7 w (u3.heap.size) (decide (128 ≤ aR 6 a a cy)) (aR 6 a a cy == 0) ((c == 2) && aK 6 a a cy) false (par (aR 6 a a cy)) ((c == 2) && aV 6 a a cy) false u5) := Lib.hid (Held7.two I4.out hu5 (by go_grown))
  clear F4 G4 H4 I4 hu5
  obtain ⟨F5c0, F5c1, F5c2, F5c3, F5c4, F5c5, F5c6, F5z, F5s, F5B⟩ := F5.out
  clear F5B F5s
  have F5n : ¬ w.heap.size = u5.heap.size := by omega
  obtain ⟨G5c0, G5c1, G5c2, G5c3, G5c4, G5c5, G5c6, G5z, G5s, G5B⟩ := G5.out
  clear G5B G5s
  have G5n : ¬ u1.heap.size = u5.heap.size := by omega
  obtain ⟨H5c0, H5c1, H5c2, H5c3, H5c4, H5c5, H5c6, H5z, H5s, H5B⟩ := H5.out
  clear H5B H5s
  have H5n : ¬ u2.heap.size = u5.heap.size := by omega
  obtain ⟨I5c0, I5c1, I5c2, I5c3, I5c4, I5c5, I5c6, I5z, I5s, I5B⟩ := I5.out
  clear I5B I5s
  have I5n : ¬ u3.heap.size = u5.heap.size := by omega
  go_wp2_with fail
  refine (do_6 c 6 a b _ _ _ _ _ _ _ cy _ rfl (and7 6 (by omega) (by omega)) ha ha' hb hb').mono ?_; rintro e u6 ⟨rfl, hu6⟩
  clear F5c0 F5c1 F5c2 F5c3 F5c4 F5c5 F5c6 F5z F5n
  clear G5c0 G5c1 G5c2 G5c3 G5c4 G5c5 G5c6 G5z G5n
  clear H5c0 H5c1 H5c2 H5c3 H5c4 H5c5 H5c6 H5z H5n
  clear I5c0 I5c1 I5c2 I5c3 I5c4 I5c5 I5c6 I5z I5n
  have F6 : Hid (Held7 w (w.heap.size) s z k ac p v cy u6) := Lib.hid (Held7.two F5.out hu6 (by go_grown))
  have G6 : Hid (Held7 w (u1.heap.size) false true ((c == 2) && aK 5 a a cy) false true ((c == 2) && aV 5 a a cy) false u6) := Lib.hid (Held7.two G5.out hu6 (by go_grown))
  have H6 : Hid (Held7 w (u2.heap.size) (decide (128 ≤ aR 4 a a cy)) (aR 4 a a cy == 0) ((c == 2) && aK 4 a a cy) (aH 4 a a cy (c == 2)) (par (aR 4 a a cy)) ((c == 2) && aV 4 a a cy) false u6) := Lib.hid (Held7.two H5.out hu6 (by go_grown))
  have I6 : Hid (Held7 w (u3.heap.size) (decide (128 ≤ aR 6 a a cy)) (aR 6 a a cy == 0) ((c == 2) && aK 6 a a cy) false (par (aR 6 a a cy)) ((c == 2) && aV 6 a a cy) false u6) := Lib.hid (Held7.two I5.out hu6 (by go_grown))
  clear F5 G5 H5 I5 hu6
  obtain ⟨F6c0, F6c1, F6c2, F6c3, F6c4, F6c5, F6c6, F6z, F6s, F6B⟩ := F6.out
  clear F6B F6s
  have F6n : ¬ w.heap.size = u6.heap.size := by omega
  obtain ⟨G6c0, G6c1, G6c2, G6c3, G6c4, G6c5, G6c6, G6z, G6s, G6B⟩ := G6.out
  clear G6B G6s
  have G6n : ¬ u1.heap.size = u6.heap.size := by omega
  obtain ⟨H6c0, H6c1, H6c2, H6c3, H6c4, H6c5, H6c6, H6z, H6s, H6B⟩ := H6.out
  clear H6B H6s
  have H6n : ¬ u2.heap.size = u6.heap.size := by omega
  obtain ⟨I6c0, I6c1, I6c2, I6c3, I6c4, I6c5, I6c6, I6z, I6s, I6B⟩ := I6.out
  clear I6B I6s
  have I6n : ¬ u3.heap.size = u6.heap.size := by omega
  go_wp2_with fail
  refine (known_any _).mono ?_; rintro e wk ⟨rfl, hk⟩
  have HB := Lib.hid (thenB (Held7.upto F6.out (by go_grown)) hk)
  go_wp2_with fail
  go_ret
  exact ⟨rfl, HB.out⟩

theorem aH_chips (q a b : Int) (cy : Bool) (h : q ≠ 4) : aH q a b cy true = aH q a b cy false := by unfold aH; simp [h]
set_option maxHeartbeats 2000000 in
theorem aluChips_walk (op a b : Int) (s z k ac p v cy : Bool) (w : World) (wo : (Lit.int .i64 op).wf = true) (wa : (Lit.int .u8 a).wf = true) (wb : (Lit.int .u8 b).wf = true) :
    Calls Try.prog 7 #[.int .i64 op, .int .u8 a, .int .u8 b, .agg #[.bool s, .bool z, .bool k, .bool ac, .bool p, .bool v, .bool cy]] w fun e w' => e = .returned (.bool true) ∧ Below w.heap.size w w' := by
  obtain ⟨ha, ha'⟩ := wf_byte wa
  obtain ⟨hb, hb'⟩ := wf_byte wb
  obtain ⟨q, hq⟩ : ∃ q, bits .and .i64 op 7 = q := ⟨_, rfl⟩
  by_cases h4 : q = 4
  · have x1 : (q == 4) = true := by rw [h4]; rfl
    clear h4
    go_enter Try.func7, Try.ntmps7
    go_wp2_with fail
    refine (do_all 1 op q a b false _ _ _ _ _ _ cy _ rfl hq ha ha' hb hb').mono ?_; rintro e u1 ⟨rfl, h1⟩
    have F1 : Hid (Held7 w w.heap.size s z k ac p v cy u1) := Lib.hid (Held7.thru h1 (by exact ⟨by simp, by simp, by simp, by simp, by simp, by simp, by simp, by go_size, by go_size, by go_grown⟩))
    clear h1
    have hle : Hid (w.heap.size ≤ u1.heap.size) := F1.out.2.2.2.2.2.2.2.2.1
    obtain ⟨F1c0, F1c1, F1c2, F1c3, F1c4, F1c5, F1c6, F1z, F1s, F1B⟩ := F1.out
    clear F1B F1s
    have F1n : ¬ w.heap.size = u1.heap.size := by omega
    go_wp2_with fail
    refine (do_all 2 op q a b true _ _ _ _ _ _ cy _ rfl hq ha ha' hb hb').mono ?_; rintro e u2 ⟨rfl, hu2⟩
    clear F1c0 F1c1 F1c2 F1c3 F1c4 F1c5 F1c6 F1z F1n
    have F2 : Hid (Held7 w (w.heap.size) s z k ac p v cy u2) := Lib.hid (Held7.two F1.out hu2 (by go_grown))
    have G2 : Hid (Held7 w (u1.heap.size) (decide (128 ≤ aR q a b cy)) (aR q a b cy == 0) false (aH q a b cy false) (par (aR q a b cy)) false (aO q a b cy) u2) := Lib.hid (Held7.thru hu2 (Held7.fresh F1.out))
    have ff : u2.frozen? ⟨u1.heap.size, 3, none⟩ = false := ((bcell hu2).2 _ _ (by simp)).trans (by simp)
    clear F1 hu2
    obtain ⟨F2c0, F2c1, F2c2, F2c3, F2c4, F2c5, F2c6, F2z, F2s, F2B⟩ := F2.out
    clear F2B F2s
    have F2n : ¬ w.heap.size = u2.heap.size := by omega
    obtain ⟨G2c0, G2c1, G2c2, G2c3, G2c4, G2c5, G2c6, G2z, G2s, G2B⟩ := G2.out
    clear G2B G2s
    have G2n : ¬ u1.heap.size = u2.heap.size := by omega
    have HB := Lib.hid (Held7.upto F2.out (Below.refl _ _))
    go_wp2_with fail
    refine (known_any _).mono ?_; rintro e wk ⟨rfl, hk⟩
    go_wp2_with fail
    go_ret
    exact ⟨rfl, thenB (((HB.out).setCell (p := ⟨u1.heap.size, 3, none⟩) hle.out _).alloc (by go_size) _) hk⟩
  · have x1 : (q == 4) = false := by rw [beq_eq_false_iff_ne]; exact h4
    have x2 := aH_chips q a b cy h4
    clear h4
    go_enter Try.func7, Try.ntmps7
    go_wp2_with fail
    refine (do_all 1 op q a b false _ _ _ _ _ _ cy _ rfl hq ha ha' hb hb').mono ?_; rintro e u1 ⟨rfl, h1⟩
    have F1 : Hid (Held7 w w.heap.size s z k ac p v cy u1) := Lib.hid (Held7.thru h1 (by exact ⟨by simp, by simp, by simp, by simp, by simp, by simp, by simp, by go_size, by go_size, by go_grown⟩))
    clear h1
    have hle : Hid (w.heap.size ≤ u1.heap.size) := F1.out.2.2.2.2.2.2.2.2.1
    obtain ⟨F1c0, F1c1, F1c2, F1c3, F1c4, F1c5, F1c6, F1z, F1s, F1B⟩ := F1.out
    clear F1B F1s
    have F1n : ¬ w.heap.size = u1.heap.size := by omega
    go_wp2_with fail
    refine (do_all 2 op q a b true _ _ _ _ _ _ cy _ rfl hq ha ha' hb hb').mono ?_; rintro e u2 ⟨rfl, hu2⟩
    clear F1c0 F1c1 F1c2 F1c3 F1c4 F1c5 F1c6 F1z F1n
    have F2 : Hid (Held7 w (w.heap.size) s z k ac p v cy u2) := Lib.hid (Held7.two F1.out hu2 (by go_grown))
    have G2 : Hid (Held7 w (u1.heap.size) (decide (128 ≤ aR q a b cy)) (aR q a b cy == 0) false (aH q a b cy false) (par (aR q a b cy)) false (aO q a b cy) u2) := Lib.hid (Held7.thru hu2 (Held7.fresh F1.out))
    have ff : u2.frozen? ⟨u1.heap.size, 3, none⟩ = false := ((bcell hu2).2 _ _ (by simp)).trans (by simp)
    clear F1 hu2
    obtain ⟨F2c0, F2c1, F2c2, F2c3, F2c4, F2c5, F2c6, F2z, F2s, F2B⟩ := F2.out
    clear F2B F2s
    have F2n : ¬ w.heap.size = u2.heap.size := by omega
    obtain ⟨G2c0, G2c1, G2c2, G2c3, G2c4, G2c5, G2c6, G2z, G2s, G2B⟩ := G2.out
    clear G2B G2s
    have G2n : ¬ u1.heap.size = u2.heap.size := by omega
    have HB := Lib.hid (Held7.upto F2.out (Below.refl _ _))
    go_wp2_with fail
    refine (known_any _).mono ?_; rintro e wk ⟨rfl, hk⟩
    go_wp2_with fail
    go_ret
    exact ⟨rfl, thenB HB.out (thenB (by go_grown) hk)⟩
end Go.Proofs.Ytjbmgnkolbficaa
