/- The walks of the laws of layer 1: each answers true. -/
import Derived.Test.YtcghjblkebnmbaaBits
import Derived.Test.YtcghjblkebnmbaaRefBits
namespace Go.Proofs.Ytcghjblkebnmbaa
open Go.RowKit
set_option linter.unusedVariables false

theorem wf_byte {a : Int} (h : (Lit.int .u8 a).wf = true) : 0 ≤ a ∧ a ≤ 255 := by have := (bounds_u8 h); omega
theorem wf_word {a : Int} (h : (Lit.int .u16 a).wf = true) : 0 ≤ a ∧ a ≤ 65535 := by have := (bounds_u16 h); omega

/-! ### Plain facts -/
theorem sumR_comm (a b : Int) (c : Bool) : sumR b a c = sumR a b c := by unfold sumR; rw [Int.add_comm b a]
theorem sumO_comm (a b : Int) (c : Bool) : sumO b a c = sumO a b c := by unfold sumO; rw [Int.add_comm b a]
theorem sumH_comm (a b : Int) (c : Bool) : sumH b a c = sumH a b c := by unfold sumH; rw [Int.add_comm (b % 16) (a % 16)]
theorem sumV_comm (a b : Int) (c : Bool) : sumV b a c = sumV a b c := by unfold sumV; rw [Int.add_comm (s8 b) (s8 a)]
theorem sumR_lo (a b : Int) (c : Bool) : 0 ≤ sumR a b c := by unfold sumR; omega
theorem sumR_hi (a b : Int) (c : Bool) : sumR a b c ≤ 255 := by unfold sumR; omega
theorem difR_lo (a b : Int) (c : Bool) : 0 ≤ difR a b c := by unfold difR; omega
theorem difR_hi (a b : Int) (c : Bool) : difR a b c ≤ 255 := by unfold difR; omega
theorem undo (a b : Int) (c : Bool) (ha : 0 ≤ a) (ha' : a ≤ 255) : difR (sumR a b c) b c = a := by unfold difR sumR; omega
theorem b2i_not (c : Bool) : b2i (!c) = 1 - b2i c := by cases c <;> rfl
theorem comR (a b : Int) (c : Bool) : sumR a (255 - b) (!c) = difR a b c := by unfold difR sumR; rw [b2i_not]; omega
theorem comO (a b : Int) (c : Bool) : sumO a (255 - b) (!c) = !difO a b c := by unfold difO sumO; rw [b2i_not, ← decide_not, decide_eq_decide]; omega
theorem comH (a b : Int) (c : Bool) (hb : 0 ≤ b) (hb' : b ≤ 255) : sumH a (255 - b) (!c) = difH a b c := by unfold difH sumH; rw [b2i_not, decide_eq_decide]; omega
theorem s8_com (b : Int) (hb : 0 ≤ b) (hb' : b ≤ 255) : s8 (255 - b) = -1 - s8 b := by unfold s8; omega
theorem comV (a b : Int) (c : Bool) (hb : 0 ≤ b) (hb' : b ≤ 255) : sumV a (255 - b) (!c) = difV a b c := by unfold difV sumV; rw [b2i_not, s8_com b hb hb']; congr 1; omega
theorem chainR (a b : Int) (ha : 0 ≤ a) (ha' : a ≤ 65535) (hb : 0 ≤ b) (hb' : b ≤ 65535) :
    joinW (sumR (a / 256) (b / 256) (sumO (a % 256) (b % 256) false)) (sumR (a % 256) (b % 256) false) = (a + b) % 65536 := by
  unfold joinW sumR sumO
  by_cases h : 255 < a % 256 + b % 256 + b2i false
  · rw [decide_eq_true h]; simp [b2i] at h ⊢; omega
  · rw [decide_eq_false h]; simp [b2i] at h ⊢; omega
theorem chainO (a b : Int) (ha : 0 ≤ a) (ha' : a ≤ 65535) (hb : 0 ≤ b) (hb' : b ≤ 65535) :
    sumO (a / 256) (b / 256) (sumO (a % 256) (b % 256) false) = decide (65535 < a + b) := by
  unfold sumO
  by_cases h : 255 < a % 256 + b % 256 + b2i false
  · rw [decide_eq_true h, decide_eq_decide]; simp [b2i] at h ⊢; omega
  · rw [decide_eq_false h, decide_eq_decide]; simp [b2i] at h ⊢; omega

/-! ### The walks -/
theorem known_any (w : World) : Calls Try.prog 13 #[] w fun e w' => e = .returned (.bool true) ∧ w = w' := by
  have k1 : difR 128 1 false = 127 := by decide
  have k2 : difO 128 1 false = false := by decide
  have k3 : difH 128 1 false = false := by decide
  have k4 : difV 128 1 false = true := by decide
  have k5 : par 3 = true := by decide
  have k6 : par 1 = false := by decide
  have k7 : joinW 1 2 = 258 := by decide
  go_enter Try.func13, Try.ntmps13
  go_wp2_with (first | (go_at_call 14; refine (dif_any _ _ _ _ (by omega) (by omega) (by omega) (by omega)).mono ?_; rintro e w' ⟨rfl, rfl⟩) | (go_at_call 11; refine (parity_any _ _ (by omega) (by omega)).mono ?_; rintro e w' ⟨rfl, rfl⟩) | (go_at_call 16; refine (join_any _ _ _ (by omega) (by omega) (by omega) (by omega)).mono ?_; rintro e w' ⟨rfl, rfl⟩))
  go_ret
  exact ⟨rfl, rfl⟩

theorem bitsSums_walk (a b : Int) (c : Bool) (w : World) (wa : (Lit.int .u8 a).wf = true) (wb : (Lit.int .u8 b).wf = true) :
    Calls Try.prog 7 #[.int .u8 a, .int .u8 b, .bool c] w fun e w' => e = .returned (.bool true) ∧ Below w.heap.size w w' := by
  have ha := wf_byte wa
  have hb := wf_byte wb
  go_enter Try.func7, Try.ntmps7
  go_wp2_with (first | (go_at_call 20; refine (sum_any _ _ _ _ ha.1 ha.2 hb.1 hb.2).mono ?_; rintro e w' ⟨rfl, rfl⟩) | (go_at_call 21; refine (rsum_any _ _ _ _ ha.1 ha.2 hb.1 hb.2).mono ?_; rintro e w' ⟨rfl, rfl⟩) | (go_at_call 13; refine (known_any _).mono ?_; rintro e w' ⟨rfl, rfl⟩))
  go_ret
  exact ⟨rfl, Below.refl _ _⟩

theorem bitsDifferences_walk (a b : Int) (c : Bool) (w : World) (wa : (Lit.int .u8 a).wf = true) (wb : (Lit.int .u8 b).wf = true) :
    Calls Try.prog 4 #[.int .u8 a, .int .u8 b, .bool c] w fun e w' => e = .returned (.bool true) ∧ Below w.heap.size w w' := by
  have ha := wf_byte wa
  have hb := wf_byte wb
  go_enter Try.func4, Try.ntmps4
  go_wp2_with (first | (go_at_call 14; refine (dif_any _ _ _ _ ha.1 ha.2 hb.1 hb.2).mono ?_; rintro e w' ⟨rfl, rfl⟩) | (go_at_call 15; refine (rdif_any _ _ _ _ ha.1 ha.2 hb.1 hb.2).mono ?_; rintro e w' ⟨rfl, rfl⟩) | (go_at_call 13; refine (known_any _).mono ?_; rintro e w' ⟨rfl, rfl⟩))
  go_ret
  exact ⟨rfl, Below.refl _ _⟩

theorem bitsJoins_walk (a b : Int) (w : World) (wa : (Lit.int .u8 a).wf = true) (wb : (Lit.int .u8 b).wf = true) :
    Calls Try.prog 5 #[.int .u8 a, .int .u8 b] w fun e w' => e = .returned (.bool true) ∧ Below w.heap.size w w' := by
  have ha := wf_byte wa
  have hb := wf_byte wb
  have j1 : 0 ≤ joinW a b := by unfold joinW; omega
  have j2 : joinW a b ≤ 65535 := by unfold joinW; omega
  have j3 : (joinW a b / 256 == a) = true := by rw [beq_iff_eq]; unfold joinW; omega
  have j4 : (joinW a b % 256 == b) = true := by rw [beq_iff_eq]; unfold joinW; omega
  go_enter Try.func5, Try.ntmps5
  go_wp2_with (first | (go_at_call 16; refine (join_any _ _ _ ha.1 ha.2 hb.1 hb.2).mono ?_; rintro e w' ⟨rfl, rfl⟩) | (go_at_call 17; refine (rjoin_any _ _ _ ha.1 ha.2 hb.1 hb.2).mono ?_; rintro e w' ⟨rfl, rfl⟩) | (go_at_call 13; refine (known_any _).mono ?_; rintro e w' ⟨rfl, rfl⟩))
  go_ret
  exact ⟨rfl, Below.refl _ _⟩

theorem bitsMajority_walk (a b c : Bool) (w : World) :
    Calls Try.prog 6 #[.bool a, .bool b, .bool c] w fun e w' => e = .returned (.bool true) ∧ Below w.heap.size w w' := by
  have m1 : (majB a b c == majB c a b) = true := by cases a <;> cases b <;> cases c <;> rfl
  have m2 : (majB a b c == majB b a c) = true := by cases a <;> cases b <;> cases c <;> rfl
  have m3 : (majB (!a) (!b) (!c) == !majB a b c) = true := by cases a <;> cases b <;> cases c <;> rfl
  go_enter Try.func6, Try.ntmps6
  go_wp2_with (first | (go_at_call 18; refine (maj_any _ _ _ _).mono ?_; rintro e w' ⟨rfl, rfl⟩) | (go_at_call 19; refine (rmaj_any _ _ _ _).mono ?_; rintro e w' ⟨rfl, rfl⟩) | (go_at_call 13; refine (known_any _).mono ?_; rintro e w' ⟨rfl, rfl⟩))
  go_ret
  exact ⟨rfl, Below.refl _ _⟩

theorem bitsComplements_walk (a b : Int) (c : Bool) (w : World) (wa : (Lit.int .u8 a).wf = true) (wb : (Lit.int .u8 b).wf = true) :
    Calls Try.prog 8 #[.int .u8 a, .int .u8 b, .bool c] w fun e w' => e = .returned (.bool true) ∧ Below w.heap.size w w' := by
  obtain ⟨ha, ha'⟩ := wf_byte wa
  obtain ⟨hb, hb'⟩ := wf_byte wb
  have e1 := comR a b c
  have e2 := comO a b c
  have e3 := comH a b c hb hb'
  have e4 := comV a b c hb hb'
  go_enter Try.func8, Try.ntmps8
  go_wp2_with (first | (go_at_call 20; refine (sum_any _ _ _ _ (by omega) (by omega) (by omega) (by omega)).mono ?_; rintro e w' ⟨rfl, rfl⟩) | (go_at_call 14; refine (dif_any _ _ _ _ (by omega) (by omega) (by omega) (by omega)).mono ?_; rintro e w' ⟨rfl, rfl⟩) | (go_at_call 13; refine (known_any _).mono ?_; rintro e w' ⟨rfl, rfl⟩))
  go_ret
  exact ⟨rfl, Below.refl _ _⟩

theorem bitsUndoes_walk (a b : Int) (c : Bool) (w : World) (wa : (Lit.int .u8 a).wf = true) (wb : (Lit.int .u8 b).wf = true) :
    Calls Try.prog 9 #[.int .u8 a, .int .u8 b, .bool c] w fun e w' => e = .returned (.bool true) ∧ Below w.heap.size w w' := by
  obtain ⟨ha, ha'⟩ := wf_byte wa
  obtain ⟨hb, hb'⟩ := wf_byte wb
  have l1 := sumR_lo a b c
  have l2 := sumR_hi a b c
  have e1 := sumR_comm a b c
  have e2 := sumO_comm a b c
  have e3 := sumH_comm a b c
  have e4 := sumV_comm a b c
  have e5 := undo a b c ha ha'
  go_enter Try.func9, Try.ntmps9
  go_wp2_with (first | (go_at_call 20; refine (sum_any _ _ _ _ (by omega) (by omega) (by omega) (by omega)).mono ?_; rintro e w' ⟨rfl, rfl⟩) | (go_at_call 14; refine (dif_any _ _ _ _ (by omega) (by omega) (by omega) (by omega)).mono ?_; rintro e w' ⟨rfl, rfl⟩) | (go_at_call 13; refine (known_any _).mono ?_; rintro e w' ⟨rfl, rfl⟩))
  go_ret
  exact ⟨rfl, Below.refl _ _⟩

theorem bitsChains_walk (a b : Int) (w : World) (wa : (Lit.int .u16 a).wf = true) (wb : (Lit.int .u16 b).wf = true) :
    Calls Try.prog 10 #[.int .u16 a, .int .u16 b] w fun e w' => e = .returned (.bool true) ∧ Below w.heap.size w w' := by
  obtain ⟨ha, ha'⟩ := wf_word wa
  obtain ⟨hb, hb'⟩ := wf_word wb
  have e1 := chainR a b ha ha' hb hb'
  have e2 := chainO a b ha ha' hb hb'
  have l1 := sumR_lo (a % 256) (b % 256) false
  have l2 := sumR_hi (a % 256) (b % 256) false
  have l3 := sumR_lo (a / 256) (b / 256) (sumO (a % 256) (b % 256) false)
  have l4 := sumR_hi (a / 256) (b / 256) (sumO (a % 256) (b % 256) false)
  have d1 : a / 256 % 256 = a / 256 := by omega
  have d2 : b / 256 % 256 = b / 256 := by omega
  go_enter Try.func10, Try.ntmps10
  go_wp2_with (first | (go_at_call 20; refine (sum_any _ _ _ _ (by omega) (by omega) (by omega) (by omega)).mono ?_; rintro e w' ⟨rfl, rfl⟩) | (go_at_call 16; refine (join_any _ _ _ (by omega) (by omega) (by omega) (by omega)).mono ?_; rintro e w' ⟨rfl, rfl⟩) | (go_at_call 13; refine (known_any _).mono ?_; rintro e w' ⟨rfl, rfl⟩))
  go_ret
  exact ⟨rfl, Below.refl _ _⟩
theorem flip_all : ∀ (n : Fin 256) (k : Fin 8), parTo 8 (n.val ^^^ 2 ^ k.val) = !(parTo 8 n.val) := by decide +kernel
theorem flip_lt : ∀ (n : Fin 256) (k : Fin 8), n.val ^^^ 2 ^ k.val < 256 := by decide +kernel
theorem flipBit (b : Int) (hb : 0 ≤ b) (hb' : b ≤ 255) (k : Nat) (hk : k < 8) (m : Int) (hm : m = ((2 ^ k : Nat) : Int)) :
    ∃ c, bits .xor .u8 b m = c ∧ 0 ≤ c ∧ c ≤ 255 ∧ par c = !par b := by
  obtain ⟨n, rfl⟩ := Int.eq_ofNat_of_zero_le hb
  have h1 := flip_lt ⟨n, by omega⟩ ⟨k, hk⟩
  have h2 := flip_all ⟨n, by omega⟩ ⟨k, hk⟩
  simp only at h1 h2
  have h3 : 2 ^ k < 256 := Nat.lt_of_lt_of_le (Nat.pow_lt_pow_right (by omega) hk) (by omega)
  rw [hm, u8_xor_nat n (2 ^ k) (by omega) h3]
  exact ⟨_, rfl, by omega, by omega, by simpa [par] using h2⟩
theorem rem8 (n : Int) : ∃ k : Nat, k < 8 ∧ (IntKind.u64.wrap n).tmod 8 = (k : Int) := by
  rw [IntKind.wrap_u64, Int.tmod_eq_emod_of_nonneg (by omega)]
  exact ⟨((n % 18446744073709551616) % 8).toNat, by omega, by omega⟩

theorem bitsParity_walk (b n : Int) (w : World) (wb : (Lit.int .u8 b).wf = true) (wn : (Lit.int .i64 n).wf = true) :
    Calls Try.prog 3 #[.int .u8 b, .int .i64 n] w fun e w' => e = .returned (.bool true) ∧ Below w.heap.size w w' := by
  obtain ⟨hb, hb'⟩ := wf_byte wb
  obtain ⟨k, hk, ek⟩ := rem8 n
  obtain rfl | rfl | rfl | rfl | rfl | rfl | rfl | rfl : k = 0 ∨ k = 1 ∨ k = 2 ∨ k = 3 ∨ k = 4 ∨ k = 5 ∨ k = 6 ∨ k = 7 := by omega
  · have ek' : (IntKind.u64.wrap n).tmod 8 = 0 := ek
    obtain ⟨c, ec, hc, hc', hp⟩ := flipBit b hb hb' 0 (by omega) 1 rfl
    clear ek hk
    go_enter Try.func3, Try.ntmps3
    go_wp2_with (first | (go_at_call 11; refine (parity_any _ _ (by omega) (by omega)).mono ?_; rintro e w' ⟨rfl, rfl⟩) | (go_at_call 12; refine (rparity_any _ _ (by omega) (by omega)).mono ?_; rintro e w' ⟨rfl, rfl⟩) | (go_at_call 13; refine (known_any _).mono ?_; rintro e w' ⟨rfl, rfl⟩))
    go_ret
    exact ⟨rfl, Below.refl _ _⟩
  · have ek' : (IntKind.u64.wrap n).tmod 8 = 1 := ek
    obtain ⟨c, ec, hc, hc', hp⟩ := flipBit b hb hb' 1 (by omega) 2 rfl
    clear ek hk
    go_enter Try.func3, Try.ntmps3
    go_wp2_with (first | (go_at_call 11; refine (parity_any _ _ (by omega) (by omega)).mono ?_; rintro e w' ⟨rfl, rfl⟩) | (go_at_call 12; refine (rparity_any _ _ (by omega) (by omega)).mono ?_; rintro e w' ⟨rfl, rfl⟩) | (go_at_call 13; refine (known_any _).mono ?_; rintro e w' ⟨rfl, rfl⟩))
    go_ret
    exact ⟨rfl, Below.refl _ _⟩
  · have ek' : (IntKind.u64.wrap n).tmod 8 = 2 := ek
    obtain ⟨c, ec, hc, hc', hp⟩ := flipBit b hb hb' 2 (by omega) 4 rfl
    clear ek hk
    go_enter Try.func3, Try.ntmps3
    go_wp2_with (first | (go_at_call 11; refine (parity_any _ _ (by omega) (by omega)).mono ?_; rintro e w' ⟨rfl, rfl⟩) | (go_at_call 12; refine (rparity_any _ _ (by omega) (by omega)).mono ?_; rintro e w' ⟨rfl, rfl⟩) | (go_at_call 13; refine (known_any _).mono ?_; rintro e w' ⟨rfl, rfl⟩))
    go_ret
    exact ⟨rfl, Below.refl _ _⟩
  · have ek' : (IntKind.u64.wrap n).tmod 8 = 3 := ek
    obtain ⟨c, ec, hc, hc', hp⟩ := flipBit b hb hb' 3 (by omega) 8 rfl
    clear ek hk
    go_enter Try.func3, Try.ntmps3
    go_wp2_with (first | (go_at_call 11; refine (parity_any _ _ (by omega) (by omega)).mono ?_; rintro e w' ⟨rfl, rfl⟩) | (go_at_call 12; refine (rparity_any _ _ (by omega) (by omega)).mono ?_; rintro e w' ⟨rfl, rfl⟩) | (go_at_call 13; refine (known_any _).mono ?_; rintro e w' ⟨rfl, rfl⟩))
    go_ret
    exact ⟨rfl, Below.refl _ _⟩
  · have ek' : (IntKind.u64.wrap n).tmod 8 = 4 := ek
    obtain ⟨c, ec, hc, hc', hp⟩ := flipBit b hb hb' 4 (by omega) 16 rfl
    clear ek hk
    go_enter Try.func3, Try.ntmps3
    go_wp2_with (first | (go_at_call 11; refine (parity_any _ _ (by omega) (by omega)).mono ?_; rintro e w' ⟨rfl, rfl⟩) | (go_at_call 12; refine (rparity_any _ _ (by omega) (by omega)).mono ?_; rintro e w' ⟨rfl, rfl⟩) | (go_at_call 13; refine (known_any _).mono ?_; rintro e w' ⟨rfl, rfl⟩))
    go_ret
    exact ⟨rfl, Below.refl _ _⟩
  · have ek' : (IntKind.u64.wrap n).tmod 8 = 5 := ek
    obtain ⟨c, ec, hc, hc', hp⟩ := flipBit b hb hb' 5 (by omega) 32 rfl
    clear ek hk
    go_enter Try.func3, Try.ntmps3
    go_wp2_with (first | (go_at_call 11; refine (parity_any _ _ (by omega) (by omega)).mono ?_; rintro e w' ⟨rfl, rfl⟩) | (go_at_call 12; refine (rparity_any _ _ (by omega) (by omega)).mono ?_; rintro e w' ⟨rfl, rfl⟩) | (go_at_call 13; refine (known_any _).mono ?_; rintro e w' ⟨rfl, rfl⟩))
    go_ret
    exact ⟨rfl, Below.refl _ _⟩
  · have ek' : (IntKind.u64.wrap n).tmod 8 = 6 := ek
    obtain ⟨c, ec, hc, hc', hp⟩ := flipBit b hb hb' 6 (by omega) 64 rfl
    clear ek hk
    go_enter Try.func3, Try.ntmps3
    go_wp2_with (first | (go_at_call 11; refine (parity_any _ _ (by omega) (by omega)).mono ?_; rintro e w' ⟨rfl, rfl⟩) | (go_at_call 12; refine (rparity_any _ _ (by omega) (by omega)).mono ?_; rintro e w' ⟨rfl, rfl⟩) | (go_at_call 13; refine (known_any _).mono ?_; rintro e w' ⟨rfl, rfl⟩))
    go_ret
    exact ⟨rfl, Below.refl _ _⟩
  · have ek' : (IntKind.u64.wrap n).tmod 8 = 7 := ek
    obtain ⟨c, ec, hc, hc', hp⟩ := flipBit b hb hb' 7 (by omega) 128 rfl
    clear ek hk
    go_enter Try.func3, Try.ntmps3
    go_wp2_with (first | (go_at_call 11; refine (parity_any _ _ (by omega) (by omega)).mono ?_; rintro e w' ⟨rfl, rfl⟩) | (go_at_call 12; refine (rparity_any _ _ (by omega) (by omega)).mono ?_; rintro e w' ⟨rfl, rfl⟩) | (go_at_call 13; refine (known_any _).mono ?_; rintro e w' ⟨rfl, rfl⟩))
    go_ret
    exact ⟨rfl, Below.refl _ _⟩
end Go.Proofs.Ytcghjblkebnmbaa
