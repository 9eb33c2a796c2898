/- Contracts of package wide and of its reference. -/
import Derived.Test.YtoabddhpnbpehaaFlags
import Derived.RegionTactic
import Derived.Deep.RegionHeld3
import Derived.ChangeAlike
namespace Go.Proofs.Ytoabddhpnbpehaa
open Go.RowKit
set_option linter.unusedVariables false

/-! ### Plain -/
def hi16 (a : Int) : Bool := decide (32768 ≤ a)
def dadR (a b : Int) : Int := (a + b) % 65536
def dadC (a b : Int) : Bool := decide (65535 < a + b)
def dadV (a b : Int) : Bool := (hi16 a != hi16 (dadR a b)) && (hi16 b != hi16 (dadR a b))
def s16 (a : Int) : Int := if a < 32768 then a else a - 65536
theorem s16_wrap (a : Int) (h : 0 ≤ a) (h' : a ≤ 65535) : IntKind.i16.wrap a = s16 a := by
  simp [IntKind.wrap, IntKind.bits, IntKind.signed, s16]; omega
theorem s16_lo (a : Int) (h : 0 ≤ a) (h' : a ≤ 65535) : -32768 ≤ s16 a := by unfold s16; omega
theorem s16_hi (a : Int) (h : 0 ≤ a) (h' : a ≤ 65535) : s16 a ≤ 32767 := by unfold s16; omega
theorem dadC_wrap (a b : Int) (ha : 0 ≤ a) (ha' : a ≤ 65535) (hb : 0 ≤ b) (hb' : b ≤ 65535) : decide (dadR a b < a) = dadC a b := by
  unfold dadC dadR; rw [decide_eq_decide]; omega
theorem top_nat (n : Nat) (h : n < 65536) : n.testBit 15 = decide (32768 ≤ n) := by
  rw [Nat.testBit_eq_decide_div_mod_eq, decide_eq_decide]; omega
theorem bx : ∀ p q : Bool, (p != q) = (p ^^ q) := by decide
theorem dadV_bits (a b : Int) (ha : 0 ≤ a) (ha' : a ≤ 65535) (hb : 0 ≤ b) (hb' : b ≤ 65535) :
    (bits .and .u16 (bits .and .u16 (bits .xor .u16 a (dadR a b)) (bits .xor .u16 b (dadR a b))) 32768 != 0) = dadV a b := by
  have hr : 0 ≤ dadR a b := by unfold dadR; omega
  have hr' : dadR a b ≤ 65535 := by unfold dadR; omega
  unfold dadV
  generalize dadR a b = r at *
  obtain ⟨x, rfl⟩ := Int.eq_ofNat_of_zero_le ha
  obtain ⟨y, rfl⟩ := Int.eq_ofNat_of_zero_le hb
  obtain ⟨z, rfl⟩ := Int.eq_ofNat_of_zero_le hr
  have hx : x < 65536 := by omega
  have hy : y < 65536 := by omega
  have hz : z < 65536 := by omega
  have l1 : x ^^^ z < 65536 := Nat.xor_lt_two_pow (n := 16) hx hz
  have l2 : y ^^^ z < 65536 := Nat.xor_lt_two_pow (n := 16) hy hz
  have l3 : (x ^^^ z) &&& (y ^^^ z) < 65536 := Nat.lt_of_le_of_lt Nat.and_le_left l1
  rw [u16_xor_nat x z hx hz, u16_xor_nat y z hy hz, u16_and_nat _ _ l1 l2]
  have e := u16_and_nat ((x ^^^ z) &&& (y ^^^ z)) 32768 l3 (by omega)
  rw [show ((32768 : Nat) : Int) = 32768 from rfl] at e
  rw [e, show (32768 : Nat) = 2 ^ 15 from rfl, nat_bit 15]
  have t := top_nat _ l3
  rw [Nat.testBit_and, Nat.testBit_xor, Nat.testBit_xor, top_nat x hx, top_nat y hy, top_nat z hz] at t
  unfold hi16
  rw [show decide ((32768 : Int) ≤ (x : Int)) = decide (32768 ≤ x) from by rw [decide_eq_decide]; omega,
    show decide ((32768 : Int) ≤ (y : Int)) = decide (32768 ≤ y) from by rw [decide_eq_decide]; omega,
    show decide ((32768 : Int) ≤ (z : Int)) = decide (32768 ≤ z) from by rw [decide_eq_decide]; omega, bx, bx, t]
  by_cases h : 32768 ≤ (x ^^^ z) &&& (y ^^^ z)
  · rw [decide_eq_true h, bne_iff_ne]; omega
  · rw [decide_eq_false h, bne_eq_false_iff_eq]; omega
theorem dadV_signed (a b : Int) (ha : 0 ≤ a) (ha' : a ≤ 65535) (hb : 0 ≤ b) (hb' : b ≤ 65535) :
    (decide (s16 a + s16 b < -32768) || decide (32767 < s16 a + s16 b)) = dadV a b := by
  unfold dadV hi16 dadR s16
  rw [Bool.eq_iff_iff]
  by_cases h1 : 32768 ≤ a <;> by_cases h2 : 32768 ≤ b <;> by_cases h3 : 32768 ≤ (a + b) % 65536 <;> simp [h1, h2, h3] <;> omega

theorem dad_any (chip a b : Int) (on s z k ac p v cy : Bool) (w : World) (hc : (chip == 2) = on) (ha : 0 ≤ a) (ha' : a ≤ 65535) (hb : 0 ≤ b) (hb' : b ≤ 65535) :
    Calls Try.prog 8 #[.int .i64 chip, .int .u16 a, .int .u16 b, .agg #[.bool s, .bool z, .bool k, .bool ac, .bool p, .bool v, .bool cy]] w fun e w' =>
      e = .returned (.tuple #[.int .u16 (dadR a b), .agg #[.bool s, .bool z, .bool k, .bool ac, .bool p, .bool (cond on (dadV a b) v), .bool (dadC a b)]]) ∧ ((w.alloc (.cells #[.bool s, .bool z, .bool k, .bool ac, .bool p, .bool (cond on (dadV a b) v), .bool (dadC a b)] 24)).alloc (.cells #[.bool s, .bool z, .bool k, .bool ac, .bool p, .bool (cond on (dadV a b) v), .bool (dadC a b)] 24)).drew = w' := by
  have e0 : IntKind.u16.wrap (a + b) = dadR a b := by rw [IntKind.wrap_u16]; rfl
  have e1 := dadC_wrap a b ha ha' hb hb'
  have e2 := dadV_bits a b ha ha' hb hb'
  cases on
  all_goals
    go_enter Try.func8, Try.ntmps8
    go_wp2
    go_region
    all_goals
      go_wp2
      go_returns
      exact ⟨rfl, rfl⟩

theorem rdad_any (chip a b : Int) (on s z k ac p v cy : Bool) (w : World) (hc : (chip == 2) = on) (ha : 0 ≤ a) (ha' : a ≤ 65535) (hb : 0 ≤ b) (hb' : b ≤ 65535) :
    Calls Try.prog 9 #[.int .i64 chip, .int .u16 a, .int .u16 b, .agg #[.bool s, .bool z, .bool k, .bool ac, .bool p, .bool v, .bool cy]] w fun e w' =>
      e = .returned (.tuple #[.int .u16 (dadR a b), .agg #[.bool s, .bool z, .bool k, .bool ac, .bool p, .bool (cond on (dadV a b) v), .bool (dadC a b)]]) ∧ ((w.alloc (.cells #[.bool s, .bool z, .bool k, .bool ac, .bool p, .bool (cond on (dadV a b) v), .bool (dadC a b)] 24)).alloc (.cells #[.bool s, .bool z, .bool k, .bool ac, .bool p, .bool (cond on (dadV a b) v), .bool (dadC a b)] 24)).drew = w' := by
  have e0 : IntKind.u16.wrap (a + b) = dadR a b := by rw [IntKind.wrap_u16]; rfl
  have s1 := s16_wrap a ha ha'
  have s2 := s16_wrap b hb hb'
  have l1 := s16_lo a ha ha'
  have l2 := s16_hi a ha ha'
  have l3 := s16_lo b hb hb'
  have l4 := s16_hi b hb hb'
  have e1 : decide (65535 < a + b) = dadC a b := rfl
  have hv := Lib.hid (dadV_signed a b ha ha' hb hb')
  cases on
  · go_enter Try.func9, Try.ntmps9
    go_wp2
    go_region
    all_goals
      go_wp2
      go_returns
      exact ⟨rfl, rfl⟩
  · by_cases hs : s16 a + s16 b < -32768
    · have HV : Hid (dadV a b = true) := by rw [← hv.out, decide_eq_true hs]; rfl
      go_enter Try.func9, Try.ntmps9
      go_wp2
      go_region
      all_goals
        go_wp2
        go_returns
        exact ⟨by rw [HV.out]; rfl, by rw [HV.out]; rfl⟩
    · have HV : Hid (dadV a b = decide (32767 < s16 a + s16 b)) := by rw [← hv.out, decide_eq_false hs]; rfl
      go_enter Try.func9, Try.ntmps9
      go_wp2
      go_region
      all_goals
        go_wp2
        go_returns
        exact ⟨by rw [HV.out]; rfl, by rw [HV.out]; rfl⟩

/-! ### Dsub -/
def dsB (a b : Int) : Bool := difO (a % 256) (b % 256) false
def dsL (a b : Int) : Int := difR (a % 256) (b % 256) false
def dsH (a b : Int) : Int := difR (a / 256) (b / 256) (dsB a b)
def dsR (a b : Int) : Int := joinW (dsH a b) (dsL a b)
def dsS (a b : Int) : Bool := decide (128 ≤ dsH a b)
def dsZ (a b : Int) : Bool := (dsH a b == 0) && (dsL a b == 0)
def dsK (a b : Int) : Bool := majB (decide (32768 ≤ a)) (decide (b < 32768)) (decide (128 ≤ dsH a b))
def dsAC (a b : Int) : Bool := difH (a / 256) (b / 256) (dsB a b)
def dsP (a b : Int) : Bool := par (dsH a b)
def dsV (a b : Int) : Bool := difV (a / 256) (b / 256) (dsB a b)
def dsC (a b : Int) : Bool := difO (a / 256) (b / 256) (dsB a b)

set_option maxHeartbeats 1000000 in
set_option maxHeartbeats 1000000 in
theorem dsub_any (a b : Int) (w : World) (ha : 0 ≤ a) (ha' : a ≤ 65535) (hb : 0 ≤ b) (hb' : b ≤ 65535) :
    Calls Try.prog 11 #[.int .u16 a, .int .u16 b] w fun e w' =>
      e = .returned (.tuple #[.int .u16 (dsR a b), .agg #[.bool (dsS a b), .bool (dsZ a b), .bool (dsK a b), .bool (dsAC a b), .bool (dsP a b), .bool (dsV a b), .bool (dsC a b)]]) ∧ (((w.alloc (.cells #[.bool (dsS a b), .bool (dsZ a b), .bool (dsK a b), .bool (dsAC a b), .bool (dsP a b), .bool (dsV a b), .bool (dsC a b)] 24)).alloc (.cells #[.bool (dsS a b), .bool (dsH a b == 0), .bool false, .bool false, .bool (dsP a b), .bool false, .bool false] 24)).alloc (.cells #[.bool (dsS a b), .bool (dsZ a b), .bool (dsK a b), .bool (dsAC a b), .bool (dsP a b), .bool (dsV a b), .bool (dsC a b)] 24)).drew = w' := by
  have l1 : 0 ≤ dsL a b := difR_lo _ _ _
  have l2 : dsL a b ≤ 255 := difR_hi _ _ _
  have l3 : 0 ≤ dsH a b := difR_lo _ _ _
  have l4 : dsH a b ≤ 255 := difR_hi _ _ _
  have f1 : difO (a % 256) (b % 256) false = dsB a b := rfl
  have f2 : difR (a % 256) (b % 256) false = dsL a b := rfl
  have f3 : difR (a / 256) (b / 256) (dsB a b) = dsH a b := rfl
  have f4 : difH (a / 256) (b / 256) (dsB a b) = dsAC a b := rfl
  have f5 : difV (a / 256) (b / 256) (dsB a b) = dsV a b := rfl
  have f6 : difO (a / 256) (b / 256) (dsB a b) = dsC a b := rfl
  have f7 : Hid (dsZ a b = ((dsH a b == 0) && (dsL a b == 0))) := rfl
  obtain ⟨zz, hz⟩ : ∃ z, (dsH a b == 0) = z := ⟨_, rfl⟩
  cases zz
  all_goals
    have f8 := f7.out
    rw [hz] at f8
    have F8 := Lib.hid f8
    clear f7 f8
    go_enter Try.func11, Try.ntmps11
    go_wp2_with fail
    refine (dif_any _ _ _ _ (by omega) (by omega) (by omega) (by omega)).mono ?_; rintro e w' ⟨rfl, rfl⟩
    go_wp2_with fail
    refine (dif_any _ _ _ _ (by omega) (by omega) (by omega) (by omega)).mono ?_; rintro e w' ⟨rfl, rfl⟩
    go_wp2_with fail
    refine (of_exact _ _ (by omega) (by omega)).mono ?_; rintro e w1 ⟨rfl, rfl⟩
    go_wp2_with fail
    refine (maj_any _ _ _ _).mono ?_; rintro e w' ⟨rfl, rfl⟩
    go_wp2_with fail
    go_region_with (first | (go_at_call 19; refine (join_any _ _ _ (by omega) (by omega) (by omega) (by omega)).mono ?_; rintro e w' ⟨rfl, rfl⟩))
    all_goals
      go_wp2_with fail
      go_returns
      exact ⟨by rw [F8.out]; rfl, by rw [F8.out]; first | rfl | (rw [hz]; rfl)⟩

set_option maxHeartbeats 1000000 in
theorem rdsub_any (a b : Int) (w : World) (ha : 0 ≤ a) (ha' : a ≤ 65535) (hb : 0 ≤ b) (hb' : b ≤ 65535) :
    Calls Try.prog 12 #[.int .u16 a, .int .u16 b] w fun e w' =>
      e = .returned (.tuple #[.int .u16 (dsR a b), .agg #[.bool (dsS a b), .bool (dsZ a b), .bool (dsK a b), .bool (dsAC a b), .bool (dsP a b), .bool (dsV a b), .bool (dsC a b)]]) ∧ w.alloc (.cells #[.bool (dsS a b), .bool (dsZ a b), .bool (dsK a b), .bool (dsAC a b), .bool (dsP a b), .bool (dsV a b), .bool (dsC a b)] 24) = w' := by
  have l1 : 0 ≤ dsL a b := difR_lo _ _ _
  have l2 : dsL a b ≤ 255 := difR_hi _ _ _
  have l3 : 0 ≤ dsH a b := difR_lo _ _ _
  have l4 : dsH a b ≤ 255 := difR_hi _ _ _
  have f1 : difO (a % 256) (b % 256) false = dsB a b := rfl
  have f2 : difR (a % 256) (b % 256) false = dsL a b := rfl
  have f3 : difR (a / 256) (b / 256) (dsB a b) = dsH a b := rfl
  have f4 : difH (a / 256) (b / 256) (dsB a b) = dsAC a b := rfl
  have f5 : difV (a / 256) (b / 256) (dsB a b) = dsV a b := rfl
  have f6 : difO (a / 256) (b / 256) (dsB a b) = dsC a b := rfl
  have f7 : Hid (dsZ a b = ((dsH a b == 0) && (dsL a b == 0))) := rfl
  obtain ⟨zz, hz⟩ : ∃ z, (dsH a b == 0) = z := ⟨_, rfl⟩
  cases zz
  all_goals
    have f8 := f7.out
    rw [hz] at f8
    have F8 := Lib.hid f8
    clear f7 f8
    go_enter Try.func12, Try.ntmps12
    go_wp2_with (first | (go_at_call 20; refine (rdif_any _ _ _ _ (by omega) (by omega) (by omega) (by omega)).mono ?_; rintro e w' ⟨rfl, rfl⟩) | (go_at_call 21; refine (rjoin_any _ _ _ (by omega) (by omega) (by omega) (by omega)).mono ?_; rintro e w' ⟨rfl, rfl⟩) | (go_at_call 22; refine (rparity_any _ _ (by omega) (by omega)).mono ?_; rintro e w' ⟨rfl, rfl⟩) | (go_at_call 23; refine (rmaj_any _ _ _ _).mono ?_; rintro e w' ⟨rfl, rfl⟩))
    go_returns
    exact ⟨by rw [F8.out]; rfl, by rw [F8.out]; first | rfl | (rw [hz]; rfl)⟩
end Go.Proofs.Ytoabddhpnbpehaa
