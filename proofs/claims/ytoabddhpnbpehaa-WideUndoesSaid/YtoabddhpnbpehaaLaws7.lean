/- The walks of the laws of layer 7: each answers true. -/
import Derived.Test.YtoabddhpnbpehaaWide
import Derived.Test.YtoabddhpnbpehaaMake
namespace Go.Proofs.Ytoabddhpnbpehaa
open Go.RowKit
set_option linter.unusedVariables false

/-! ### Plain -/
theorem dadR_comm (a b : Int) : dadR b a = dadR a b := by unfold dadR; rw [Int.add_comm b a]
theorem dadC_comm (a b : Int) : dadC b a = dadC a b := by unfold dadC; rw [Int.add_comm b a]
theorem dadV_comm (a b : Int) : dadV b a = dadV a b := by unfold dadV; rw [dadR_comm, Bool.and_comm]
theorem dsR_eq (a b : Int) (ha : 0 ≤ a) (ha' : a ≤ 65535) (hb : 0 ≤ b) (hb' : b ≤ 65535) : dsR a b = (a - b) % 65536 := by
  unfold dsR dsH dsL dsB joinW difR difO
  by_cases h : a % 256 - b % 256 - b2i false < 0
  · rw [decide_eq_true h]; simp [b2i] at h ⊢; omega
  · rw [decide_eq_false h]; simp [b2i] at h ⊢; omega
theorem dsC_eq (a b : Int) (ha : 0 ≤ a) (ha' : a ≤ 65535) (hb : 0 ≤ b) (hb' : b ≤ 65535) : dsC a b = decide (a < b) := by
  unfold dsC dsB difO
  by_cases h : a % 256 - b % 256 - b2i false < 0
  · rw [decide_eq_true h, decide_eq_decide]; simp [b2i] at h ⊢; omega
  · rw [decide_eq_false h, decide_eq_decide]; simp [b2i] at h ⊢; omega
theorem dsZ_eq (a b : Int) (ha : 0 ≤ a) (ha' : a ≤ 65535) (hb : 0 ≤ b) (hb' : b ≤ 65535) : dsZ a b = (a == b) := by
  unfold dsZ dsH dsL dsB difR difO
  by_cases h : a % 256 - b % 256 - b2i false < 0
  · rw [decide_eq_true h, Bool.eq_iff_iff]; simp [b2i] at h ⊢; omega
  · rw [decide_eq_false h, Bool.eq_iff_iff]; simp [b2i] at h ⊢; omega
theorem sv_key (h v : Int) (p : Prop) [Decidable p] (k : ((128 ≤ h ∧ ¬ (v < -128 ∨ 127 < v)) ∨ (¬ 128 ≤ h ∧ (v < -128 ∨ 127 < v))) ↔ p) : (decide (128 ≤ h) != (decide (v < -128) || decide (127 < v))) = decide p := by
  rw [Bool.eq_iff_iff, decide_eq_true_iff, ← k]
  by_cases h1 : 128 ≤ h <;> by_cases h2 : v < -128 <;> by_cases h3 : 127 < v <;> simp [h1, h2, h3]
theorem dsSigned (a b : Int) (ha : 0 ≤ a) (ha' : a ≤ 65535) (hb : 0 ≤ b) (hb' : b ≤ 65535) : (dsS a b != dsV a b) = decide (s16 a < s16 b) := by
  unfold dsS dsV difV ovf
  apply sv_key
  unfold dsH dsB difR difO s16 s8
  by_cases h : a % 256 - b % 256 - b2i false < 0
  · rw [decide_eq_true h]; simp only [b2i, Bool.false_eq_true, if_false, if_true] at h ⊢; omega
  · rw [decide_eq_false h]; simp only [b2i, Bool.false_eq_true, if_false] at h ⊢; omega

/-! ### The walks -/
theorem known_any (w : World) : Calls Try.prog 10 #[] w fun e w' => e = .returned (.bool true) ∧ Below w.heap.size w w' := by
  have k1 : dsR 0 1 = 65535 := by decide
  have k2 : dsS 0 1 = true := by decide
  have k3 : dsZ 0 1 = false := by decide
  have k4 : dsK 0 1 = true := by decide
  have k5 : dsAC 0 1 = false := by decide
  have k6 : dsP 0 1 = true := by decide
  have k7 : dsV 0 1 = false := by decide
  have k8 : dsC 0 1 = true := by decide
  have k9 : dadR 65535 1 = 0 := by decide
  have k10 : dadC 65535 1 = true := by decide
  go_enter Try.func10, Try.ntmps10
  go_wp2_with fail
  refine (dsub_any 0 1 _ (by omega) (by omega) (by omega) (by omega)).mono ?_; rintro e w1 ⟨rfl, rfl⟩
  go_wp2_with fail
  refine (dad_any 1 65535 1 false _ _ _ _ _ _ _ _ rfl (by omega) (by omega) (by omega) (by omega)).mono ?_; rintro e w2 ⟨rfl, rfl⟩
  go_wp2_with fail
  go_ret
  exact ⟨rfl, by go_grown⟩

theorem wideSubtracts_walk (a b : Int) (w : World) (wa : (Lit.int .u16 a).wf = true) (wb : (Lit.int .u16 b).wf = true) :
    Calls Try.prog 4 #[.int .u16 a, .int .u16 b] w fun e w' => e = .returned (.bool true) ∧ Below w.heap.size w w' := by
  obtain ⟨ha, ha'⟩ := wf_word wa
  obtain ⟨hb, hb'⟩ := wf_word wb
  have e1 := dsC_eq a b ha ha' hb hb'
  have e2 := dsZ_eq a b ha ha' hb hb'
  have e3 : IntKind.u16.wrap (a - b) = dsR a b := by rw [IntKind.wrap_u16, dsR_eq a b ha ha' hb hb']
  go_enter Try.func4, Try.ntmps4
  go_wp2_with fail
  refine (dsub_any a b _ ha ha' hb hb').mono ?_; rintro e w1 ⟨rfl, rfl⟩
  go_wp2_with fail
  refine (rdsub_any a b _ ha ha' hb hb').mono ?_; rintro e w1 ⟨rfl, rfl⟩
  go_wp2_with fail
  refine (known_any _).mono ?_; rintro e wk ⟨rfl, hk⟩
  go_wp2_with fail
  go_ret
  exact ⟨rfl, thenB (by go_grown) hk⟩

theorem wideSigned_walk (a b : Int) (w : World) (wa : (Lit.int .u16 a).wf = true) (wb : (Lit.int .u16 b).wf = true) :
    Calls Try.prog 6 #[.int .u16 a, .int .u16 b] w fun e w' => e = .returned (.bool true) ∧ Below w.heap.size w w' := by
  obtain ⟨ha, ha'⟩ := wf_word wa
  obtain ⟨hb, hb'⟩ := wf_word wb
  have e1 : (dsS a b == dsV a b) = !decide (s16 a < s16 b) := by rw [← dsSigned a b ha ha' hb hb']; cases dsS a b <;> cases dsV a b <;> rfl
  have e2 := s16_wrap a ha ha'
  have e3 := s16_wrap b hb hb'
  go_enter Try.func6, Try.ntmps6
  go_wp2_with fail
  refine (dsub_any a b _ ha ha' hb hb').mono ?_; rintro e w1 ⟨rfl, rfl⟩
  go_wp2_with fail
  refine (known_any _).mono ?_; rintro e wk ⟨rfl, hk⟩
  go_wp2_with fail
  go_ret
  exact ⟨rfl, thenB (by go_grown) hk⟩

theorem wideKeeps_walk (a b : Int) (s z k ac p v cy : Bool) (w : World) (wa : (Lit.int .u16 a).wf = true) (wb : (Lit.int .u16 b).wf = true) :
    Calls Try.prog 7 #[.int .u16 a, .int .u16 b, .agg #[.bool s, .bool z, .bool k, .bool ac, .bool p, .bool v, .bool cy]] w fun e w' => e = .returned (.bool true) ∧ Below w.heap.size w w' := by
  obtain ⟨ha, ha'⟩ := wf_word wa
  obtain ⟨hb, hb'⟩ := wf_word wb
  go_enter Try.func7, Try.ntmps7
  go_wp2_with fail
  refine (dad_any 1 a b false _ _ _ _ _ _ _ _ rfl ha ha' hb hb').mono ?_; rintro e w1 ⟨rfl, rfl⟩
  go_wp2_with fail
  refine (dad_any 2 a b true _ _ _ _ _ _ _ _ rfl ha ha' hb hb').mono ?_; rintro e w1 ⟨rfl, rfl⟩
  go_wp2_with fail
  go_region
  go_wp2_with fail
  refine (known_any _).mono ?_; rintro e wk ⟨rfl, hk⟩
  go_wp2_with fail
  go_ret
  exact ⟨rfl, thenB (by go_grown) hk⟩

theorem dsUndo (a b : Int) (ha : 0 ≤ a) (ha' : a ≤ 65535) (hb : 0 ≤ b) (hb' : b ≤ 65535) : dsR (dadR a b) b = a := by
  rw [dsR_eq _ _ (by unfold dadR; omega) (by unfold dadR; omega) hb hb']; unfold dadR; omega
theorem dsUndoC (a b : Int) (ha : 0 ≤ a) (ha' : a ≤ 65535) (hb : 0 ≤ b) (hb' : b ≤ 65535) : dsC (dadR a b) b = dadC a b := by
  rw [dsC_eq _ _ (by unfold dadR; omega) (by unfold dadR; omega) hb hb']; unfold dadR dadC; rw [decide_eq_decide]; omega

theorem dad_below (chip a b : Int) (on s z k ac p v cy : Bool) (w : World) (hc : (chip == 2) = on) (ha : 0 ≤ a) (ha' : a ≤ 65535) (hb : 0 ≤ b) (hb' : b ≤ 65535) :
    Calls Try.prog 8 #[.int .i64 chip, .int .u16 a, .int .u16 b, .agg #[.bool s, .bool z, .bool k, .bool ac, .bool p, .bool v, .bool cy]] w fun e w' =>
      e = .returned (.tuple #[.int .u16 (dadR a b), .agg #[.bool s, .bool z, .bool k, .bool ac, .bool p, .bool (cond on (dadV a b) v), .bool (dadC a b)]]) ∧ Below w.heap.size w w' :=
  (dad_any chip a b on s z k ac p v cy w hc ha ha' hb hb').mono fun e w' h => ⟨h.1, by rw [← h.2]; go_grown⟩
theorem rdad_below (chip a b : Int) (on s z k ac p v cy : Bool) (w : World) (hc : (chip == 2) = on) (ha : 0 ≤ a) (ha' : a ≤ 65535) (hb : 0 ≤ b) (hb' : b ≤ 65535) :
    Calls Try.prog 9 #[.int .i64 chip, .int .u16 a, .int .u16 b, .agg #[.bool s, .bool z, .bool k, .bool ac, .bool p, .bool v, .bool cy]] w fun e w' =>
      e = .returned (.tuple #[.int .u16 (dadR a b), .agg #[.bool s, .bool z, .bool k, .bool ac, .bool p, .bool (cond on (dadV a b) v), .bool (dadC a b)]]) ∧ Below w.heap.size w w' :=
  (rdad_any chip a b on s z k ac p v cy w hc ha ha' hb hb').mono fun e w' h => ⟨h.1, by rw [← h.2]; go_grown⟩

set_option maxHeartbeats 2000000 in
theorem wideAdds_walk (chip a b : Int) (s z k ac p v cy : Bool) (w : World) (wc : (Lit.int .i64 chip).wf = true) (wa : (Lit.int .u16 a).wf = true) (wb : (Lit.int .u16 b).wf = true) :
    Calls Try.prog 3 #[.int .i64 chip, .int .u16 a, .int .u16 b, .agg #[.bool s, .bool z, .bool k, .bool ac, .bool p, .bool v, .bool cy]] w fun e w' => e = .returned (.bool true) ∧ Below w.heap.size w w' := by
  obtain ⟨ha, ha'⟩ := wf_word wa
  obtain ⟨hb, hb'⟩ := wf_word wb
  have e1 := dadR_comm a b
  have e2 := dadC_comm a b
  have e3 := dadV_comm a b
  have i0 : ∀ w, (Instr.index 25 (.agg #[.int .i64 chip, .int .i64 1, .int .i64 2]) (.int .i64 0)).run Try.prog w = .ok (.int .i64 chip) w := fun _ => by kernel_rfl
  have i1 : ∀ w, (Instr.index 25 (.agg #[.int .i64 chip, .int .i64 1, .int .i64 2]) (.int .i64 1)).run Try.prog w = .ok (.int .i64 1) w := fun _ => by kernel_rfl
  have i2 : ∀ w, (Instr.index 25 (.agg #[.int .i64 chip, .int .i64 1, .int .i64 2]) (.int .i64 2)).run Try.prog w = .ok (.int .i64 2) w := fun _ => by kernel_rfl
  go_enter Try.func3, Try.ntmps3
  go_wp2_with fail
  go_loopw [19] (fun i wr => ∃ n : Int, 0 ≤ n ∧ n ≤ 3 ∧ i = .int .i64 n ∧ Held7 w w.heap.size s z k ac p v cy wr) (fun i _ => 3 - (intOf i).toNat)
  case atStart => exact ⟨0, by omega, by omega, rfl, by simp, by simp, by simp, by simp, by simp, by simp, by simp, by simp, by simp, (Below.refl _ _).alloc (Nat.le_refl _) _⟩
  case round =>
    obtain ⟨n, hn, hn', rfl, hS⟩ := hrel
    by_cases h3 : n = 3
    · subst h3
      have HS := Lib.hid hS
      clear hS
      go_wp2_with fail
      refine (known_any _).mono ?_; rintro e w1 ⟨rfl, h1⟩
      go_wp2_with fail
      go_ret
      exact ⟨rfl, HS.out.upto h1⟩
    · have F0 := Lib.hid hS
      clear hS
      obtain ⟨c, hixc⟩ : ∃ c : Int, ∀ w, (Instr.index 25 (.agg #[.int .i64 chip, .int .i64 1, .int .i64 2]) (.int .i64 n)).run Try.prog w = .ok (.int .i64 c) w := by
        obtain rfl | rfl | rfl : n = 0 ∨ n = 1 ∨ n = 2 := by omega
        · exact ⟨_, i0⟩
        · exact ⟨_, i1⟩
        · exact ⟨_, i2⟩
      clear i0 i1 i2
      obtain ⟨F0c0, F0c1, F0c2, F0c3, F0c4, F0c5, F0c6, F0z, F0s, F0B⟩ := F0.out
      clear F0B F0s
      have F0n : ¬ w.heap.size = wr.heap.size := by omega
      go_wp2_with fail
      refine (dad_below c a b _ _ _ _ _ _ _ _ _ rfl ha ha' hb hb').mono ?_; rintro e u1 ⟨rfl, hu1⟩
      clear F0c0 F0c1 F0c2 F0c3 F0c4 F0c5 F0c6 F0z F0n
      have F1 : Hid (Held7 w (w.heap.size) s z k ac p v cy u1) := Lib.hid (Held7.two F0.out hu1 (by go_grown))
      clear F0 hu1
      obtain ⟨F1c0, F1c1, F1c2, F1c3, F1c4, F1c5, F1c6, F1z, F1s, F1B⟩ := F1.out
      clear F1B F1s
      have F1n : ¬ w.heap.size = u1.heap.size := by omega
      go_wp2_with fail
      refine (rdad_below c a b _ _ _ _ _ _ _ _ _ rfl ha ha' hb hb').mono ?_; rintro e u2 ⟨rfl, hu2⟩
      clear F1c0 F1c1 F1c2 F1c3 F1c4 F1c5 F1c6 F1z F1n
      have F2 : Hid (Held7 w (w.heap.size) s z k ac p v cy u2) := Lib.hid (Held7.two F1.out hu2 (by go_grown))
      have G2 : Hid (Held7 w (u1.heap.size) s z k ac p (cond (c == 2) (dadV a b) v) (dadC a b) u2) := Lib.hid (Held7.thru hu2 (Held7.fresh F1.out))
      clear F1 hu2
      obtain ⟨F2c0, F2c1, F2c2, F2c3, F2c4, F2c5, F2c6, F2z, F2s, F2B⟩ := F2.out
      clear F2B F2s
      have F2n : ¬ w.heap.size = u2.heap.size := by omega
      obtain ⟨G2c0, G2c1, G2c2, G2c3, G2c4, G2c5, G2c6, G2z, G2s, G2B⟩ := G2.out
      clear G2B G2s
      have G2n : ¬ u1.heap.size = u2.heap.size := by omega
      go_wp2_with fail
      refine (dad_below c b a _ _ _ _ _ _ _ _ _ rfl hb hb' ha ha').mono ?_; rintro e u3 ⟨rfl, hu3⟩
      clear F2c0 F2c1 F2c2 F2c3 F2c4 F2c5 F2c6 F2z F2n
      clear G2c0 G2c1 G2c2 G2c3 G2c4 G2c5 G2c6 G2z G2n
      have F3 : Hid (Held7 w (w.heap.size) s z k ac p v cy u3) := Lib.hid (Held7.two F2.out hu3 (by go_grown))
      have G3 : Hid (Held7 w (u1.heap.size) s z k ac p (cond (c == 2) (dadV a b) v) (dadC a b) u3) := Lib.hid (Held7.two G2.out hu3 (by go_grown))
      have H3 : Hid (Held7 w (u2.heap.size) s z k ac p (cond (c == 2) (dadV a b) v) (dadC a b) u3) := Lib.hid (Held7.thru hu3 (Held7.fresh F2.out))
      clear F2 G2 hu3
      obtain ⟨F3c0, F3c1, F3c2, F3c3, F3c4, F3c5, F3c6, F3z, F3s, F3B⟩ := F3.out
      clear F3B F3s
      have F3n : ¬ w.heap.size = u3.heap.size := by omega
      obtain ⟨G3c0, G3c1, G3c2, G3c3, G3c4, G3c5, G3c6, G3z, G3s, G3B⟩ := G3.out
      clear G3B G3s
      have G3n : ¬ u1.heap.size = u3.heap.size := by omega
      obtain ⟨H3c0, H3c1, H3c2, H3c3, H3c4, H3c5, H3c6, H3z, H3s, H3B⟩ := H3.out
      clear H3B H3s
      have H3n : ¬ u2.heap.size = u3.heap.size := by omega
      go_wp2_with fail
      go_roundw
      case rel => exact ⟨n + 1, by omega, by omega, rfl, Held7.thru (by go_grown) F3.out⟩
      case measure => simp [intOf]; omega
end Go.Proofs.Ytoabddhpnbpehaa
