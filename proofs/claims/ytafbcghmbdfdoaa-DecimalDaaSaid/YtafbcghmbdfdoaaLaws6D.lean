/- The walk of the law DecimalDaa. -/
import Derived.Test.YtafbcghmbdfdoaaLaws6
import Derived.Test.YtafbcghmbdfdoaaRefDaa
namespace Go.Proofs.Ytafbcghmbdfdoaa
open Go.RowKit
set_option linter.unusedVariables false

set_option maxHeartbeats 2000000 in
theorem decimalDaa_walk (chip a : Int) (s z k ac p v cy : Bool) (w : World) (wc : (Lit.int .i64 chip).wf = true) (wx : (Lit.int .u8 a).wf = true) :
    Calls Try.prog 3 #[.int .i64 chip, .int .u8 a, .agg #[.bool s, .bool z, .bool k, .bool ac, .bool p, .bool v, .bool cy]] w fun e w' => e = .returned (.bool true) ∧ Below w.heap.size w w' := by
  obtain ⟨hx, hx'⟩ := wf_byte wx
  obtain ⟨lo, hl⟩ : ∃ lo, IsLo a ac lo := ⟨_, isLo_of a ac⟩
  obtain ⟨hi, hh⟩ : ∃ hi, IsHi a cy hi := ⟨_, isHi_of a cy⟩
  have HL := Lib.hid hl
  have HH := Lib.hid hh
  clear hl hh
  have i0 : ∀ w, (Instr.index 24 (.agg #[.int .i64 chip, .int .i64 1, .int .i64 2]) (.int .i64 0)).run Try.prog w = .ok (.int .i64 chip) w := fun _ => by kernel_rfl
  have i1 : ∀ w, (Instr.index 24 (.agg #[.int .i64 chip, .int .i64 1, .int .i64 2]) (.int .i64 1)).run Try.prog w = .ok (.int .i64 1) w := fun _ => by kernel_rfl
  have i2 : ∀ w, (Instr.index 24 (.agg #[.int .i64 chip, .int .i64 1, .int .i64 2]) (.int .i64 2)).run Try.prog w = .ok (.int .i64 2) w := fun _ => by kernel_rfl
  go_enter Try.func3, Try.ntmps3
  go_wp2_with fail
  go_loopw [15] (fun i wr => ∃ n : Int, 0 ≤ n ∧ n ≤ 3 ∧ i = .int .i64 n ∧ Held7 w w.heap.size s z k ac p v cy wr) (fun i _ => 3 - (intOf i).toNat)
  case atStart => exact ⟨0, by omega, by omega, rfl, by simp, by simp, by simp, by simp, by simp, by simp, by simp, by simp, by simp, (Below.refl _ _).alloc (Nat.le_refl _) _⟩
  case round =>
    obtain ⟨n, hn, hn', rfl, hS⟩ := hrel
    by_cases h3 : n = 3
    · subst h3
      have HS := Lib.hid hS
      clear hS
      go_wp2_with fail
      refine (known_any _).mono ?_; rintro e w1 ⟨rfl, h1⟩
      go_wp2_with fail
      go_ret
      exact ⟨rfl, HS.out.upto h1⟩
    · have F0 := Lib.hid hS
      clear hS
      obtain ⟨c, hixc⟩ : ∃ c : Int, ∀ w, (Instr.index 24 (.agg #[.int .i64 chip, .int .i64 1, .int .i64 2]) (.int .i64 n)).run Try.prog w = .ok (.int .i64 c) w := by
        obtain rfl | rfl | rfl : n = 0 ∨ n = 1 ∨ n = 2 := by omega
        · exact ⟨_, i0⟩
        · exact ⟨_, i1⟩
        · exact ⟨_, i2⟩
      clear i0 i1 i2
      obtain ⟨F0c0, F0c1, F0c2, F0c3, F0c4, F0c5, F0c6, F0z, F0s, F0B⟩ := F0.out
      clear F0B F0s
      have F0n : ¬ w.heap.size = wr.heap.size := by omega
      go_wp2_with fail
      refine (daa_any c a lo hi _ _ _ _ _ _ _ _ _ rfl hx hx' HL.out HH.out).mono ?_; rintro e u1 ⟨rfl, hu1⟩
      clear F0c0 F0c1 F0c2 F0c3 F0c4 F0c5 F0c6 F0z F0n
      have F1 : Hid (Held7 w (w.heap.size) s z k ac p v cy u1) := Lib.hid (Held7.two F0.out hu1 (by go_grown))
      clear F0 hu1
      obtain ⟨F1c0, F1c1, F1c2, F1c3, F1c4, F1c5, F1c6, F1z, F1s, F1B⟩ := F1.out
      clear F1B F1s
      have F1n : ¬ w.heap.size = u1.heap.size := by omega
      go_wp2_with fail
      refine (rdaa_any c a lo hi _ _ _ _ _ _ _ _ _ rfl hx hx' HL.out HH.out).mono ?_; rintro e u2 ⟨rfl, hu2⟩
      clear F1c0 F1c1 F1c2 F1c3 F1c4 F1c5 F1c6 F1z F1n
      have F2 : Hid (Held7 w (w.heap.size) s z k ac p v cy u2) := Lib.hid (Held7.two F1.out hu2 (by go_grown))
      have G2 : Hid (Held7 w (u1.heap.size) (decide (128 ≤ daaR a lo hi)) (daaR a lo hi == 0) ((c == 2) && majB (decide (128 ≤ a)) false (decide (128 ≤ daaR a lo hi))) (sumH a (daaX lo hi) false) (par (daaR a lo hi)) ((c == 2) && sumV a (daaX lo hi) false) hi u2) := Lib.hid (Held7.thru hu2 (Held7.fresh F1.out))
      clear F1 hu2
      obtain ⟨F2c0, F2c1, F2c2, F2c3, F2c4, F2c5, F2c6, F2z, F2s, F2B⟩ := F2.out
      clear F2B F2s
      have F2n : ¬ w.heap.size = u2.heap.size := by omega
      obtain ⟨G2c0, G2c1, G2c2, G2c3, G2c4, G2c5, G2c6, G2z, G2s, G2B⟩ := G2.out
      clear G2B G2s
      have G2n : ¬ u1.heap.size = u2.heap.size := by omega
      go_wp2_with fail
      go_roundw
      case rel => exact ⟨n + 1, by omega, by omega, rfl, Held7.thru (by go_grown) F2.out⟩
      case measure => simp [intOf]; omega
end Go.Proofs.Ytafbcghmbdfdoaa
