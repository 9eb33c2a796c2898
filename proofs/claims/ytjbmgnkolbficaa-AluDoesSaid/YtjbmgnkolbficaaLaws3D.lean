/- The walk of the law AluDoes. -/
import Derived.Test.YtjbmgnkolbficaaLaws3
import Derived.Test.YtjbmgnkolbficaaRefAlu1
import Derived.Test.YtjbmgnkolbficaaRefAlu2
import Derived.Test.YtjbmgnkolbficaaRefAlu3
import Derived.Test.YtjbmgnkolbficaaRefAlu4
namespace Go.Proofs.Ytjbmgnkolbficaa
open Go.RowKit
set_option linter.unusedVariables false

theorem rdo_all (chip op q a b : Int) (on s z k ac p v cy : Bool) (w : World) (hc : (chip == 2) = on) (hq : bits .and .i64 op 7 = q) (ha : 0 ≤ a) (ha' : a ≤ 255) (hb : 0 ≤ b) (hb' : b ≤ 255) :
    Calls Try.prog 10 #[.int .i64 chip, .int .i64 op, .int .u8 a, .int .u8 b, .agg #[.bool s, .bool z, .bool k, .bool ac, .bool p, .bool v, .bool cy]] w fun e w' => e = .returned (.tuple #[.int .u8 (aA q a b cy), .agg #[.bool (decide (128 ≤ aR q a b cy)), .bool (aR q a b cy == 0), .bool (on && aK q a b cy), .bool (aH q a b cy on), .bool (par (aR q a b cy)), .bool (on && aV q a b cy), .bool (aO q a b cy)]]) ∧ Below w.heap.size w w' := by
  have h8 := i64_and7 op
  rw [hq] at h8
  obtain rfl | rfl | rfl | rfl | rfl | rfl | rfl | rfl : q = 0 ∨ q = 1 ∨ q = 2 ∨ q = 3 ∨ q = 4 ∨ q = 5 ∨ q = 6 ∨ q = 7 := by omega
  · exact rdo_0 chip op a b on s z k ac p v cy w hc hq ha ha' hb hb'
  · exact rdo_1 chip op a b on s z k ac p v cy w hc hq ha ha' hb hb'
  · exact rdo_2 chip op a b on s z k ac p v cy w hc hq ha ha' hb hb'
  · exact rdo_3 chip op a b on s z k ac p v cy w hc hq ha ha' hb hb'
  · exact rdo_4 chip op a b on s z k ac p v cy w hc hq ha ha' hb hb'
  · exact rdo_5 chip op a b on s z k ac p v cy w hc hq ha ha' hb hb'
  · exact rdo_6 chip op a b on s z k ac p v cy w hc hq ha ha' hb hb'
  · exact rdo_7 chip op a b on s z k ac p v cy w hc hq ha ha' hb hb'

set_option maxHeartbeats 2000000 in
theorem aluDoes_walk (chip op a b : Int) (s z k ac p v cy : Bool) (w : World) (wc : (Lit.int .i64 chip).wf = true) (wo : (Lit.int .i64 op).wf = true) (wa : (Lit.int .u8 a).wf = true) (wb : (Lit.int .u8 b).wf = true) :
    Calls Try.prog 3 #[.int .i64 chip, .int .i64 op, .int .u8 a, .int .u8 b, .agg #[.bool s, .bool z, .bool k, .bool ac, .bool p, .bool v, .bool cy]] w fun e w' => e = .returned (.bool true) ∧ Below w.heap.size w w' := by
  obtain ⟨ha, ha'⟩ := wf_byte wa
  obtain ⟨hb, hb'⟩ := wf_byte wb
  obtain ⟨q, hq⟩ : ∃ q, bits .and .i64 op 7 = q := ⟨_, rfl⟩
  have HQ := Lib.hid hq
  clear hq
  have i0 : ∀ w, (Instr.index 24 (.agg #[.int .i64 chip, .int .i64 1, .int .i64 2]) (.int .i64 0)).run Try.prog w = .ok (.int .i64 chip) w := fun _ => by kernel_rfl
  have i1 : ∀ w, (Instr.index 24 (.agg #[.int .i64 chip, .int .i64 1, .int .i64 2]) (.int .i64 1)).run Try.prog w = .ok (.int .i64 1) w := fun _ => by kernel_rfl
  have i2 : ∀ w, (Instr.index 24 (.agg #[.int .i64 chip, .int .i64 1, .int .i64 2]) (.int .i64 2)).run Try.prog w = .ok (.int .i64 2) w := fun _ => by kernel_rfl
  go_enter Try.func3, Try.ntmps3
  go_wp2_with fail
  go_loopw [19] (fun i wr => ∃ n : Int, 0 ≤ n ∧ n ≤ 3 ∧ i = .int .i64 n ∧ Held7 w w.heap.size s z k ac p v cy wr) (fun i _ => 3 - (intOf i).toNat)
  case atStart => exact ⟨0, by omega, by omega, rfl, by simp, by simp, by simp, by simp, by simp, by simp, by simp, by simp, by simp, (Below.refl _ _).alloc (Nat.le_refl _) _⟩
  case round =>
    obtain ⟨n, hn, hn', rfl, hS⟩ := hrel
    by_cases h3 : n = 3
    · subst h3
      have HS := Lib.hid hS
      clear hS
      go_wp2_with fail
      refine (known_any _).mono ?_; rintro e w1 ⟨rfl, h1⟩
      go_wp2_with fail
      go_ret
      exact ⟨rfl, HS.out.upto h1⟩
    · have F0 := Lib.hid hS
      clear hS
      obtain ⟨c, hixc⟩ : ∃ c : Int, ∀ w, (Instr.index 24 (.agg #[.int .i64 chip, .int .i64 1, .int .i64 2]) (.int .i64 n)).run Try.prog w = .ok (.int .i64 c) w := by
        obtain rfl | rfl | rfl : n = 0 ∨ n = 1 ∨ n = 2 := by omega
        · exact ⟨_, i0⟩
        · exact ⟨_, i1⟩
        · exact ⟨_, i2⟩
      clear i0 i1 i2
      obtain ⟨F0c0, F0c1, F0c2, F0c3, F0c4, F0c5, F0c6, F0z, F0s, F0B⟩ := F0.out
      clear F0B F0s
      have F0n : ¬ w.heap.size = wr.heap.size := by omega
      go_wp2_with fail
      refine (do_all c op q a b _ _ _ _ _ _ _ cy _ rfl HQ.out ha ha' hb hb').mono ?_; rintro e u1 ⟨rfl, hu1⟩
      clear F0c0 F0c1 F0c2 F0c3 F0c4 F0c5 F0c6 F0z F0n
      have F1 : Hid (Held7 w (w.heap.size) s z k ac p v cy u1) := Lib.hid (Held7.two F0.out hu1 (by go_grown))
      clear F0 hu1
      obtain ⟨F1c0, F1c1, F1c2, F1c3, F1c4, F1c5, F1c6, F1z, F1s, F1B⟩ := F1.out
      clear F1B F1s
      have F1n : ¬ w.heap.size = u1.heap.size := by omega
      go_wp2_with fail
      refine (rdo_all c op q a b _ _ _ _ _ _ _ cy _ rfl HQ.out ha ha' hb hb').mono ?_; rintro e u2 ⟨rfl, hu2⟩
      clear F1c0 F1c1 F1c2 F1c3 F1c4 F1c5 F1c6 F1z F1n
      have F2 : Hid (Held7 w (w.heap.size) s z k ac p v cy u2) := Lib.hid (Held7.two F1.out hu2 (by go_grown))
      have G2 : Hid (Held7 w (u1.heap.size) (decide (128 ≤ aR q a b cy)) (aR q a b cy == 0) ((c == 2) && aK q a b cy) (aH q a b cy (c == 2)) (par (aR q a b cy)) ((c == 2) && aV q a b cy) (aO q a b cy) u2) := Lib.hid (Held7.thru hu2 (Held7.fresh F1.out))
      clear F1 hu2
      obtain ⟨F2c0, F2c1, F2c2, F2c3, F2c4, F2c5, F2c6, F2z, F2s, F2B⟩ := F2.out
      clear F2B F2s
      have F2n : ¬ w.heap.size = u2.heap.size := by omega
      obtain ⟨G2c0, G2c1, G2c2, G2c3, G2c4, G2c5, G2c6, G2z, G2s, G2B⟩ := G2.out
      clear G2B G2s
      have G2n : ¬ u1.heap.size = u2.heap.size := by omega
      go_wp2_with fail
      go_roundw
      case rel => exact ⟨n + 1, by omega, by omega, rfl, Held7.thru (by go_grown) F2.out⟩
      case measure => simp [intOf]; omega
end Go.Proofs.Ytjbmgnkolbficaa
