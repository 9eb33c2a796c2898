/- The walks of the laws of layer 4: each answers true. -/
import Derived.Test.YtmlghojagjcpmaaCount
import Derived.Test.YtmlghojagjcpmaaMake
namespace Go.Proofs.Ytmlghojagjcpmaa
open Go.RowKit
set_option linter.unusedVariables false

theorem inx_below (chip x : Int) (on s z k ac p v cy : Bool) (w : World) (hc : (chip == 2) = on) (hx : 0 ≤ x) (hx' : x ≤ 65535) :
    Calls Try.prog 7 #[.int .i64 chip, .int .u16 x, .agg #[.bool s, .bool z, .bool k, .bool ac, .bool p, .bool v, .bool cy]] w fun e w' =>
      e = .returned (.tuple #[.int .u16 ((x + 1) % 65536), .agg #[.bool s, .bool z, .bool (cond on (x == 65535) k), .bool ac, .bool p, .bool v, .bool cy]]) ∧ Below w.heap.size w w' :=
  (inx_any chip x on s z k ac p v cy w hc hx hx').mono fun e w' ⟨he, o1, o2, hw⟩ => ⟨he, by rw [← hw]; go_grown⟩
theorem dcx_below (chip x : Int) (on s z k ac p v cy : Bool) (w : World) (hc : (chip == 2) = on) (hx : 0 ≤ x) (hx' : x ≤ 65535) :
    Calls Try.prog 9 #[.int .i64 chip, .int .u16 x, .agg #[.bool s, .bool z, .bool k, .bool ac, .bool p, .bool v, .bool cy]] w fun e w' =>
      e = .returned (.tuple #[.int .u16 ((x - 1) % 65536), .agg #[.bool s, .bool z, .bool (cond on (x == 0) k), .bool ac, .bool p, .bool v, .bool cy]]) ∧ Below w.heap.size w w' :=
  (dcx_any chip x on s z k ac p v cy w hc hx hx').mono fun e w' ⟨he, o1, o2, hw⟩ => ⟨he, by rw [← hw]; go_grown⟩
theorem rinx_below (chip x : Int) (on s z k ac p v cy : Bool) (w : World) (hc : (chip == 2) = on) (hx : 0 ≤ x) (hx' : x ≤ 65535) :
    Calls Try.prog 8 #[.int .i64 chip, .int .u16 x, .agg #[.bool s, .bool z, .bool k, .bool ac, .bool p, .bool v, .bool cy]] w fun e w' =>
      e = .returned (.tuple #[.int .u16 ((x + 1) % 65536), .agg #[.bool s, .bool z, .bool (cond on (x == 65535) k), .bool ac, .bool p, .bool v, .bool cy]]) ∧ Below w.heap.size w w' :=
  (rinx_any chip x on s z k ac p v cy w hc hx hx').mono fun e w' ⟨he, o1, o2, hw⟩ => ⟨he, by rw [← hw]; go_grown⟩
theorem rdcx_below (chip x : Int) (on s z k ac p v cy : Bool) (w : World) (hc : (chip == 2) = on) (hx : 0 ≤ x) (hx' : x ≤ 65535) :
    Calls Try.prog 10 #[.int .i64 chip, .int .u16 x, .agg #[.bool s, .bool z, .bool k, .bool ac, .bool p, .bool v, .bool cy]] w fun e w' =>
      e = .returned (.tuple #[.int .u16 ((x - 1) % 65536), .agg #[.bool s, .bool z, .bool (cond on (x == 0) k), .bool ac, .bool p, .bool v, .bool cy]]) ∧ Below w.heap.size w w' :=
  (rdcx_any chip x on s z k ac p v cy w hc hx hx').mono fun e w' ⟨he, o1, o2, hw⟩ => ⟨he, by rw [← hw]; go_grown⟩

theorem known_any (w : World) : Calls Try.prog 11 #[] w fun e w' => e = .returned (.bool true) ∧ Below w.heap.size w w' := by
  have k1 : difR 0 1 false = 255 := by decide
  have k2 : difH 0 1 false = false := by decide
  have k3 : par 255 = true := by decide
  go_enter Try.func11, Try.ntmps11
  go_wp2_with fail
  refine (dcr_any 1 0 false _ _ _ _ _ _ _ _ rfl (by omega) (by omega)).mono ?_; rintro e w1 ⟨rfl, h1⟩
  go_wp2_with fail
  refine (dcx_any 2 0 true _ _ _ _ _ _ _ _ rfl (by omega) (by omega)).mono ?_; rintro e w2 ⟨rfl, o1, o2, rfl⟩
  have n0 : ¬ w1.heap.size = w1.heap.size + 1 := by omega
  go_wp2_with fail
  go_ret
  exact ⟨rfl, thenB h1 (by go_grown)⟩

set_option maxHeartbeats 2000000 in
theorem countUndoes_walk (l : Option Addr) (len cap : Nat) (zs : List Int) (x y : Int) (s z k ac p v cy : Bool) (w : World) (wl : IsRow .i64 w l len cap zs) (wx : (Lit.int .u8 x).wf = true) (wy : (Lit.int .u16 y).wf = true) :
    Calls Try.prog 6 #[.slice l len cap, .int .u8 x, .int .u16 y, .agg #[.bool s, .bool z, .bool k, .bool ac, .bool p, .bool v, .bool cy]] w fun e w' => e = .returned (.bool true) ∧ Below w.heap.size w w' := by
  obtain ⟨hx, hx'⟩ := wf_byte wx
  obtain ⟨hy, hy'⟩ := wf_word wy
  have e1 : difR (sumR x 1 false) 1 false = x := by unfold difR sumR b2i; simp only [Bool.false_eq_true, if_false]; omega
  have e2 : ((y + 1) % 65536 - 1) % 65536 = y := by omega
  have WL := Lib.hid wl
  clear wl
  have l1 := sumR_lo x 1 false
  have l2 := sumR_hi x 1 false
  go_enter Try.func6, Try.ntmps6
  go_wp2_with fail
  refine (from_any _ _ _ _).mono ?_; rintro e w1 ⟨rfl, rfl⟩
  go_wp2_with fail
  refine (chip_gen _ l len cap zs w _ (by go_size) WL.out (by go_grown) (by simp) (by simp) (by simp)).mono ?_; rintro e w2 ⟨⟨c, hc, rfl⟩, hq⟩
  have F0 : Hid (Held7 w w.heap.size s z k ac p v cy w2) := Held7.only hq (by simp) (by simp) (by exact ⟨by simp, by simp, by simp, by simp, by simp, by simp, by simp, by go_size, by go_size, by go_grown⟩)
  clear hq
  obtain ⟨F0c0, F0c1, F0c2, F0c3, F0c4, F0c5, F0c6, F0z, F0s, F0B⟩ := F0.out
  clear F0B F0s
  have F0n : ¬ w.heap.size = w2.heap.size := by omega
  go_wp2_with fail
  refine (inr_any c x _ _ _ _ _ _ _ _ _ rfl hx hx').mono ?_; rintro e u1 ⟨rfl, hu1⟩
  clear F0c0 F0c1 F0c2 F0c3 F0c4 F0c5 F0c6 F0z F0n
  have F1 : Hid (Held7 w (w.heap.size) s z k ac p v cy u1) := Lib.hid (Held7.two F0.out hu1 (by go_grown))
  clear F0 hu1
  obtain ⟨F1c0, F1c1, F1c2, F1c3, F1c4, F1c5, F1c6, F1z, F1s, F1B⟩ := F1.out
  clear F1B F1s
  have F1n : ¬ w.heap.size = u1.heap.size := by omega
  go_wp2_with fail
  refine (dcr_any c (sumR x 1 false) _ _ _ _ _ _ _ _ _ rfl l1 l2).mono ?_; rintro e u2 ⟨rfl, hu2⟩
  clear F1c0 F1c1 F1c2 F1c3 F1c4 F1c5 F1c6 F1z F1n
  have F2 : Hid (Held7 w (w.heap.size) s z k ac p v cy u2) := Lib.hid (Held7.two F1.out hu2 (by go_grown))
  have G2 : Hid (Held7 w (u1.heap.size) (decide (128 ≤ sumR x 1 false)) (sumR x 1 false == 0) ((c == 2) && majB (decide (128 ≤ x)) false (decide (128 ≤ sumR x 1 false))) (sumH x 1 false) (par (sumR x 1 false)) ((c == 2) && sumV x 1 false) cy u2) := Lib.hid (Held7.thru hu2 (Held7.fresh F1.out))
  clear F1 hu2
  obtain ⟨F2c0, F2c1, F2c2, F2c3, F2c4, F2c5, F2c6, F2z, F2s, F2B⟩ := F2.out
  clear F2B F2s
  have F2n : ¬ w.heap.size = u2.heap.size := by omega
  obtain ⟨G2c0, G2c1, G2c2, G2c3, G2c4, G2c5, G2c6, G2z, G2s, G2B⟩ := G2.out
  clear G2B G2s
  have G2n : ¬ u1.heap.size = u2.heap.size := by omega
  go_wp2_with fail
  refine (inx_below c y _ _ _ _ _ _ _ _ _ rfl hy hy').mono ?_; rintro e u3 ⟨rfl, hu3⟩
  clear F2c0 F2c1 F2c2 F2c3 F2c4 F2c5 F2c6 F2z F2n
  clear G2c0 G2c1 G2c2 G2c3 G2c4 G2c5 G2c6 G2z G2n
  have F3 : Hid (Held7 w (w.heap.size) s z k ac p v cy u3) := Lib.hid (Held7.two F2.out hu3 (by go_grown))
  have G3 : Hid (Held7 w (u1.heap.size) (decide (128 ≤ sumR x 1 false)) (sumR x 1 false == 0) ((c == 2) && majB (decide (128 ≤ x)) false (decide (128 ≤ sumR x 1 false))) (sumH x 1 false) (par (sumR x 1 false)) ((c == 2) && sumV x 1 false) cy u3) := Lib.hid (Held7.two G2.out hu3 (by go_grown))
  have H3 : Hid (Held7 w (u2.heap.size) (decide (128 ≤ x)) (x == 0) ((c == 2) && majB (decide (128 ≤ sumR x 1 false)) true (decide (128 ≤ x))) (difH (sumR x 1 false) 1 false) (par x) ((c == 2) && difV (sumR x 1 false) 1 false) cy u3) := Lib.hid (Held7.thru hu3 (Held7.fresh F2.out))
  clear F2 G2 hu3
  obtain ⟨F3c0, F3c1, F3c2, F3c3, F3c4, F3c5, F3c6, F3z, F3s, F3B⟩ := F3.out
  clear F3B F3s
  have F3n : ¬ w.heap.size = u3.heap.size := by omega
  obtain ⟨G3c0, G3c1, G3c2, G3c3, G3c4, G3c5, G3c6, G3z, G3s, G3B⟩ := G3.out
  clear G3B G3s
  have G3n : ¬ u1.heap.size = u3.heap.size := by omega
  obtain ⟨H3c0, H3c1, H3c2, H3c3, H3c4, H3c5, H3c6, H3z, H3s, H3B⟩ := H3.out
  clear H3B H3s
  have H3n : ¬ u2.heap.size = u3.heap.size := by omega
  go_wp2_with fail
  refine (dcx_below c ((y + 1) % 65536) _ _ _ _ _ _ _ _ _ rfl (by omega) (by omega)).mono ?_; rintro e u4 ⟨rfl, hu4⟩
  clear F3c0 F3c1 F3c2 F3c3 F3c4 F3c5 F3c6 F3z F3n
  clear G3c0 G3c1 G3c2 G3c3 G3c4 G3c5 G3c6 G3z G3n
  clear H3c0 H3c1 H3c2 H3c3 H3c4 H3c5 H3c6 H3z H3n
  have F4 : Hid (Held7 w (w.heap.size) s z k ac p v cy u4) := Lib.hid (Held7.two F3.out hu4 (by go_grown))
  have G4 : Hid (Held7 w (u1.heap.size) (decide (128 ≤ sumR x 1 false)) (sumR x 1 false == 0) ((c == 2) && majB (decide (128 ≤ x)) false (decide (128 ≤ sumR x 1 false))) (sumH x 1 false) (par (sumR x 1 false)) ((c == 2) && sumV x 1 false) cy u4) := Lib.hid (Held7.two G3.out hu4 (by go_grown))
  have H4 : Hid (Held7 w (u2.heap.size) (decide (128 ≤ x)) (x == 0) ((c == 2) && majB (decide (128 ≤ sumR x 1 false)) true (decide (128 ≤ x))) (difH (sumR x 1 false) 1 false) (par x) ((c == 2) && difV (sumR x 1 false) 1 false) cy u4) := Lib.hid (Held7.two H3.out hu4 (by go_grown))
  have I4 : Hid (Held7 w (u3.heap.size) s z (cond (c == 2) (y == 65535) k) ac p v cy u4) := Lib.hid (Held7.thru hu4 (Held7.fresh F3.out))
  clear F3 G3 H3 hu4
  obtain ⟨F4c0, F4c1, F4c2, F4c3, F4c4, F4c5, F4c6, F4z, F4s, F4B⟩ := F4.out
  clear F4B F4s
  have F4n : ¬ w.heap.size = u4.heap.size := by omega
  obtain ⟨G4c0, G4c1, G4c2, G4c3, G4c4, G4c5, G4c6, G4z, G4s, G4B⟩ := G4.out
  clear G4B G4s
  have G4n : ¬ u1.heap.size = u4.heap.size := by omega
  obtain ⟨H4c0, H4c1, H4c2, H4c3, H4c4, H4c5, H4c6, H4z, H4s, H4B⟩ := H4.out
  clear H4B H4s
  have H4n : ¬ u2.heap.size = u4.heap.size := by omega
  obtain ⟨I4c0, I4c1, I4c2, I4c3, I4c4, I4c5, I4c6, I4z, I4s, I4B⟩ := I4.out
  clear I4B I4s
  have I4n : ¬ u3.heap.size = u4.heap.size := by omega
  go_wp2_with fail
  refine (known_any _).mono ?_; rintro e wk ⟨rfl, hk⟩
  have HB := Lib.hid (thenB (Held7.upto F4.out (by go_grown)) hk)
  go_wp2_with fail
  go_ret
  exact ⟨rfl, HB.out⟩

set_option maxHeartbeats 2000000 in
theorem countBytes_walk (chip x : Int) (s z k ac p v cy : Bool) (w : World) (wc : (Lit.int .i64 chip).wf = true) (wx : (Lit.int .u8 x).wf = true) :
    Calls Try.prog 5 #[.int .i64 chip, .int .u8 x, .agg #[.bool s, .bool z, .bool k, .bool ac, .bool p, .bool v, .bool cy]] w fun e w' => e = .returned (.bool true) ∧ Below w.heap.size w w' := by
  obtain ⟨hx, hx'⟩ := wf_byte wx
  have i0 : ∀ w, (Instr.index 26 (.agg #[.int .i64 chip, .int .i64 1, .int .i64 2]) (.int .i64 0)).run Try.prog w = .ok (.int .i64 chip) w := fun _ => by kernel_rfl
  have i1 : ∀ w, (Instr.index 26 (.agg #[.int .i64 chip, .int .i64 1, .int .i64 2]) (.int .i64 1)).run Try.prog w = .ok (.int .i64 1) w := fun _ => by kernel_rfl
  have i2 : ∀ w, (Instr.index 26 (.agg #[.int .i64 chip, .int .i64 1, .int .i64 2]) (.int .i64 2)).run Try.prog w = .ok (.int .i64 2) w := fun _ => by kernel_rfl
  go_enter Try.func5, Try.ntmps5
  go_wp2_with fail
  go_loopw [19] (fun i wr => ∃ n : Int, 0 ≤ n ∧ n ≤ 3 ∧ i = .int .i64 n ∧ Held7 w w.heap.size s z k ac p v cy wr) (fun i _ => 3 - (intOf i).toNat)
  case atStart => exact ⟨0, by omega, by omega, rfl, by simp, by simp, by simp, by simp, by simp, by simp, by simp, by simp, by simp, (Below.refl _ _).alloc (Nat.le_refl _) _⟩
  case round =>
    obtain ⟨n, hn, hn', rfl, hS⟩ := hrel
    by_cases h3 : n = 3
    · subst h3
      have HS := Lib.hid hS
      clear hS
      go_wp2_with fail
      refine (known_any _).mono ?_; rintro e w1 ⟨rfl, h1⟩
      go_wp2_with fail
      go_ret
      exact ⟨rfl, HS.out.upto h1⟩
    · have F0 := Lib.hid hS
      clear hS
      obtain ⟨c, hixc⟩ : ∃ c : Int, ∀ w, (Instr.index 26 (.agg #[.int .i64 chip, .int .i64 1, .int .i64 2]) (.int .i64 n)).run Try.prog w = .ok (.int .i64 c) w := by
        obtain rfl | rfl | rfl : n = 0 ∨ n = 1 ∨ n = 2 := by omega
        · exact ⟨_, i0⟩
        · exact ⟨_, i1⟩
        · exact ⟨_, i2⟩
      clear i0 i1 i2
      obtain ⟨F0c0, F0c1, F0c2, F0c3, F0c4, F0c5, F0c6, F0z, F0s, F0B⟩ := F0.out
      clear F0B F0s
      have F0n : ¬ w.heap.size = wr.heap.size := by omega
      go_wp2_with fail
      refine (inr_any c x _ _ _ _ _ _ _ _ _ rfl hx hx').mono ?_; rintro e u1 ⟨rfl, hu1⟩
      clear F0c0 F0c1 F0c2 F0c3 F0c4 F0c5 F0c6 F0z F0n
      have F1 : Hid (Held7 w (w.heap.size) s z k ac p v cy u1) := Lib.hid (Held7.two F0.out hu1 (by go_grown))
      clear F0 hu1
      obtain ⟨F1c0, F1c1, F1c2, F1c3, F1c4, F1c5, F1c6, F1z, F1s, F1B⟩ := F1.out
      clear F1B F1s
      have F1n : ¬ w.heap.size = u1.heap.size := by omega
      go_wp2_with fail
      refine (rinr_any c x _ _ _ _ _ _ _ _ _ rfl hx hx').mono ?_; rintro e u2 ⟨rfl, hu2⟩
      clear F1c0 F1c1 F1c2 F1c3 F1c4 F1c5 F1c6 F1z F1n
      have F2 : Hid (Held7 w (w.heap.size) s z k ac p v cy u2) := Lib.hid (Held7.two F1.out hu2 (by go_grown))
      have G2 : Hid (Held7 w (u1.heap.size) (decide (128 ≤ sumR x 1 false)) (sumR x 1 false == 0) ((c == 2) && majB (decide (128 ≤ x)) false (decide (128 ≤ sumR x 1 false))) (sumH x 1 false) (par (sumR x 1 false)) ((c == 2) && sumV x 1 false) cy u2) := Lib.hid (Held7.thru hu2 (Held7.fresh F1.out))
      clear F1 hu2
      obtain ⟨F2c0, F2c1, F2c2, F2c3, F2c4, F2c5, F2c6, F2z, F2s, F2B⟩ := F2.out
      clear F2B F2s
      have F2n : ¬ w.heap.size = u2.heap.size := by omega
      obtain ⟨G2c0, G2c1, G2c2, G2c3, G2c4, G2c5, G2c6, G2z, G2s, G2B⟩ := G2.out
      clear G2B G2s
      have G2n : ¬ u1.heap.size = u2.heap.size := by omega
      go_wp2_with fail
      refine (dcr_any c x _ _ _ _ _ _ _ _ _ rfl hx hx').mono ?_; rintro e u3 ⟨rfl, hu3⟩
      clear F2c0 F2c1 F2c2 F2c3 F2c4 F2c5 F2c6 F2z F2n
      clear G2c0 G2c1 G2c2 G2c3 G2c4 G2c5 G2c6 G2z G2n
      have F3 : Hid (Held7 w (w.heap.size) s z k ac p v cy u3) := Lib.hid (Held7.two F2.out hu3 (by go_grown))
      have G3 : Hid (Held7 w (u1.heap.size) (decide (128 ≤ sumR x 1 false)) (sumR x 1 false == 0) ((c == 2) && majB (decide (128 ≤ x)) false (decide (128 ≤ sumR x 1 false))) (sumH x 1 false) (par (sumR x 1 false)) ((c == 2) && sumV x 1 false) cy u3) := Lib.hid (Held7.two G2.out hu3 (by go_grown))
      have H3 : Hid (Held7 w (u2.heap.size) (decide (128 ≤ sumR x 1 false)) (sumR x 1 false == 0) ((c == 2) && majB (decide (128 ≤ x)) false (decide (128 ≤ sumR x 1 false))) (sumH x 1 false) (par (sumR x 1 false)) ((c == 2) && sumV x 1 false) cy u3) := Lib.hid (Held7.thru hu3 (Held7.fresh F2.out))
      clear F2 G2 hu3
      obtain ⟨F3c0, F3c1, F3c2, F3c3, F3c4, F3c5, F3c6, F3z, F3s, F3B⟩ := F3.out
      clear F3B F3s
      have F3n : ¬ w.heap.size = u3.heap.size := by omega
      obtain ⟨G3c0, G3c1, G3c2, G3c3, G3c4, G3c5, G3c6, G3z, G3s, G3B⟩ := G3.out
      clear G3B G3s
      have G3n : ¬ u1.heap.size = u3.heap.size := by omega
      obtain ⟨H3c0, H3c1, H3c2, H3c3, H3c4, H3c5, H3c6, H3z, H3s, H3B⟩ := H3.out
      clear H3B H3s
      have H3n : ¬ u2.heap.size = u3.heap.size := by omega
      go_wp2_with fail
      refine (rdcr_any c x _ _ _ _ _ _ _ _ _ rfl hx hx').mono ?_; rintro e u4 ⟨rfl, hu4⟩
      clear F3c0 F3c1 F3c2 F3c3 F3c4 F3c5 F3c6 F3z F3n
      clear G3c0 G3c1 G3c2 G3c3 G3c4 G3c5 G3c6 G3z G3n
      clear H3c0 H3c1 H3c2 H3c3 H3c4 H3c5 H3c6 H3z H3n
      have F4 : Hid (Held7 w (w.heap.size) s z k ac p v cy u4) := Lib.hid (Held7.two F3.out hu4 (by go_grown))
      have G4 : Hid (Held7 w (u1.heap.size) (decide (128 ≤ sumR x 1 false)) (sumR x 1 false == 0) ((c == 2) && majB (decide (128 ≤ x)) false (decide (128 ≤ sumR x 1 false))) (sumH x 1 false) (par (sumR x 1 false)) ((c == 2) && sumV x 1 false) cy u4) := Lib.hid (Held7.two G3.out hu4 (by go_grown))
      have H4 : Hid (Held7 w (u2.heap.size) (decide (128 ≤ sumR x 1 false)) (sumR x 1 false == 0) ((c == 2) && majB (decide (128 ≤ x)) false (decide (128 ≤ sumR x 1 false))) (sumH x 1 false) (par (sumR x 1 false)) ((c == 2) && sumV x 1 false) cy u4) := Lib.hid (Held7.two H3.out hu4 (by go_grown))
      have I4 : Hid (Held7 w (u3.heap.size) (decide (128 ≤ difR x 1 false)) (difR x 1 false == 0) ((c == 2) && majB (decide (128 ≤ x)) true (decide (128 ≤ difR x 1 false))) (difH x 1 false) (par (difR x 1 false)) ((c == 2) && difV x 1 false) cy u4) := Lib.hid (Held7.thru hu4 (Held7.fresh F3.out))
      clear F3 G3 H3 hu4
      obtain ⟨F4c0, F4c1, F4c2, F4c3, F4c4, F4c5, F4c6, F4z, F4s, F4B⟩ := F4.out
      clear F4B F4s
      have F4n : ¬ w.heap.size = u4.heap.size := by omega
      obtain ⟨G4c0, G4c1, G4c2, G4c3, G4c4, G4c5, G4c6, G4z, G4s, G4B⟩ := G4.out
      clear G4B G4s
      have G4n : ¬ u1.heap.size = u4.heap.size := by omega
      obtain ⟨H4c0, H4c1, H4c2, H4c3, H4c4, H4c5, H4c6, H4z, H4s, H4B⟩ := H4.out
      clear H4B H4s
      have H4n : ¬ u2.heap.size = u4.heap.size := by omega
      obtain ⟨I4c0, I4c1, I4c2, I4c3, I4c4, I4c5, I4c6, I4z, I4s, I4B⟩ := I4.out
      clear I4B I4s
      have I4n : ¬ u3.heap.size = u4.heap.size := by omega
      go_wp2_with fail
      go_roundw
      case rel => exact ⟨n + 1, by omega, by omega, rfl, Held7.thru (by go_grown) F4.out⟩
      case measure => simp [intOf]; omega

set_option maxHeartbeats 2000000 in
theorem countEnds_walk (x : Int) (s z k ac p v cy : Bool) (w : World) (wx : (Lit.int .u16 x).wf = true) :
    Calls Try.prog 4 #[.int .u16 x, .agg #[.bool s, .bool z, .bool k, .bool ac, .bool p, .bool v, .bool cy]] w fun e w' => e = .returned (.bool true) ∧ Below w.heap.size w w' := by
  obtain ⟨hx, hx'⟩ := wf_word wx
  have i0 : ∀ w, (Instr.index 25 (.agg #[.int .u16 x, .int .u16 0, .int .u16 65535]) (.int .i64 0)).run Try.prog w = .ok (.int .u16 x) w := fun _ => by kernel_rfl
  have i1 : ∀ w, (Instr.index 25 (.agg #[.int .u16 x, .int .u16 0, .int .u16 65535]) (.int .i64 1)).run Try.prog w = .ok (.int .u16 0) w := fun _ => by kernel_rfl
  have i2 : ∀ w, (Instr.index 25 (.agg #[.int .u16 x, .int .u16 0, .int .u16 65535]) (.int .i64 2)).run Try.prog w = .ok (.int .u16 65535) w := fun _ => by kernel_rfl
  go_enter Try.func4, Try.ntmps4
  go_wp2_with fail
  go_loopw [13] (fun i wr => ∃ n : Int, 0 ≤ n ∧ n ≤ 3 ∧ i = .int .i64 n ∧ Held7 w w.heap.size s z k ac p v cy wr) (fun i _ => 3 - (intOf i).toNat)
  case atStart => exact ⟨0, by omega, by omega, rfl, by simp, by simp, by simp, by simp, by simp, by simp, by simp, by simp, by simp, (Below.refl _ _).alloc (Nat.le_refl _) _⟩
  case round =>
    obtain ⟨n, hn, hn', rfl, hS⟩ := hrel
    by_cases h3 : n = 3
    · subst h3
      have HS := Lib.hid hS
      clear hS
      go_wp2_with fail
      refine (known_any _).mono ?_; rintro e w1 ⟨rfl, h1⟩
      go_wp2_with fail
      go_ret
      exact ⟨rfl, HS.out.upto h1⟩
    · have F0 := Lib.hid hS
      clear hS
      obtain ⟨c, hpc, hixc⟩ : ∃ c : Int, (0 ≤ c ∧ c ≤ 65535) ∧ ∀ w, (Instr.index 25 (.agg #[.int .u16 x, .int .u16 0, .int .u16 65535]) (.int .i64 n)).run Try.prog w = .ok (.int .u16 c) w := by
        obtain rfl | rfl | rfl : n = 0 ∨ n = 1 ∨ n = 2 := by omega
        · exact ⟨_, by omega, i0⟩
        · exact ⟨_, by omega, i1⟩
        · exact ⟨_, by omega, i2⟩
      clear i0 i1 i2
      obtain ⟨hc, hc'⟩ := hpc
      have e1 : ((c + 1) % 65536 == 0) = (c == 65535) := by rw [Bool.eq_iff_iff, beq_iff_eq, beq_iff_eq]; omega
      have e2 : ((c - 1) % 65536 == 65535) = (c == 0) := by rw [Bool.eq_iff_iff, beq_iff_eq, beq_iff_eq]; omega
      obtain ⟨F0c0, F0c1, F0c2, F0c3, F0c4, F0c5, F0c6, F0z, F0s, F0B⟩ := F0.out
      clear F0B F0s
      have F0n : ¬ w.heap.size = wr.heap.size := by omega
      have n0 : w.heap.size ≤ wr.heap.size := by omega
      have m0 : w.heap.size < wr.heap.size := by omega
      have n1 : w.heap.size ≤ wr.heap.size + 1 := by omega
      have m1 : w.heap.size < wr.heap.size + 1 := by omega
      have n2 : w.heap.size ≤ wr.heap.size + 1 + 1 := by omega
      have m2 : w.heap.size < wr.heap.size + 1 + 1 := by omega
      have n3 : w.heap.size ≤ wr.heap.size + 1 + 1 + 1 := by omega
      have m3 : w.heap.size < wr.heap.size + 1 + 1 + 1 := by omega
      have n4 : w.heap.size ≤ wr.heap.size + 1 + 1 + 1 + 1 := by omega
      have m4 : w.heap.size < wr.heap.size + 1 + 1 + 1 + 1 := by omega
      have n5 : w.heap.size ≤ wr.heap.size + 1 + 1 + 1 + 1 + 1 := by omega
      have m5 : w.heap.size < wr.heap.size + 1 + 1 + 1 + 1 + 1 := by omega
      have n6 : w.heap.size ≤ wr.heap.size + 1 + 1 + 1 + 1 + 1 + 1 := by omega
      have m6 : w.heap.size < wr.heap.size + 1 + 1 + 1 + 1 + 1 + 1 := by omega
      go_wp2_with fail
      refine (inx_any 2 c true _ _ _ _ _ _ _ _ rfl hc hc').mono ?_; rintro e u1 ⟨rfl, o1, o2, rfl⟩
      go_wp2_with fail
      refine (dcx_any 2 c true _ _ _ _ _ _ _ _ rfl hc hc').mono ?_; rintro e u2 ⟨rfl, o3, o4, rfl⟩
      go_wp2_with fail
      go_region
      all_goals
        go_wp2_with fail
        go_roundw
        case rel => exact ⟨n + 1, by omega, by omega, rfl, Held7.thru (by go_grown) F0.out⟩
        case measure => simp [intOf]; omega

set_option maxHeartbeats 2000000 in
theorem countWords_walk (chip x : Int) (s z k ac p v cy : Bool) (w : World) (wc : (Lit.int .i64 chip).wf = true) (wx : (Lit.int .u16 x).wf = true) :
    Calls Try.prog 3 #[.int .i64 chip, .int .u16 x, .agg #[.bool s, .bool z, .bool k, .bool ac, .bool p, .bool v, .bool cy]] w fun e w' => e = .returned (.bool true) ∧ Below w.heap.size w w' := by
  obtain ⟨hx, hx'⟩ := wf_word wx
  have i0 : ∀ w, (Instr.index 25 (.agg #[.int .u16 x, .int .u16 0, .int .u16 65535]) (.int .i64 0)).run Try.prog w = .ok (.int .u16 x) w := fun _ => by kernel_rfl
  have i1 : ∀ w, (Instr.index 25 (.agg #[.int .u16 x, .int .u16 0, .int .u16 65535]) (.int .i64 1)).run Try.prog w = .ok (.int .u16 0) w := fun _ => by kernel_rfl
  have i2 : ∀ w, (Instr.index 25 (.agg #[.int .u16 x, .int .u16 0, .int .u16 65535]) (.int .i64 2)).run Try.prog w = .ok (.int .u16 65535) w := fun _ => by kernel_rfl
  have j0 : ∀ w, (Instr.index 26 (.agg #[.int .i64 chip, .int .i64 1, .int .i64 2]) (.int .i64 0)).run Try.prog w = .ok (.int .i64 chip) w := fun _ => by kernel_rfl
  have j1 : ∀ w, (Instr.index 26 (.agg #[.int .i64 chip, .int .i64 1, .int .i64 2]) (.int .i64 1)).run Try.prog w = .ok (.int .i64 1) w := fun _ => by kernel_rfl
  have j2 : ∀ w, (Instr.index 26 (.agg #[.int .i64 chip, .int .i64 1, .int .i64 2]) (.int .i64 2)).run Try.prog w = .ok (.int .i64 2) w := fun _ => by kernel_rfl
  go_enter Try.func3, Try.ntmps3
  go_wp2_with fail
  go_loopw [21] (fun i wr => ∃ n : Int, 0 ≤ n ∧ n ≤ 3 ∧ i = .int .i64 n ∧ Held7 w w.heap.size s z k ac p v cy wr) (fun i _ => 3 - (intOf i).toNat)
  case atStart => exact ⟨0, by omega, by omega, rfl, by simp, by simp, by simp, by simp, by simp, by simp, by simp, by simp, by simp, (Below.refl _ _).alloc (Nat.le_refl _) _⟩
  case round =>
    obtain ⟨n, hn, hn', rfl, hS⟩ := hrel
    by_cases h3 : n = 3
    · subst h3
      have HS := Lib.hid hS
      clear hS
      go_wp2_with fail
      refine (known_any _).mono ?_; rintro e w1 ⟨rfl, h1⟩
      go_wp2_with fail
      go_ret
      exact ⟨rfl, HS.out.upto h1⟩
    · have F0 := Lib.hid hS
      clear hS
      obtain ⟨y, hpy, hixy⟩ : ∃ y : Int, (0 ≤ y ∧ y ≤ 65535) ∧ ∀ w, (Instr.index 25 (.agg #[.int .u16 x, .int .u16 0, .int .u16 65535]) (.int .i64 n)).run Try.prog w = .ok (.int .u16 y) w := by
        obtain rfl | rfl | rfl : n = 0 ∨ n = 1 ∨ n = 2 := by omega
        · exact ⟨_, by omega, i0⟩
        · exact ⟨_, by omega, i1⟩
        · exact ⟨_, by omega, i2⟩
      clear i0 i1 i2
      obtain ⟨hy, hy'⟩ := hpy
      obtain ⟨wo, rfl⟩ : ∃ wo : World, wo = wr := ⟨_, rfl⟩
      have hd : decide (n < 3) = true := decide_eq_true (by omega)
      go_wp2_with fail
      go_loopw [26] (fun i wr => ∃ m : Int, 0 ≤ m ∧ m ≤ 3 ∧ i = .int .i64 m ∧ Held7 w w.heap.size s z k ac p v cy wr) (fun i _ => 3 - (intOf i).toNat)
      case atStart => exact ⟨0, by omega, by omega, rfl, F0.out⟩
      case round =>
        obtain ⟨m, hm, hm', rfl, hS⟩ := hrel
        clear F0
        by_cases h4 : m = 3
        · subst h4
          have HS := Lib.hid hS
          clear hS
          go_wp2_with fail
          go_roundw
          case rel => exact ⟨n + 1, by omega, by omega, rfl, HS.out⟩
          case measure => simp [intOf]; omega
        · have F0 := Lib.hid hS
          clear hS
          obtain ⟨c, hixc⟩ : ∃ c : Int, ∀ w, (Instr.index 26 (.agg #[.int .i64 chip, .int .i64 1, .int .i64 2]) (.int .i64 m)).run Try.prog w = .ok (.int .i64 c) w := by
            obtain rfl | rfl | rfl : m = 0 ∨ m = 1 ∨ m = 2 := by omega
            · exact ⟨_, j0⟩
            · exact ⟨_, j1⟩
            · exact ⟨_, j2⟩
          clear j0 j1 j2
          obtain ⟨F0c0, F0c1, F0c2, F0c3, F0c4, F0c5, F0c6, F0z, F0s, F0B⟩ := F0.out
          clear F0B F0s
          have F0n : ¬ w.heap.size = wr.heap.size := by omega
          go_wp2_with fail
          refine (inx_below c y _ _ _ _ _ _ _ _ _ rfl hy hy').mono ?_; rintro e u1 ⟨rfl, hu1⟩
          clear F0c0 F0c1 F0c2 F0c3 F0c4 F0c5 F0c6 F0z F0n
          have F1 : Hid (Held7 w (w.heap.size) s z k ac p v cy u1) := Lib.hid (Held7.two F0.out hu1 (by go_grown))
          clear F0 hu1
          obtain ⟨F1c0, F1c1, F1c2, F1c3, F1c4, F1c5, F1c6, F1z, F1s, F1B⟩ := F1.out
          clear F1B F1s
          have F1n : ¬ w.heap.size = u1.heap.size := by omega
          go_wp2_with fail
          refine (rinx_below c y _ _ _ _ _ _ _ _ _ rfl hy hy').mono ?_; rintro e u2 ⟨rfl, hu2⟩
          clear F1c0 F1c1 F1c2 F1c3 F1c4 F1c5 F1c6 F1z F1n
          have F2 : Hid (Held7 w (w.heap.size) s z k ac p v cy u2) := Lib.hid (Held7.two F1.out hu2 (by go_grown))
          have G2 : Hid (Held7 w (u1.heap.size) s z (cond (c == 2) (y == 65535) k) ac p v cy u2) := Lib.hid (Held7.thru hu2 (Held7.fresh F1.out))
          clear F1 hu2
          obtain ⟨F2c0, F2c1, F2c2, F2c3, F2c4, F2c5, F2c6, F2z, F2s, F2B⟩ := F2.out
          clear F2B F2s
          have F2n : ¬ w.heap.size = u2.heap.size := by omega
          obtain ⟨G2c0, G2c1, G2c2, G2c3, G2c4, G2c5, G2c6, G2z, G2s, G2B⟩ := G2.out
          clear G2B G2s
          have G2n : ¬ u1.heap.size = u2.heap.size := by omega
          go_wp2_with fail
          refine (dcx_below c y _ _ _ _ _ _ _ _ _ rfl hy hy').mono ?_; rintro e u3 ⟨rfl, hu3⟩
          clear F2c0 F2c1 F2c2 F2c3 F2c4 F2c5 F2c6 F2z F2n
          clear G2c0 G2c1 G2c2 G2c3 G2c4 G2c5 G2c6 G2z G2n
          have F3 : Hid (Held7 w (w.heap.size) s z k ac p v cy u3) := Lib.hid (Held7.two F2.out hu3 (by go_grown))
          have G3 : Hid (Held7 w (u1.heap.size) s z (cond (c == 2) (y == 65535) k) ac p v cy u3) := Lib.hid (Held7.two G2.out hu3 (by go_grown))
          have H3 : Hid (Held7 w (u2.heap.size) s z (cond (c == 2) (y == 65535) k) ac p v cy u3) := Lib.hid (Held7.thru hu3 (Held7.fresh F2.out))
          clear F2 G2 hu3
          obtain ⟨F3c0, F3c1, F3c2, F3c3, F3c4, F3c5, F3c6, F3z, F3s, F3B⟩ := F3.out
          clear F3B F3s
          have F3n : ¬ w.heap.size = u3.heap.size := by omega
          obtain ⟨G3c0, G3c1, G3c2, G3c3, G3c4, G3c5, G3c6, G3z, G3s, G3B⟩ := G3.out
          clear G3B G3s
          have G3n : ¬ u1.heap.size = u3.heap.size := by omega
          obtain ⟨H3c0, H3c1, H3c2, H3c3, H3c4, H3c5, H3c6, H3z, H3s, H3B⟩ := H3.out
          clear H3B H3s
          have H3n : ¬ u2.heap.size = u3.heap.size := by omega
          go_wp2_with fail
          refine (rdcx_below c y _ _ _ _ _ _ _ _ _ rfl hy hy').mono ?_; rintro e u4 ⟨rfl, hu4⟩
          clear F3c0 F3c1 F3c2 F3c3 F3c4 F3c5 F3c6 F3z F3n
          clear G3c0 G3c1 G3c2 G3c3 G3c4 G3c5 G3c6 G3z G3n
          clear H3c0 H3c1 H3c2 H3c3 H3c4 H3c5 H3c6 H3z H3n
          have F4 : Hid (Held7 w (w.heap.size) s z k ac p v cy u4) := Lib.hid (Held7.two F3.out hu4 (by go_grown))
          have G4 : Hid (Held7 w (u1.heap.size) s z (cond (c == 2) (y == 65535) k) ac p v cy u4) := Lib.hid (Held7.two G3.out hu4 (by go_grown))
          have H4 : Hid (Held7 w (u2.heap.size) s z (cond (c == 2) (y == 65535) k) ac p v cy u4) := Lib.hid (Held7.two H3.out hu4 (by go_grown))
          have I4 : Hid (Held7 w (u3.heap.size) s z (cond (c == 2) (y == 0) k) ac p v cy u4) := Lib.hid (Held7.thru hu4 (Held7.fresh F3.out))
          clear F3 G3 H3 hu4
          obtain ⟨F4c0, F4c1, F4c2, F4c3, F4c4, F4c5, F4c6, F4z, F4s, F4B⟩ := F4.out
          clear F4B F4s
          have F4n : ¬ w.heap.size = u4.heap.size := by omega
          obtain ⟨G4c0, G4c1, G4c2, G4c3, G4c4, G4c5, G4c6, G4z, G4s, G4B⟩ := G4.out
          clear G4B G4s
          have G4n : ¬ u1.heap.size = u4.heap.size := by omega
          obtain ⟨H4c0, H4c1, H4c2, H4c3, H4c4, H4c5, H4c6, H4z, H4s, H4B⟩ := H4.out
          clear H4B H4s
          have H4n : ¬ u2.heap.size = u4.heap.size := by omega
          obtain ⟨I4c0, I4c1, I4c2, I4c3, I4c4, I4c5, I4c6, I4z, I4s, I4B⟩ := I4.out
          clear I4B I4s
          have I4n : ¬ u3.heap.size = u4.heap.size := by omega
          go_wp2_with fail
          go_roundw
          case rel => exact ⟨m + 1, by omega, by omega, rfl, Held7.thru (by go_grown) F4.out⟩
          case measure => simp [intOf]; omega
end Go.Proofs.Ytmlghojagjcpmaa
