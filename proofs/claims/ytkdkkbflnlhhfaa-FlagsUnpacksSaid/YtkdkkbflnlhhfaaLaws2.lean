/- The walks of the laws of layer 2: each answers true. -/
import Derived.Test.YtkdkkbflnlhhfaaFlags
import Derived.Deep.RegionHeld3
namespace Go.Proofs.Ytkdkkbflnlhhfaa
open Go.RowKit
set_option linter.unusedVariables false

theorem known_any (w : World) : Calls Try.prog 10 #[] w fun e w' => e = .returned (.bool true) ∧ Below w.heap.size w w' := by
  have k1 : packB false false false false false false false false = 2 := by decide
  have k2 : packB true false true false false false false false = 64 := by decide
  have t1 : tb 255 128 = true := by decide
  have t2 : tb 255 64 = true := by decide
  have t3 : tb 255 32 = true := by decide
  have t4 : tb 255 16 = true := by decide
  have t5 : tb 255 4 = true := by decide
  have t6 : tb 255 2 = true := by decide
  have t7 : tb 255 1 = true := by decide
  go_enter Try.func10, Try.ntmps10
  go_wp2_with fail
  refine (pack_any 1 false _ _ _ _ _ _ _ _ rfl).mono ?_; rintro e w1 ⟨rfl, h1⟩
  go_wp2_with fail
  refine (pack_any 2 true _ _ _ _ _ _ _ _ rfl).mono ?_; rintro e w2 ⟨rfl, h2⟩
  go_wp2_with fail
  refine (unpack_any 2 255 true _ rfl (by omega) (by omega)).mono ?_; rintro e w3 ⟨rfl, h3⟩
  go_wp2_with fail
  go_ret
  exact ⟨rfl, thenB (thenB h1 h2) h3⟩

theorem keep77 {a w1 w2 : World} {b : Nat} {s z k ac p v cy : Bool} {b' : Nat} {s' z' k' ac' p' v' cy' : Bool} (hb : Below w1.heap.size w1 w2)
    (h : Held7 a b s z k ac p v cy w1 ∧ Held7 a b' s' z' k' ac' p' v' cy' w1) : Held7 a b s z k ac p v cy w2 ∧ Held7 a b' s' z' k' ac' p' v' cy' w2 := ⟨h.1.thru hb, h.2.thru hb⟩

theorem flagsPacks_walk (chip : Int) (s z k ac p v cy : Bool) (w : World) (wc : (Lit.int .i64 chip).wf = true) :
    Calls Try.prog 3 #[.int .i64 chip, .agg #[.bool s, .bool z, .bool k, .bool ac, .bool p, .bool v, .bool cy]] w fun e w' => e = .returned (.bool true) ∧ Below w.heap.size w w' := by
  have i0 : ∀ w, (Instr.index 24 (.agg #[.int .i64 chip, .int .i64 1, .int .i64 2]) (.int .i64 0)).run Try.prog w = .ok (.int .i64 chip) w := fun _ => by kernel_rfl
  have i1 : ∀ w, (Instr.index 24 (.agg #[.int .i64 chip, .int .i64 1, .int .i64 2]) (.int .i64 1)).run Try.prog w = .ok (.int .i64 1) w := fun _ => by kernel_rfl
  have i2 : ∀ w, (Instr.index 24 (.agg #[.int .i64 chip, .int .i64 1, .int .i64 2]) (.int .i64 2)).run Try.prog w = .ok (.int .i64 2) w := fun _ => by kernel_rfl
  go_enter Try.func3, Try.ntmps3
  go_wp2_with fail
  go_loopw [9] (fun i wr => ∃ n : Int, 0 ≤ n ∧ n ≤ 3 ∧ i = .int .i64 n ∧ Held7 w w.heap.size s z k ac p v cy wr) (fun i _ => 3 - (intOf i).toNat)
  case atStart => exact ⟨0, by omega, by omega, rfl, by simp, by simp, by simp, by simp, by simp, by simp, by simp, by simp, by simp, (Below.refl _ _).alloc (Nat.le_refl _) _⟩
  case round =>
    obtain ⟨n, hn, hn', rfl, hS⟩ := hrel
    by_cases h3 : n = 3
    · subst h3
      obtain ⟨_, _, _, _, _, _, _, hz, hs, hB⟩ := hS
      go_wp2_with fail
      refine (known_any _).mono ?_; rintro e w1 ⟨rfl, h1⟩
      go_wp2_with fail
      go_ret
      exact ⟨rfl, hB.trans (h1.mono hs)⟩
    · obtain ⟨c, hix⟩ : ∃ c, ∀ w, (Instr.index 24 (.agg #[.int .i64 chip, .int .i64 1, .int .i64 2]) (.int .i64 n)).run Try.prog w = .ok (.int .i64 c) w := by
        obtain rfl | rfl | rfl : n = 0 ∨ n = 1 ∨ n = 2 := by omega
        · exact ⟨_, i0⟩
        · exact ⟨_, i1⟩
        · exact ⟨_, i2⟩
      clear i0 i1 i2
      have HS := Lib.hid hS
      obtain ⟨c0, c1, c2, c3, c4, c5, c6, hz, hs, hB⟩ := hS
      go_wp2_with fail
      go_region_held3 (fun w' => w'.cell? ⟨w.heap.size, 0, none⟩ = some (.bool s) ∧ w'.cell? ⟨w.heap.size, 1, none⟩ = some (.bool z) ∧ w'.cell? ⟨w.heap.size, 2, none⟩ = some (.bool k) ∧ w'.cell? ⟨w.heap.size, 3, none⟩ = some (.bool ac) ∧ w'.cell? ⟨w.heap.size, 4, none⟩ = some (.bool p) ∧ w'.cell? ⟨w.heap.size, 5, none⟩ = some (.bool v) ∧ w'.cell? ⟨w.heap.size, 6, none⟩ = some (.bool cy) ∧ w.heap.size < w'.heap.size ∧ w.heap.size ≤ w'.heap.size ∧ Below w.heap.size w w') (first | exact HS.out.drew | exact Held7.thru hb (by assumption))
        (first | (go_at_call 8; refine (pack_any _ _ _ _ _ _ _ _ _ _ rfl).mono ?_; rintro e w2 ⟨rfl, hb⟩) | (go_at_call 9; refine (rpack_any _ _ _ _ _ _ _ _ _ _ rfl).mono ?_; rintro e w2 ⟨rfl, hb⟩))
      have hS2 : Held7 w w.heap.size s z k ac p v cy w2 := by assumption
      go_wp2_with fail
      go_roundw
      case rel => exact ⟨n + 1, by omega, by omega, rfl, hS2⟩
      case measure => simp [intOf]; omega

theorem flagsUnpacks_walk (chip b : Int) (w : World) (wc : (Lit.int .i64 chip).wf = true) (wb : (Lit.int .u8 b).wf = true) :
    Calls Try.prog 4 #[.int .i64 chip, .int .u8 b] w fun e w' => e = .returned (.bool true) ∧ Below w.heap.size w w' := by
  obtain ⟨hb, hb'⟩ := wf_byte wb
  have i0 : ∀ w, (Instr.index 24 (.agg #[.int .i64 chip, .int .i64 1, .int .i64 2]) (.int .i64 0)).run Try.prog w = .ok (.int .i64 chip) w := fun _ => by kernel_rfl
  have i1 : ∀ w, (Instr.index 24 (.agg #[.int .i64 chip, .int .i64 1, .int .i64 2]) (.int .i64 1)).run Try.prog w = .ok (.int .i64 1) w := fun _ => by kernel_rfl
  have i2 : ∀ w, (Instr.index 24 (.agg #[.int .i64 chip, .int .i64 1, .int .i64 2]) (.int .i64 2)).run Try.prog w = .ok (.int .i64 2) w := fun _ => by kernel_rfl
  go_enter Try.func4, Try.ntmps4
  go_wp2_with fail
  go_loopw [9] (fun i wr => ∃ n : Int, 0 ≤ n ∧ n ≤ 3 ∧ i = .int .i64 n ∧ Below w.heap.size w wr) (fun i _ => 3 - (intOf i).toNat)
  case atStart => exact ⟨0, by omega, by omega, rfl, Below.refl _ _⟩
  case round =>
    obtain ⟨n, hn, hn', rfl, hB⟩ := hrel
    by_cases h3 : n = 3
    · subst h3
      go_wp2_with fail
      refine (known_any _).mono ?_; rintro e w1 ⟨rfl, h1⟩
      go_wp2_with fail
      go_ret
      exact ⟨rfl, thenB hB h1⟩
    · obtain ⟨c, hix⟩ : ∃ c, ∀ w, (Instr.index 24 (.agg #[.int .i64 chip, .int .i64 1, .int .i64 2]) (.int .i64 n)).run Try.prog w = .ok (.int .i64 c) w := by
        obtain rfl | rfl | rfl : n = 0 ∨ n = 1 ∨ n = 2 := by omega
        · exact ⟨_, i0⟩
        · exact ⟨_, i1⟩
        · exact ⟨_, i2⟩
      clear i0 i1 i2
      go_wp2_with fail
      refine (unpack_any _ _ _ _ rfl hb hb').mono ?_; rintro e w1 ⟨rfl, h1⟩
      go_wp2_with fail
      refine (runpack_any _ _ _ _ rfl hb hb').mono ?_; rintro e w2 ⟨rfl, h2⟩
      go_wp2_with fail
      go_roundw
      case rel => exact ⟨n + 1, by omega, by omega, rfl, thenB (thenB hB h1) h2⟩
      case measure => simp [intOf]; omega

theorem flagsBits_walk (b : Int) (w : World) (wb : (Lit.int .u8 b).wf = true) :
    Calls Try.prog 6 #[.int .u8 b] w fun e w' => e = .returned (.bool true) ∧ Below w.heap.size w w' := by
  obtain ⟨hb, hb'⟩ := wf_byte wb
  obtain ⟨e1, e2⟩ := same80_int b hb hb'
  obtain ⟨e3, e4⟩ := same85_int b hb hb'
  go_enter Try.func6, Try.ntmps6
  go_wp2_with fail
  refine (unpack_any 1 _ false _ rfl hb hb').mono ?_; rintro e w1 ⟨rfl, h1⟩
  go_wp2_with fail
  refine (pack_any 1 false _ _ _ _ _ _ _ _ rfl).mono ?_; rintro e w2 ⟨rfl, h2⟩
  go_wp2_with fail
  refine (unpack_any 2 _ true _ rfl hb hb').mono ?_; rintro e w3 ⟨rfl, h3⟩
  go_wp2_with fail
  refine (pack_any 2 true _ _ _ _ _ _ _ _ rfl).mono ?_; rintro e w4 ⟨rfl, h4⟩
  go_wp2_with fail
  refine (known_any _).mono ?_; rintro e w5 ⟨rfl, h5⟩
  go_wp2_with fail
  go_ret
  exact ⟨rfl, thenB (thenB (thenB (thenB h1 h2) h3) h4) h5⟩

theorem flagsRoundTrips_walk (s z k ac p v cy : Bool) (w : World) :
    Calls Try.prog 5 #[.agg #[.bool s, .bool z, .bool k, .bool ac, .bool p, .bool v, .bool cy]] w fun e w' => e = .returned (.bool true) ∧ Below w.heap.size w w' := by
  have b1 := back_s true s z k ac p v cy
  have b2 := back_z true s z k ac p v cy
  have b3 := back_k true s z k ac p v cy
  have b4 := back_ac true s z k ac p v cy
  have b5 := back_p true s z k ac p v cy
  have b6 := back_v true s z k ac p v cy
  have b7 := back_cy true s z k ac p v cy
  have c1 := back_s false s z k ac p v cy
  have c2 := back_z false s z k ac p v cy
  have c4 := back_ac false s z k ac p v cy
  have c5 := back_p false s z k ac p v cy
  have c7 := back_cy false s z k ac p v cy
  have l1 := packB_lo true s z k ac p v cy
  have l2 := packB_hi true s z k ac p v cy
  have l3 := packB_lo false s z k ac p v cy
  have l4 := packB_hi false s z k ac p v cy
  simp only [Bool.true_and, Bool.not_true, Bool.false_or] at b3 b6
  go_enter Try.func5, Try.ntmps5
  go_wp2_with fail
  go_region_held3 (fun w' => (w'.cell? ⟨w.heap.size, 0, none⟩ = some (.bool s) ∧ w'.cell? ⟨w.heap.size, 1, none⟩ = some (.bool z) ∧ w'.cell? ⟨w.heap.size, 2, none⟩ = some (.bool k) ∧ w'.cell? ⟨w.heap.size, 3, none⟩ = some (.bool ac) ∧ w'.cell? ⟨w.heap.size, 4, none⟩ = some (.bool p) ∧ w'.cell? ⟨w.heap.size, 5, none⟩ = some (.bool v) ∧ w'.cell? ⟨w.heap.size, 6, none⟩ = some (.bool cy) ∧ w.heap.size < w'.heap.size ∧ w.heap.size ≤ w'.heap.size ∧ Below w.heap.size w w') ∧ (w'.cell? ⟨w.heap.size + 1, 0, none⟩ = some (.bool s) ∧ w'.cell? ⟨w.heap.size + 1, 1, none⟩ = some (.bool z) ∧ w'.cell? ⟨w.heap.size + 1, 2, none⟩ = some (.bool false) ∧ w'.cell? ⟨w.heap.size + 1, 3, none⟩ = some (.bool ac) ∧ w'.cell? ⟨w.heap.size + 1, 4, none⟩ = some (.bool p) ∧ w'.cell? ⟨w.heap.size + 1, 5, none⟩ = some (.bool false) ∧ w'.cell? ⟨w.heap.size + 1, 6, none⟩ = some (.bool cy) ∧ w.heap.size + 1 < w'.heap.size ∧ w.heap.size ≤ w'.heap.size ∧ Below w.heap.size w w')) (first | exact ⟨⟨by simp, by simp, by simp, by simp, by simp, by simp, by simp, by go_size, by go_size, by go_grown⟩, ⟨by simp, by simp, by simp, by simp, by simp, by simp, by simp, by go_size, by go_size, by go_grown⟩⟩ | exact keep77 hb (by assumption))
    (first | (go_at_call 8; refine (pack_any _ _ _ _ _ _ _ _ _ _ rfl).mono ?_; rintro e w2 ⟨rfl, hb⟩) | (go_at_call 11; refine (unpack_any _ _ _ _ rfl (by omega) (by omega)).mono ?_; rintro e w2 ⟨rfl, hb⟩) | (go_at_call 10; refine (known_any _).mono ?_; rintro e w2 ⟨rfl, hb⟩))
  all_goals
    go_wp2_with fail
    go_ret
    exact ⟨rfl, by
      have hh : Held7 w (w.heap.size + 1) s z false ac p false cy _ := (And.right (by assumption))
      exact hh.2.2.2.2.2.2.2.2.2⟩

set_option maxHeartbeats 1000000 in
theorem flagsOf_walk (r : Int) (w : World) (wb : (Lit.int .u8 r).wf = true) :
    Calls Try.prog 7 #[.int .u8 r] w fun e w' => e = .returned (.bool true) ∧ Below w.heap.size w w' := by
  obtain ⟨hb, hb'⟩ := wf_byte wb
  obtain ⟨S, Z, P, hS, hZ, hP, hSZ⟩ : ∃ S Z P, decide (128 ≤ r) = S ∧ (r == 0) = Z ∧ par r = P ∧ ((S = false ∧ Z = true ∧ P = true) ∨ (S = true ∧ Z = false) ∨ (S = false ∧ Z = false)) := by
    refine ⟨_, _, _, rfl, rfl, rfl, ?_⟩
    by_cases h0 : r = 0
    · subst h0; exact .inl ⟨rfl, rfl, by decide⟩
    · by_cases h1 : 128 ≤ r
      · exact .inr (.inl ⟨by simpa using h1, by simpa using h0⟩)
      · exact .inr (.inr ⟨by simpa using h1, by simpa using h0⟩)
  rcases hSZ with ⟨rfl, rfl, rfl⟩ | ⟨rfl, rfl⟩ | ⟨rfl, rfl⟩
  · go_enter Try.func7, Try.ntmps7
    go_wp2_with fail
    refine (of_any _ _ hb hb').mono ?_; rintro e w1 ⟨rfl, h1⟩
    go_wp2_with fail
    first | (go_region_with (first | (go_at_call 14; refine (rof_any _ _ hb hb').mono ?_; rintro e w2 ⟨rfl, hq⟩; obtain ⟨hc, hf, hz, hB⟩ := thru hq) | (go_at_call 10; refine (known_any _).mono ?_; rintro e w3 ⟨rfl, hk⟩))) | fail
    all_goals
      go_wp2_with fail
      go_ret
      exact ⟨rfl, thenB h1 (thenB (thenB (by go_grown) hq) hk)⟩
  · go_enter Try.func7, Try.ntmps7
    go_wp2_with fail
    refine (of_any _ _ hb hb').mono ?_; rintro e w1 ⟨rfl, h1⟩
    go_wp2_with fail
    first | (go_region_with (first | (go_at_call 14; refine (rof_any _ _ hb hb').mono ?_; rintro e w2 ⟨rfl, hq⟩; obtain ⟨hc, hf, hz, hB⟩ := thru hq) | (go_at_call 10; refine (known_any _).mono ?_; rintro e w3 ⟨rfl, hk⟩))) | fail
    all_goals
      go_wp2_with fail
      go_ret
      exact ⟨rfl, thenB h1 (thenB (thenB (by go_grown) hq) hk)⟩
  · go_enter Try.func7, Try.ntmps7
    go_wp2_with fail
    refine (of_any _ _ hb hb').mono ?_; rintro e w1 ⟨rfl, h1⟩
    go_wp2_with fail
    first | (go_region_with (first | (go_at_call 14; refine (rof_any _ _ hb hb').mono ?_; rintro e w2 ⟨rfl, hq⟩; obtain ⟨hc, hf, hz, hB⟩ := thru hq) | (go_at_call 10; refine (known_any _).mono ?_; rintro e w3 ⟨rfl, hk⟩))) | fail
    all_goals
      go_wp2_with fail
      go_ret
      exact ⟨rfl, thenB h1 (thenB (thenB (by go_grown) hq) hk)⟩
end Go.Proofs.Ytkdkkbflnlhhfaa
