/- The walk of the law DecimalLong. -/
import Derived.Test.YtafbcghmbdfdoaaLaws6
namespace Go.Proofs.Ytafbcghmbdfdoaa
open Go.RowKit
set_option linter.unusedVariables false

/-- A local variable of flags in block b: its cells, and that they may be stored to. -/
def Loc (A : World) (b : Nat) (s z k ac p v cy : Bool) (w' : World) : Prop := Held7 A b s z k ac p v cy w' ∧ A.heap.size ≤ b ∧ ∀ o, w'.frozen? ⟨b, o, none⟩ = false
theorem Loc.thru {A w1 w2 : World} {b : Nat} {s z k ac p v cy : Bool} (hb : Below w1.heap.size w1 w2) (h : Loc A b s z k ac p v cy w1) : Loc A b s z k ac p v cy w2 :=
  ⟨h.1.thru hb, h.2.1, fun o => ((bcell hb).2 _ _ h.1.2.2.2.2.2.2.2.1).trans (h.2.2 o)⟩
theorem Loc.box {A w : World} {t : Nat} (s z k ac p v cy : Bool) (hs : A.heap.size ≤ w.heap.size) (hB : Below A.heap.size A w) : Loc A w.heap.size s z k ac p v cy (w.alloc (.cells #[.bool s, .bool z, .bool k, .bool ac, .bool p, .bool v, .bool cy] t)) :=
  ⟨⟨by simp, by simp, by simp, by simp, by simp, by simp, by simp, by simp, by simp; omega, hB.alloc hs _⟩, hs, fun o => by simp⟩
theorem Loc.store {A w' : World} {b : Nat} {s z k ac p v cy : Bool} (s' z' k' ac' p' v' cy' : Bool) (h : Loc A b s z k ac p v cy w') :
    Loc A b s' z' k' ac' p' v' cy' (((((((w'.setCell ⟨b, 0, none⟩ (.bool s')).setCell ⟨b, 1, none⟩ (.bool z')).setCell ⟨b, 2, none⟩ (.bool k')).setCell ⟨b, 3, none⟩ (.bool ac')).setCell ⟨b, 4, none⟩ (.bool p')).setCell ⟨b, 5, none⟩ (.bool v')).setCell ⟨b, 6, none⟩ (.bool cy')) := by
  obtain ⟨⟨c0, c1, c2, c3, c4, c5, c6, hz, hs, hB⟩, hA, hf⟩ := h
  have hB' : Below A.heap.size A (((((((w'.setCell ⟨b, 0, none⟩ (.bool s')).setCell ⟨b, 1, none⟩ (.bool z')).setCell ⟨b, 2, none⟩ (.bool k')).setCell ⟨b, 3, none⟩ (.bool ac')).setCell ⟨b, 4, none⟩ (.bool p')).setCell ⟨b, 5, none⟩ (.bool v')).setCell ⟨b, 6, none⟩ (.bool cy')) :=
    ((((((hB.setCell hA _).setCell hA _).setCell hA _).setCell hA _).setCell hA _).setCell hA _).setCell hA _
  refine ⟨⟨?_, ?_, ?_, ?_, ?_, ?_, ?_, ?_, ?_, hB'⟩, hA, fun o => ?_⟩
  all_goals first | (simp [World.cell?_setCell_other, World.cell?_setCell_same', c0, c1, c2, c3, c4, c5, c6]; done) | (simpa using hf o) | (simpa [World.setCell] using hz) | (simpa [World.setCell] using hs)

/-- The power of 100 of a round. -/
def PW (k p : Int) : Prop := (k = 0 ∧ p = 1) ∨ (k = 1 ∧ p = 100) ∨ (k = 2 ∧ p = 10000) ∨ (k = 3 ∧ p = 1000000) ∨ (k = 4 ∧ p = 100000000)
/-- What holds of the numbers at a round's head. -/
def LongRel (m n k S p A B : Int) (c : Bool) : Prop := PW k p ∧ 0 ≤ A ∧ 0 ≤ B ∧ 0 ≤ S ∧ ∃ x y, m = A * p + x ∧ n = B * p + y ∧ 0 ≤ x ∧ x < p ∧ 0 ≤ y ∧ y < p ∧ S + p * b2i c = x + y
def LongVals (A : World) (b : Nat) (m n : Int) (vs vp vi va vb : Value) (wr : World) : Prop :=
  ∃ (k S p X Y : Int) (s z kf ac pf v cy : Bool), vs = .int .i64 S ∧ vp = .int .i64 p ∧ vi = .int .i64 k ∧ va = .int .i64 X ∧ vb = .int .i64 Y ∧ LongRel m n k S p X Y cy ∧ Loc A b s z kf ac pf v cy wr

/-- One addition of two decimal digits each. -/
theorem round_plain (M N : Int) (c : Bool) (h : 0 ≤ M) (h' : M < 100) (k : 0 ≤ N) (k' : N < 100) :
    ∃ (AL AH : Bool) (R T : Int), IsLo (sumR (bcd M) (bcd N) c) (sumH (bcd M) (bcd N) c) AL ∧ IsHi (sumR (bcd M) (bcd N) c) (sumO (bcd M) (bcd N) c) AH ∧
      daaR (sumR (bcd M) (bcd N) c) AL AH = R ∧ 0 ≤ R ∧ R ≤ 255 ∧ 0 ≤ T ∧ T < 100 ∧ R / 16 * 10 + R % 16 = T ∧ T = (M + N + b2i c) % 100 ∧ AH = decide (99 < M + N + b2i c) := by
  obtain ⟨K1, K2⟩ := add_int M N c h h' k k'
  have := b2i_lo c
  have := b2i_hi c
  exact ⟨addL M N c, addH M N c, _, _, isLo_of _ _, isHi_of _ _, K1, by omega, by omega, by omega, by omega, by omega, rfl, K2⟩

theorem b2i_dec (T : Int) (h : 0 ≤ T) (h' : T < 200) : b2i (decide (99 < T)) = T / 100 := by
  unfold b2i; by_cases q : 99 < T <;> simp [q] <;> omega

theorem long_next0 {m n S X Y x0 y0 M N T : Int} {cy AH : Bool} (hP : PW 1 100) (hX : 0 ≤ X) (hY : 0 ≤ Y) (hS : 0 ≤ S)
    (hp : m = X * 1 + x0 ∧ n = Y * 1 + y0 ∧ S + 1 * b2i cy = x0 + y0 ∧ 0 ≤ x0 ∧ x0 < 1 ∧ 0 ≤ y0 ∧ y0 < 1) (m1 : X % 100 = M) (n1 : Y % 100 = N)
    (ht : T = (M + N + b2i cy) % 100 ∧ AH = decide (99 < M + N + b2i cy)) : LongRel m n 1 (S + T) 100 (X / 100) (Y / 100) AH := by
  obtain ⟨e1, e2, e3, x1, x2, y1, y2⟩ := hp
  obtain ⟨hT, hA⟩ := ht
  have b1 := b2i_lo cy
  have b2 := b2i_hi cy
  have k4 : b2i AH = (M + N + b2i cy) / 100 := by rw [hA]; exact b2i_dec _ (by omega) (by omega)
  exact ⟨hP, by omega, by omega, by omega, M * 1 + x0, N * 1 + y0, by omega, by omega, by omega, by omega, by omega, by omega, by omega⟩
theorem long_next1 {m n S X Y x0 y0 M N T : Int} {cy AH : Bool} (hP : PW 2 10000) (hX : 0 ≤ X) (hY : 0 ≤ Y) (hS : 0 ≤ S)
    (hp : m = X * 100 + x0 ∧ n = Y * 100 + y0 ∧ S + 100 * b2i cy = x0 + y0 ∧ 0 ≤ x0 ∧ x0 < 100 ∧ 0 ≤ y0 ∧ y0 < 100) (m1 : X % 100 = M) (n1 : Y % 100 = N)
    (ht : T = (M + N + b2i cy) % 100 ∧ AH = decide (99 < M + N + b2i cy)) : LongRel m n 2 (S + 100 * T) 10000 (X / 100) (Y / 100) AH := by
  obtain ⟨e1, e2, e3, x1, x2, y1, y2⟩ := hp
  obtain ⟨hT, hA⟩ := ht
  have b1 := b2i_lo cy
  have b2 := b2i_hi cy
  have k4 : b2i AH = (M + N + b2i cy) / 100 := by rw [hA]; exact b2i_dec _ (by omega) (by omega)
  exact ⟨hP, by omega, by omega, by omega, M * 100 + x0, N * 100 + y0, by omega, by omega, by omega, by omega, by omega, by omega, by omega⟩
theorem long_next2 {m n S X Y x0 y0 M N T : Int} {cy AH : Bool} (hP : PW 3 1000000) (hX : 0 ≤ X) (hY : 0 ≤ Y) (hS : 0 ≤ S)
    (hp : m = X * 10000 + x0 ∧ n = Y * 10000 + y0 ∧ S + 10000 * b2i cy = x0 + y0 ∧ 0 ≤ x0 ∧ x0 < 10000 ∧ 0 ≤ y0 ∧ y0 < 10000) (m1 : X % 100 = M) (n1 : Y % 100 = N)
    (ht : T = (M + N + b2i cy) % 100 ∧ AH = decide (99 < M + N + b2i cy)) : LongRel m n 3 (S + 10000 * T) 1000000 (X / 100) (Y / 100) AH := by
  obtain ⟨e1, e2, e3, x1, x2, y1, y2⟩ := hp
  obtain ⟨hT, hA⟩ := ht
  have b1 := b2i_lo cy
  have b2 := b2i_hi cy
  have k4 : b2i AH = (M + N + b2i cy) / 100 := by rw [hA]; exact b2i_dec _ (by omega) (by omega)
  exact ⟨hP, by omega, by omega, by omega, M * 10000 + x0, N * 10000 + y0, by omega, by omega, by omega, by omega, by omega, by omega, by omega⟩
theorem long_next3 {m n S X Y x0 y0 M N T : Int} {cy AH : Bool} (hP : PW 4 100000000) (hX : 0 ≤ X) (hY : 0 ≤ Y) (hS : 0 ≤ S)
    (hp : m = X * 1000000 + x0 ∧ n = Y * 1000000 + y0 ∧ S + 1000000 * b2i cy = x0 + y0 ∧ 0 ≤ x0 ∧ x0 < 1000000 ∧ 0 ≤ y0 ∧ y0 < 1000000) (m1 : X % 100 = M) (n1 : Y % 100 = N)
    (ht : T = (M + N + b2i cy) % 100 ∧ AH = decide (99 < M + N + b2i cy)) : LongRel m n 4 (S + 1000000 * T) 100000000 (X / 100) (Y / 100) AH := by
  obtain ⟨e1, e2, e3, x1, x2, y1, y2⟩ := hp
  obtain ⟨hT, hA⟩ := ht
  have b1 := b2i_lo cy
  have b2 := b2i_hi cy
  have k4 : b2i AH = (M + N + b2i cy) / 100 := by rw [hA]; exact b2i_dec _ (by omega) (by omega)
  exact ⟨hP, by omega, by omega, by omega, M * 1000000 + x0, N * 1000000 + y0, by omega, by omega, by omega, by omega, by omega, by omega, by omega⟩

set_option maxHeartbeats 4000000 in
theorem decimalLong_walk (l : Option Addr) (len cap : Nat) (zs : List Int) (x y : Int) (w : World) (wl : IsRow .i64 w l len cap zs) (wx : (Lit.int .i64 x).wf = true) (wy : (Lit.int .i64 y).wf = true) :
    Calls Try.prog 6 #[.slice l len cap, .int .i64 x, .int .i64 y] w fun e w' => e = .returned (.bool true) ∧ Below w.heap.size w w' := by
  have l1 := placeN_lo x 100000000 (by omega)
  have l2 := placeN_hi x 100000000 (by omega)
  have r1 := placeN_lo y 100000000 (by omega)
  have r2 := placeN_hi y 100000000 (by omega)
  have WL := Lib.hid wl
  clear wl
  go_enter Try.func6, Try.ntmps6
  go_wp2_with fail
  refine (from_any _ _ _ _).mono ?_; rintro e w1 ⟨rfl, rfl⟩
  go_wp2_with fail
  refine (chip_gen _ l len cap zs w _ (by go_size) WL.out (by go_grown) (by simp) (by simp) (by simp)).mono ?_; rintro e w2 ⟨⟨ch, hc, rfl⟩, hq⟩
  have HQ : Hid (Below w.heap.size w w2) := Lib.hid (((Below.refl w.heap.size w).alloc (Nat.le_refl _) _).trans (onlyBelow hq (by simp)))
  clear hq
  go_wp2_with fail
  refine (place_any x 100000000 _ (by omega) (by omega)).mono ?_; rintro e w' ⟨rfl, rfl⟩
  go_wp2_with fail
  refine (place_any y 100000000 _ (by omega) (by omega)).mono ?_; rintro e w' ⟨rfl, rfl⟩
  generalize placeN x 100000000 = m at *
  generalize placeN y 100000000 = n at *
  go_wp2_with fail
  go_loopw [11, 12, 13, 14, 15] (fun vs vp vi va vb wr => LongVals w w2.heap.size m n vs vp vi va vb wr) (fun _ _ vi _ _ _ => (4 - intOf vi).toNat)
  case atStart =>
    refine ⟨0, 0, 1, m, n, _, _, _, _, _, _, _, rfl, rfl, rfl, rfl, rfl, ⟨.inl ⟨rfl, rfl⟩, l1, r1, by omega, 0, 0, by omega, by omega, by omega, by omega, by omega, by omega, ?_⟩, Loc.box _ _ _ _ _ _ _ HQ.out.size HQ.out⟩
    simp [b2i]
  case round =>
    obtain ⟨k, S, p, X, Y, s, z, kf, ac, pf, v, cy, rfl, rfl, rfl, rfl, rfl, ⟨hP, hX, hY, hS, x0, y0, e1, e2, x1, x2, y1, y2, e3⟩, hL⟩ := hrel
    have t3 := b2i_lo cy
    have t4 := b2i_hi cy
    have HL := Lib.hid hL
    obtain ⟨⟨c0, c1, c2, c3, c4, c5, c6, hz, hs, hB⟩, hA, hf⟩ := hL
    clear hB hs hA
    unfold PW at hP
    have f0 := hf 0
    have f1 := hf 1
    have f2 := hf 2
    have f3 := hf 3
    have f4 := hf 4
    have f5 := hf 5
    have f6 := hf 6
    clear hf
    rcases hP with ⟨rfl, rfl⟩ | ⟨rfl, rfl⟩ | ⟨rfl, rfl⟩ | ⟨rfl, rfl⟩ | ⟨rfl, rfl⟩
    · have hX' : X < 100000000 := by omega
      have hY' : Y < 100000000 := by omega
      have hS' : S < 2 := by omega
      have HP := Lib.hid (And.intro e1 (And.intro e2 (And.intro e3 (And.intro x1 (And.intro x2 (And.intro y1 y2))))))
      clear e1 e2 e3 x1 x2 y1 y2
      obtain ⟨M, m1⟩ : ∃ M, X % 100 = M := ⟨_, rfl⟩
      obtain ⟨U, m2⟩ : ∃ U, X % 10 = U := ⟨_, rfl⟩
      obtain ⟨N, n1⟩ : ∃ N, Y % 100 = N := ⟨_, rfl⟩
      obtain ⟨V, n2⟩ : ∃ V, Y % 10 = V := ⟨_, rfl⟩
      have d0 : 0 ≤ M := by omega
      have d1 : M < 100 := by omega
      have d2 : 0 ≤ N := by omega
      have d3 : N < 100 := by omega
      have u0 : 0 ≤ U := by omega
      have u1 : U < 10 := by omega
      have u2 : 0 ≤ V := by omega
      have u3 : V < 10 := by omega
      have hU : U = M % 10 := by omega
      have hV : V = N % 10 := by omega
      have b0 : M / 10 * 16 + U = bcd M := by rw [hU]; rfl
      have b1 : N / 10 * 16 + V = bcd N := by rw [hV]; rfl
      clear hU hV
      have s1 := bcd_lo M d0
      have s2 := bcd_hi M d0 d1
      have s3 := bcd_lo N d2
      have s4 := bcd_hi N d2 d3
      obtain ⟨AL, AH, R, T, hL, hH, hR, R0, R1, T0, T1, hRT, hT, hAH⟩ := round_plain M N cy d0 d1 d2 d3
      have HLo := Lib.hid hL
      have HHi := Lib.hid hH
      have HT := Lib.hid (And.intro hT hAH)
      clear hL hH hT hAH
      generalize bcd M = BM at *
      generalize bcd N = BN at *
      have t1 := sumR_lo BM BN cy
      have t2 := sumR_hi BM BN cy
      have q1 : aA 1 BM BN cy = sumR BM BN cy := rfl
      have q2 : aH 1 BM BN cy (ch == 2) = sumH BM BN cy := rfl
      have q3 : aO 1 BM BN cy = sumO BM BN cy := rfl
      go_wp2_with fail
      refine (do_1 ch 1 BM BN _ _ _ _ _ _ _ cy _ rfl (and7 1 (by omega) (by omega)) s1 s2 s3 s4).mono ?_; rintro e w3 ⟨rfl, h3⟩
      clear c0 c1 c2 c3 c4 c5 c6 f0 f1 f2 f3 f4 f5 f6 hz
      have L3 := Lib.hid (Loc.thru h3 HL.out)
      clear HL h3
      go_wp2_with fail
      refine (daa_any ch _ AL AH _ _ _ _ _ _ _ _ _ rfl t1 t2 HLo.out HHi.out).mono ?_; rintro e w4 ⟨rfl, h4⟩
      have L4 := Lib.hid (Loc.thru h4 (Loc.thru ((Below.refl _ _).alloc (Nat.le_refl _) _) L3.out))
      clear L3 h4 HLo HHi
      obtain ⟨⟨c0, c1, c2, c3, c4, c5, c6, hz, hs, hB⟩, hA, hf⟩ := L4.out
      clear hB hs hA
      have f0 := hf 0
      have f1 := hf 1
      have f2 := hf 2
      have f3 := hf 3
      have f4 := hf 4
      have f5 := hf 5
      have f6 := hf 6
      clear hf s1 s2 s3 s4 b0 b1 t1 t2 q1 q2 q3
      go_wp2_with fail
      exact ⟨⟨1, _, 100, X / 100, Y / 100, _, _, _, _, _, _, AH, rfl, rfl, rfl, rfl, rfl, long_next0 (.inr (.inl ⟨rfl, rfl⟩)) hX hY hS HP.out m1 n1 HT.out, Loc.thru ((Below.refl _ _).alloc (Nat.le_refl _) _) (Loc.store _ _ _ _ _ _ _ L4.out)⟩, by decide⟩
    · have hX' : X < 1000000 := by omega
      have hY' : Y < 1000000 := by omega
      have hS' : S < 200 := by omega
      have HP := Lib.hid (And.intro e1 (And.intro e2 (And.intro e3 (And.intro x1 (And.intro x2 (And.intro y1 y2))))))
      clear e1 e2 e3 x1 x2 y1 y2
      obtain ⟨M, m1⟩ : ∃ M, X % 100 = M := ⟨_, rfl⟩
      obtain ⟨U, m2⟩ : ∃ U, X % 10 = U := ⟨_, rfl⟩
      obtain ⟨N, n1⟩ : ∃ N, Y % 100 = N := ⟨_, rfl⟩
      obtain ⟨V, n2⟩ : ∃ V, Y % 10 = V := ⟨_, rfl⟩
      have d0 : 0 ≤ M := by omega
      have d1 : M < 100 := by omega
      have d2 : 0 ≤ N := by omega
      have d3 : N < 100 := by omega
      have u0 : 0 ≤ U := by omega
      have u1 : U < 10 := by omega
      have u2 : 0 ≤ V := by omega
      have u3 : V < 10 := by omega
      have hU : U = M % 10 := by omega
      have hV : V = N % 10 := by omega
      have b0 : M / 10 * 16 + U = bcd M := by rw [hU]; rfl
      have b1 : N / 10 * 16 + V = bcd N := by rw [hV]; rfl
      clear hU hV
      have s1 := bcd_lo M d0
      have s2 := bcd_hi M d0 d1
      have s3 := bcd_lo N d2
      have s4 := bcd_hi N d2 d3
      obtain ⟨AL, AH, R, T, hL, hH, hR, R0, R1, T0, T1, hRT, hT, hAH⟩ := round_plain M N cy d0 d1 d2 d3
      have HLo := Lib.hid hL
      have HHi := Lib.hid hH
      have HT := Lib.hid (And.intro hT hAH)
      clear hL hH hT hAH
      generalize bcd M = BM at *
      generalize bcd N = BN at *
      have t1 := sumR_lo BM BN cy
      have t2 := sumR_hi BM BN cy
      have q1 : aA 1 BM BN cy = sumR BM BN cy := rfl
      have q2 : aH 1 BM BN cy (ch == 2) = sumH BM BN cy := rfl
      have q3 : aO 1 BM BN cy = sumO BM BN cy := rfl
      go_wp2_with fail
      refine (do_1 ch 1 BM BN _ _ _ _ _ _ _ cy _ rfl (and7 1 (by omega) (by omega)) s1 s2 s3 s4).mono ?_; rintro e w3 ⟨rfl, h3⟩
      clear c0 c1 c2 c3 c4 c5 c6 f0 f1 f2 f3 f4 f5 f6 hz
      have L3 := Lib.hid (Loc.thru h3 HL.out)
      clear HL h3
      go_wp2_with fail
      refine (daa_any ch _ AL AH _ _ _ _ _ _ _ _ _ rfl t1 t2 HLo.out HHi.out).mono ?_; rintro e w4 ⟨rfl, h4⟩
      have L4 := Lib.hid (Loc.thru h4 (Loc.thru ((Below.refl _ _).alloc (Nat.le_refl _) _) L3.out))
      clear L3 h4 HLo HHi
      obtain ⟨⟨c0, c1, c2, c3, c4, c5, c6, hz, hs, hB⟩, hA, hf⟩ := L4.out
      clear hB hs hA
      have f0 := hf 0
      have f1 := hf 1
      have f2 := hf 2
      have f3 := hf 3
      have f4 := hf 4
      have f5 := hf 5
      have f6 := hf 6
      clear hf s1 s2 s3 s4 b0 b1 t1 t2 q1 q2 q3
      go_wp2_with fail
      exact ⟨⟨2, _, 10000, X / 100, Y / 100, _, _, _, _, _, _, AH, rfl, rfl, rfl, rfl, rfl, long_next1 (.inr (.inr (.inl ⟨rfl, rfl⟩))) hX hY hS HP.out m1 n1 HT.out, Loc.thru ((Below.refl _ _).alloc (Nat.le_refl _) _) (Loc.store _ _ _ _ _ _ _ L4.out)⟩, by decide⟩
    · have hX' : X < 10000 := by omega
      have hY' : Y < 10000 := by omega
      have hS' : S < 20000 := by omega
      have HP := Lib.hid (And.intro e1 (And.intro e2 (And.intro e3 (And.intro x1 (And.intro x2 (And.intro y1 y2))))))
      clear e1 e2 e3 x1 x2 y1 y2
      obtain ⟨M, m1⟩ : ∃ M, X % 100 = M := ⟨_, rfl⟩
      obtain ⟨U, m2⟩ : ∃ U, X % 10 = U := ⟨_, rfl⟩
      obtain ⟨N, n1⟩ : ∃ N, Y % 100 = N := ⟨_, rfl⟩
      obtain ⟨V, n2⟩ : ∃ V, Y % 10 = V := ⟨_, rfl⟩
      have d0 : 0 ≤ M := by omega
      have d1 : M < 100 := by omega
      have d2 : 0 ≤ N := by omega
      have d3 : N < 100 := by omega
      have u0 : 0 ≤ U := by omega
      have u1 : U < 10 := by omega
      have u2 : 0 ≤ V := by omega
      have u3 : V < 10 := by omega
      have hU : U = M % 10 := by omega
      have hV : V = N % 10 := by omega
      have b0 : M / 10 * 16 + U = bcd M := by rw [hU]; rfl
      have b1 : N / 10 * 16 + V = bcd N := by rw [hV]; rfl
      clear hU hV
      have s1 := bcd_lo M d0
      have s2 := bcd_hi M d0 d1
      have s3 := bcd_lo N d2
      have s4 := bcd_hi N d2 d3
      obtain ⟨AL, AH, R, T, hL, hH, hR, R0, R1, T0, T1, hRT, hT, hAH⟩ := round_plain M N cy d0 d1 d2 d3
      have HLo := Lib.hid hL
      have HHi := Lib.hid hH
      have HT := Lib.hid (And.intro hT hAH)
      clear hL hH hT hAH
      generalize bcd M = BM at *
      generalize bcd N = BN at *
      have t1 := sumR_lo BM BN cy
      have t2 := sumR_hi BM BN cy
      have q1 : aA 1 BM BN cy = sumR BM BN cy := rfl
      have q2 : aH 1 BM BN cy (ch == 2) = sumH BM BN cy := rfl
      have q3 : aO 1 BM BN cy = sumO BM BN cy := rfl
      go_wp2_with fail
      refine (do_1 ch 1 BM BN _ _ _ _ _ _ _ cy _ rfl (and7 1 (by omega) (by omega)) s1 s2 s3 s4).mono ?_; rintro e w3 ⟨rfl, h3⟩
      clear c0 c1 c2 c3 c4 c5 c6 f0 f1 f2 f3 f4 f5 f6 hz
      have L3 := Lib.hid (Loc.thru h3 HL.out)
      clear HL h3
      go_wp2_with fail
      refine (daa_any ch _ AL AH _ _ _ _ _ _ _ _ _ rfl t1 t2 HLo.out HHi.out).mono ?_; rintro e w4 ⟨rfl, h4⟩
      have L4 := Lib.hid (Loc.thru h4 (Loc.thru ((Below.refl _ _).alloc (Nat.le_refl _) _) L3.out))
      clear L3 h4 HLo HHi
      obtain ⟨⟨c0, c1, c2, c3, c4, c5, c6, hz, hs, hB⟩, hA, hf⟩ := L4.out
      clear hB hs hA
      have f0 := hf 0
      have f1 := hf 1
      have f2 := hf 2
      have f3 := hf 3
      have f4 := hf 4
      have f5 := hf 5
      have f6 := hf 6
      clear hf s1 s2 s3 s4 b0 b1 t1 t2 q1 q2 q3
      go_wp2_with fail
      exact ⟨⟨3, _, 1000000, X / 100, Y / 100, _, _, _, _, _, _, AH, rfl, rfl, rfl, rfl, rfl, long_next2 (.inr (.inr (.inr (.inl ⟨rfl, rfl⟩)))) hX hY hS HP.out m1 n1 HT.out, Loc.thru ((Below.refl _ _).alloc (Nat.le_refl _) _) (Loc.store _ _ _ _ _ _ _ L4.out)⟩, by decide⟩
    · have hX' : X < 100 := by omega
      have hY' : Y < 100 := by omega
      have hS' : S < 2000000 := by omega
      have HP := Lib.hid (And.intro e1 (And.intro e2 (And.intro e3 (And.intro x1 (And.intro x2 (And.intro y1 y2))))))
      clear e1 e2 e3 x1 x2 y1 y2
      obtain ⟨M, m1⟩ : ∃ M, X % 100 = M := ⟨_, rfl⟩
      obtain ⟨U, m2⟩ : ∃ U, X % 10 = U := ⟨_, rfl⟩
      obtain ⟨N, n1⟩ : ∃ N, Y % 100 = N := ⟨_, rfl⟩
      obtain ⟨V, n2⟩ : ∃ V, Y % 10 = V := ⟨_, rfl⟩
      have d0 : 0 ≤ M := by omega
      have d1 : M < 100 := by omega
      have d2 : 0 ≤ N := by omega
      have d3 : N < 100 := by omega
      have u0 : 0 ≤ U := by omega
      have u1 : U < 10 := by omega
      have u2 : 0 ≤ V := by omega
      have u3 : V < 10 := by omega
      have hU : U = M % 10 := by omega
      have hV : V = N % 10 := by omega
      have b0 : M / 10 * 16 + U = bcd M := by rw [hU]; rfl
      have b1 : N / 10 * 16 + V = bcd N := by rw [hV]; rfl
      clear hU hV
      have s1 := bcd_lo M d0
      have s2 := bcd_hi M d0 d1
      have s3 := bcd_lo N d2
      have s4 := bcd_hi N d2 d3
      obtain ⟨AL, AH, R, T, hL, hH, hR, R0, R1, T0, T1, hRT, hT, hAH⟩ := round_plain M N cy d0 d1 d2 d3
      have HLo := Lib.hid hL
      have HHi := Lib.hid hH
      have HT := Lib.hid (And.intro hT hAH)
      clear hL hH hT hAH
      generalize bcd M = BM at *
      generalize bcd N = BN at *
      have t1 := sumR_lo BM BN cy
      have t2 := sumR_hi BM BN cy
      have q1 : aA 1 BM BN cy = sumR BM BN cy := rfl
      have q2 : aH 1 BM BN cy (ch == 2) = sumH BM BN cy := rfl
      have q3 : aO 1 BM BN cy = sumO BM BN cy := rfl
      go_wp2_with fail
      refine (do_1 ch 1 BM BN _ _ _ _ _ _ _ cy _ rfl (and7 1 (by omega) (by omega)) s1 s2 s3 s4).mono ?_; rintro e w3 ⟨rfl, h3⟩
      clear c0 c1 c2 c3 c4 c5 c6 f0 f1 f2 f3 f4 f5 f6 hz
      have L3 := Lib.hid (Loc.thru h3 HL.out)
      clear HL h3
      go_wp2_with fail
      refine (daa_any ch _ AL AH _ _ _ _ _ _ _ _ _ rfl t1 t2 HLo.out HHi.out).mono ?_; rintro e w4 ⟨rfl, h4⟩
      have L4 := Lib.hid (Loc.thru h4 (Loc.thru ((Below.refl _ _).alloc (Nat.le_refl _) _) L3.out))
      clear L3 h4 HLo HHi
      obtain ⟨⟨c0, c1, c2, c3, c4, c5, c6, hz, hs, hB⟩, hA, hf⟩ := L4.out
      clear hB hs hA
      have f0 := hf 0
      have f1 := hf 1
      have f2 := hf 2
      have f3 := hf 3
      have f4 := hf 4
      have f5 := hf 5
      have f6 := hf 6
      clear hf s1 s2 s3 s4 b0 b1 t1 t2 q1 q2 q3
      go_wp2_with fail
      exact ⟨⟨4, _, 100000000, X / 100, Y / 100, _, _, _, _, _, _, AH, rfl, rfl, rfl, rfl, rfl, long_next3 (.inr (.inr (.inr (.inr ⟨rfl, rfl⟩)))) hX hY hS HP.out m1 n1 HT.out, Loc.thru ((Below.refl _ _).alloc (Nat.le_refl _) _) (Loc.store _ _ _ _ _ _ _ L4.out)⟩, by decide⟩
    · have hX0 : X = 0 := by omega
      have hY0 : Y = 0 := by omega
      have hS' : S < 200000000 := by omega
      have q0 : (S + 100000000 * b2i cy == m + n) = true := by rw [beq_iff_eq]; omega
      clear e1 e2 e3 x1 x2 y1 y2 hX hY
      subst hX0 hY0
      go_wp2_with fail
      refine (rone_any _ _).mono ?_; rintro e w' ⟨rfl, rfl⟩
      go_wp2_with fail
      refine (known_any _).mono ?_; rintro e w3 ⟨rfl, hk⟩
      go_wp2_with fail
      go_ret
      exact ⟨rfl, HL.out.1.upto hk⟩
end Go.Proofs.Ytafbcghmbdfdoaa
