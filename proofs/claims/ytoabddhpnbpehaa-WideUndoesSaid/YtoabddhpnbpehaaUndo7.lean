/- The walk of the law WideUndoes. -/
import Derived.Test.YtoabddhpnbpehaaLaws7
import Derived.Deep.RegionHeld3
namespace Go.Proofs.Ytoabddhpnbpehaa
open Go.RowKit
set_option linter.unusedVariables false

theorem next_noneX (b : Nat) (a : Option Addr) (cap : Nat) (n : Int) (w : World)
    (c0 : w.cell? ⟨b, 0, none⟩ = some (.slice a 0 cap)) (c1 : w.cell? ⟨b, 1, none⟩ = some (.int .i64 0)) (f1 : w.frozen? ⟨b, 1, none⟩ = false) :
    Calls Try.prog 24 #[.pointer (some ⟨b, 0, none⟩), .int .i64 n] w fun e w' => e = .returned (.int .i64 0) ∧ ∃ n, (w.drewN n).setCell ⟨b, 1, none⟩ (.int .i64 1) = w' := by
  go_enter Try.func24, Try.ntmps24
  go_wp2
  go_quiet (fail)
  go_wp2
  go_ret
  exact ⟨rfl, _, rfl⟩
theorem next_someX (b xb xo : Nat) (len cap : Nat) (x0 n : Int) (w : World) (hl : 0 < len) (hl' : len ≤ 9223372036854775807) (hn : 0 < n) (hn' : n ≤ 1000000000) (hb : xb < b)
    (cx : w.cell? ⟨xb, xo, none⟩ = some (.int .i64 x0))
    (c0 : w.cell? ⟨b, 0, none⟩ = some (.slice (some ⟨xb, xo, none⟩) len cap)) (c1 : w.cell? ⟨b, 1, none⟩ = some (.int .i64 0)) (f1 : w.frozen? ⟨b, 1, none⟩ = false) :
    Calls Try.prog 24 #[.pointer (some ⟨b, 0, none⟩), .int .i64 n] w fun e w' => e = .returned (.int .i64 (placeN x0 n)) ∧ ∃ n m, ((w.drewN n).setCell ⟨b, 1, none⟩ (.int .i64 1)).drewN m = w' := by
  have h0 : (0 : Int) < (len : Int) := by omega
  go_enter Try.func24, Try.ntmps24
  go_wp2
  go_quiet (fail)
  go_wp2
  go_quiet ((go_at_call 30; exact quietL (place_any _ _ _ hn hn')))
  go_wp2
  go_ret
  exact ⟨rfl, _, _, rfl⟩
/-- The chip, and the very world behind it. -/
def ChipX (b : Nat) (w : World) (e : Ending) (w' : World) : Prop := ∃ (c : Int) (n m : Nat), (c = 1 ∨ c = 2) ∧ e = .returned (.int .i64 c) ∧ ((w.drewN n).setCell ⟨b, 1, none⟩ (.int .i64 1)).drewN m = w'
theorem chip_exact (b : Nat) (a : Option Addr) (len cap : Nat) (z : List Int) (w0 w : World) (h0 : w0.heap.size ≤ b) (hr0 : IsRow .i64 w0 a len cap z) (hB : Below w0.heap.size w0 w)
    (c0 : w.cell? ⟨b, 0, none⟩ = some (.slice a len cap)) (c1 : w.cell? ⟨b, 1, none⟩ = some (.int .i64 0)) (f1 : w.frozen? ⟨b, 1, none⟩ = false) :
    Calls Try.prog 13 #[.pointer (some ⟨b, 0, none⟩)] w (ChipX b w) := by
  have HB := Lib.hid hB
  clear hB
  rcases hr0 with ⟨rfl, rfl, rfl, rfl⟩ | ⟨x, rfl, hl, hm, hz, hcell, hwz⟩
  · go_enter Try.func13, Try.ntmps13
    go_wp2_with fail
    refine (next_noneX b none 0 2 _ c0 c1 f1).mono ?_; rintro e w1 ⟨rfl, n, rfl⟩
    go_wp2_with fail
    go_ret
    exact ⟨1, n, 0, .inl rfl, rfl, rfl⟩
  · by_cases hl0 : len = 0
    · subst hl0
      go_enter Try.func13, Try.ntmps13
      go_wp2_with fail
      refine (next_noneX b (some x) cap 2 _ c0 c1 f1).mono ?_; rintro e w1 ⟨rfl, n, rfl⟩
      go_wp2_with fail
      go_ret
      exact ⟨1, n, 0, .inl rfl, rfl, rfl⟩
    · obtain ⟨xb, off, spot⟩ := x
      have hc := hcell 0 (by omega)
      have hspot : spot = none := by simpa [Addr.add] using World.cell?_spot hc
      subst hspot
      have hc0 : w0.cell? ⟨xb, off, none⟩ = some (.int .i64 (z.getD 0 0)) := by simpa [Addr.add] using hc
      have hlt := World.block_lt_of_cell? w0 _ hc0
      have hm' : len ≤ 9223372036854775807 := by unfold maxLen at hm; omega
      have hcx : w.cell? ⟨xb, off, none⟩ = some (.int .i64 (z.getD 0 0)) := (HB.out.cell hlt).trans hc0
      generalize z.getD 0 0 = x0 at hc0 hcx
      have l1 := placeN_lo x0 2 (by omega)
      have l2 := placeN_hi x0 2 (by omega)
      have hlt' : xb < b := Nat.lt_of_lt_of_le hlt h0
      clear hcell hwz hc hc0 hz
      go_enter Try.func13, Try.ntmps13
      go_wp2_with fail
      refine (next_someX b xb off len cap x0 2 _ (by omega) hm' (by omega) (by omega) hlt' hcx c0 c1 f1).mono ?_; rintro e w1 ⟨rfl, n, m, rfl⟩
      go_wp2_with fail
      go_ret
      exact ⟨1 + placeN x0 2, n, m, by omega, rfl, rfl⟩


set_option maxHeartbeats 4000000 in
theorem wideUndoes_walk (l : Option Addr) (len cap : Nat) (zs : List Int) (a b : Int) (s z k ac p v cy : Bool) (w : World) (wl : IsRow .i64 w l len cap zs) (wa : (Lit.int .u16 a).wf = true) (wb : (Lit.int .u16 b).wf = true) :
    Calls Try.prog 5 #[.slice l len cap, .int .u16 a, .int .u16 b, .agg #[.bool s, .bool z, .bool k, .bool ac, .bool p, .bool v, .bool cy]] w fun e w' => e = .returned (.bool true) ∧ Below w.heap.size w w' := by
  obtain ⟨ha, ha'⟩ := wf_word wa
  obtain ⟨hb, hb'⟩ := wf_word wb
  have e1 := dsUndo a b ha ha' hb hb'
  have e2 := dsUndoC a b ha ha' hb hb'
  have l1 : 0 ≤ dadR a b := by unfold dadR; omega
  have l2 : dadR a b ≤ 65535 := by unfold dadR; omega
  have WL := Lib.hid wl
  clear wl
  go_enter Try.func5, Try.ntmps5
  go_wp2_with fail
  go_region_held3 (fun w' => w'.cell? ⟨w.heap.size, 0, none⟩ = some (.bool s) ∧ w'.cell? ⟨w.heap.size, 1, none⟩ = some (.bool z) ∧ w'.cell? ⟨w.heap.size, 2, none⟩ = some (.bool k) ∧ w'.cell? ⟨w.heap.size, 3, none⟩ = some (.bool ac) ∧ w'.cell? ⟨w.heap.size, 4, none⟩ = some (.bool p) ∧ w'.cell? ⟨w.heap.size, 5, none⟩ = some (.bool v) ∧ w'.cell? ⟨w.heap.size, 6, none⟩ = some (.bool cy))
    (((try dsimp only); (repeat' apply And.intro); all_goals (first | (simp; done) | (simp [go_sem]; done) | (go_simp; done))))
    (first | (go_at_call 14; refine (from_any _ _ _ _).mono ?_; rintro e w2 ⟨rfl, rfl⟩) | (go_at_call 13; refine (chip_exact _ l len cap zs w _ (by go_size) WL.out (by go_grown) (by simp [go_sem]) (by simp [go_sem]) (by first | (simp [go_sem]; done) | exact World.frozen?_alloc_new _ _ _ | (rw [World.frozen?_alloc_at _ _ _ _ (by simp)]))).mono ?_; rintro e w2 ⟨c, n, m, hc, rfl, rfl⟩) | (go_at_call 8; refine (dad_any c a b (c == 2) _ _ _ _ _ _ _ _ rfl ha ha' hb hb').mono ?_; rintro e w2 ⟨rfl, rfl⟩))
  all_goals
    go_wp2_with fail
    refine (dsub_any (dadR a b) b _ l1 l2 hb hb').mono ?_; rintro e w' ⟨rfl, rfl⟩
    rw [e1, e2]
    go_wp2_with (go_at_call 10; refine (known_any _).mono ?_; rintro e w' ⟨rfl, hk⟩)
    go_ret
    exact ⟨rfl, thenB (by (repeat' (first | (with_reducible refine belowDrewN ?_ _) | (with_reducible exact Below.refl _ _) | (with_reducible refine Below.alloc ?_ ?_ _) | (with_reducible refine Below.drew ?_) | (with_reducible refine Below.setCell ?_ ?_ _) | go_size | (dsimp only; omega)))) hk⟩
end Go.Proofs.Ytoabddhpnbpehaa
