/- Contracts of package tstatemake: the first number of a list, and which chip it gives. -/
import Derived.Test.YtafbcghmbdfdoaaFacts
import Derived.Test.YtafbcghmbdfdoaaOpen
import Derived.BigQuiet
import Derived.RegionTactic
namespace Go.Proofs.Ytafbcghmbdfdoaa
open Go.RowKit
set_option linter.unusedVariables false

/-- A number from 0 to n - 1. -/
def placeN (x n : Int) : Int := (IntKind.u64.wrap x).tmod n
theorem placeN_eq (x n : Int) : placeN x n = (x % 18446744073709551616) % n := by
  unfold placeN; rw [IntKind.wrap_u64, Int.tmod_eq_emod_of_nonneg (by omega)]
theorem placeN_lo (x n : Int) (h : 0 < n) : 0 ≤ placeN x n := by rw [placeN_eq]; exact Int.emod_nonneg _ (by omega)
theorem placeN_hi (x n : Int) (h : 0 < n) : placeN x n < n := by rw [placeN_eq]; exact Int.emod_lt_of_pos _ h

theorem place_any (x n : Int) (w : World) (h : 0 < n) (h' : n ≤ 1000000000) :
    Calls Try.prog 12 #[.int .i64 x, .int .i64 n] w fun e w' => e = .returned (.int .i64 (placeN x n)) ∧ w = w' := by
  have l1 := placeN_lo x n h
  have l2 := placeN_hi x n h
  have e1 : IntKind.u64.wrap n = n := IntWalk.u64_in n ⟨by omega, by omega⟩
  have e2 : (IntKind.u64.wrap x).tmod n = placeN x n := rfl
  have e3 : (n == 0) = false := by rw [beq_eq_false_iff_ne]; omega
  go_enter Try.func12, Try.ntmps12
  go_wp2
  go_ret
  exact ⟨rfl, rfl⟩

theorem from_any (a : Option Addr) (len cap : Nat) (w : World) :
    Calls Try.prog 11 #[.slice a len cap] w fun e w' => e = .returned (.pointer (some ⟨w.heap.size, 0, none⟩)) ∧ w.alloc (.cells #[.slice a len cap, .int .i64 0] 47) = w' := by
  go_enter Try.func11, Try.ntmps11
  go_wp2
  go_ret
  exact ⟨rfl, rfl⟩

/-- Some number below n. -/
def SomeBelow (n : Int) (e : Ending) : Prop := ∃ r : Int, 0 ≤ r ∧ r < n ∧ e = .returned (.int .i64 r)
theorem next_none (b : Nat) (a : Option Addr) (cap : Nat) (n : Int) (w : World)
    (c0 : w.cell? ⟨b, 0, none⟩ = some (.slice a 0 cap)) (c1 : w.cell? ⟨b, 1, none⟩ = some (.int .i64 0)) (f1 : w.frozen? ⟨b, 1, none⟩ = false) :
    Calls Try.prog 22 #[.pointer (some ⟨b, 0, none⟩), .int .i64 n] w fun e w' => e = .returned (.int .i64 0) ∧ w.grownBy w' (some b) := by
  go_enter Try.func22, Try.ntmps22
  go_wp2
  go_quiet (fail)
  go_wp2
  go_ret
  exact ⟨rfl, onlySet _ _ _ _⟩
theorem next_some (b xb xo : Nat) (len cap : Nat) (x0 n : Int) (w : World) (hl : 0 < len) (hl' : len ≤ 9223372036854775807) (hn : 0 < n) (hn' : n ≤ 1000000000) (hb : xb < b)
    (cx : w.cell? ⟨xb, xo, none⟩ = some (.int .i64 x0))
    (c0 : w.cell? ⟨b, 0, none⟩ = some (.slice (some ⟨xb, xo, none⟩) len cap)) (c1 : w.cell? ⟨b, 1, none⟩ = some (.int .i64 0)) (f1 : w.frozen? ⟨b, 1, none⟩ = false) :
    Calls Try.prog 22 #[.pointer (some ⟨b, 0, none⟩), .int .i64 n] w fun e w' => e = .returned (.int .i64 (placeN x0 n)) ∧ w.grownBy w' (some b) := by
  have h0 : (0 : Int) < (len : Int) := by omega
  go_enter Try.func22, Try.ntmps22
  go_wp2
  go_quiet (fail)
  go_wp2
  go_quiet ((go_at_call 12; exact quietL (place_any _ _ _ hn hn')))
  go_wp2
  go_ret
  exact ⟨rfl, onlyDrewN (onlySet _ _ _ _) _⟩

/-- One of the two chips. -/
def SomeChip (e : Ending) : Prop := ∃ c : Int, (c = 1 ∨ c = 2) ∧ e = .returned (.int .i64 c)
theorem IsRow.thru {k : IntKind} {w w' : World} {a : Option Addr} {len cap : Nat} {z : List Int} (hb : Below w.heap.size w w') (h : IsRow k w a len cap z) : IsRow k w' a len cap z := by
  rcases h with h | ⟨x, h1, h2, h3, h4, h5, h6⟩
  · exact .inl h
  · exact .inr ⟨x, h1, h2, h3, h4, fun i hi => (hb.cell (World.block_lt_of_cell? w _ (h5 i hi))).trans (h5 i hi), h6⟩
/-- Behind 'From': the row lies below its block. -/
theorem chip_gen (b : Nat) (a : Option Addr) (len cap : Nat) (z : List Int) (w0 w : World) (h0 : w0.heap.size ≤ b) (hr0 : IsRow .i64 w0 a len cap z) (hB : Below w0.heap.size w0 w)
    (c0 : w.cell? ⟨b, 0, none⟩ = some (.slice a len cap)) (c1 : w.cell? ⟨b, 1, none⟩ = some (.int .i64 0)) (f1 : w.frozen? ⟨b, 1, none⟩ = false) :
    Calls Try.prog 10 #[.pointer (some ⟨b, 0, none⟩)] w fun e w' => SomeChip e ∧ w.grownBy w' (some b) := by
  have HB := Lib.hid hB
  clear hB
  rcases hr0 with ⟨rfl, rfl, rfl, rfl⟩ | ⟨x, rfl, hl, hm, hz, hcell, hwz⟩
  · go_enter Try.func10, Try.ntmps10
    go_wp2_with fail
    refine (next_none b none 0 2 _ c0 c1 f1).mono ?_; rintro e w1 ⟨rfl, h1⟩
    go_wp2_with fail
    go_ret
    exact ⟨⟨1, .inl rfl, rfl⟩, h1⟩
  · by_cases hl0 : len = 0
    · subst hl0
      go_enter Try.func10, Try.ntmps10
      go_wp2_with fail
      refine (next_none b (some x) cap 2 _ c0 c1 f1).mono ?_; rintro e w1 ⟨rfl, h1⟩
      go_wp2_with fail
      go_ret
      exact ⟨⟨1, .inl rfl, rfl⟩, h1⟩
    · obtain ⟨xb, off, spot⟩ := x
      have hc := hcell 0 (by omega)
      have hspot : spot = none := by simpa [Addr.add] using World.cell?_spot hc
      subst hspot
      have hc0 : w0.cell? ⟨xb, off, none⟩ = some (.int .i64 (z.getD 0 0)) := by simpa [Addr.add] using hc
      have hlt := World.block_lt_of_cell? w0 _ hc0
      have hm' : len ≤ 9223372036854775807 := by unfold maxLen at hm; omega
      have hcx : w.cell? ⟨xb, off, none⟩ = some (.int .i64 (z.getD 0 0)) := (HB.out.cell hlt).trans hc0
      generalize z.getD 0 0 = x0 at hc0 hcx
      have l1 := placeN_lo x0 2 (by omega)
      have l2 := placeN_hi x0 2 (by omega)
      have hlt' : xb < b := Nat.lt_of_lt_of_le hlt h0
      clear hcell hwz hc hc0 hz
      go_enter Try.func10, Try.ntmps10
      go_wp2_with fail
      refine (next_some b xb off len cap x0 2 _ (by omega) hm' (by omega) (by omega) hlt' hcx c0 c1 f1).mono ?_; rintro e w1 ⟨rfl, h1⟩
      go_wp2_with fail
      go_ret
      exact ⟨⟨1 + placeN x0 2, by omega, rfl⟩, h1⟩
end Go.Proofs.Ytafbcghmbdfdoaa
