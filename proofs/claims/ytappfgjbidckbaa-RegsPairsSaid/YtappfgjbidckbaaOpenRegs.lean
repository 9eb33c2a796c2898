/- An argument that is registers, opened to its cells. -/
import Derived.Test.YtappfgjbidckbaaOpen
namespace Go.Proofs.Ytappfgjbidckbaa
open Go.ChangeShapes Go.WideShapes Go.ChangeAt Go.RowKit
set_option linter.unusedVariables false

theorem sixteenCells {α : Type} {cs : Array α} (h : cs.size = 16) : ∃ c0 c1 c2 c3 c4 c5 c6 c7 c8 c9 c10 c11 c12 c13 c14 c15, cs = #[c0, c1, c2, c3, c4, c5, c6, c7, c8, c9, c10, c11, c12, c13, c14, c15] := by
  obtain ⟨l⟩ := cs
  match l, h with
  | [c0, c1, c2, c3, c4, c5, c6, c7, c8, c9, c10, c11, c12, c13, c14, c15], _ => exact ⟨c0, c1, c2, c3, c4, c5, c6, c7, c8, c9, c10, c11, c12, c13, c14, c15, rfl⟩

section
variable {H : Type} {enc : TypeId × Value → H} {W : World} {base : Nat} {spare : Nat → Bool} {held : Bool}
theorem cellInt {t : TypeId} {k : IntKind} (ht : Try.prog.underlying t = some (.int k)) {n : Nat} {c : Value} {xs : List (DataW H × List MemPlace)} {i : Nat} (h : DataW.trod enc Try.prog W base spare held n t [c] = xs[i]?) (hi : i < xs.length) : ∃ x : Int, c = .int k x ∧ (Lit.int k x).wf = true := by
  rw [List.getElem?_eq_getElem hi] at h
  obtain ⟨x, hx, _, hw⟩ := DataW.trod_int ht h
  exact ⟨x, by simpa using hx, hw⟩
set_option maxHeartbeats 1000000 in
theorem open_regs {b0 : Nat} {v : Value} {d : DataW H} {p : List MemPlace} (hv : Value.okWide Try.prog W .any b0 26 v) (h : DataW.Trod enc Try.prog W base spare held 26 v d p) :
    ∃ (ra rb rc rd re rh rl : Int) (fs fz fk fac fp fv fcy : Bool) (sp pc : Int), v = .agg #[.int .u8 ra, .int .u8 rb, .int .u8 rc, .int .u8 rd, .int .u8 re, .int .u8 rh, .int .u8 rl, .bool fs, .bool fz, .bool fk, .bool fac, .bool fp, .bool fv, .bool fcy, .int .u16 sp, .int .u16 pc] ∧ (Lit.int .u8 ra).wf = true ∧ (Lit.int .u8 rb).wf = true ∧ (Lit.int .u8 rc).wf = true ∧ (Lit.int .u8 rd).wf = true ∧ (Lit.int .u8 re).wf = true ∧ (Lit.int .u8 rh).wf = true ∧ (Lit.int .u8 rl).wf = true ∧ (Lit.int .u16 sp).wf = true ∧ (Lit.int .u16 pc).wf = true := by
  obtain ⟨cs, rfl, hsz⟩ := okWide_struct Try.underlying26 hv
  obtain ⟨c0, c1, c2, c3, c4, c5, c6, c7, c8, c9, c10, c11, c12, c13, c14, c15, rfl⟩ := sixteenCells (hsz.trans (by kernel_rfl))
  obtain ⟨fuel, hf⟩ := h
  obtain ⟨xs, n, _, _, _, hlen, hg⟩ := DataW.trod_struct Try.underlying26 hf
  have hl : xs.length = 10 := hlen
  have g0 : DataW.trod enc Try.prog W base spare held n 5 [c0] = xs[0]? := hg 0 _ rfl
  have g1 : DataW.trod enc Try.prog W base spare held n 5 [c1] = xs[1]? := hg 1 _ rfl
  have g2 : DataW.trod enc Try.prog W base spare held n 5 [c2] = xs[2]? := hg 2 _ rfl
  have g3 : DataW.trod enc Try.prog W base spare held n 5 [c3] = xs[3]? := hg 3 _ rfl
  have g4 : DataW.trod enc Try.prog W base spare held n 5 [c4] = xs[4]? := hg 4 _ rfl
  have g5 : DataW.trod enc Try.prog W base spare held n 5 [c5] = xs[5]? := hg 5 _ rfl
  have g6 : DataW.trod enc Try.prog W base spare held n 5 [c6] = xs[6]? := hg 6 _ rfl
  have gf : DataW.trod enc Try.prog W base spare held n 23 [c7, c8, c9, c10, c11, c12, c13] = xs[7]? := hg 7 _ rfl
  have g14 : DataW.trod enc Try.prog W base spare held n 24 [c14] = xs[8]? := hg 8 _ rfl
  have g15 : DataW.trod enc Try.prog W base spare held n 24 [c15] = xs[9]? := hg 9 _ rfl
  obtain ⟨x0, rfl, w0⟩ := cellInt Try.underlying5 g0 (by omega)
  obtain ⟨x1, rfl, w1⟩ := cellInt Try.underlying5 g1 (by omega)
  obtain ⟨x2, rfl, w2⟩ := cellInt Try.underlying5 g2 (by omega)
  obtain ⟨x3, rfl, w3⟩ := cellInt Try.underlying5 g3 (by omega)
  obtain ⟨x4, rfl, w4⟩ := cellInt Try.underlying5 g4 (by omega)
  obtain ⟨x5, rfl, w5⟩ := cellInt Try.underlying5 g5 (by omega)
  obtain ⟨x6, rfl, w6⟩ := cellInt Try.underlying5 g6 (by omega)
  obtain ⟨x14, rfl, w14⟩ := cellInt Try.underlying24 g14 (by omega)
  obtain ⟨x15, rfl, w15⟩ := cellInt Try.underlying24 g15 (by omega)
  rw [List.getElem?_eq_getElem (by omega : 7 < xs.length)] at gf
  obtain ⟨ys, m, _, _, _, hlen', hg'⟩ := DataW.trod_struct Try.underlying23 gf
  have hl' : ys.length = 7 := hlen'
  have k0 : DataW.trod enc Try.prog W base spare held m 4 [c7] = ys[0]? := hg' 0 _ rfl
  have k1 : DataW.trod enc Try.prog W base spare held m 4 [c8] = ys[1]? := hg' 1 _ rfl
  have k2 : DataW.trod enc Try.prog W base spare held m 4 [c9] = ys[2]? := hg' 2 _ rfl
  have k3 : DataW.trod enc Try.prog W base spare held m 4 [c10] = ys[3]? := hg' 3 _ rfl
  have k4 : DataW.trod enc Try.prog W base spare held m 4 [c11] = ys[4]? := hg' 4 _ rfl
  have k5 : DataW.trod enc Try.prog W base spare held m 4 [c12] = ys[5]? := hg' 5 _ rfl
  have k6 : DataW.trod enc Try.prog W base spare held m 4 [c13] = ys[6]? := hg' 6 _ rfl
  obtain ⟨x7, rfl⟩ := cellBool k0 (by omega)
  obtain ⟨x8, rfl⟩ := cellBool k1 (by omega)
  obtain ⟨x9, rfl⟩ := cellBool k2 (by omega)
  obtain ⟨x10, rfl⟩ := cellBool k3 (by omega)
  obtain ⟨x11, rfl⟩ := cellBool k4 (by omega)
  obtain ⟨x12, rfl⟩ := cellBool k5 (by omega)
  obtain ⟨x13, rfl⟩ := cellBool k6 (by omega)
  exact ⟨x0, x1, x2, x3, x4, x5, x6, x7, x8, x9, x10, x11, x12, x13, x14, x15, rfl, w0, w1, w2, w3, w4, w5, w6, w14, w15⟩
end
end Go.Proofs.Ytappfgjbidckbaa
