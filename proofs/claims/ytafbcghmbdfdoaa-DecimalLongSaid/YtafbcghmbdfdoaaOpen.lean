/- Arguments that are flags (or registers), opened to their cells. -/
import Derived.Test.YtafbcghmbdfdoaaRows
import Derived.WalkKit
import Derived.ProofKit
namespace Go.Proofs.Ytafbcghmbdfdoaa
open Go.ChangeShapes Go.WideShapes Go.ChangeAt Go.RowKit
set_option linter.unusedVariables false

theorem sevenCells {α : Type} {cs : Array α} (h : cs.size = 7) : ∃ c0 c1 c2 c3 c4 c5 c6, cs = #[c0, c1, c2, c3, c4, c5, c6] := by
  obtain ⟨l⟩ := cs
  match l, h with
  | [c0, c1, c2, c3, c4, c5, c6], _ => exact ⟨c0, c1, c2, c3, c4, c5, c6, rfl⟩

section
variable {H : Type} {enc : TypeId × Value → H} {W : World} {base : Nat} {spare : Nat → Bool} {held : Bool}
theorem cellBool {n : Nat} {c : Value} {xs : List (DataW H × List MemPlace)} {i : Nat} (h : DataW.trod enc Try.prog W base spare held n 4 [c] = xs[i]?) (hi : i < xs.length) : ∃ x : Bool, c = .bool x := by
  rw [List.getElem?_eq_getElem hi] at h
  obtain ⟨x, hx, _⟩ := DataW.trod_bool Try.underlying4 h
  exact ⟨x, by simpa using hx⟩
theorem open_flags {b0 : Nat} {v : Value} {d : DataW H} {p : List MemPlace} (hv : Value.okWide Try.prog W .any b0 23 v) (h : DataW.Trod enc Try.prog W base spare held 23 v d p) :
    ∃ s z k ac pa ov cy : Bool, v = .agg #[.bool s, .bool z, .bool k, .bool ac, .bool pa, .bool ov, .bool cy] := by
  obtain ⟨cs, rfl, hsz⟩ := okWide_struct Try.underlying23 hv
  obtain ⟨c0, c1, c2, c3, c4, c5, c6, rfl⟩ := sevenCells (hsz.trans (by kernel_rfl))
  obtain ⟨fuel, hf⟩ := h
  obtain ⟨xs, n, _, _, _, hlen, hg⟩ := DataW.trod_struct Try.underlying23 hf
  have hl : xs.length = 7 := hlen
  have g0 : DataW.trod enc Try.prog W base spare held n 4 [c0] = xs[0]? := hg 0 _ rfl
  have g1 : DataW.trod enc Try.prog W base spare held n 4 [c1] = xs[1]? := hg 1 _ rfl
  have g2 : DataW.trod enc Try.prog W base spare held n 4 [c2] = xs[2]? := hg 2 _ rfl
  have g3 : DataW.trod enc Try.prog W base spare held n 4 [c3] = xs[3]? := hg 3 _ rfl
  have g4 : DataW.trod enc Try.prog W base spare held n 4 [c4] = xs[4]? := hg 4 _ rfl
  have g5 : DataW.trod enc Try.prog W base spare held n 4 [c5] = xs[5]? := hg 5 _ rfl
  have g6 : DataW.trod enc Try.prog W base spare held n 4 [c6] = xs[6]? := hg 6 _ rfl
  obtain ⟨x0, rfl⟩ := cellBool g0 (by omega)
  obtain ⟨x1, rfl⟩ := cellBool g1 (by omega)
  obtain ⟨x2, rfl⟩ := cellBool g2 (by omega)
  obtain ⟨x3, rfl⟩ := cellBool g3 (by omega)
  obtain ⟨x4, rfl⟩ := cellBool g4 (by omega)
  obtain ⟨x5, rfl⟩ := cellBool g5 (by omega)
  obtain ⟨x6, rfl⟩ := cellBool g6 (by omega)
  exact ⟨x0, x1, x2, x3, x4, x5, x6, rfl⟩
end

/-- What a walk is told of a slice of integers that came in: it is nil; or it leads to a row of cells. -/
def IsRow (k : IntKind) (w : World) (a : Option Addr) (len cap : Nat) (zs : List Int) : Prop :=
  (a = none ∧ len = 0 ∧ cap = 0 ∧ zs = []) ∨
  ∃ x, a = some x ∧ len ≤ cap ∧ cap ≤ maxLen ∧ zs.length = cap ∧ (∀ i, i < zs.length → w.cell? (x.add i) = some (.int k (zs.getD i 0))) ∧ ∀ n ∈ zs, (Lit.int k n).wf = true
end Go.Proofs.Ytafbcghmbdfdoaa
