/-
  No cell of these rows narrows 'for every input' (looked for: loops, veiled, ifaces, maps, wideKeys, modest, calm, conditions, laid).
  DERIVED. THE GIVEN ROWS OF THIS SEAT. 6 by the template 'for every input the law returns true; each argument reads behind the call as it read before'; 0 by the template 'total and deterministic' (their statements: YtjbmgnkolbficaaTotals.lean).
  GIVEN WITH THE SEED: the statements are not yours to turn. If you find one false, say at which input.
  Laid BY PROGRAM, IN A SANDBOX (cutbox-rows.mjs): the forced cells as the released guide's own fill.sh prints them over the translation f08820800c8db9fe… (all of the seat's roots in one cut). By AI agents, Wed Nov 11 2026. No macro, syntax, notation, axiom, sorry.
-/
import Derived.Test.YtjbmgnkolbficaaChecked
import GoSem.Claim
import GoSem.ClaimJoined
import GoSem.ClaimMapViews
import Derived.JoinedTies
import Derived.KernelRfl
namespace Go.Proofs.Ytjbmgnkolbficaa
/- THE CELL 'sum', in the pinned program and in every row, IS THE sha256 OF THE DUMP (.gsa) THAT YtjbmgnkolbficaaProg.lean LOADS. Nothing in Lean hashes anything: it is a label: what it is worth is what the hold of that sum in a sandbox is worth. -/
noncomputable def Try.pinned : Pinned := { name := "ytjbmgnkolbficaa", sum := "f08820800c8db9fe80f38cedd50ecfe1380a4e7489ae22b51b28387a581083d3", checked := Try.checked }
namespace Rows
def none {H : Type} : Left H := { results := [], args := [] }

/-- 'tstatelaw3.AluDoes': WHATEVER THE INPUT: true; the input reads as it did. -/
def aluDoesSpec : ChangeSpec := { name := "aluDoes", fn := fun _ => fun
  | [d1, d2, d3, d4, d5] => { results := [.lit (.bool true)], args := [d1, d2, d3, d4, d5] }
  | _ => none }
def aluDoesRow : OpenClaim := { program := "ytjbmgnkolbficaa", sum := "f08820800c8db9fe80f38cedd50ecfe1380a4e7489ae22b51b28387a581083d3", func := "tstate/tstatelaw3.AluDoes", spec := "aluDoes", unfollowed := true, recurses := true, apart := false }
def AluDoesSaid : Prop := aluDoesRow.holds Try.pinned (OpenSpec.ofChange aluDoesSpec)

/-- ITS FALSE NEIGHBOUR: 'it returns false'. Refute it at one input. -/
def aluDoesWrong : ChangeSpec := { name := "aluDoes", fn := fun _ => fun
  | [d1, d2, d3, d4, d5] => { results := [.lit (.bool false)], args := [d1, d2, d3, d4, d5] }
  | _ => none }
def AluDoesWrongFalsely : Prop := aluDoesRow.holds Try.pinned (OpenSpec.ofChange aluDoesWrong)

/-- 'tstatelaw3.AluCompares': WHATEVER THE INPUT: true; the input reads as it did. -/
def aluComparesSpec : ChangeSpec := { name := "aluCompares", fn := fun _ => fun
  | [d1, d2, d3, d4] => { results := [.lit (.bool true)], args := [d1, d2, d3, d4] }
  | _ => none }
def aluComparesRow : OpenClaim := { program := "ytjbmgnkolbficaa", sum := "f08820800c8db9fe80f38cedd50ecfe1380a4e7489ae22b51b28387a581083d3", func := "tstate/tstatelaw3.AluCompares", spec := "aluCompares", unfollowed := true, recurses := true, apart := false }
def AluComparesSaid : Prop := aluComparesRow.holds Try.pinned (OpenSpec.ofChange aluComparesSpec)

/-- ITS FALSE NEIGHBOUR: 'it returns false'. Refute it at one input. -/
def aluComparesWrong : ChangeSpec := { name := "aluCompares", fn := fun _ => fun
  | [d1, d2, d3, d4] => { results := [.lit (.bool false)], args := [d1, d2, d3, d4] }
  | _ => none }
def AluComparesWrongFalsely : Prop := aluComparesRow.holds Try.pinned (OpenSpec.ofChange aluComparesWrong)

/-- 'tstatelaw3.AluWords': WHATEVER THE INPUT: true; the input reads as it did. -/
def aluWordsSpec : ChangeSpec := { name := "aluWords", fn := fun _ => fun
  | [d1, d2, d3, d4] => { results := [.lit (.bool true)], args := [d1, d2, d3, d4] }
  | _ => none }
def aluWordsRow : OpenClaim := { program := "ytjbmgnkolbficaa", sum := "f08820800c8db9fe80f38cedd50ecfe1380a4e7489ae22b51b28387a581083d3", func := "tstate/tstatelaw3.AluWords", spec := "aluWords", unfollowed := true, recurses := true, apart := false }
def AluWordsSaid : Prop := aluWordsRow.holds Try.pinned (OpenSpec.ofChange aluWordsSpec)

/-- ITS FALSE NEIGHBOUR: 'it returns false'. Refute it at one input. -/
def aluWordsWrong : ChangeSpec := { name := "aluWords", fn := fun _ => fun
  | [d1, d2, d3, d4] => { results := [.lit (.bool false)], args := [d1, d2, d3, d4] }
  | _ => none }
def AluWordsWrongFalsely : Prop := aluWordsRow.holds Try.pinned (OpenSpec.ofChange aluWordsWrong)

/-- 'tstatelaw3.AluLogic': WHATEVER THE INPUT: true; the input reads as it did. -/
def aluLogicSpec : ChangeSpec := { name := "aluLogic", fn := fun _ => fun
  | [d1, d2, d3, d4] => { results := [.lit (.bool true)], args := [d1, d2, d3, d4] }
  | _ => none }
def aluLogicRow : OpenClaim := { program := "ytjbmgnkolbficaa", sum := "f08820800c8db9fe80f38cedd50ecfe1380a4e7489ae22b51b28387a581083d3", func := "tstate/tstatelaw3.AluLogic", spec := "aluLogic", unfollowed := true, recurses := true, apart := false }
def AluLogicSaid : Prop := aluLogicRow.holds Try.pinned (OpenSpec.ofChange aluLogicSpec)

/-- ITS FALSE NEIGHBOUR: 'it returns false'. Refute it at one input. -/
def aluLogicWrong : ChangeSpec := { name := "aluLogic", fn := fun _ => fun
  | [d1, d2, d3, d4] => { results := [.lit (.bool false)], args := [d1, d2, d3, d4] }
  | _ => none }
def AluLogicWrongFalsely : Prop := aluLogicRow.holds Try.pinned (OpenSpec.ofChange aluLogicWrong)

/-- 'tstatelaw3.AluChips': WHATEVER THE INPUT: true; the input reads as it did. -/
def aluChipsSpec : ChangeSpec := { name := "aluChips", fn := fun _ => fun
  | [d1, d2, d3, d4] => { results := [.lit (.bool true)], args := [d1, d2, d3, d4] }
  | _ => none }
def aluChipsRow : OpenClaim := { program := "ytjbmgnkolbficaa", sum := "f08820800c8db9fe80f38cedd50ecfe1380a4e7489ae22b51b28387a581083d3", func := "tstate/tstatelaw3.AluChips", spec := "aluChips", unfollowed := true, recurses := true, apart := false }
def AluChipsSaid : Prop := aluChipsRow.holds Try.pinned (OpenSpec.ofChange aluChipsSpec)

/-- ITS FALSE NEIGHBOUR: 'it returns false'. Refute it at one input. -/
def aluChipsWrong : ChangeSpec := { name := "aluChips", fn := fun _ => fun
  | [d1, d2, d3, d4] => { results := [.lit (.bool false)], args := [d1, d2, d3, d4] }
  | _ => none }
def AluChipsWrongFalsely : Prop := aluChipsRow.holds Try.pinned (OpenSpec.ofChange aluChipsWrong)

/-- 'tstatelaw3.AluSigned': WHATEVER THE INPUT: true; the input reads as it did. -/
def aluSignedSpec : ChangeSpec := { name := "aluSigned", fn := fun _ => fun
  | [d1, d2, d3] => { results := [.lit (.bool true)], args := [d1, d2, d3] }
  | _ => none }
def aluSignedRow : OpenClaim := { program := "ytjbmgnkolbficaa", sum := "f08820800c8db9fe80f38cedd50ecfe1380a4e7489ae22b51b28387a581083d3", func := "tstate/tstatelaw3.AluSigned", spec := "aluSigned", unfollowed := true, recurses := true, apart := false }
def AluSignedSaid : Prop := aluSignedRow.holds Try.pinned (OpenSpec.ofChange aluSignedSpec)

/-- ITS FALSE NEIGHBOUR: 'it returns false'. Refute it at one input. -/
def aluSignedWrong : ChangeSpec := { name := "aluSigned", fn := fun _ => fun
  | [d1, d2, d3] => { results := [.lit (.bool false)], args := [d1, d2, d3] }
  | _ => none }
def AluSignedWrongFalsely : Prop := aluSignedRow.holds Try.pinned (OpenSpec.ofChange aluSignedWrong)

/- THE SECOND FORM. 'bulk': how many values and letters a reading holds, each counted each time it is reached (what is shared counts as often as it is met; a slice's spare places count too). A statement '..UptoSaid' is the law's where the arguments, and the package variables that the reading takes, are together of bulk at most 1048576: NARROWER than '..Said'. Prove '..Said' where nothing that the law and all that it calls make is longer than what came in: it says more and counts as full. Else prove '..UptoSaid'. A law counts once. -/
mutual
def uptoBulk {H : Type} : DataW H → Nat
  | .lit (.string bytes) => bytes.length + 1
  | .lit _ => 1
  | .nil => 1
  | .ptr d => uptoBulk d + 1
  | .slice elems spare => uptoBulkAll elems + uptoBulkAll spare + 1
  | .agg parts => uptoBulkAll parts + 1
  | .iface _ d => uptoBulk d + 1
  | .map entries => uptoBulkEntries entries + 1
  | .held _ => 1
def uptoBulkAll {H : Type} : List (DataW H) → Nat
  | [] => 0
  | d :: r => uptoBulk d + uptoBulkAll r
def uptoBulkEntries {H : Type} : List (Lit × DataW H) → Nat
  | [] => 0
  | x :: r => uptoBulkEntry x + uptoBulkEntries r
def uptoBulkEntry {H : Type} : Lit × DataW H → Nat
  | (.string bytes, d) => bytes.length + uptoBulk d + 1
  | (_, d) => uptoBulk d + 1
 end
def uptoSmall : (H : Type) → List (DataW H) → Bool := fun _ ds => decide (uptoBulkAll ds ≤ 1048576)
def OpenSpec.upto (s : _root_.Go.ChangeSpec) : _root_.Go.OpenSpec := { _root_.Go.OpenSpec.ofChange s with cond := some uptoSmall }

/-- 'tstatelaw3.AluDoes', WHERE WHAT IT READS IS OF BULK AT MOST 1048576: true; the input reads as it did. -/
def aluDoesUptoRow : OpenClaim := { program := "ytjbmgnkolbficaa", sum := "f08820800c8db9fe80f38cedd50ecfe1380a4e7489ae22b51b28387a581083d3", func := "tstate/tstatelaw3.AluDoes", spec := "aluDoes", unfollowed := true, recurses := true, apart := false, narrowed := true }
def AluDoesUptoSaid : Prop := aluDoesUptoRow.holds Try.pinned (OpenSpec.upto aluDoesSpec)

/-- 'tstatelaw3.AluCompares', WHERE WHAT IT READS IS OF BULK AT MOST 1048576: true; the input reads as it did. -/
def aluComparesUptoRow : OpenClaim := { program := "ytjbmgnkolbficaa", sum := "f08820800c8db9fe80f38cedd50ecfe1380a4e7489ae22b51b28387a581083d3", func := "tstate/tstatelaw3.AluCompares", spec := "aluCompares", unfollowed := true, recurses := true, apart := false, narrowed := true }
def AluComparesUptoSaid : Prop := aluComparesUptoRow.holds Try.pinned (OpenSpec.upto aluComparesSpec)

/-- 'tstatelaw3.AluWords', WHERE WHAT IT READS IS OF BULK AT MOST 1048576: true; the input reads as it did. -/
def aluWordsUptoRow : OpenClaim := { program := "ytjbmgnkolbficaa", sum := "f08820800c8db9fe80f38cedd50ecfe1380a4e7489ae22b51b28387a581083d3", func := "tstate/tstatelaw3.AluWords", spec := "aluWords", unfollowed := true, recurses := true, apart := false, narrowed := true }
def AluWordsUptoSaid : Prop := aluWordsUptoRow.holds Try.pinned (OpenSpec.upto aluWordsSpec)

/-- 'tstatelaw3.AluLogic', WHERE WHAT IT READS IS OF BULK AT MOST 1048576: true; the input reads as it did. -/
def aluLogicUptoRow : OpenClaim := { program := "ytjbmgnkolbficaa", sum := "f08820800c8db9fe80f38cedd50ecfe1380a4e7489ae22b51b28387a581083d3", func := "tstate/tstatelaw3.AluLogic", spec := "aluLogic", unfollowed := true, recurses := true, apart := false, narrowed := true }
def AluLogicUptoSaid : Prop := aluLogicUptoRow.holds Try.pinned (OpenSpec.upto aluLogicSpec)

/-- 'tstatelaw3.AluChips', WHERE WHAT IT READS IS OF BULK AT MOST 1048576: true; the input reads as it did. -/
def aluChipsUptoRow : OpenClaim := { program := "ytjbmgnkolbficaa", sum := "f08820800c8db9fe80f38cedd50ecfe1380a4e7489ae22b51b28387a581083d3", func := "tstate/tstatelaw3.AluChips", spec := "aluChips", unfollowed := true, recurses := true, apart := false, narrowed := true }
def AluChipsUptoSaid : Prop := aluChipsUptoRow.holds Try.pinned (OpenSpec.upto aluChipsSpec)

/-- 'tstatelaw3.AluSigned', WHERE WHAT IT READS IS OF BULK AT MOST 1048576: true; the input reads as it did. -/
def aluSignedUptoRow : OpenClaim := { program := "ytjbmgnkolbficaa", sum := "f08820800c8db9fe80f38cedd50ecfe1380a4e7489ae22b51b28387a581083d3", func := "tstate/tstatelaw3.AluSigned", spec := "aluSigned", unfollowed := true, recurses := true, apart := false, narrowed := true }
def AluSignedUptoSaid : Prop := aluSignedUptoRow.holds Try.pinned (OpenSpec.upto aluSignedSpec)

end Rows
end Go.Proofs.Ytjbmgnkolbficaa
