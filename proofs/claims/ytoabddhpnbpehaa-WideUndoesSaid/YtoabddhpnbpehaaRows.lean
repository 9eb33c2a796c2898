/-
  No cell of these rows narrows 'for every input' (looked for: loops, veiled, ifaces, maps, wideKeys, modest, calm, conditions, laid).
  DERIVED. THE GIVEN ROWS OF THIS SEAT. 5 by the template 'for every input the law returns true; each argument reads behind the call as it read before'; 0 by the template 'total and deterministic' (their statements: YtoabddhpnbpehaaTotals.lean).
  GIVEN WITH THE SEED: the statements are not yours to turn. If you find one false, say at which input.
  Laid BY PROGRAM, IN A SANDBOX (cutbox-rows.mjs): the forced cells as the released guide's own fill.sh prints them over the translation b08425f0c147621b… (all of the seat's roots in one cut). By AI agents, Wed Nov 11 2026. No macro, syntax, notation, axiom, sorry.
-/
import Derived.Test.YtoabddhpnbpehaaChecked
import GoSem.Claim
import GoSem.ClaimJoined
import GoSem.ClaimMapViews
import Derived.JoinedTies
import Derived.KernelRfl
namespace Go.Proofs.Ytoabddhpnbpehaa
/- THE CELL 'sum', in the pinned program and in every row, IS THE sha256 OF THE DUMP (.gsa) THAT YtoabddhpnbpehaaProg.lean LOADS. Nothing in Lean hashes anything: it is a label: what it is worth is what the hold of that sum in a sandbox is worth. -/
noncomputable def Try.pinned : Pinned := { name := "ytoabddhpnbpehaa", sum := "b08425f0c147621ba3540cd8ea1883badf754f41d152ca6f3b3678415c5a366f", checked := Try.checked }
namespace Rows
def none {H : Type} : Left H := { results := [], args := [] }

/-- 'tstatelaw7.WideAdds': WHATEVER THE INPUT: true; the input reads as it did. -/
def wideAddsSpec : ChangeSpec := { name := "wideAdds", fn := fun _ => fun
  | [d1, d2, d3, d4] => { results := [.lit (.bool true)], args := [d1, d2, d3, d4] }
  | _ => none }
def wideAddsRow : OpenClaim := { program := "ytoabddhpnbpehaa", sum := "b08425f0c147621ba3540cd8ea1883badf754f41d152ca6f3b3678415c5a366f", func := "tstate/tstatelaw7.WideAdds", spec := "wideAdds", apart := false }
def WideAddsSaid : Prop := wideAddsRow.holds Try.pinned (OpenSpec.ofChange wideAddsSpec)

/-- ITS FALSE NEIGHBOUR: 'it returns false'. Refute it at one input. -/
def wideAddsWrong : ChangeSpec := { name := "wideAdds", fn := fun _ => fun
  | [d1, d2, d3, d4] => { results := [.lit (.bool false)], args := [d1, d2, d3, d4] }
  | _ => none }
def WideAddsWrongFalsely : Prop := wideAddsRow.holds Try.pinned (OpenSpec.ofChange wideAddsWrong)

/-- 'tstatelaw7.WideSubtracts': WHATEVER THE INPUT: true; the input reads as it did. -/
def wideSubtractsSpec : ChangeSpec := { name := "wideSubtracts", fn := fun _ => fun
  | [d1, d2] => { results := [.lit (.bool true)], args := [d1, d2] }
  | _ => none }
def wideSubtractsRow : OpenClaim := { program := "ytoabddhpnbpehaa", sum := "b08425f0c147621ba3540cd8ea1883badf754f41d152ca6f3b3678415c5a366f", func := "tstate/tstatelaw7.WideSubtracts", spec := "wideSubtracts", apart := false }
def WideSubtractsSaid : Prop := wideSubtractsRow.holds Try.pinned (OpenSpec.ofChange wideSubtractsSpec)

/-- ITS FALSE NEIGHBOUR: 'it returns false'. Refute it at one input. -/
def wideSubtractsWrong : ChangeSpec := { name := "wideSubtracts", fn := fun _ => fun
  | [d1, d2] => { results := [.lit (.bool false)], args := [d1, d2] }
  | _ => none }
def WideSubtractsWrongFalsely : Prop := wideSubtractsRow.holds Try.pinned (OpenSpec.ofChange wideSubtractsWrong)

/-- 'tstatelaw7.WideUndoes': WHATEVER THE INPUT: true; the input reads as it did. -/
def wideUndoesSpec : ChangeSpec := { name := "wideUndoes", fn := fun _ => fun
  | [d1, d2, d3, d4] => { results := [.lit (.bool true)], args := [d1, d2, d3, d4] }
  | _ => none }
def wideUndoesRow : OpenClaim := { program := "ytoabddhpnbpehaa", sum := "b08425f0c147621ba3540cd8ea1883badf754f41d152ca6f3b3678415c5a366f", func := "tstate/tstatelaw7.WideUndoes", spec := "wideUndoes", apart := false }
def WideUndoesSaid : Prop := wideUndoesRow.holds Try.pinned (OpenSpec.ofChange wideUndoesSpec)

/-- ITS FALSE NEIGHBOUR: 'it returns false'. Refute it at one input. -/
def wideUndoesWrong : ChangeSpec := { name := "wideUndoes", fn := fun _ => fun
  | [d1, d2, d3, d4] => { results := [.lit (.bool false)], args := [d1, d2, d3, d4] }
  | _ => none }
def WideUndoesWrongFalsely : Prop := wideUndoesRow.holds Try.pinned (OpenSpec.ofChange wideUndoesWrong)

/-- 'tstatelaw7.WideSigned': WHATEVER THE INPUT: true; the input reads as it did. -/
def wideSignedSpec : ChangeSpec := { name := "wideSigned", fn := fun _ => fun
  | [d1, d2] => { results := [.lit (.bool true)], args := [d1, d2] }
  | _ => none }
def wideSignedRow : OpenClaim := { program := "ytoabddhpnbpehaa", sum := "b08425f0c147621ba3540cd8ea1883badf754f41d152ca6f3b3678415c5a366f", func := "tstate/tstatelaw7.WideSigned", spec := "wideSigned", apart := false }
def WideSignedSaid : Prop := wideSignedRow.holds Try.pinned (OpenSpec.ofChange wideSignedSpec)

/-- ITS FALSE NEIGHBOUR: 'it returns false'. Refute it at one input. -/
def wideSignedWrong : ChangeSpec := { name := "wideSigned", fn := fun _ => fun
  | [d1, d2] => { results := [.lit (.bool false)], args := [d1, d2] }
  | _ => none }
def WideSignedWrongFalsely : Prop := wideSignedRow.holds Try.pinned (OpenSpec.ofChange wideSignedWrong)

/-- 'tstatelaw7.WideKeeps': WHATEVER THE INPUT: true; the input reads as it did. -/
def wideKeepsSpec : ChangeSpec := { name := "wideKeeps", fn := fun _ => fun
  | [d1, d2, d3] => { results := [.lit (.bool true)], args := [d1, d2, d3] }
  | _ => none }
def wideKeepsRow : OpenClaim := { program := "ytoabddhpnbpehaa", sum := "b08425f0c147621ba3540cd8ea1883badf754f41d152ca6f3b3678415c5a366f", func := "tstate/tstatelaw7.WideKeeps", spec := "wideKeeps", apart := false }
def WideKeepsSaid : Prop := wideKeepsRow.holds Try.pinned (OpenSpec.ofChange wideKeepsSpec)

/-- ITS FALSE NEIGHBOUR: 'it returns false'. Refute it at one input. -/
def wideKeepsWrong : ChangeSpec := { name := "wideKeeps", fn := fun _ => fun
  | [d1, d2, d3] => { results := [.lit (.bool false)], args := [d1, d2, d3] }
  | _ => none }
def WideKeepsWrongFalsely : Prop := wideKeepsRow.holds Try.pinned (OpenSpec.ofChange wideKeepsWrong)

/- THE SECOND FORM. 'bulk': how many values and letters a reading holds, each counted each time it is reached (what is shared counts as often as it is met; a slice's spare places count too). A statement '..UptoSaid' is the law's where the arguments, and the package variables that the reading takes, are together of bulk at most 1048576: NARROWER than '..Said'. Prove '..Said' where nothing that the law and all that it calls make is longer than what came in: it says more and counts as full. Else prove '..UptoSaid'. A law counts once. -/
mutual
def uptoBulk {H : Type} : DataW H → Nat
  | .lit (.string bytes) => bytes.length + 1
  | .lit _ => 1
  | .nil => 1
  | .ptr d => uptoBulk d + 1
  | .slice elems spare => uptoBulkAll elems + uptoBulkAll spare + 1
  | .agg parts => uptoBulkAll parts + 1
  | .iface _ d => uptoBulk d + 1
  | .map entries => uptoBulkEntries entries + 1
  | .held _ => 1
def uptoBulkAll {H : Type} : List (DataW H) → Nat
  | [] => 0
  | d :: r => uptoBulk d + uptoBulkAll r
def uptoBulkEntries {H : Type} : List (Lit × DataW H) → Nat
  | [] => 0
  | x :: r => uptoBulkEntry x + uptoBulkEntries r
def uptoBulkEntry {H : Type} : Lit × DataW H → Nat
  | (.string bytes, d) => bytes.length + uptoBulk d + 1
  | (_, d) => uptoBulk d + 1
 end
def uptoSmall : (H : Type) → List (DataW H) → Bool := fun _ ds => decide (uptoBulkAll ds ≤ 1048576)
def OpenSpec.upto (s : _root_.Go.ChangeSpec) : _root_.Go.OpenSpec := { _root_.Go.OpenSpec.ofChange s with cond := some uptoSmall }

/-- 'tstatelaw7.WideAdds', WHERE WHAT IT READS IS OF BULK AT MOST 1048576: true; the input reads as it did. -/
def wideAddsUptoRow : OpenClaim := { program := "ytoabddhpnbpehaa", sum := "b08425f0c147621ba3540cd8ea1883badf754f41d152ca6f3b3678415c5a366f", func := "tstate/tstatelaw7.WideAdds", spec := "wideAdds", apart := false, narrowed := true }
def WideAddsUptoSaid : Prop := wideAddsUptoRow.holds Try.pinned (OpenSpec.upto wideAddsSpec)

/-- 'tstatelaw7.WideSubtracts', WHERE WHAT IT READS IS OF BULK AT MOST 1048576: true; the input reads as it did. -/
def wideSubtractsUptoRow : OpenClaim := { program := "ytoabddhpnbpehaa", sum := "b08425f0c147621ba3540cd8ea1883badf754f41d152ca6f3b3678415c5a366f", func := "tstate/tstatelaw7.WideSubtracts", spec := "wideSubtracts", apart := false, narrowed := true }
def WideSubtractsUptoSaid : Prop := wideSubtractsUptoRow.holds Try.pinned (OpenSpec.upto wideSubtractsSpec)

/-- 'tstatelaw7.WideUndoes', WHERE WHAT IT READS IS OF BULK AT MOST 1048576: true; the input reads as it did. -/
def wideUndoesUptoRow : OpenClaim := { program := "ytoabddhpnbpehaa", sum := "b08425f0c147621ba3540cd8ea1883badf754f41d152ca6f3b3678415c5a366f", func := "tstate/tstatelaw7.WideUndoes", spec := "wideUndoes", apart := false, narrowed := true }
def WideUndoesUptoSaid : Prop := wideUndoesUptoRow.holds Try.pinned (OpenSpec.upto wideUndoesSpec)

/-- 'tstatelaw7.WideSigned', WHERE WHAT IT READS IS OF BULK AT MOST 1048576: true; the input reads as it did. -/
def wideSignedUptoRow : OpenClaim := { program := "ytoabddhpnbpehaa", sum := "b08425f0c147621ba3540cd8ea1883badf754f41d152ca6f3b3678415c5a366f", func := "tstate/tstatelaw7.WideSigned", spec := "wideSigned", apart := false, narrowed := true }
def WideSignedUptoSaid : Prop := wideSignedUptoRow.holds Try.pinned (OpenSpec.upto wideSignedSpec)

/-- 'tstatelaw7.WideKeeps', WHERE WHAT IT READS IS OF BULK AT MOST 1048576: true; the input reads as it did. -/
def wideKeepsUptoRow : OpenClaim := { program := "ytoabddhpnbpehaa", sum := "b08425f0c147621ba3540cd8ea1883badf754f41d152ca6f3b3678415c5a366f", func := "tstate/tstatelaw7.WideKeeps", spec := "wideKeeps", apart := false, narrowed := true }
def WideKeepsUptoSaid : Prop := wideKeepsUptoRow.holds Try.pinned (OpenSpec.upto wideKeepsSpec)

end Rows
end Go.Proofs.Ytoabddhpnbpehaa
