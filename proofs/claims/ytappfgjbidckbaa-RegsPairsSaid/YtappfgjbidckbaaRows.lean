/-
  No cell of these rows narrows 'for every input' (looked for: loops, veiled, ifaces, maps, wideKeys, modest, calm, conditions, laid).
  DERIVED. THE GIVEN ROWS OF THIS SEAT. 5 by the template 'for every input the law returns true; each argument reads behind the call as it read before'; 0 by the template 'total and deterministic' (their statements: YtappfgjbidckbaaTotals.lean).
  GIVEN WITH THE SEED: the statements are not yours to turn. If you find one false, say at which input.
  Laid BY PROGRAM, IN A SANDBOX (cutbox-rows.mjs): the forced cells as the released guide's own fill.sh prints them over the translation 15d1feddf51c0633… (all of the seat's roots in one cut). By AI agents, Wed Nov 11 2026. No macro, syntax, notation, axiom, sorry.
-/
import Derived.Test.YtappfgjbidckbaaChecked
import GoSem.Claim
import GoSem.ClaimJoined
import GoSem.ClaimMapViews
import Derived.JoinedTies
import Derived.KernelRfl
namespace Go.Proofs.Ytappfgjbidckbaa
/- THE CELL 'sum', in the pinned program and in every row, IS THE sha256 OF THE DUMP (.gsa) THAT YtappfgjbidckbaaProg.lean LOADS. Nothing in Lean hashes anything: it is a label: what it is worth is what the hold of that sum in a sandbox is worth. -/
noncomputable def Try.pinned : Pinned := { name := "ytappfgjbidckbaa", sum := "15d1feddf51c0633c087b26b80e98218ce2ebcf48c745fc602eab740b0f8b819", checked := Try.checked }
namespace Rows
def none {H : Type} : Left H := { results := [], args := [] }

/-- 'tstatelaw8.RegsReads': WHATEVER THE INPUT: true; the input reads as it did. -/
def regsReadsSpec : ChangeSpec := { name := "regsReads", fn := fun _ => fun
  | [d1, d2] => { results := [.lit (.bool true)], args := [d1, d2] }
  | _ => none }
def regsReadsRow : OpenClaim := { program := "ytappfgjbidckbaa", sum := "15d1feddf51c0633c087b26b80e98218ce2ebcf48c745fc602eab740b0f8b819", func := "tstate/tstatelaw8.RegsReads", spec := "regsReads", apart := false }
def RegsReadsSaid : Prop := regsReadsRow.holds Try.pinned (OpenSpec.ofChange regsReadsSpec)

/-- ITS FALSE NEIGHBOUR: 'it returns false'. Refute it at one input. -/
def regsReadsWrong : ChangeSpec := { name := "regsReads", fn := fun _ => fun
  | [d1, d2] => { results := [.lit (.bool false)], args := [d1, d2] }
  | _ => none }
def RegsReadsWrongFalsely : Prop := regsReadsRow.holds Try.pinned (OpenSpec.ofChange regsReadsWrong)

/-- 'tstatelaw8.RegsKeeps': WHATEVER THE INPUT: true; the input reads as it did. -/
def regsKeepsSpec : ChangeSpec := { name := "regsKeeps", fn := fun _ => fun
  | [d1, d2, d3, d4] => { results := [.lit (.bool true)], args := [d1, d2, d3, d4] }
  | _ => none }
def regsKeepsRow : OpenClaim := { program := "ytappfgjbidckbaa", sum := "15d1feddf51c0633c087b26b80e98218ce2ebcf48c745fc602eab740b0f8b819", func := "tstate/tstatelaw8.RegsKeeps", spec := "regsKeeps", apart := false }
def RegsKeepsSaid : Prop := regsKeepsRow.holds Try.pinned (OpenSpec.ofChange regsKeepsSpec)

/-- ITS FALSE NEIGHBOUR: 'it returns false'. Refute it at one input. -/
def regsKeepsWrong : ChangeSpec := { name := "regsKeeps", fn := fun _ => fun
  | [d1, d2, d3, d4] => { results := [.lit (.bool false)], args := [d1, d2, d3, d4] }
  | _ => none }
def RegsKeepsWrongFalsely : Prop := regsKeepsRow.holds Try.pinned (OpenSpec.ofChange regsKeepsWrong)

/-- 'tstatelaw8.RegsWrites': WHATEVER THE INPUT: true; the input reads as it did. -/
def regsWritesSpec : ChangeSpec := { name := "regsWrites", fn := fun _ => fun
  | [d1, d2, d3, d4] => { results := [.lit (.bool true)], args := [d1, d2, d3, d4] }
  | _ => none }
def regsWritesRow : OpenClaim := { program := "ytappfgjbidckbaa", sum := "15d1feddf51c0633c087b26b80e98218ce2ebcf48c745fc602eab740b0f8b819", func := "tstate/tstatelaw8.RegsWrites", spec := "regsWrites", apart := false }
def RegsWritesSaid : Prop := regsWritesRow.holds Try.pinned (OpenSpec.ofChange regsWritesSpec)

/-- ITS FALSE NEIGHBOUR: 'it returns false'. Refute it at one input. -/
def regsWritesWrong : ChangeSpec := { name := "regsWrites", fn := fun _ => fun
  | [d1, d2, d3, d4] => { results := [.lit (.bool false)], args := [d1, d2, d3, d4] }
  | _ => none }
def RegsWritesWrongFalsely : Prop := regsWritesRow.holds Try.pinned (OpenSpec.ofChange regsWritesWrong)

/-- 'tstatelaw8.RegsPairs': WHATEVER THE INPUT: true; the input reads as it did. -/
def regsPairsSpec : ChangeSpec := { name := "regsPairs", fn := fun _ => fun
  | [d1, d2, d3, d4] => { results := [.lit (.bool true)], args := [d1, d2, d3, d4] }
  | _ => none }
def regsPairsRow : OpenClaim := { program := "ytappfgjbidckbaa", sum := "15d1feddf51c0633c087b26b80e98218ce2ebcf48c745fc602eab740b0f8b819", func := "tstate/tstatelaw8.RegsPairs", spec := "regsPairs", apart := false }
def RegsPairsSaid : Prop := regsPairsRow.holds Try.pinned (OpenSpec.ofChange regsPairsSpec)

/-- ITS FALSE NEIGHBOUR: 'it returns false'. Refute it at one input. -/
def regsPairsWrong : ChangeSpec := { name := "regsPairs", fn := fun _ => fun
  | [d1, d2, d3, d4] => { results := [.lit (.bool false)], args := [d1, d2, d3, d4] }
  | _ => none }
def RegsPairsWrongFalsely : Prop := regsPairsRow.holds Try.pinned (OpenSpec.ofChange regsPairsWrong)

/-- 'tstatelaw8.RegsPSW': WHATEVER THE INPUT: true; the input reads as it did. -/
def regsPSWSpec : ChangeSpec := { name := "regsPSW", fn := fun _ => fun
  | [d1, d2, d3] => { results := [.lit (.bool true)], args := [d1, d2, d3] }
  | _ => none }
def regsPSWRow : OpenClaim := { program := "ytappfgjbidckbaa", sum := "15d1feddf51c0633c087b26b80e98218ce2ebcf48c745fc602eab740b0f8b819", func := "tstate/tstatelaw8.RegsPSW", spec := "regsPSW", apart := false }
def RegsPSWSaid : Prop := regsPSWRow.holds Try.pinned (OpenSpec.ofChange regsPSWSpec)

/-- ITS FALSE NEIGHBOUR: 'it returns false'. Refute it at one input. -/
def regsPSWWrong : ChangeSpec := { name := "regsPSW", fn := fun _ => fun
  | [d1, d2, d3] => { results := [.lit (.bool false)], args := [d1, d2, d3] }
  | _ => none }
def RegsPSWWrongFalsely : Prop := regsPSWRow.holds Try.pinned (OpenSpec.ofChange regsPSWWrong)

/- THE SECOND FORM. 'bulk': how many values and letters a reading holds, each counted each time it is reached (what is shared counts as often as it is met; a slice's spare places count too). A statement '..UptoSaid' is the law's where the arguments, and the package variables that the reading takes, are together of bulk at most 1048576: NARROWER than '..Said'. Prove '..Said' where nothing that the law and all that it calls make is longer than what came in: it says more and counts as full. Else prove '..UptoSaid'. A law counts once. -/
mutual
def uptoBulk {H : Type} : DataW H → Nat
  | .lit (.string bytes) => bytes.length + 1
  | .lit _ => 1
  | .nil => 1
  | .ptr d => uptoBulk d + 1
  | .slice elems spare => uptoBulkAll elems + uptoBulkAll spare + 1
  | .agg parts => uptoBulkAll parts + 1
  | .iface _ d => uptoBulk d + 1
  | .map entries => uptoBulkEntries entries + 1
  | .held _ => 1
def uptoBulkAll {H : Type} : List (DataW H) → Nat
  | [] => 0
  | d :: r => uptoBulk d + uptoBulkAll r
def uptoBulkEntries {H : Type} : List (Lit × DataW H) → Nat
  | [] => 0
  | x :: r => uptoBulkEntry x + uptoBulkEntries r
def uptoBulkEntry {H : Type} : Lit × DataW H → Nat
  | (.string bytes, d) => bytes.length + uptoBulk d + 1
  | (_, d) => uptoBulk d + 1
 end
def uptoSmall : (H : Type) → List (DataW H) → Bool := fun _ ds => decide (uptoBulkAll ds ≤ 1048576)
def OpenSpec.upto (s : _root_.Go.ChangeSpec) : _root_.Go.OpenSpec := { _root_.Go.OpenSpec.ofChange s with cond := some uptoSmall }

/-- 'tstatelaw8.RegsReads', WHERE WHAT IT READS IS OF BULK AT MOST 1048576: true; the input reads as it did. -/
def regsReadsUptoRow : OpenClaim := { program := "ytappfgjbidckbaa", sum := "15d1feddf51c0633c087b26b80e98218ce2ebcf48c745fc602eab740b0f8b819", func := "tstate/tstatelaw8.RegsReads", spec := "regsReads", apart := false, narrowed := true }
def RegsReadsUptoSaid : Prop := regsReadsUptoRow.holds Try.pinned (OpenSpec.upto regsReadsSpec)

/-- 'tstatelaw8.RegsKeeps', WHERE WHAT IT READS IS OF BULK AT MOST 1048576: true; the input reads as it did. -/
def regsKeepsUptoRow : OpenClaim := { program := "ytappfgjbidckbaa", sum := "15d1feddf51c0633c087b26b80e98218ce2ebcf48c745fc602eab740b0f8b819", func := "tstate/tstatelaw8.RegsKeeps", spec := "regsKeeps", apart := false, narrowed := true }
def RegsKeepsUptoSaid : Prop := regsKeepsUptoRow.holds Try.pinned (OpenSpec.upto regsKeepsSpec)

/-- 'tstatelaw8.RegsWrites', WHERE WHAT IT READS IS OF BULK AT MOST 1048576: true; the input reads as it did. -/
def regsWritesUptoRow : OpenClaim := { program := "ytappfgjbidckbaa", sum := "15d1feddf51c0633c087b26b80e98218ce2ebcf48c745fc602eab740b0f8b819", func := "tstate/tstatelaw8.RegsWrites", spec := "regsWrites", apart := false, narrowed := true }
def RegsWritesUptoSaid : Prop := regsWritesUptoRow.holds Try.pinned (OpenSpec.upto regsWritesSpec)

/-- 'tstatelaw8.RegsPairs', WHERE WHAT IT READS IS OF BULK AT MOST 1048576: true; the input reads as it did. -/
def regsPairsUptoRow : OpenClaim := { program := "ytappfgjbidckbaa", sum := "15d1feddf51c0633c087b26b80e98218ce2ebcf48c745fc602eab740b0f8b819", func := "tstate/tstatelaw8.RegsPairs", spec := "regsPairs", apart := false, narrowed := true }
def RegsPairsUptoSaid : Prop := regsPairsUptoRow.holds Try.pinned (OpenSpec.upto regsPairsSpec)

/-- 'tstatelaw8.RegsPSW', WHERE WHAT IT READS IS OF BULK AT MOST 1048576: true; the input reads as it did. -/
def regsPSWUptoRow : OpenClaim := { program := "ytappfgjbidckbaa", sum := "15d1feddf51c0633c087b26b80e98218ce2ebcf48c745fc602eab740b0f8b819", func := "tstate/tstatelaw8.RegsPSW", spec := "regsPSW", apart := false, narrowed := true }
def RegsPSWUptoSaid : Prop := regsPSWUptoRow.holds Try.pinned (OpenSpec.upto regsPSWSpec)

end Rows
end Go.Proofs.Ytappfgjbidckbaa
