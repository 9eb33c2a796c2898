/-
  No cell of these rows narrows 'for every input' (looked for: loops, veiled, ifaces, maps, wideKeys, modest, calm, conditions, laid).
  DERIVED. THE GIVEN ROWS OF THIS SEAT. 8 by the template 'for every input the law returns true; each argument reads behind the call as it read before'; 0 by the template 'total and deterministic' (their statements: YtcghjblkebnmbaaTotals.lean).
  GIVEN WITH THE SEED: the statements are not yours to turn. If you find one false, say at which input.
  Laid BY PROGRAM, IN A SANDBOX (cutbox-rows.mjs): the forced cells as the released guide's own fill.sh prints them over the translation ac86e4f89b81b6b3… (all of the seat's roots in one cut). By AI agents, Wed Nov 11 2026. No macro, syntax, notation, axiom, sorry.
-/
import Derived.Test.YtcghjblkebnmbaaChecked
import GoSem.Claim
import GoSem.ClaimJoined
import GoSem.ClaimMapViews
import Derived.JoinedTies
import Derived.KernelRfl
namespace Go.Proofs.Ytcghjblkebnmbaa
/- THE CELL 'sum', in the pinned program and in every row, IS THE sha256 OF THE DUMP (.gsa) THAT YtcghjblkebnmbaaProg.lean LOADS. Nothing in Lean hashes anything: it is a label: what it is worth is what the hold of that sum in a sandbox is worth. -/
noncomputable def Try.pinned : Pinned := { name := "ytcghjblkebnmbaa", sum := "ac86e4f89b81b6b3e92327b230613b884daec2a8754b641550db11e053ce63eb", checked := Try.checked }
namespace Rows
def none {H : Type} : Left H := { results := [], args := [] }

/-- 'tstatelaw1.BitsParity': WHATEVER THE INPUT: true; the input reads as it did. -/
def bitsParitySpec : ChangeSpec := { name := "bitsParity", fn := fun _ => fun
  | [d1, d2] => { results := [.lit (.bool true)], args := [d1, d2] }
  | _ => none }
def bitsParityRow : OpenClaim := { program := "ytcghjblkebnmbaa", sum := "ac86e4f89b81b6b3e92327b230613b884daec2a8754b641550db11e053ce63eb", func := "tstate/tstatelaw1.BitsParity", spec := "bitsParity", apart := false }
def BitsParitySaid : Prop := bitsParityRow.holds Try.pinned (OpenSpec.ofChange bitsParitySpec)

/-- ITS FALSE NEIGHBOUR: 'it returns false'. Refute it at one input. -/
def bitsParityWrong : ChangeSpec := { name := "bitsParity", fn := fun _ => fun
  | [d1, d2] => { results := [.lit (.bool false)], args := [d1, d2] }
  | _ => none }
def BitsParityWrongFalsely : Prop := bitsParityRow.holds Try.pinned (OpenSpec.ofChange bitsParityWrong)

/-- 'tstatelaw1.BitsDifferences': WHATEVER THE INPUT: true; the input reads as it did. -/
def bitsDifferencesSpec : ChangeSpec := { name := "bitsDifferences", fn := fun _ => fun
  | [d1, d2, d3] => { results := [.lit (.bool true)], args := [d1, d2, d3] }
  | _ => none }
def bitsDifferencesRow : OpenClaim := { program := "ytcghjblkebnmbaa", sum := "ac86e4f89b81b6b3e92327b230613b884daec2a8754b641550db11e053ce63eb", func := "tstate/tstatelaw1.BitsDifferences", spec := "bitsDifferences", apart := false }
def BitsDifferencesSaid : Prop := bitsDifferencesRow.holds Try.pinned (OpenSpec.ofChange bitsDifferencesSpec)

/-- ITS FALSE NEIGHBOUR: 'it returns false'. Refute it at one input. -/
def bitsDifferencesWrong : ChangeSpec := { name := "bitsDifferences", fn := fun _ => fun
  | [d1, d2, d3] => { results := [.lit (.bool false)], args := [d1, d2, d3] }
  | _ => none }
def BitsDifferencesWrongFalsely : Prop := bitsDifferencesRow.holds Try.pinned (OpenSpec.ofChange bitsDifferencesWrong)

/-- 'tstatelaw1.BitsJoins': WHATEVER THE INPUT: true; the input reads as it did. -/
def bitsJoinsSpec : ChangeSpec := { name := "bitsJoins", fn := fun _ => fun
  | [d1, d2] => { results := [.lit (.bool true)], args := [d1, d2] }
  | _ => none }
def bitsJoinsRow : OpenClaim := { program := "ytcghjblkebnmbaa", sum := "ac86e4f89b81b6b3e92327b230613b884daec2a8754b641550db11e053ce63eb", func := "tstate/tstatelaw1.BitsJoins", spec := "bitsJoins", apart := false }
def BitsJoinsSaid : Prop := bitsJoinsRow.holds Try.pinned (OpenSpec.ofChange bitsJoinsSpec)

/-- ITS FALSE NEIGHBOUR: 'it returns false'. Refute it at one input. -/
def bitsJoinsWrong : ChangeSpec := { name := "bitsJoins", fn := fun _ => fun
  | [d1, d2] => { results := [.lit (.bool false)], args := [d1, d2] }
  | _ => none }
def BitsJoinsWrongFalsely : Prop := bitsJoinsRow.holds Try.pinned (OpenSpec.ofChange bitsJoinsWrong)

/-- 'tstatelaw1.BitsMajority': WHATEVER THE INPUT: true; the input reads as it did. -/
def bitsMajoritySpec : ChangeSpec := { name := "bitsMajority", fn := fun _ => fun
  | [d1, d2, d3] => { results := [.lit (.bool true)], args := [d1, d2, d3] }
  | _ => none }
def bitsMajorityRow : OpenClaim := { program := "ytcghjblkebnmbaa", sum := "ac86e4f89b81b6b3e92327b230613b884daec2a8754b641550db11e053ce63eb", func := "tstate/tstatelaw1.BitsMajority", spec := "bitsMajority", apart := false }
def BitsMajoritySaid : Prop := bitsMajorityRow.holds Try.pinned (OpenSpec.ofChange bitsMajoritySpec)

/-- ITS FALSE NEIGHBOUR: 'it returns false'. Refute it at one input. -/
def bitsMajorityWrong : ChangeSpec := { name := "bitsMajority", fn := fun _ => fun
  | [d1, d2, d3] => { results := [.lit (.bool false)], args := [d1, d2, d3] }
  | _ => none }
def BitsMajorityWrongFalsely : Prop := bitsMajorityRow.holds Try.pinned (OpenSpec.ofChange bitsMajorityWrong)

/-- 'tstatelaw1.BitsSums': WHATEVER THE INPUT: true; the input reads as it did. -/
def bitsSumsSpec : ChangeSpec := { name := "bitsSums", fn := fun _ => fun
  | [d1, d2, d3] => { results := [.lit (.bool true)], args := [d1, d2, d3] }
  | _ => none }
def bitsSumsRow : OpenClaim := { program := "ytcghjblkebnmbaa", sum := "ac86e4f89b81b6b3e92327b230613b884daec2a8754b641550db11e053ce63eb", func := "tstate/tstatelaw1.BitsSums", spec := "bitsSums", apart := false }
def BitsSumsSaid : Prop := bitsSumsRow.holds Try.pinned (OpenSpec.ofChange bitsSumsSpec)

/-- ITS FALSE NEIGHBOUR: 'it returns false'. Refute it at one input. -/
def bitsSumsWrong : ChangeSpec := { name := "bitsSums", fn := fun _ => fun
  | [d1, d2, d3] => { results := [.lit (.bool false)], args := [d1, d2, d3] }
  | _ => none }
def BitsSumsWrongFalsely : Prop := bitsSumsRow.holds Try.pinned (OpenSpec.ofChange bitsSumsWrong)

/-- 'tstatelaw1.BitsComplements': WHATEVER THE INPUT: true; the input reads as it did. -/
def bitsComplementsSpec : ChangeSpec := { name := "bitsComplements", fn := fun _ => fun
  | [d1, d2, d3] => { results := [.lit (.bool true)], args := [d1, d2, d3] }
  | _ => none }
def bitsComplementsRow : OpenClaim := { program := "ytcghjblkebnmbaa", sum := "ac86e4f89b81b6b3e92327b230613b884daec2a8754b641550db11e053ce63eb", func := "tstate/tstatelaw1.BitsComplements", spec := "bitsComplements", apart := false }
def BitsComplementsSaid : Prop := bitsComplementsRow.holds Try.pinned (OpenSpec.ofChange bitsComplementsSpec)

/-- ITS FALSE NEIGHBOUR: 'it returns false'. Refute it at one input. -/
def bitsComplementsWrong : ChangeSpec := { name := "bitsComplements", fn := fun _ => fun
  | [d1, d2, d3] => { results := [.lit (.bool false)], args := [d1, d2, d3] }
  | _ => none }
def BitsComplementsWrongFalsely : Prop := bitsComplementsRow.holds Try.pinned (OpenSpec.ofChange bitsComplementsWrong)

/-- 'tstatelaw1.BitsUndoes': WHATEVER THE INPUT: true; the input reads as it did. -/
def bitsUndoesSpec : ChangeSpec := { name := "bitsUndoes", fn := fun _ => fun
  | [d1, d2, d3] => { results := [.lit (.bool true)], args := [d1, d2, d3] }
  | _ => none }
def bitsUndoesRow : OpenClaim := { program := "ytcghjblkebnmbaa", sum := "ac86e4f89b81b6b3e92327b230613b884daec2a8754b641550db11e053ce63eb", func := "tstate/tstatelaw1.BitsUndoes", spec := "bitsUndoes", apart := false }
def BitsUndoesSaid : Prop := bitsUndoesRow.holds Try.pinned (OpenSpec.ofChange bitsUndoesSpec)

/-- ITS FALSE NEIGHBOUR: 'it returns false'. Refute it at one input. -/
def bitsUndoesWrong : ChangeSpec := { name := "bitsUndoes", fn := fun _ => fun
  | [d1, d2, d3] => { results := [.lit (.bool false)], args := [d1, d2, d3] }
  | _ => none }
def BitsUndoesWrongFalsely : Prop := bitsUndoesRow.holds Try.pinned (OpenSpec.ofChange bitsUndoesWrong)

/-- 'tstatelaw1.BitsChains': WHATEVER THE INPUT: true; the input reads as it did. -/
def bitsChainsSpec : ChangeSpec := { name := "bitsChains", fn := fun _ => fun
  | [d1, d2] => { results := [.lit (.bool true)], args := [d1, d2] }
  | _ => none }
def bitsChainsRow : OpenClaim := { program := "ytcghjblkebnmbaa", sum := "ac86e4f89b81b6b3e92327b230613b884daec2a8754b641550db11e053ce63eb", func := "tstate/tstatelaw1.BitsChains", spec := "bitsChains", apart := false }
def BitsChainsSaid : Prop := bitsChainsRow.holds Try.pinned (OpenSpec.ofChange bitsChainsSpec)

/-- ITS FALSE NEIGHBOUR: 'it returns false'. Refute it at one input. -/
def bitsChainsWrong : ChangeSpec := { name := "bitsChains", fn := fun _ => fun
  | [d1, d2] => { results := [.lit (.bool false)], args := [d1, d2] }
  | _ => none }
def BitsChainsWrongFalsely : Prop := bitsChainsRow.holds Try.pinned (OpenSpec.ofChange bitsChainsWrong)

/- THE SECOND FORM. 'bulk': how many values and letters a reading holds, each counted each time it is reached (what is shared counts as often as it is met; a slice's spare places count too). A statement '..UptoSaid' is the law's where the arguments, and the package variables that the reading takes, are together of bulk at most 1048576: NARROWER than '..Said'. Prove '..Said' where nothing that the law and all that it calls make is longer than what came in: it says more and counts as full. Else prove '..UptoSaid'. A law counts once. -/
mutual
def uptoBulk {H : Type} : DataW H → Nat
  | .lit (.string bytes) => bytes.length + 1
  | .lit _ => 1
  | .nil => 1
  | .ptr d => uptoBulk d + 1
  | .slice elems spare => uptoBulkAll elems + uptoBulkAll spare + 1
  | .agg parts => uptoBulkAll parts + 1
  | .iface _ d => uptoBulk d + 1
  | .map entries => uptoBulkEntries entries + 1
  | .held _ => 1
def uptoBulkAll {H : Type} : List (DataW H) → Nat
  | [] => 0
  | d :: r => uptoBulk d + uptoBulkAll r
def uptoBulkEntries {H : Type} : List (Lit × DataW H) → Nat
  | [] => 0
  | x :: r => uptoBulkEntry x + uptoBulkEntries r
def uptoBulkEntry {H : Type} : Lit × DataW H → Nat
  | (.string bytes, d) => bytes.length + uptoBulk d + 1
  | (_, d) => uptoBulk d + 1
 end
def uptoSmall : (H : Type) → List (DataW H) → Bool := fun _ ds => decide (uptoBulkAll ds ≤ 1048576)
def OpenSpec.upto (s : _root_.Go.ChangeSpec) : _root_.Go.OpenSpec := { _root_.Go.OpenSpec.ofChange s with cond := some uptoSmall }

/-- 'tstatelaw1.BitsParity', WHERE WHAT IT READS IS OF BULK AT MOST 1048576: true; the input reads as it did. -/
def bitsParityUptoRow : OpenClaim := { program := "ytcghjblkebnmbaa", sum := "ac86e4f89b81b6b3e92327b230613b884daec2a8754b641550db11e053ce63eb", func := "tstate/tstatelaw1.BitsParity", spec := "bitsParity", apart := false, narrowed := true }
def BitsParityUptoSaid : Prop := bitsParityUptoRow.holds Try.pinned (OpenSpec.upto bitsParitySpec)

/-- 'tstatelaw1.BitsDifferences', WHERE WHAT IT READS IS OF BULK AT MOST 1048576: true; the input reads as it did. -/
def bitsDifferencesUptoRow : OpenClaim := { program := "ytcghjblkebnmbaa", sum := "ac86e4f89b81b6b3e92327b230613b884daec2a8754b641550db11e053ce63eb", func := "tstate/tstatelaw1.BitsDifferences", spec := "bitsDifferences", apart := false, narrowed := true }
def BitsDifferencesUptoSaid : Prop := bitsDifferencesUptoRow.holds Try.pinned (OpenSpec.upto bitsDifferencesSpec)

/-- 'tstatelaw1.BitsJoins', WHERE WHAT IT READS IS OF BULK AT MOST 1048576: true; the input reads as it did. -/
def bitsJoinsUptoRow : OpenClaim := { program := "ytcghjblkebnmbaa", sum := "ac86e4f89b81b6b3e92327b230613b884daec2a8754b641550db11e053ce63eb", func := "tstate/tstatelaw1.BitsJoins", spec := "bitsJoins", apart := false, narrowed := true }
def BitsJoinsUptoSaid : Prop := bitsJoinsUptoRow.holds Try.pinned (OpenSpec.upto bitsJoinsSpec)

/-- 'tstatelaw1.BitsMajority', WHERE WHAT IT READS IS OF BULK AT MOST 1048576: true; the input reads as it did. -/
def bitsMajorityUptoRow : OpenClaim := { program := "ytcghjblkebnmbaa", sum := "ac86e4f89b81b6b3e92327b230613b884daec2a8754b641550db11e053ce63eb", func := "tstate/tstatelaw1.BitsMajority", spec := "bitsMajority", apart := false, narrowed := true }
def BitsMajorityUptoSaid : Prop := bitsMajorityUptoRow.holds Try.pinned (OpenSpec.upto bitsMajoritySpec)

/-- 'tstatelaw1.BitsSums', WHERE WHAT IT READS IS OF BULK AT MOST 1048576: true; the input reads as it did. -/
def bitsSumsUptoRow : OpenClaim := { program := "ytcghjblkebnmbaa", sum := "ac86e4f89b81b6b3e92327b230613b884daec2a8754b641550db11e053ce63eb", func := "tstate/tstatelaw1.BitsSums", spec := "bitsSums", apart := false, narrowed := true }
def BitsSumsUptoSaid : Prop := bitsSumsUptoRow.holds Try.pinned (OpenSpec.upto bitsSumsSpec)

/-- 'tstatelaw1.BitsComplements', WHERE WHAT IT READS IS OF BULK AT MOST 1048576: true; the input reads as it did. -/
def bitsComplementsUptoRow : OpenClaim := { program := "ytcghjblkebnmbaa", sum := "ac86e4f89b81b6b3e92327b230613b884daec2a8754b641550db11e053ce63eb", func := "tstate/tstatelaw1.BitsComplements", spec := "bitsComplements", apart := false, narrowed := true }
def BitsComplementsUptoSaid : Prop := bitsComplementsUptoRow.holds Try.pinned (OpenSpec.upto bitsComplementsSpec)

/-- 'tstatelaw1.BitsUndoes', WHERE WHAT IT READS IS OF BULK AT MOST 1048576: true; the input reads as it did. -/
def bitsUndoesUptoRow : OpenClaim := { program := "ytcghjblkebnmbaa", sum := "ac86e4f89b81b6b3e92327b230613b884daec2a8754b641550db11e053ce63eb", func := "tstate/tstatelaw1.BitsUndoes", spec := "bitsUndoes", apart := false, narrowed := true }
def BitsUndoesUptoSaid : Prop := bitsUndoesUptoRow.holds Try.pinned (OpenSpec.upto bitsUndoesSpec)

/-- 'tstatelaw1.BitsChains', WHERE WHAT IT READS IS OF BULK AT MOST 1048576: true; the input reads as it did. -/
def bitsChainsUptoRow : OpenClaim := { program := "ytcghjblkebnmbaa", sum := "ac86e4f89b81b6b3e92327b230613b884daec2a8754b641550db11e053ce63eb", func := "tstate/tstatelaw1.BitsChains", spec := "bitsChains", apart := false, narrowed := true }
def BitsChainsUptoSaid : Prop := bitsChainsUptoRow.holds Try.pinned (OpenSpec.upto bitsChainsSpec)

end Rows
end Go.Proofs.Ytcghjblkebnmbaa
