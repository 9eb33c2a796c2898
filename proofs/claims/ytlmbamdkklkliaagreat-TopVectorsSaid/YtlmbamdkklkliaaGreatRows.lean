/-
  No cell of these rows narrows 'for every input' (looked for: loops, veiled, ifaces, maps, wideKeys, modest, calm, conditions, laid).
  DERIVED. THE GIVEN ROWS OF THIS SEAT. 3 by the template 'for every input the law returns true; each argument reads behind the call as it read before'; 0 by the template 'total and deterministic' (their statements: YtlmbamdkklkliaaGreatTotals.lean).
  GIVEN WITH THE SEED: the statements are not yours to turn. If you find one false, say at which input.
  Laid BY PROGRAM, IN A SANDBOX (cutbox-rows.mjs): the forced cells as the released guide's own fill.sh prints them over the translation acf6a1a86b38704a… (all of the seat's roots in one cut). By AI agents, Wed Nov 11 2026. No macro, syntax, notation, axiom, sorry.
-/
import Derived.Test.YtlmbamdkklkliaaGreatChecked
import GoSem.Claim
import GoSem.ClaimJoined
import GoSem.ClaimMapViews
import Derived.JoinedTies
import Derived.KernelRfl
namespace Go.Proofs.YtlmbamdkklkliaaGreat
/- THE CELL 'sum', in the pinned program and in every row, IS THE sha256 OF THE DUMP (.gsa) THAT YtlmbamdkklkliaaGreatProg.lean LOADS. Nothing in Lean hashes anything: it is a label: what it is worth is what the hold of that sum in a sandbox is worth. -/
noncomputable def Tryz.pinned : Pinned := { name := "ytlmbamdkklkliaagreat", sum := "acf6a1a86b38704abdf06be7e50e92708b4168e11405e0db831a3937494891d7", checked := Tryz.checked }
namespace Rows
def none {H : Type} : Left H := { results := [], args := [] }

/-- 'tstatetop.TopInterrupts': WHATEVER THE INPUT: true; the input reads as it did. -/
def topInterruptsSpec : ChangeSpec := { name := "topInterrupts", fn := fun _ => fun
  | [d] => { results := [.lit (.bool true)], args := [d] }
  | _ => none }
def topInterruptsRow : OpenClaim := { program := "ytlmbamdkklkliaagreat", sum := "acf6a1a86b38704abdf06be7e50e92708b4168e11405e0db831a3937494891d7", func := "tstate/tstatetop.TopInterrupts", spec := "topInterrupts", inPlace := ["slices.overlaps[tstate/api.Cell]"], unfollowed := true, recurses := true, apart := false }
def TopInterruptsSaid : Prop := topInterruptsRow.holds Tryz.pinned (OpenSpec.ofChange topInterruptsSpec)

/-- ITS FALSE NEIGHBOUR: 'it returns false'. Refute it at one input. -/
def topInterruptsWrong : ChangeSpec := { name := "topInterrupts", fn := fun _ => fun
  | [d] => { results := [.lit (.bool false)], args := [d] }
  | _ => none }
def TopInterruptsWrongFalsely : Prop := topInterruptsRow.holds Tryz.pinned (OpenSpec.ofChange topInterruptsWrong)

/-- 'tstatetop.TopVectors': WHATEVER THE INPUT: true; the input reads as it did. -/
def topVectorsSpec : ChangeSpec := { name := "topVectors", fn := fun _ => fun
  | [d] => { results := [.lit (.bool true)], args := [d] }
  | _ => none }
def topVectorsRow : OpenClaim := { program := "ytlmbamdkklkliaagreat", sum := "acf6a1a86b38704abdf06be7e50e92708b4168e11405e0db831a3937494891d7", func := "tstate/tstatetop.TopVectors", spec := "topVectors", inPlace := ["slices.overlaps[tstate/api.Cell]"], unfollowed := true, recurses := true, apart := false }
def TopVectorsSaid : Prop := topVectorsRow.holds Tryz.pinned (OpenSpec.ofChange topVectorsSpec)

/-- ITS FALSE NEIGHBOUR: 'it returns false'. Refute it at one input. -/
def topVectorsWrong : ChangeSpec := { name := "topVectors", fn := fun _ => fun
  | [d] => { results := [.lit (.bool false)], args := [d] }
  | _ => none }
def TopVectorsWrongFalsely : Prop := topVectorsRow.holds Tryz.pinned (OpenSpec.ofChange topVectorsWrong)

/-- 'tstatetop.TopBuses': WHATEVER THE INPUT: true; the input reads as it did. -/
def topBusesSpec : ChangeSpec := { name := "topBuses", fn := fun _ => fun
  | [d] => { results := [.lit (.bool true)], args := [d] }
  | _ => none }
def topBusesRow : OpenClaim := { program := "ytlmbamdkklkliaagreat", sum := "acf6a1a86b38704abdf06be7e50e92708b4168e11405e0db831a3937494891d7", func := "tstate/tstatetop.TopBuses", spec := "topBuses", inPlace := ["slices.overlaps[tstate/api.Cell]"], unfollowed := true, recurses := true, apart := false }
def TopBusesSaid : Prop := topBusesRow.holds Tryz.pinned (OpenSpec.ofChange topBusesSpec)

/-- ITS FALSE NEIGHBOUR: 'it returns false'. Refute it at one input. -/
def topBusesWrong : ChangeSpec := { name := "topBuses", fn := fun _ => fun
  | [d] => { results := [.lit (.bool false)], args := [d] }
  | _ => none }
def TopBusesWrongFalsely : Prop := topBusesRow.holds Tryz.pinned (OpenSpec.ofChange topBusesWrong)

/- THE SECOND FORM. 'bulk': how many values and letters a reading holds, each counted each time it is reached (what is shared counts as often as it is met; a slice's spare places count too). A statement '..UptoSaid' is the law's where the arguments, and the package variables that the reading takes, are together of bulk at most 1048576: NARROWER than '..Said'. Prove '..Said' where nothing that the law and all that it calls make is longer than what came in: it says more and counts as full. Else prove '..UptoSaid'. A law counts once. -/
mutual
def uptoBulk {H : Type} : DataW H → Nat
  | .lit (.string bytes) => bytes.length + 1
  | .lit _ => 1
  | .nil => 1
  | .ptr d => uptoBulk d + 1
  | .slice elems spare => uptoBulkAll elems + uptoBulkAll spare + 1
  | .agg parts => uptoBulkAll parts + 1
  | .iface _ d => uptoBulk d + 1
  | .map entries => uptoBulkEntries entries + 1
  | .held _ => 1
def uptoBulkAll {H : Type} : List (DataW H) → Nat
  | [] => 0
  | d :: r => uptoBulk d + uptoBulkAll r
def uptoBulkEntries {H : Type} : List (Lit × DataW H) → Nat
  | [] => 0
  | x :: r => uptoBulkEntry x + uptoBulkEntries r
def uptoBulkEntry {H : Type} : Lit × DataW H → Nat
  | (.string bytes, d) => bytes.length + uptoBulk d + 1
  | (_, d) => uptoBulk d + 1
 end
def uptoSmall : (H : Type) → List (DataW H) → Bool := fun _ ds => decide (uptoBulkAll ds ≤ 1048576)
def OpenSpec.upto (s : _root_.Go.ChangeSpec) : _root_.Go.OpenSpec := { _root_.Go.OpenSpec.ofChange s with cond := some uptoSmall }

/-- 'tstatetop.TopInterrupts', WHERE WHAT IT READS IS OF BULK AT MOST 1048576: true; the input reads as it did. -/
def topInterruptsUptoRow : OpenClaim := { program := "ytlmbamdkklkliaagreat", sum := "acf6a1a86b38704abdf06be7e50e92708b4168e11405e0db831a3937494891d7", func := "tstate/tstatetop.TopInterrupts", spec := "topInterrupts", inPlace := ["slices.overlaps[tstate/api.Cell]"], unfollowed := true, recurses := true, apart := false, narrowed := true }
def TopInterruptsUptoSaid : Prop := topInterruptsUptoRow.holds Tryz.pinned (OpenSpec.upto topInterruptsSpec)

/-- 'tstatetop.TopVectors', WHERE WHAT IT READS IS OF BULK AT MOST 1048576: true; the input reads as it did. -/
def topVectorsUptoRow : OpenClaim := { program := "ytlmbamdkklkliaagreat", sum := "acf6a1a86b38704abdf06be7e50e92708b4168e11405e0db831a3937494891d7", func := "tstate/tstatetop.TopVectors", spec := "topVectors", inPlace := ["slices.overlaps[tstate/api.Cell]"], unfollowed := true, recurses := true, apart := false, narrowed := true }
def TopVectorsUptoSaid : Prop := topVectorsUptoRow.holds Tryz.pinned (OpenSpec.upto topVectorsSpec)

/-- 'tstatetop.TopBuses', WHERE WHAT IT READS IS OF BULK AT MOST 1048576: true; the input reads as it did. -/
def topBusesUptoRow : OpenClaim := { program := "ytlmbamdkklkliaagreat", sum := "acf6a1a86b38704abdf06be7e50e92708b4168e11405e0db831a3937494891d7", func := "tstate/tstatetop.TopBuses", spec := "topBuses", inPlace := ["slices.overlaps[tstate/api.Cell]"], unfollowed := true, recurses := true, apart := false, narrowed := true }
def TopBusesUptoSaid : Prop := topBusesUptoRow.holds Tryz.pinned (OpenSpec.upto topBusesSpec)

end Rows
end Go.Proofs.YtlmbamdkklkliaaGreat
