/-
  No cell of these rows narrows 'for every input' (looked for: loops, veiled, ifaces, maps, wideKeys, modest, calm, conditions, laid).
  DERIVED. THE GIVEN ROWS OF THIS SEAT. 5 by the template 'for every input the law returns true; each argument reads behind the call as it read before'; 0 by the template 'total and deterministic' (their statements: YtkdkkbflnlhhfaaTotals.lean).
  GIVEN WITH THE SEED: the statements are not yours to turn. If you find one false, say at which input.
  Laid BY PROGRAM, IN A SANDBOX (cutbox-rows.mjs): the forced cells as the released guide's own fill.sh prints them over the translation 5efd5d641a3cfda9… (all of the seat's roots in one cut). By AI agents, Wed Nov 11 2026. No macro, syntax, notation, axiom, sorry.
-/
import Derived.Test.YtkdkkbflnlhhfaaChecked
import GoSem.Claim
import GoSem.ClaimJoined
import GoSem.ClaimMapViews
import Derived.JoinedTies
import Derived.KernelRfl
namespace Go.Proofs.Ytkdkkbflnlhhfaa
/- THE CELL 'sum', in the pinned program and in every row, IS THE sha256 OF THE DUMP (.gsa) THAT YtkdkkbflnlhhfaaProg.lean LOADS. Nothing in Lean hashes anything: it is a label: what it is worth is what the hold of that sum in a sandbox is worth. -/
noncomputable def Try.pinned : Pinned := { name := "ytkdkkbflnlhhfaa", sum := "5efd5d641a3cfda903cd62540f5c5e6d7f64ca093ce9f9e47e4c317dd9cb8500", checked := Try.checked }
namespace Rows
def none {H : Type} : Left H := { results := [], args := [] }

/-- 'tstatelaw2.FlagsPacks': WHATEVER THE INPUT: true; the input reads as it did. -/
def flagsPacksSpec : ChangeSpec := { name := "flagsPacks", fn := fun _ => fun
  | [d1, d2] => { results := [.lit (.bool true)], args := [d1, d2] }
  | _ => none }
def flagsPacksRow : OpenClaim := { program := "ytkdkkbflnlhhfaa", sum := "5efd5d641a3cfda903cd62540f5c5e6d7f64ca093ce9f9e47e4c317dd9cb8500", func := "tstate/tstatelaw2.FlagsPacks", spec := "flagsPacks", apart := false }
def FlagsPacksSaid : Prop := flagsPacksRow.holds Try.pinned (OpenSpec.ofChange flagsPacksSpec)

/-- ITS FALSE NEIGHBOUR: 'it returns false'. Refute it at one input. -/
def flagsPacksWrong : ChangeSpec := { name := "flagsPacks", fn := fun _ => fun
  | [d1, d2] => { results := [.lit (.bool false)], args := [d1, d2] }
  | _ => none }
def FlagsPacksWrongFalsely : Prop := flagsPacksRow.holds Try.pinned (OpenSpec.ofChange flagsPacksWrong)

/-- 'tstatelaw2.FlagsUnpacks': WHATEVER THE INPUT: true; the input reads as it did. -/
def flagsUnpacksSpec : ChangeSpec := { name := "flagsUnpacks", fn := fun _ => fun
  | [d1, d2] => { results := [.lit (.bool true)], args := [d1, d2] }
  | _ => none }
def flagsUnpacksRow : OpenClaim := { program := "ytkdkkbflnlhhfaa", sum := "5efd5d641a3cfda903cd62540f5c5e6d7f64ca093ce9f9e47e4c317dd9cb8500", func := "tstate/tstatelaw2.FlagsUnpacks", spec := "flagsUnpacks", apart := false }
def FlagsUnpacksSaid : Prop := flagsUnpacksRow.holds Try.pinned (OpenSpec.ofChange flagsUnpacksSpec)

/-- ITS FALSE NEIGHBOUR: 'it returns false'. Refute it at one input. -/
def flagsUnpacksWrong : ChangeSpec := { name := "flagsUnpacks", fn := fun _ => fun
  | [d1, d2] => { results := [.lit (.bool false)], args := [d1, d2] }
  | _ => none }
def FlagsUnpacksWrongFalsely : Prop := flagsUnpacksRow.holds Try.pinned (OpenSpec.ofChange flagsUnpacksWrong)

/-- 'tstatelaw2.FlagsRoundTrips': WHATEVER THE INPUT: true; the input reads as it did. -/
def flagsRoundTripsSpec : ChangeSpec := { name := "flagsRoundTrips", fn := fun _ => fun
  | [d] => { results := [.lit (.bool true)], args := [d] }
  | _ => none }
def flagsRoundTripsRow : OpenClaim := { program := "ytkdkkbflnlhhfaa", sum := "5efd5d641a3cfda903cd62540f5c5e6d7f64ca093ce9f9e47e4c317dd9cb8500", func := "tstate/tstatelaw2.FlagsRoundTrips", spec := "flagsRoundTrips", apart := false }
def FlagsRoundTripsSaid : Prop := flagsRoundTripsRow.holds Try.pinned (OpenSpec.ofChange flagsRoundTripsSpec)

/-- ITS FALSE NEIGHBOUR: 'it returns false'. Refute it at one input. -/
def flagsRoundTripsWrong : ChangeSpec := { name := "flagsRoundTrips", fn := fun _ => fun
  | [d] => { results := [.lit (.bool false)], args := [d] }
  | _ => none }
def FlagsRoundTripsWrongFalsely : Prop := flagsRoundTripsRow.holds Try.pinned (OpenSpec.ofChange flagsRoundTripsWrong)

/-- 'tstatelaw2.FlagsBits': WHATEVER THE INPUT: true; the input reads as it did. -/
def flagsBitsSpec : ChangeSpec := { name := "flagsBits", fn := fun _ => fun
  | [d] => { results := [.lit (.bool true)], args := [d] }
  | _ => none }
def flagsBitsRow : OpenClaim := { program := "ytkdkkbflnlhhfaa", sum := "5efd5d641a3cfda903cd62540f5c5e6d7f64ca093ce9f9e47e4c317dd9cb8500", func := "tstate/tstatelaw2.FlagsBits", spec := "flagsBits", apart := false }
def FlagsBitsSaid : Prop := flagsBitsRow.holds Try.pinned (OpenSpec.ofChange flagsBitsSpec)

/-- ITS FALSE NEIGHBOUR: 'it returns false'. Refute it at one input. -/
def flagsBitsWrong : ChangeSpec := { name := "flagsBits", fn := fun _ => fun
  | [d] => { results := [.lit (.bool false)], args := [d] }
  | _ => none }
def FlagsBitsWrongFalsely : Prop := flagsBitsRow.holds Try.pinned (OpenSpec.ofChange flagsBitsWrong)

/-- 'tstatelaw2.FlagsOf': WHATEVER THE INPUT: true; the input reads as it did. -/
def flagsOfSpec : ChangeSpec := { name := "flagsOf", fn := fun _ => fun
  | [d] => { results := [.lit (.bool true)], args := [d] }
  | _ => none }
def flagsOfRow : OpenClaim := { program := "ytkdkkbflnlhhfaa", sum := "5efd5d641a3cfda903cd62540f5c5e6d7f64ca093ce9f9e47e4c317dd9cb8500", func := "tstate/tstatelaw2.FlagsOf", spec := "flagsOf", apart := false }
def FlagsOfSaid : Prop := flagsOfRow.holds Try.pinned (OpenSpec.ofChange flagsOfSpec)

/-- ITS FALSE NEIGHBOUR: 'it returns false'. Refute it at one input. -/
def flagsOfWrong : ChangeSpec := { name := "flagsOf", fn := fun _ => fun
  | [d] => { results := [.lit (.bool false)], args := [d] }
  | _ => none }
def FlagsOfWrongFalsely : Prop := flagsOfRow.holds Try.pinned (OpenSpec.ofChange flagsOfWrong)

/- THE SECOND FORM. 'bulk': how many values and letters a reading holds, each counted each time it is reached (what is shared counts as often as it is met; a slice's spare places count too). A statement '..UptoSaid' is the law's where the arguments, and the package variables that the reading takes, are together of bulk at most 1048576: NARROWER than '..Said'. Prove '..Said' where nothing that the law and all that it calls make is longer than what came in: it says more and counts as full. Else prove '..UptoSaid'. A law counts once. -/
mutual
def uptoBulk {H : Type} : DataW H → Nat
  | .lit (.string bytes) => bytes.length + 1
  | .lit _ => 1
  | .nil => 1
  | .ptr d => uptoBulk d + 1
  | .slice elems spare => uptoBulkAll elems + uptoBulkAll spare + 1
  | .agg parts => uptoBulkAll parts + 1
  | .iface _ d => uptoBulk d + 1
  | .map entries => uptoBulkEntries entries + 1
  | .held _ => 1
def uptoBulkAll {H : Type} : List (DataW H) → Nat
  | [] => 0
  | d :: r => uptoBulk d + uptoBulkAll r
def uptoBulkEntries {H : Type} : List (Lit × DataW H) → Nat
  | [] => 0
  | x :: r => uptoBulkEntry x + uptoBulkEntries r
def uptoBulkEntry {H : Type} : Lit × DataW H → Nat
  | (.string bytes, d) => bytes.length + uptoBulk d + 1
  | (_, d) => uptoBulk d + 1
 end
def uptoSmall : (H : Type) → List (DataW H) → Bool := fun _ ds => decide (uptoBulkAll ds ≤ 1048576)
def OpenSpec.upto (s : _root_.Go.ChangeSpec) : _root_.Go.OpenSpec := { _root_.Go.OpenSpec.ofChange s with cond := some uptoSmall }

/-- 'tstatelaw2.FlagsPacks', WHERE WHAT IT READS IS OF BULK AT MOST 1048576: true; the input reads as it did. -/
def flagsPacksUptoRow : OpenClaim := { program := "ytkdkkbflnlhhfaa", sum := "5efd5d641a3cfda903cd62540f5c5e6d7f64ca093ce9f9e47e4c317dd9cb8500", func := "tstate/tstatelaw2.FlagsPacks", spec := "flagsPacks", apart := false, narrowed := true }
def FlagsPacksUptoSaid : Prop := flagsPacksUptoRow.holds Try.pinned (OpenSpec.upto flagsPacksSpec)

/-- 'tstatelaw2.FlagsUnpacks', WHERE WHAT IT READS IS OF BULK AT MOST 1048576: true; the input reads as it did. -/
def flagsUnpacksUptoRow : OpenClaim := { program := "ytkdkkbflnlhhfaa", sum := "5efd5d641a3cfda903cd62540f5c5e6d7f64ca093ce9f9e47e4c317dd9cb8500", func := "tstate/tstatelaw2.FlagsUnpacks", spec := "flagsUnpacks", apart := false, narrowed := true }
def FlagsUnpacksUptoSaid : Prop := flagsUnpacksUptoRow.holds Try.pinned (OpenSpec.upto flagsUnpacksSpec)

/-- 'tstatelaw2.FlagsRoundTrips', WHERE WHAT IT READS IS OF BULK AT MOST 1048576: true; the input reads as it did. -/
def flagsRoundTripsUptoRow : OpenClaim := { program := "ytkdkkbflnlhhfaa", sum := "5efd5d641a3cfda903cd62540f5c5e6d7f64ca093ce9f9e47e4c317dd9cb8500", func := "tstate/tstatelaw2.FlagsRoundTrips", spec := "flagsRoundTrips", apart := false, narrowed := true }
def FlagsRoundTripsUptoSaid : Prop := flagsRoundTripsUptoRow.holds Try.pinned (OpenSpec.upto flagsRoundTripsSpec)

/-- 'tstatelaw2.FlagsBits', WHERE WHAT IT READS IS OF BULK AT MOST 1048576: true; the input reads as it did. -/
def flagsBitsUptoRow : OpenClaim := { program := "ytkdkkbflnlhhfaa", sum := "5efd5d641a3cfda903cd62540f5c5e6d7f64ca093ce9f9e47e4c317dd9cb8500", func := "tstate/tstatelaw2.FlagsBits", spec := "flagsBits", apart := false, narrowed := true }
def FlagsBitsUptoSaid : Prop := flagsBitsUptoRow.holds Try.pinned (OpenSpec.upto flagsBitsSpec)

/-- 'tstatelaw2.FlagsOf', WHERE WHAT IT READS IS OF BULK AT MOST 1048576: true; the input reads as it did. -/
def flagsOfUptoRow : OpenClaim := { program := "ytkdkkbflnlhhfaa", sum := "5efd5d641a3cfda903cd62540f5c5e6d7f64ca093ce9f9e47e4c317dd9cb8500", func := "tstate/tstatelaw2.FlagsOf", spec := "flagsOf", apart := false, narrowed := true }
def FlagsOfUptoSaid : Prop := flagsOfUptoRow.holds Try.pinned (OpenSpec.upto flagsOfSpec)

end Rows
end Go.Proofs.Ytkdkkbflnlhhfaa
