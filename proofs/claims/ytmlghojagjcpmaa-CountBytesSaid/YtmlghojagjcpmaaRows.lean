/-
  No cell of these rows narrows 'for every input' (looked for: loops, veiled, ifaces, maps, wideKeys, modest, calm, conditions, laid).
  DERIVED. THE GIVEN ROWS OF THIS SEAT. 4 by the template 'for every input the law returns true; each argument reads behind the call as it read before'; 0 by the template 'total and deterministic' (their statements: YtmlghojagjcpmaaTotals.lean).
  GIVEN WITH THE SEED: the statements are not yours to turn. If you find one false, say at which input.
  Laid BY PROGRAM, IN A SANDBOX (cutbox-rows.mjs): the forced cells as the released guide's own fill.sh prints them over the translation 8db762acf196e4fd… (all of the seat's roots in one cut). By AI agents, Wed Nov 11 2026. No macro, syntax, notation, axiom, sorry.
-/
import Derived.Test.YtmlghojagjcpmaaChecked
import GoSem.Claim
import GoSem.ClaimJoined
import GoSem.ClaimMapViews
import Derived.JoinedTies
import Derived.KernelRfl
namespace Go.Proofs.Ytmlghojagjcpmaa
/- THE CELL 'sum', in the pinned program and in every row, IS THE sha256 OF THE DUMP (.gsa) THAT YtmlghojagjcpmaaProg.lean LOADS. Nothing in Lean hashes anything: it is a label: what it is worth is what the hold of that sum in a sandbox is worth. -/
noncomputable def Try.pinned : Pinned := { name := "ytmlghojagjcpmaa", sum := "8db762acf196e4fd185ab89182304d6e4e411826805fc1641eb34e635da65bc3", checked := Try.checked }
namespace Rows
def none {H : Type} : Left H := { results := [], args := [] }

/-- 'tstatelaw4.CountWords': WHATEVER THE INPUT: true; the input reads as it did. -/
def countWordsSpec : ChangeSpec := { name := "countWords", fn := fun _ => fun
  | [d1, d2, d3] => { results := [.lit (.bool true)], args := [d1, d2, d3] }
  | _ => none }
def countWordsRow : OpenClaim := { program := "ytmlghojagjcpmaa", sum := "8db762acf196e4fd185ab89182304d6e4e411826805fc1641eb34e635da65bc3", func := "tstate/tstatelaw4.CountWords", spec := "countWords", apart := false }
def CountWordsSaid : Prop := countWordsRow.holds Try.pinned (OpenSpec.ofChange countWordsSpec)

/-- ITS FALSE NEIGHBOUR: 'it returns false'. Refute it at one input. -/
def countWordsWrong : ChangeSpec := { name := "countWords", fn := fun _ => fun
  | [d1, d2, d3] => { results := [.lit (.bool false)], args := [d1, d2, d3] }
  | _ => none }
def CountWordsWrongFalsely : Prop := countWordsRow.holds Try.pinned (OpenSpec.ofChange countWordsWrong)

/-- 'tstatelaw4.CountEnds': WHATEVER THE INPUT: true; the input reads as it did. -/
def countEndsSpec : ChangeSpec := { name := "countEnds", fn := fun _ => fun
  | [d1, d2] => { results := [.lit (.bool true)], args := [d1, d2] }
  | _ => none }
def countEndsRow : OpenClaim := { program := "ytmlghojagjcpmaa", sum := "8db762acf196e4fd185ab89182304d6e4e411826805fc1641eb34e635da65bc3", func := "tstate/tstatelaw4.CountEnds", spec := "countEnds", apart := false }
def CountEndsSaid : Prop := countEndsRow.holds Try.pinned (OpenSpec.ofChange countEndsSpec)

/-- ITS FALSE NEIGHBOUR: 'it returns false'. Refute it at one input. -/
def countEndsWrong : ChangeSpec := { name := "countEnds", fn := fun _ => fun
  | [d1, d2] => { results := [.lit (.bool false)], args := [d1, d2] }
  | _ => none }
def CountEndsWrongFalsely : Prop := countEndsRow.holds Try.pinned (OpenSpec.ofChange countEndsWrong)

/-- 'tstatelaw4.CountBytes': WHATEVER THE INPUT: true; the input reads as it did. -/
def countBytesSpec : ChangeSpec := { name := "countBytes", fn := fun _ => fun
  | [d1, d2, d3] => { results := [.lit (.bool true)], args := [d1, d2, d3] }
  | _ => none }
def countBytesRow : OpenClaim := { program := "ytmlghojagjcpmaa", sum := "8db762acf196e4fd185ab89182304d6e4e411826805fc1641eb34e635da65bc3", func := "tstate/tstatelaw4.CountBytes", spec := "countBytes", apart := false }
def CountBytesSaid : Prop := countBytesRow.holds Try.pinned (OpenSpec.ofChange countBytesSpec)

/-- ITS FALSE NEIGHBOUR: 'it returns false'. Refute it at one input. -/
def countBytesWrong : ChangeSpec := { name := "countBytes", fn := fun _ => fun
  | [d1, d2, d3] => { results := [.lit (.bool false)], args := [d1, d2, d3] }
  | _ => none }
def CountBytesWrongFalsely : Prop := countBytesRow.holds Try.pinned (OpenSpec.ofChange countBytesWrong)

/-- 'tstatelaw4.CountUndoes': WHATEVER THE INPUT: true; the input reads as it did. -/
def countUndoesSpec : ChangeSpec := { name := "countUndoes", fn := fun _ => fun
  | [d1, d2, d3, d4] => { results := [.lit (.bool true)], args := [d1, d2, d3, d4] }
  | _ => none }
def countUndoesRow : OpenClaim := { program := "ytmlghojagjcpmaa", sum := "8db762acf196e4fd185ab89182304d6e4e411826805fc1641eb34e635da65bc3", func := "tstate/tstatelaw4.CountUndoes", spec := "countUndoes", apart := false }
def CountUndoesSaid : Prop := countUndoesRow.holds Try.pinned (OpenSpec.ofChange countUndoesSpec)

/-- ITS FALSE NEIGHBOUR: 'it returns false'. Refute it at one input. -/
def countUndoesWrong : ChangeSpec := { name := "countUndoes", fn := fun _ => fun
  | [d1, d2, d3, d4] => { results := [.lit (.bool false)], args := [d1, d2, d3, d4] }
  | _ => none }
def CountUndoesWrongFalsely : Prop := countUndoesRow.holds Try.pinned (OpenSpec.ofChange countUndoesWrong)

/- THE SECOND FORM. 'bulk': how many values and letters a reading holds, each counted each time it is reached (what is shared counts as often as it is met; a slice's spare places count too). A statement '..UptoSaid' is the law's where the arguments, and the package variables that the reading takes, are together of bulk at most 1048576: NARROWER than '..Said'. Prove '..Said' where nothing that the law and all that it calls make is longer than what came in: it says more and counts as full. Else prove '..UptoSaid'. A law counts once. -/
mutual
def uptoBulk {H : Type} : DataW H → Nat
  | .lit (.string bytes) => bytes.length + 1
  | .lit _ => 1
  | .nil => 1
  | .ptr d => uptoBulk d + 1
  | .slice elems spare => uptoBulkAll elems + uptoBulkAll spare + 1
  | .agg parts => uptoBulkAll parts + 1
  | .iface _ d => uptoBulk d + 1
  | .map entries => uptoBulkEntries entries + 1
  | .held _ => 1
def uptoBulkAll {H : Type} : List (DataW H) → Nat
  | [] => 0
  | d :: r => uptoBulk d + uptoBulkAll r
def uptoBulkEntries {H : Type} : List (Lit × DataW H) → Nat
  | [] => 0
  | x :: r => uptoBulkEntry x + uptoBulkEntries r
def uptoBulkEntry {H : Type} : Lit × DataW H → Nat
  | (.string bytes, d) => bytes.length + uptoBulk d + 1
  | (_, d) => uptoBulk d + 1
 end
def uptoSmall : (H : Type) → List (DataW H) → Bool := fun _ ds => decide (uptoBulkAll ds ≤ 1048576)
def OpenSpec.upto (s : _root_.Go.ChangeSpec) : _root_.Go.OpenSpec := { _root_.Go.OpenSpec.ofChange s with cond := some uptoSmall }

/-- 'tstatelaw4.CountWords', WHERE WHAT IT READS IS OF BULK AT MOST 1048576: true; the input reads as it did. -/
def countWordsUptoRow : OpenClaim := { program := "ytmlghojagjcpmaa", sum := "8db762acf196e4fd185ab89182304d6e4e411826805fc1641eb34e635da65bc3", func := "tstate/tstatelaw4.CountWords", spec := "countWords", apart := false, narrowed := true }
def CountWordsUptoSaid : Prop := countWordsUptoRow.holds Try.pinned (OpenSpec.upto countWordsSpec)

/-- 'tstatelaw4.CountEnds', WHERE WHAT IT READS IS OF BULK AT MOST 1048576: true; the input reads as it did. -/
def countEndsUptoRow : OpenClaim := { program := "ytmlghojagjcpmaa", sum := "8db762acf196e4fd185ab89182304d6e4e411826805fc1641eb34e635da65bc3", func := "tstate/tstatelaw4.CountEnds", spec := "countEnds", apart := false, narrowed := true }
def CountEndsUptoSaid : Prop := countEndsUptoRow.holds Try.pinned (OpenSpec.upto countEndsSpec)

/-- 'tstatelaw4.CountBytes', WHERE WHAT IT READS IS OF BULK AT MOST 1048576: true; the input reads as it did. -/
def countBytesUptoRow : OpenClaim := { program := "ytmlghojagjcpmaa", sum := "8db762acf196e4fd185ab89182304d6e4e411826805fc1641eb34e635da65bc3", func := "tstate/tstatelaw4.CountBytes", spec := "countBytes", apart := false, narrowed := true }
def CountBytesUptoSaid : Prop := countBytesUptoRow.holds Try.pinned (OpenSpec.upto countBytesSpec)

/-- 'tstatelaw4.CountUndoes', WHERE WHAT IT READS IS OF BULK AT MOST 1048576: true; the input reads as it did. -/
def countUndoesUptoRow : OpenClaim := { program := "ytmlghojagjcpmaa", sum := "8db762acf196e4fd185ab89182304d6e4e411826805fc1641eb34e635da65bc3", func := "tstate/tstatelaw4.CountUndoes", spec := "countUndoes", apart := false, narrowed := true }
def CountUndoesUptoSaid : Prop := countUndoesUptoRow.holds Try.pinned (OpenSpec.upto countUndoesSpec)

end Rows
end Go.Proofs.Ytmlghojagjcpmaa
