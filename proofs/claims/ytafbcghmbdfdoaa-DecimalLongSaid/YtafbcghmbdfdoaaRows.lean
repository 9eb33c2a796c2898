/-
  No cell of these rows narrows 'for every input' (looked for: loops, veiled, ifaces, maps, wideKeys, modest, calm, conditions, laid).
  DERIVED. THE GIVEN ROWS OF THIS SEAT. 4 by the template 'for every input the law returns true; each argument reads behind the call as it read before'; 0 by the template 'total and deterministic' (their statements: YtafbcghmbdfdoaaTotals.lean).
  GIVEN WITH THE SEED: the statements are not yours to turn. If you find one false, say at which input.
  Laid BY PROGRAM, IN A SANDBOX (cutbox-rows.mjs): the forced cells as the released guide's own fill.sh prints them over the translation d558055fab60a939… (all of the seat's roots in one cut). By AI agents, Wed Nov 11 2026. No macro, syntax, notation, axiom, sorry.
-/
import Derived.Test.YtafbcghmbdfdoaaChecked
import GoSem.Claim
import GoSem.ClaimJoined
import GoSem.ClaimMapViews
import Derived.JoinedTies
import Derived.KernelRfl
namespace Go.Proofs.Ytafbcghmbdfdoaa
/- THE CELL 'sum', in the pinned program and in every row, IS THE sha256 OF THE DUMP (.gsa) THAT YtafbcghmbdfdoaaProg.lean LOADS. Nothing in Lean hashes anything: it is a label: what it is worth is what the hold of that sum in a sandbox is worth. -/
noncomputable def Try.pinned : Pinned := { name := "ytafbcghmbdfdoaa", sum := "d558055fab60a93927f3606bd0d2c691f3ae13573b23640fcfca99fd527f6a95", checked := Try.checked }
namespace Rows
def none {H : Type} : Left H := { results := [], args := [] }

/-- 'tstatelaw6.DecimalDaa': WHATEVER THE INPUT: true; the input reads as it did. -/
def decimalDaaSpec : ChangeSpec := { name := "decimalDaa", fn := fun _ => fun
  | [d1, d2, d3] => { results := [.lit (.bool true)], args := [d1, d2, d3] }
  | _ => none }
def decimalDaaRow : OpenClaim := { program := "ytafbcghmbdfdoaa", sum := "d558055fab60a93927f3606bd0d2c691f3ae13573b23640fcfca99fd527f6a95", func := "tstate/tstatelaw6.DecimalDaa", spec := "decimalDaa", apart := false }
def DecimalDaaSaid : Prop := decimalDaaRow.holds Try.pinned (OpenSpec.ofChange decimalDaaSpec)

/-- ITS FALSE NEIGHBOUR: 'it returns false'. Refute it at one input. -/
def decimalDaaWrong : ChangeSpec := { name := "decimalDaa", fn := fun _ => fun
  | [d1, d2, d3] => { results := [.lit (.bool false)], args := [d1, d2, d3] }
  | _ => none }
def DecimalDaaWrongFalsely : Prop := decimalDaaRow.holds Try.pinned (OpenSpec.ofChange decimalDaaWrong)

/-- 'tstatelaw6.DecimalKeeps': WHATEVER THE INPUT: true; the input reads as it did. -/
def decimalKeepsSpec : ChangeSpec := { name := "decimalKeeps", fn := fun _ => fun
  | [d1, d2] => { results := [.lit (.bool true)], args := [d1, d2] }
  | _ => none }
def decimalKeepsRow : OpenClaim := { program := "ytafbcghmbdfdoaa", sum := "d558055fab60a93927f3606bd0d2c691f3ae13573b23640fcfca99fd527f6a95", func := "tstate/tstatelaw6.DecimalKeeps", spec := "decimalKeeps", apart := false }
def DecimalKeepsSaid : Prop := decimalKeepsRow.holds Try.pinned (OpenSpec.ofChange decimalKeepsSpec)

/-- ITS FALSE NEIGHBOUR: 'it returns false'. Refute it at one input. -/
def decimalKeepsWrong : ChangeSpec := { name := "decimalKeeps", fn := fun _ => fun
  | [d1, d2] => { results := [.lit (.bool false)], args := [d1, d2] }
  | _ => none }
def DecimalKeepsWrongFalsely : Prop := decimalKeepsRow.holds Try.pinned (OpenSpec.ofChange decimalKeepsWrong)

/-- 'tstatelaw6.DecimalAdds': WHATEVER THE INPUT: true; the input reads as it did. -/
def decimalAddsSpec : ChangeSpec := { name := "decimalAdds", fn := fun _ => fun
  | [d1, d2, d3, d4] => { results := [.lit (.bool true)], args := [d1, d2, d3, d4] }
  | _ => none }
def decimalAddsRow : OpenClaim := { program := "ytafbcghmbdfdoaa", sum := "d558055fab60a93927f3606bd0d2c691f3ae13573b23640fcfca99fd527f6a95", func := "tstate/tstatelaw6.DecimalAdds", spec := "decimalAdds", unfollowed := true, recurses := true, apart := false }
def DecimalAddsSaid : Prop := decimalAddsRow.holds Try.pinned (OpenSpec.ofChange decimalAddsSpec)

/-- ITS FALSE NEIGHBOUR: 'it returns false'. Refute it at one input. -/
def decimalAddsWrong : ChangeSpec := { name := "decimalAdds", fn := fun _ => fun
  | [d1, d2, d3, d4] => { results := [.lit (.bool false)], args := [d1, d2, d3, d4] }
  | _ => none }
def DecimalAddsWrongFalsely : Prop := decimalAddsRow.holds Try.pinned (OpenSpec.ofChange decimalAddsWrong)

/-- 'tstatelaw6.DecimalLong': WHATEVER THE INPUT: true; the input reads as it did. -/
def decimalLongSpec : ChangeSpec := { name := "decimalLong", fn := fun _ => fun
  | [d1, d2, d3] => { results := [.lit (.bool true)], args := [d1, d2, d3] }
  | _ => none }
def decimalLongRow : OpenClaim := { program := "ytafbcghmbdfdoaa", sum := "d558055fab60a93927f3606bd0d2c691f3ae13573b23640fcfca99fd527f6a95", func := "tstate/tstatelaw6.DecimalLong", spec := "decimalLong", unfollowed := true, recurses := true, apart := false }
def DecimalLongSaid : Prop := decimalLongRow.holds Try.pinned (OpenSpec.ofChange decimalLongSpec)

/-- ITS FALSE NEIGHBOUR: 'it returns false'. Refute it at one input. -/
def decimalLongWrong : ChangeSpec := { name := "decimalLong", fn := fun _ => fun
  | [d1, d2, d3] => { results := [.lit (.bool false)], args := [d1, d2, d3] }
  | _ => none }
def DecimalLongWrongFalsely : Prop := decimalLongRow.holds Try.pinned (OpenSpec.ofChange decimalLongWrong)

/- THE SECOND FORM. 'bulk': how many values and letters a reading holds, each counted each time it is reached (what is shared counts as often as it is met; a slice's spare places count too). A statement '..UptoSaid' is the law's where the arguments, and the package variables that the reading takes, are together of bulk at most 1048576: NARROWER than '..Said'. Prove '..Said' where nothing that the law and all that it calls make is longer than what came in: it says more and counts as full. Else prove '..UptoSaid'. A law counts once. -/
mutual
def uptoBulk {H : Type} : DataW H → Nat
  | .lit (.string bytes) => bytes.length + 1
  | .lit _ => 1
  | .nil => 1
  | .ptr d => uptoBulk d + 1
  | .slice elems spare => uptoBulkAll elems + uptoBulkAll spare + 1
  | .agg parts => uptoBulkAll parts + 1
  | .iface _ d => uptoBulk d + 1
  | .map entries => uptoBulkEntries entries + 1
  | .held _ => 1
def uptoBulkAll {H : Type} : List (DataW H) → Nat
  | [] => 0
  | d :: r => uptoBulk d + uptoBulkAll r
def uptoBulkEntries {H : Type} : List (Lit × DataW H) → Nat
  | [] => 0
  | x :: r => uptoBulkEntry x + uptoBulkEntries r
def uptoBulkEntry {H : Type} : Lit × DataW H → Nat
  | (.string bytes, d) => bytes.length + uptoBulk d + 1
  | (_, d) => uptoBulk d + 1
 end
def uptoSmall : (H : Type) → List (DataW H) → Bool := fun _ ds => decide (uptoBulkAll ds ≤ 1048576)
def OpenSpec.upto (s : _root_.Go.ChangeSpec) : _root_.Go.OpenSpec := { _root_.Go.OpenSpec.ofChange s with cond := some uptoSmall }

/-- 'tstatelaw6.DecimalDaa', WHERE WHAT IT READS IS OF BULK AT MOST 1048576: true; the input reads as it did. -/
def decimalDaaUptoRow : OpenClaim := { program := "ytafbcghmbdfdoaa", sum := "d558055fab60a93927f3606bd0d2c691f3ae13573b23640fcfca99fd527f6a95", func := "tstate/tstatelaw6.DecimalDaa", spec := "decimalDaa", apart := false, narrowed := true }
def DecimalDaaUptoSaid : Prop := decimalDaaUptoRow.holds Try.pinned (OpenSpec.upto decimalDaaSpec)

/-- 'tstatelaw6.DecimalKeeps', WHERE WHAT IT READS IS OF BULK AT MOST 1048576: true; the input reads as it did. -/
def decimalKeepsUptoRow : OpenClaim := { program := "ytafbcghmbdfdoaa", sum := "d558055fab60a93927f3606bd0d2c691f3ae13573b23640fcfca99fd527f6a95", func := "tstate/tstatelaw6.DecimalKeeps", spec := "decimalKeeps", apart := false, narrowed := true }
def DecimalKeepsUptoSaid : Prop := decimalKeepsUptoRow.holds Try.pinned (OpenSpec.upto decimalKeepsSpec)

/-- 'tstatelaw6.DecimalAdds', WHERE WHAT IT READS IS OF BULK AT MOST 1048576: true; the input reads as it did. -/
def decimalAddsUptoRow : OpenClaim := { program := "ytafbcghmbdfdoaa", sum := "d558055fab60a93927f3606bd0d2c691f3ae13573b23640fcfca99fd527f6a95", func := "tstate/tstatelaw6.DecimalAdds", spec := "decimalAdds", unfollowed := true, recurses := true, apart := false, narrowed := true }
def DecimalAddsUptoSaid : Prop := decimalAddsUptoRow.holds Try.pinned (OpenSpec.upto decimalAddsSpec)

/-- 'tstatelaw6.DecimalLong', WHERE WHAT IT READS IS OF BULK AT MOST 1048576: true; the input reads as it did. -/
def decimalLongUptoRow : OpenClaim := { program := "ytafbcghmbdfdoaa", sum := "d558055fab60a93927f3606bd0d2c691f3ae13573b23640fcfca99fd527f6a95", func := "tstate/tstatelaw6.DecimalLong", spec := "decimalLong", unfollowed := true, recurses := true, apart := false, narrowed := true }
def DecimalLongUptoSaid : Prop := decimalLongUptoRow.holds Try.pinned (OpenSpec.upto decimalLongSpec)

end Rows
end Go.Proofs.Ytafbcghmbdfdoaa
