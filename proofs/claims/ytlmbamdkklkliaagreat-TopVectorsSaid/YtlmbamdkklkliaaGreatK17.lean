/- Part of the proof that a law holds at every input. No conditions. -/
import Derived.Test.YtlmbamdkklkliaaGreatK16
namespace Go.Proofs.YtlmbamdkklkliaaGreat
set_option linter.unusedVariables false
set_option linter.unusedSimpArgs false
set_option maxRecDepth 100000
set_option maxHeartbeats 16000000
open Go.Proofs.Tryz
open Go.IntWalk (iteOmega)
section
open Go.RowKit
def zcf (k:Int) (o:Int):Int:=
 if (zb7 k o).kind=2 then (if k≠2/\(zb7 k o).dst≠6/\(zb7 k o).src≠6 then 5 else 4)
 else if (zb7 k o).kind=14\/(zb7 k o).kind=15 then (if k≠2/\(zb7 k o).dst≠6 then 5 else 4)
 else if (zb7 k o).kind=37 then (if k=2 then 5 else 4)
 else if (zb7 k o).kind=26 then (if (zb7 k o).cond=11 then 4 else if k=2 then 6 else 5)
 else if (zb7 k o).kind=16\/(zb7 k o).kind=17\/(zb7 k o).kind=28\/(zb7 k o).kind=29\/(zb7 k o).kind=25\/(zb7 k o).kind=27\/(zb7 k o).kind=45\/(zb7 k o).kind=30 then (if k=2 then 6 else 5) else 4
theorem zel (k:Int) (o:Int) (w:World) (h0:0<=o) (h1:o<=255) :
  Calls prog 72 #[.int .i64 k,.int .u8 o] w fun e w'=>e=.returned (.int .i64 (zcf k o))/\Below w.heap.size w w':=by
 all_goals
  go_enter func72,ntmps72
  go_wp2_with (first|(go_at_call 97;with_reducible refine Cbv (zln _ _ _ h0 h1) ?_;intro w' hB hb1 hb2 hb3 hs;(try simp only [szs] at hs hb1 hb2 hb3)))
  all_goals
   go_ret
   refine ⟨?_,bL⟩
   (try simp only [beq_iff_eq,beq_eq_false_iff_ne,ne_eq,bne_iff_ne,bne_eq_false_iff_eq] at *);first|(simp [go_sem,↓iteOmega,zcf, *]<;>first|omega|((repeat' split)<;>first|rfl|omega|simp_all))|(exfalso;omega)
end
end Go.Proofs.YtlmbamdkklkliaaGreat
