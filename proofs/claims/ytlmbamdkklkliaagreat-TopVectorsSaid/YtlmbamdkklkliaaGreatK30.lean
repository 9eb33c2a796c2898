/- Part of the proof that a law holds at every input. No conditions. -/
import Derived.Deep.DrawnRows
import Derived.RegionTactic
import Derived.Test.YtlmbamdkklkliaaGreatK28
namespace Go.Proofs.YtlmbamdkklkliaaGreat
set_option linter.unusedVariables false
set_option linter.unusedSimpArgs false
set_option linter.unusedSectionVars false
set_option maxRecDepth 100000
set_option maxHeartbeats 16000000
open Go.Proofs.Tryz
open Go.IntWalk (iteOmega)
section
open Go.RowKit
attribute [local go_sem ↓] Go.wp_at_zero Go.wp_at_succ
def zk5 (p:SPIC) (v:Int):SPIC:=if bits .and .u8 v 64=0 then p else { p with special:=bits .and .u8 v 32 != 0 }
def zmq (p:SPIC) (v:Int):SPIC:=if bits .and .u8 v 2=0 then p else { p with readISR:=bits .and .u8 v 1 != 0 }
def zpl (p:SPIC) (v:Int):SPIC:=if bits .and .u8 v 4=0 then p else { p with poll:=true }
def zht (p:SPIC) (hi:Bool) (v:Int):SPIC:=
 if hi then zo1 p v
 else if bits .and .u8 v 16=0 then (if bits .and .u8 v 8=0 then zcx p v else zpl (zmq (zk5 p v) v) v)
 else { zj5 with lines:=p.lines,level:=bits .and .u8 v 8 != 0,four:=bits .and .u8 v 4 != 0,single:=bits .and .u8 v 2 != 0,fourth:=bits .and .u8 v 1 != 0,low:=bits .and .u8 v 224,stage:=2 }
theorem zqp (p:SPIC) (hi:Bool) (v:Int) (w:World) (h0:0<=v) (h1:v<=255) (h2:0<=p.isr) (h3:p.isr<=255) :
  Calls prog 88 #[.agg p.cells,.bool hi,.int .u8 v] w fun e w'=>e=.returned (.agg (zht p hi v).cells)/\Below w.heap.size w w':=by
 all_goals
  go_enter func88,ntmps88
  go_wp2_with (first|(go_at_call 110;with_reducible refine Cbv (zkn _ _ _) ?_;intro w' hB hb1 hb2 hb3 hs;(try simp only [szs] at hs hb1 hb2 hb3))|(go_at_call 111;with_reducible refine Cbv (commandC_any _ _ _ h0 h1 h2 h3) ?_;intro w' hB hb1 hb2 hb3 hs;(try simp only [szs] at hs hb1 hb2 hb3))|(go_at_call 29;with_reducible refine Cbv (picNew_any _) ?_;intro w' hB hb1 hb2 hb3 hs;(try simp only [szs] at hs hb1 hb2 hb3)))
  all_goals (first|go_region|skip)
  all_goals (go_wp2_with (first|(go_at_call 110;with_reducible refine Cbv (zkn _ _ _) ?_;intro w' hB hb1 hb2 hb3 hs;(try simp only [szs] at hs hb1 hb2 hb3))|(go_at_call 111;with_reducible refine Cbv (commandC_any _ _ _ h0 h1 h2 h3) ?_;intro w' hB hb1 hb2 hb3 hs;(try simp only [szs] at hs hb1 hb2 hb3))|(go_at_call 29;with_reducible refine Cbv (picNew_any _) ?_;intro w' hB hb1 hb2 hb3 hs;(try simp only [szs] at hs hb1 hb2 hb3))))
  all_goals (first|go_region|skip)
  all_goals (go_wp2_with (first|(go_at_call 110;with_reducible refine Cbv (zkn _ _ _) ?_;intro w' hB hb1 hb2 hb3 hs;(try simp only [szs] at hs hb1 hb2 hb3))|(go_at_call 111;with_reducible refine Cbv (commandC_any _ _ _ h0 h1 h2 h3) ?_;intro w' hB hb1 hb2 hb3 hs;(try simp only [szs] at hs hb1 hb2 hb3))|(go_at_call 29;with_reducible refine Cbv (picNew_any _) ?_;intro w' hB hb1 hb2 hb3 hs;(try simp only [szs] at hs hb1 hb2 hb3))))
  all_goals
   refine SPIC.ret (zht p hi v) rfl rfl ?_ rfl ⟨rfl,bL⟩
   (try simp only [beq_iff_eq,beq_eq_false_iff_ne,ne_eq,bne_iff_ne,bne_eq_false_iff_eq] at *);first|(simp [go_sem,↓iteOmega,zk5,zmq,zpl,zht, *]<;>first|omega|((repeat' split)<;>first|rfl|omega|simp_all))|(exfalso;omega)
end
end Go.Proofs.YtlmbamdkklkliaaGreat
