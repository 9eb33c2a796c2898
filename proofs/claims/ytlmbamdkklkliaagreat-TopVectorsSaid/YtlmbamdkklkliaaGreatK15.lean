/- Part of the proof that a law holds at every input. No conditions. -/
import Derived.Deep.QuietTactic
import Derived.Lib.QuietBelow
import Derived.Test.YtlmbamdkklkliaaGreatK13
namespace Go.Proofs.YtlmbamdkklkliaaGreat
set_option linter.unusedVariables false
set_option linter.unusedSimpArgs false
set_option maxRecDepth 100000
set_option maxHeartbeats 16000000
open Go.Proofs.Tryz
open Go.IntWalk (iteOmega)
section
open Go.RowKit
def zev (p:SPIC):Int:=zs4 (reqs p) p.imr p.isr p.lowest p.special
theorem zf6 (p:SPIC) (w:World) (h0:0<=p.isr) (h1:p.isr<=255):Calls prog 100 #[.agg p.cells] w fun e w'=>e=.returned (.int .i64 (zev p))/\Below w.heap.size w w':=by
 go_enter func100,ntmps100
 go_wp2_with fail
 have hc:∀ (i d:Nat) (os:Array Obj),(Go.Sort.grow (redrawn (w.alloc (.cells p.cells 47)) d) os).cell? ⟨w.heap.size,i,none⟩=p.cells[i]? := fun i d os=>by
  rw [(below_regrown (w.alloc (.cells p.cells 47)) d os).cell (p:=⟨w.heap.size,i,none⟩) sI]
  simp
 have hcB:∀ (d:Nat) (os:Array Obj),blk (Go.Sort.grow (redrawn (w.alloc (.cells p.cells 47)) d) os) w.heap.size=some (.cells p.cells 47):=fun d os=>by
  refine ((below_regrown (w.alloc (.cells p.cells 47)) d os).block w.heap.size sI).trans ?_
  exact zab w w.heap.size _ rfl
 refine wp_region_quiet_below kR kR ?_
 repeat (quiet_step (first|exact Calls.regrown_of (zpr p _)|exact Calls.regrown_of ((zs3 (reqs p) p.imr p.isr p.lowest p.special _ h0 h1).mono fun _ _ ⟨he,hw⟩=>⟨he,hw ▸ Below.refl _ _⟩)))
 refine wpQuiet_nil ?_
 intro _ hw'
 obtain ⟨⟨dq,osq⟩,hw''⟩:=hw'
 subst hw''
 go_wp2_with fail
 go_ret
 exact ⟨by simp [zev],(((Below.refl _ _).alloc nL _)).trans ((below_regrown _ dq osq).mono sI)⟩
def zi8 (p:SPIC) (l:Int):SPIC:=
 { p with edge:=bits .and .u8 (bits .or .u8 p.edge (bits .andNot .u8 l p.lines)) l,lines:=l }
theorem zq2 (p:SPIC) (l:Int) (w:World)  :
  Calls prog 78 #[.agg p.cells,.int .u8 l] w fun e w'=>e=.returned (.agg (zi8 p l).cells)/\Below w.heap.size w w':=by
 all_goals
  go_enter func78,ntmps78
  go_wp2_with fail
  all_goals
   refine SPIC.ret (zi8 p l) rfl rfl ?_ rfl ⟨rfl,bL⟩
   (try simp only [beq_iff_eq,beq_eq_false_iff_ne,ne_eq,bne_iff_ne,bne_eq_false_iff_eq] at *);first|(simp [go_sem,↓iteOmega,zi8, *]<;>first|omega|((repeat' split)<;>first|rfl|omega|simp_all))|(exfalso;omega)
def intC (p:SPIC):Bool:=
 decide (0<=zev p)
theorem zwd (p:SPIC) (w:World) (h0:0<=p.isr) (h1:p.isr<=255) :
  Calls prog 79 #[.agg p.cells] w fun e w'=>e=.returned (.bool (intC p))/\Below w.heap.size w w':=by
 all_goals
  go_enter func79,ntmps79
  go_wp2_with (first|(go_at_call 100;with_reducible refine Cbv (zf6 _ _ h0 h1) ?_;intro w' hB hb1 hb2 hb3 hs;(try simp only [szs] at hs hb1 hb2 hb3)))
  all_goals
   go_ret
   refine ⟨?_,bL⟩
   (try simp only [beq_iff_eq,beq_eq_false_iff_ne,ne_eq,bne_iff_ne,bne_eq_false_iff_eq] at *);first|(simp [go_sem,↓iteOmega,intC, *]<;>first|omega|((repeat' split)<;>first|rfl|omega|simp_all))|(exfalso;omega)
def zo1 (p:SPIC) (v:Int):SPIC:=
 if p.stage=2 then (if p.single then (if p.fourth then { p with high:=v,stage:=4 } else { p with high:=v,stage:=0 }) else { p with high:=v,stage:=3 })
 else if p.stage=3 then (if p.fourth then { p with stage:=4 } else { p with stage:=0 }) else if p.stage=4 then { p with auto:=bits .and .u8 v 2 != 0,stage:=0 } else { p with imr:=v }
theorem zkn (p:SPIC) (v:Int) (w:World)  :
  Calls prog 110 #[.agg p.cells,.int .u8 v] w fun e w'=>e=.returned (.agg (zo1 p v).cells)/\Below w.heap.size w w':=by
 all_goals
  go_enter func110,ntmps110
  go_wp2_with fail
  all_goals
   refine SPIC.ret (zo1 p v) rfl rfl ?_ rfl ⟨rfl,bL⟩
   (try simp only [beq_iff_eq,beq_eq_false_iff_ne,ne_eq,bne_iff_ne,bne_eq_false_iff_eq] at *);first|(simp [go_sem,↓iteOmega,zo1, *]<;>first|omega|((repeat' split)<;>first|rfl|omega|simp_all))|(exfalso;omega)
def zfy (d:SDMA) (r:Int) (v:Int):SDMA:=
 if r%4=0 then { d with at_:=bits .or .u16 (bits .and .u16 d.at_ 65280) v } else if r%4=1 then { d with at_:=bits .or .u16 (bits .and .u16 d.at_ 255) (v * 256) } else if r%4=2 then { d with value:=v } else { d with left:=v }
theorem zno (d:SDMA) (r:Int) (v:Int) (w:World) (h0:0<=v) (h1:v<=255) :
  Calls prog 89 #[.agg d.cells,.int .i64 r,.int .u8 v] w fun e w'=>e=.returned (.agg (zfy d r v).cells)/\Below w.heap.size w w':=by
 have hm:=zil r
 all_goals
  go_enter func89,ntmps89
  go_wp2_with fail
  all_goals
   refine SDMA.ret (zfy d r v) rfl rfl ?_ rfl ⟨rfl,bL⟩
   (try simp only [beq_iff_eq,beq_eq_false_iff_ne,ne_eq,bne_iff_ne,bne_eq_false_iff_eq] at *);first|(simp [go_sem,↓iteOmega,zfy, *]<;>first|omega|((repeat' split)<;>first|rfl|omega|simp_all))|(exfalso;omega)
end
end Go.Proofs.YtlmbamdkklkliaaGreat
