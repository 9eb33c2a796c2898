/- Part of the proof that a law holds at every input. No conditions. -/
import Derived.Test.YtlmbamdkklkliaaGreatK15
namespace Go.Proofs.YtlmbamdkklkliaaGreat
set_option linter.unusedVariables false
set_option linter.unusedSimpArgs false
set_option maxRecDepth 100000
set_option maxHeartbeats 16000000
open Go.Proofs.Tryz
open Go.IntWalk (iteOmega)
section
open Go.RowKit
def pw2 (l:Int):Int:=if l=0 then 1 else if l=1 then 2 else if l=2 then 4 else if l=3 then 8 else if l=4 then 16 else if l=5 then 32 else if l=6 then 64 else 128
def zgy (p:SPIC) (l:Int):SPIC:=
 { p with isr:=bits .or .u8 p.isr (pw2 l),edge:=bits .andNot .u8 p.edge (pw2 l) }
theorem zjx (p:SPIC) (l:Int) (w:World) (h0:0<=l) (h1:l<=7) :
  Calls prog 103 #[.agg p.cells,.int .i64 l] w fun e w'=>e=.returned (.agg (zgy p l).cells)/\Below w.heap.size w w':=by
 obtain rfl|rfl|rfl|rfl|rfl|rfl|rfl|rfl:l=0\/l=1\/l=2\/l=3\/l=4\/l=5\/l=6\/l=7:=oM
 all_goals
  go_enter func103,ntmps103
  go_wp2_with fail
  all_goals (first|go_region|skip)
  all_goals (go_wp2_with fail)
  all_goals (first|go_region|skip)
  all_goals (go_wp2_with fail)
  all_goals
   refine SPIC.ret (zgy p _) rfl rfl ?_ rfl ⟨rfl,bL⟩
   (try simp only [beq_iff_eq,beq_eq_false_iff_ne,ne_eq,bne_iff_ne,bne_eq_false_iff_eq] at *);first|(simp [go_sem,↓iteOmega,pw2,zgy, *]<;>first|omega|((repeat' split)<;>first|rfl|omega|simp_all))|(exfalso;omega)
def zck (p:SPIC) (l:Int):SPIC:=
 if p.rotate then { p with isr:=bits .andNot .u8 p.isr (pw2 l),lowest:=l } else { p with isr:=bits .andNot .u8 p.isr (pw2 l) }
theorem finishC_any (p:SPIC) (l:Int) (w:World) (h0:0<=l) (h1:l<=7) :
  Calls prog 104 #[.agg p.cells,.int .i64 l] w fun e w'=>e=.returned (.agg (zck p l).cells)/\Below w.heap.size w w':=by
 obtain rfl|rfl|rfl|rfl|rfl|rfl|rfl|rfl:l=0\/l=1\/l=2\/l=3\/l=4\/l=5\/l=6\/l=7:=oM
 all_goals
  go_enter func104,ntmps104
  go_wp2_with fail
  all_goals (first|go_region|skip)
  all_goals (go_wp2_with fail)
  all_goals
   refine SPIC.ret (zck p _) rfl rfl ?_ rfl ⟨rfl,bL⟩
   (try simp only [beq_iff_eq,beq_eq_false_iff_ne,ne_eq,bne_iff_ne,bne_eq_false_iff_eq] at *);first|(simp [go_sem,↓iteOmega,pw2,zck, *]<;>first|omega|((repeat' split)<;>first|rfl|omega|simp_all))|(exfalso;omega)
end
end Go.Proofs.YtlmbamdkklkliaaGreat
