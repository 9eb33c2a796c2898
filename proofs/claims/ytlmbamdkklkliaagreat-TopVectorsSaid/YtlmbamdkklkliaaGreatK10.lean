/- Part of the proof that a law holds at every input. No conditions. -/
import Derived.Deep.QuietTactic
import Derived.Lib.QuietBelow
import Derived.Test.YtlmbamdkklkliaaGreatK03
import Derived.Test.YtlmbamdkklkliaaGreatK09
namespace Go.Proofs.YtlmbamdkklkliaaGreat
set_option linter.unusedVariables false
set_option linter.unusedSimpArgs false
set_option maxRecDepth 100000
set_option maxHeartbeats 16000000
open Go.Proofs.Tryz
open Go.IntWalk (iteOmega)
section
open Go.RowKit
def ptrN (x o:Nat) (n:Int):Option Addr:=
 if n%8=0 then some ⟨x,o+1,none⟩ else if n%8=1 then some ⟨x,o+2,none⟩ else if n%8=2 then some ⟨x,o+3,none⟩ else if n%8=3 then some ⟨x,o+4,none⟩ else if n%8=4 then some ⟨x,o+5,none⟩ else if n%8=5 then some ⟨x,o+6,none⟩ else if n%8=7 then some ⟨x,o,none⟩ else none
theorem zyc (x:Nat) (n:Int) (w:World) :
  Calls prog 186 #[.pointer (some ⟨x,0,none⟩),.int .i64 n] w fun e' w'=>e'=.returned (.pointer (ptrN x 0 n))/\w=w':=by
 have hm:=zd7 n
 go_enter func186,ntmps186
 go_wp2_with fail
 all_goals (go_ret;refine ⟨?_,rfl⟩;simp_all [ptrN])
def getR (r:SRegs) (n:Int):Int:=
 if n%8=0 then r.b else if n%8=1 then r.c else if n%8=2 then r.d else if n%8=3 then r.e else if n%8=4 then r.h else if n%8=5 then r.l else if n%8=7 then r.a else 0
def setR (r:SRegs) (n x:Int):SRegs:=
 if n%8=0 then { r with b:=x } else if n%8=1 then { r with c:=x } else if n%8=2 then { r with d:=x } else if n%8=3 then { r with e:=x } else if n%8=4 then { r with h:=x } else if n%8=5 then { r with l:=x } else if n%8=7 then { r with a:=x } else r
theorem zou (r:SRegs) (n:Int) (w:World) :
  Calls prog 161 #[.agg r.cells,.int .i64 n] w fun e' w'=>e'=.returned (.int .u8 (getR r n))/\Below w.heap.size w w':=by
 go_enter func161,ntmps161
 go_wp2_with fail
 refine (zyc _ _ _).mono ?_;rintro e' w' ⟨rfl,rfl⟩
 rcases (by omega:n%8=0\/n%8=1\/n%8=2\/n%8=3\/n%8=4\/n%8=5\/n%8=6\/n%8=7) with q|q|q|q|q|q|q|q
 all_goals
  simp only [ptrN,q]
  go_wp2_with fail
  go_ret
  exact ⟨by simp [getR,q,go_sem],by go_grown⟩
theorem zg4 (r:SRegs) (n x:Int) (w:World) :
  Calls prog 170 #[.agg r.cells,.int .i64 n,.int .u8 x] w fun e' w'=>e'=.returned (.agg (setR r n x).cells)/\Below w.heap.size w w':=by
 go_enter func170,ntmps170
 go_wp2_with fail
 refine (zyc _ _ _).mono ?_;rintro e' w' ⟨rfl,rfl⟩
 rcases (by omega:n%8=0\/n%8=1\/n%8=2\/n%8=3\/n%8=4\/n%8=5\/n%8=6\/n%8=7) with q|q|q|q|q|q|q|q
 all_goals
  simp only [ptrN,q]
  go_wp2_with fail
  refine SRegs.ret (setR r n x) rfl rfl ?_ rfl ⟨rfl,by go_grown⟩
  simp [setR,q,go_sem]
end
section
open Go.RowKit
def zsf (k b:Int):SFlags:=⟨tb b 128,tb b 64,(k==2)&&tb b 32,tb b 16,tb b 4,(k==2)&&tb b 2,tb b 1⟩
theorem zju (k b:Int) (w:World) (h:0<=b) (h':b<=255):Calls prog 200 #[.int .i64 k,.int .u8 b] w fun e w'=>e=.returned (.agg (zsf k b).cells)/\Below w.heap.size w w':=
 zqv k b (k==2) w rfl h h'
def zvr (k:Int) (f:SFlags):Int:=zvu (k==2) f.s f.z f.k f.ac f.p f.v f.cy
theorem zpz (k:Int) (f:SFlags):0<=zvr k f:=zvs _ _ _ _ _ _ _ _
theorem zp0 (k:Int) (f:SFlags):zvr k f<=255:=zvt _ _ _ _ _ _ _ _
theorem zs6 (k:Int) (f:SFlags) (w:World):Calls prog 191 #[.int .i64 k,.agg f.cells] w fun e w'=>e=.returned (.int .u8 (zvr k f))/\Below w.heap.size w w':=
 zvq k (k==2) f.s f.z f.k f.ac f.p f.v f.cy w rfl
def zdf (r:SRegs) (n:Int) (v:Int):SRegs:=
 if n%4=3 then { r with sp:=v } else setR (setR r (2 * (n%4)) (v / 256)) (2 * (n%4)+1) (v%256)
theorem zce (r:SRegs) (n:Int) (v:Int) (w:World) (h0:0<=v) (h1:v<=65535) :
  Calls prog 171 #[.agg r.cells,.int .i64 n,.int .u16 v] w fun e w'=>e=.returned (.agg (zdf r n v).cells)/\Below w.heap.size w w':=by
 have hm:=zil n
 have hn0:0<=n%4:=oM
 have hn1:n%4<=3:=oM
 all_goals
  go_enter func171,ntmps171
  go_wp2_with (first|(go_at_call 170;with_reducible refine Cbv (zg4 _ _ _ _) ?_;intro w' hB hb1 hb2 hb3 hs;(try simp only [szs] at hs hb1 hb2 hb3)))
  all_goals
   refine SRegs.ret (zdf r n v) rfl rfl ?_ rfl ⟨rfl,bL⟩
   (try simp only [beq_iff_eq,beq_eq_false_iff_ne,ne_eq,bne_iff_ne,bne_eq_false_iff_eq] at *);first|(simp [go_sem,↓iteOmega,zdf, *]<;>first|omega|((repeat' split)<;>first|rfl|omega|simp_all))|(exfalso;omega)
def zly (k:Int) (r:SRegs) (v:Int):SRegs:=
 { r with a:=v / 256,f:=zsf k (v%256) }
theorem zoa (k:Int) (r:SRegs) (v:Int) (w:World) (h0:0<=v) (h1:v<=65535) :
  Calls prog 179 #[.int .i64 k,.agg r.cells,.int .u16 v] w fun e w'=>e=.returned (.agg (zly k r v).cells)/\Below w.heap.size w w':=by
 all_goals
  go_enter func179,ntmps179
  go_wp2_with (first|(go_at_call 200;with_reducible refine Cbv (zju _ _ _ oM oM) ?_;intro w' hB hb1 hb2 hb3 hs;(try simp only [szs] at hs hb1 hb2 hb3)))
  all_goals (first|go_region|skip)
  all_goals (go_wp2_with (first|(go_at_call 200;with_reducible refine Cbv (zju _ _ _ oM oM) ?_;intro w' hB hb1 hb2 hb3 hs;(try simp only [szs] at hs hb1 hb2 hb3))))
  all_goals
   refine SRegs.ret (zly k r v) rfl rfl ?_ rfl ⟨rfl,bL⟩
   (try simp only [beq_iff_eq,beq_eq_false_iff_ne,ne_eq,bne_iff_ne,bne_eq_false_iff_eq] at *);first|(simp [go_sem,↓iteOmega,zly, *]<;>first|omega|((repeat' split)<;>first|rfl|omega|simp_all))|(exfalso;omega)
end
section
open Go.RowKit
structure SRegs.Ok (r:SRegs):Prop where
 a:0<=r.a/\r.a<=255
 b:0<=r.b/\r.b<=255
 c:0<=r.c/\r.c<=255
 d:0<=r.d/\r.d<=255
 e:0<=r.e/\r.e<=255
 h:0<=r.h/\r.h<=255
 l:0<=r.l/\r.l<=255
 sp:0<=r.sp/\r.sp<=65535
 pc:0<=r.pc/\r.pc<=65535
theorem zfr (r:SRegs) (n:Int) (h:r.Ok):0<=getR r n/\getR r n<=255:=by
 have:=h.a;have:=h.b;have:=h.c;have:=h.d;have:=h.e;have:=h.h;have:=h.l
 unfold getR
 repeat' split
 all_goals omega
theorem zlg (a b:Int) (w:World) (ha:0<=a) (ha':a<=255) (hb:0<=b) (hb':b<=255) :
  Calls prog 145 #[.int .u8 a,.int .u8 b] w fun e w'=>e=.returned (.int .u16 (ze9 a b))/\Below w.heap.size w w':=
 (zhm a b w ha ha' hb hb').mono fun _ _ ⟨he,hw⟩=>⟨he,by subst hw;exact Below.refl _ _⟩
def zc6 (r:SRegs) (n:Int):Int:=if n%4=3 then r.sp else ze9 (getR r (2 * (n%4))) (getR r (2 * (n%4)+1))
theorem zm9 (r:SRegs) (n:Int) (w:World) (hr:r.Ok):Calls prog 160 #[.agg r.cells,.int .i64 n] w fun e w'=>e=.returned (.int .u16 (zc6 r n))/\Below w.heap.size w w':=by
 have hm:=zil n
 have hn0:0<=n%4:=oM
 have hn1:n%4<=3:=oM
 have g1:=zfr r (2 * (n%4)) hr
 have g2:=zfr r (2 * (n%4)+1) hr
 by_cases q:n%4=3
 ·have q':(n%4==3)=true:=beq_iff_eq.2 q
  go_enter func160,ntmps160
  go_wp2_with fail
  all_goals
   go_ret
   exact ⟨by simp [zc6,q,go_sem],by go_grown⟩
 ·have q':(n%4==3)=false:=beq_eq_false_iff_ne.2 q
  have e1:IntKind.i64.wrap (2 * (n%4))=2 * (n%4):=IntWalk.i64_in _ oM
  have e2:IntKind.i64.wrap (2 * (n%4)+1)=2 * (n%4)+1:=IntWalk.i64_in _ oM
  go_enter func160,ntmps160
  go_wp2_with fail
  have hc:∀ (i d:Nat) (os:Array Obj),(Go.Sort.grow (redrawn (w.alloc (.cells r.cells 39)) d) os).cell? ⟨w.heap.size,i,none⟩=r.cells[i]? := fun i d os=>by
   rw [(below_regrown (w.alloc (.cells r.cells 39)) d os).cell (p:=⟨w.heap.size,i,none⟩) sI]
   simp
  have hcB:∀ (d:Nat) (os:Array Obj),blk (Go.Sort.grow (redrawn (w.alloc (.cells r.cells 39)) d) os) w.heap.size=some (.cells r.cells 39):=fun d os=>by
   refine ((below_regrown (w.alloc (.cells r.cells 39)) d os).block w.heap.size sI).trans ?_
   exact zab w w.heap.size _ rfl
  refine wp_region_quiet_below kR kR ?_
  repeat (quiet_step (first|(go_at_call 161;exact Calls.regrown_of (zou r _ _))|(go_at_call 145;exact Calls.regrown_of (zlg _ _ _ g1.1 g1.2 g2.1 g2.2))))
  refine wpQuiet_nil ?_
  intro _ hw'
  obtain ⟨⟨dq,osq⟩,hw''⟩:=hw'
  subst hw''
  go_wp2_with fail
  go_ret
  exact ⟨by simp [zc6,q],(((Below.refl _ _).alloc nL _)).trans ((below_regrown _ dq osq).mono sI)⟩
def pswR (k:Int) (r:SRegs):Int:=ze9 r.a (zvr k r.f)
theorem zvm (k:Int) (r:SRegs) (w:World) (hr:r.Ok):Calls prog 168 #[.int .i64 k,.agg r.cells] w fun e w'=>e=.returned (.int .u16 (pswR k r))/\Below w.heap.size w w':=by
 go_enter func168,ntmps168
 go_wp2_with fail
 have hc:∀ (i d:Nat) (os:Array Obj),(Go.Sort.grow (redrawn (w.alloc (.cells r.cells 39)) d) os).cell? ⟨w.heap.size,i,none⟩=r.cells[i]? := fun i d os=>by
  rw [(below_regrown (w.alloc (.cells r.cells 39)) d os).cell (p:=⟨w.heap.size,i,none⟩) sI]
  simp
 have hcB:∀ (d:Nat) (os:Array Obj),blk (Go.Sort.grow (redrawn (w.alloc (.cells r.cells 39)) d) os) w.heap.size=some (.cells r.cells 39):=fun d os=>by
  refine ((below_regrown (w.alloc (.cells r.cells 39)) d os).block w.heap.size sI).trans ?_
  exact zab w w.heap.size _ rfl
 refine wp_region_quiet_below kR kR ?_
 repeat (quiet_step (first|(go_at_call 191;exact Calls.regrown_of (zs6 k r.f _))|(go_at_call 145;exact Calls.regrown_of (zlg _ _ _ hr.a.1 hr.a.2 (zpz k r.f) (zp0 k r.f)))))
 refine wpQuiet_nil ?_
 intro _ hw'
 obtain ⟨⟨dq,osq⟩,hw''⟩:=hw'
 subst hw''
 go_wp2_with fail
 go_ret
 exact ⟨by simp [pswR],(((Below.refl _ _).alloc nL _)).trans ((below_regrown _ dq osq).mono sI)⟩
end
end Go.Proofs.YtlmbamdkklkliaaGreat
