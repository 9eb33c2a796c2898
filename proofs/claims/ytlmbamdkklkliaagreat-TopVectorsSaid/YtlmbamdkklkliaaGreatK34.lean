/- Part of the proof that a law holds at every input. No conditions. -/
import Derived.Deep.DeepCutAuto
import Derived.Deep.RegionHeld3
import Derived.Deep.RegionWith
import Derived.Lib.Hide
import Derived.Lib.QuietBelow
import Derived.RegionTactic
import Derived.Test.YtlmbamdkklkliaaGreatK29
import Derived.Test.YtlmbamdkklkliaaGreatK30
namespace Go.Proofs.YtlmbamdkklkliaaGreat
set_option linter.unusedVariables false
set_option linter.unusedSimpArgs false
set_option linter.unusedSectionVars false
set_option maxRecDepth 100000
set_option maxHeartbeats 16000000
open Go.Proofs.Tryz
open Lib (hid)
open Go.IntWalk (iteOmega)
section
open Go.RowKit
theorem zhj (p:SPIC) : -1<=zev p/\zev p<=7:=by
 unfold zev zs4
 split
 ·omega
 ·exact zfg _ _
def zdw (p:SPIC) (hi:Bool):SPIC × Int:=
 if hi then (p,p.imr) else if p.poll then (if zev { p with poll:=false }<0 then ({ p with poll:=false },0) else if p.auto then (zck (zgy { p with poll:=false } (zev { p with poll:=false })) (zev { p with poll:=false }),128+zev { p with poll:=false }) else (zgy { p with poll:=false } (zev { p with poll:=false }),128+zev { p with poll:=false }))
 else if p.readISR then (p,p.isr) else (p,reqs p)
def ackC (p:SPIC):SPIC × Int:=
 if p.step=0 then (if zev p<0 then ({ p with spurious:=true,serving:=7,step:=1 },205) else ({ zgy { p with spurious:=false } (zev p) with serving:=zev p,step:=1 },205))
 else if p.step=1 then ({ p with step:=2 },if p.four then IntKind.u8.wrap (bits .and .u8 p.low 224+4 * (p.serving%8)) else IntKind.u8.wrap (bits .and .u8 p.low 192+8 * (p.serving%8)))
 else if (p.auto && !p.spurious)=true then (zck { p with step:=0 } (p.serving%8),p.high) else ({ p with step:=0 },p.high)
section
variable (p:SPIC) (hi:Bool) (w:World) (h0:0<=p.isr) (h1:p.isr<=255)
include p hi w h0 h1
theorem zyo (hh:hi=true) :
  Calls prog 85 #[.agg p.cells,.bool hi] w fun e w'=>e=.returned (.tuple #[.agg (zdw p hi).1.cells,.int .u8 (zdw p hi).2])/\Below w.heap.size w w':=by
 subst hh
 have HM:zdw p true=(p,p.imr):=by simp [zdw]
 go_enter func85,ntmps85
 go_wp2_with fail
 all_goals (first|go_region|skip)
 all_goals (go_wp2_with fail)
 all_goals
  refine za1 (n:=20) (v:=.agg (p).cells) (u:=.int .u8 (p.imr)) rfl kR kR ?_ rfl ?_ ?_ rfl ⟨by rw [HM],bL⟩
  all_goals (first|(simp [go_sem,↓iteOmega, *];done)|rfl)
theorem zsu (hh:hi=false) (hp:p.poll=true) (hq:zev { p with poll:=false }<0) :
  Calls prog 85 #[.agg p.cells,.bool hi] w fun e w'=>e=.returned (.tuple #[.agg (zdw p hi).1.cells,.int .u8 (zdw p hi).2])/\Below w.heap.size w w':=by
 subst hh
 obtain ⟨x,hx⟩:∃ x,zev { p with poll:=false }=x:=⟨_,rfl⟩
 have hbd:=zhj { p with poll:=false }
 have PK:∀ w',Calls prog 100 #[.agg ({ p with poll:=false }:SPIC).cells] w' fun e w''=>e=.returned (.int .i64 x)/\Below w'.heap.size w' w'':=fun w'=>by rw [<- hx];exact zf6 _ w' h0 h1
 rw [hx] at hbd hq
 have HM:zdw p false=({ p with poll:=false },0):=by simp [zdw,hp,hx,hq]
 go_enter func85,ntmps85
 go_wp2_with ((go_at_call 100;(refine (PK _).mono ?_);rintro e w' ⟨rfl,hB⟩;obtain ⟨hb1,hb2,hb3⟩:=zdn hB;have hs:=hB.size;(try simp only [szs] at hs hb1 hb2 hb3)))
 all_goals
  refine za1 (n:=20) (v:=.agg ({ p with poll:=false }).cells) (u:=.int .u8 (0)) rfl kR kR ?_ rfl ?_ ?_ rfl ⟨by rw [HM],bL⟩
  all_goals (first|(simp [go_sem,↓iteOmega, *];done)|rfl)
theorem zsv (hh:hi=false) (hp:p.poll=true) (hq:0<=zev { p with poll:=false }) (ha:p.auto=true) :
  Calls prog 85 #[.agg p.cells,.bool hi] w fun e w'=>e=.returned (.tuple #[.agg (zdw p hi).1.cells,.int .u8 (zdw p hi).2])/\Below w.heap.size w w':=by
 subst hh
 obtain ⟨x,hx⟩:∃ x,zev { p with poll:=false }=x:=⟨_,rfl⟩
 have hbd:=zhj { p with poll:=false }
 have PK:∀ w',Calls prog 100 #[.agg ({ p with poll:=false }:SPIC).cells] w' fun e w''=>e=.returned (.int .i64 x)/\Below w'.heap.size w' w'':=fun w'=>by rw [<- hx];exact zf6 _ w' h0 h1
 rw [hx] at hbd hq
 have hw:IntKind.u8.wrap (128+x)=128+x:=by rw [IntKind.wrap_u8];omega
 have hw2:IntKind.u8.wrap x=x:=by rw [IntKind.wrap_u8];omega
 have HA:(zgy { p with poll:=false } x).auto=true:=by simp [zgy,ha]
 have hn:decide (x<0)=false:=by rw [decide_eq_false_iff_not];omega
 have HM:zdw p false=(zck (zgy { p with poll:=false } x) x,128+x):=by unfold zdw;rw [if_neg sI,if_pos hp,hx,if_neg oM,if_pos ha]
 clear ha
 go_enter func85,ntmps85
 go_wp2_with (first|(go_at_call 100;(refine (PK _).mono ?_);rintro e w' ⟨rfl,hB⟩;obtain ⟨hb1,hb2,hb3⟩:=zdn hB;have hs:=hB.size;(try simp only [szs] at hs hb1 hb2 hb3))|(go_at_call 103;with_reducible refine Cbv (zjx _ _ _ oM oM) ?_;intro w' hB hb1 hb2 hb3 hs;(try simp only [szs] at hs hb1 hb2 hb3))|(go_at_call 104;with_reducible refine Cbv (finishC_any _ _ _ oM oM) ?_;intro w' hB hb1 hb2 hb3 hs;(try simp only [szs] at hs hb1 hb2 hb3)))
 all_goals
  refine za1 (n:=20) (v:=.agg (zck (zgy { p with poll:=false } x) x).cells) (u:=.int .u8 (128+x)) rfl kR kR ?_ rfl ?_ ?_ rfl ⟨by rw [HM],bL⟩
  all_goals (first|(simp [go_sem,↓iteOmega, *];done)|rfl)
theorem zsr (hh:hi=false) (hp:p.poll=true) (hq:0<=zev { p with poll:=false }) (ha:p.auto=false) :
  Calls prog 85 #[.agg p.cells,.bool hi] w fun e w'=>e=.returned (.tuple #[.agg (zdw p hi).1.cells,.int .u8 (zdw p hi).2])/\Below w.heap.size w w':=by
 subst hh
 obtain ⟨x,hx⟩:∃ x,zev { p with poll:=false }=x:=⟨_,rfl⟩
 have hbd:=zhj { p with poll:=false }
 have PK:∀ w',Calls prog 100 #[.agg ({ p with poll:=false }:SPIC).cells] w' fun e w''=>e=.returned (.int .i64 x)/\Below w'.heap.size w' w'':=fun w'=>by rw [<- hx];exact zf6 _ w' h0 h1
 rw [hx] at hbd hq
 have hw:IntKind.u8.wrap (128+x)=128+x:=by rw [IntKind.wrap_u8];omega
 have hw2:IntKind.u8.wrap x=x:=by rw [IntKind.wrap_u8];omega
 have HA:(zgy { p with poll:=false } x).auto=false:=by simp [zgy,ha]
 have hn:decide (x<0)=false:=by rw [decide_eq_false_iff_not];omega
 have HM:zdw p false=(zgy { p with poll:=false } x,128+x):=by unfold zdw;rw [if_neg sI,if_pos hp,hx,if_neg oM,if_neg (by rw [ha];simp)]
 clear ha
 go_enter func85,ntmps85
 go_wp2_with (first|(go_at_call 100;(refine (PK _).mono ?_);rintro e w' ⟨rfl,hB⟩;obtain ⟨hb1,hb2,hb3⟩:=zdn hB;have hs:=hB.size;(try simp only [szs] at hs hb1 hb2 hb3))|(go_at_call 103;with_reducible refine Cbv (zjx _ _ _ oM oM) ?_;intro w' hB hb1 hb2 hb3 hs;(try simp only [szs] at hs hb1 hb2 hb3))|(go_at_call 104;with_reducible refine Cbv (finishC_any _ _ _ oM oM) ?_;intro w' hB hb1 hb2 hb3 hs;(try simp only [szs] at hs hb1 hb2 hb3)))
 all_goals
  refine za1 (n:=20) (v:=.agg (zgy { p with poll:=false } x).cells) (u:=.int .u8 (128+x)) rfl kR kR ?_ rfl ?_ ?_ rfl ⟨by rw [HM],bL⟩
  all_goals (first|(simp [go_sem,↓iteOmega, *];done)|rfl)
theorem zvc (hh:hi=false) (hp:p.poll=false) (hr:p.readISR=true) :
  Calls prog 85 #[.agg p.cells,.bool hi] w fun e w'=>e=.returned (.tuple #[.agg (zdw p hi).1.cells,.int .u8 (zdw p hi).2])/\Below w.heap.size w w':=by
 subst hh
 have HM:zdw p false=(p,p.isr):=by simp [zdw,hp,hr]
 go_enter func85,ntmps85
 go_wp2_with fail
 all_goals (first|go_region|skip)
 all_goals (go_wp2_with fail)
 all_goals
  refine za1 (n:=20) (v:=.agg (p).cells) (u:=.int .u8 (p.isr)) rfl kR kR ?_ rfl ?_ ?_ rfl ⟨by rw [HM],bL⟩
  all_goals (first|(simp [go_sem,↓iteOmega, *];done)|rfl)
end
theorem zst (p:SPIC) (w:World) :
  Calls prog 85 #[.agg ({ p with poll:=false,readISR:=false }:SPIC).cells,.bool false] w fun e w'=>e=.returned (.tuple #[.agg ({ p with poll:=false,readISR:=false }:SPIC).cells,.int .u8 (reqs { p with poll:=false,readISR:=false })])/\Below w.heap.size w w':=by
 go_enter func85,ntmps85
 go_wp2_with fail
 refine wpNm (fun W hW=>?_)
 have f0:blk W w.heap.size=some (.cells ({ p with poll:=false,readISR:=false }:SPIC).cells 47):=by rw [hW];simp [go_sem,↓iteOmega]
 have f1:blk W (w.heap.size+1)=some (.cells SPIC.zero.cells 47):=by rw [hW];simp [go_sem,↓iteOmega]
 have fB:Below w.heap.size w W:=by rw [hW];exact bL
 clear hW
 have q0:∀ d os,blk (Go.Sort.grow (redrawn W d) os) w.heap.size=some (.cells ({ p with poll:=false,readISR:=false }:SPIC).cells 47):=fun d os=>((below_regrown W d os).block _ (zaa f0).2.2).trans f0
 refine zad 3 kR kR ?_
 simp only [tkd]
 repeat (quiet_step ((go_at_call 105;exact Calls.regrown_of (zpr { p with poll:=false,readISR:=false } _))))
 refine wpQuiet_nil ?_
 intro wq hwq
 have hBq:Below W.heap.size W wq:=by obtain ⟨p,rfl⟩:=hwq;exact below_regrown _ _ _
 have m0:blk wq w.heap.size=some (.cells ({ p with poll:=false,readISR:=false }:SPIC).cells 47):=(hBq.block _ (zaa f0).2.2).trans f0
 have m1:blk wq (w.heap.size+1)=some (.cells SPIC.zero.cells 47):=(hBq.block _ (zaa f1).2.2).trans f1
 have mB:Below w.heap.size w wq:=zaf hBq fB fB.size
 have mz:=(zaa m1).2.2
 clear hwq hBq q0 f0 f1 fB
 go_wp2_with fail
 all_goals
  refine za1 (n:=20) (v:=.agg ({ p with poll:=false,readISR:=false }:SPIC).cells) (u:=.int .u8 (reqs { p with poll:=false,readISR:=false })) rfl kR kR ?_ rfl ?_ ?_ rfl ⟨rfl,zae mB oM⟩
  all_goals (first|(simp [go_sem,↓iteOmega, *];done)|rfl)
theorem zsx (p:SPIC) (hi:Bool) (w:World) (h0:0<=p.isr) (h1:p.isr<=255) :
  Calls prog 85 #[.agg p.cells,.bool hi] w fun e w'=>e=.returned (.tuple #[.agg (zdw p hi).1.cells,.int .u8 (zdw p hi).2])/\Below w.heap.size w w':=by
 cases hh:hi
 ·cases hp:p.poll
  ·cases hr:p.readISR
   ·have e:p = { p with poll:=false,readISR:=false }:=by cases p;simp_all
    have e2:zdw p false=(p,reqs p):=by simp [zdw,hp,hr]
    rw [e2]
    have:=zst p w
    rw [<- e] at this
    exact this
   ·exact zvc p false w h0 h1 rfl hp hr
  ·by_cases hq:zev { p with poll:=false }<0
   ·exact zsu p false w h0 h1 rfl hp hq
   ·cases ha:p.auto
    ·exact zsr p false w h0 h1 rfl hp oM ha
    ·exact zsv p false w h0 h1 rfl hp oM ha
 ·exact zyo p true w h0 h1 rfl
end
section
open Go.RowKit
def dmaN (B:SBoard) (port:Int):Int:=IntKind.u8.wrap (port-B.dmaPort)
def zdp (B:SBoard) (L:List SRegion) (s:SSystem) (M:List SCell) (i:SInput):SSystem × Int:=
 let c:=s.core.cycle
 if accM c.kind=true then (s,zjj L M c.at_)
 else if c.kind=8\/c.kind=9 then (if B.jam=true then (s,i.port) else ({ s with pic:=(ackC s.pic).1 },(ackC s.pic).2))
 else if zld B (IntKind.u8.wrap c.at_)=true then ({ s with pic:=(zdw s.pic (zjb B (IntKind.u8.wrap c.at_)==1)).1 },(zdw s.pic (zjb B (IntKind.u8.wrap c.at_)==1)).2)
 else if dmaN B (IntKind.u8.wrap c.at_)<4 then (s,zgp s.dma (dmaN B (IntKind.u8.wrap c.at_))) else (s,i.port)
def zc0 (B:SBoard) (s:SSystem) (c:SCycle):SSystem:=
 if c.kind=7 then (if zld B (IntKind.u8.wrap c.at_)=true then { s with pic:=zht s.pic (zjb B (IntKind.u8.wrap c.at_)==1) c.data }
  else if dmaN B (IntKind.u8.wrap c.at_)<4 then { s with dma:=zfy s.dma (dmaN B (IntKind.u8.wrap c.at_)) c.data } else s) else s
def zdq (L:List SRegion) (M:List SCell) (c:SCycle):List SCell:=if c.kind=7 then M else zen L M c.at_ c.data
def zf3 (O:List SOutput) (c:SCycle):List SOutput:=if c.kind=7 then O++[⟨IntKind.u8.wrap c.at_,c.data⟩] else O
def clkC (c:SCore) (G:List Int) (l:SLines) (d:Int):SCore:=if l.reset=true then zhf (zfc c.cpu) 0 else advC c G l d
def clkG (c:SCore) (G:List Int) (l:SLines) (d:Int):List Int:=if l.reset=true then [] else advG c G l d
def clkP (c:SCore) (l:SLines) (d:Int):SPins:=
 zfj c.cpu.chip { state:=if l.reset=true then 10 else zaj c,cycle:=c.cycle,data:=d,pc:=c.cpu.regs.pc,inte:=c.cpu.ie,sod:=c.cpu.sod }
def zc2 (s:SSystem) (i:SInput):Bool := !i.reset&&zaj s.core==3
def busM (B:SBoard) (L:List SRegion) (s:SSystem) (M:List SCell) (i:SInput):SSystem × Int:=
 if (zc2 s i&&zd1 s.core.cycle.kind)=true then zdp B L (zfx B s i) M i else (zfx B s i,0)
def clk1 (B:SBoard) (L:List SRegion) (t:Mach) (i:SInput):Mach:=
 let b:=busM B L t.s t.m i
 { s := { b.1 with core:=clkC t.s.core t.g (zcv B L t.s i) b.2 },g:=clkG t.s.core t.g (zcv B L t.s i) b.2,m:=t.m,o:=t.o }
def clk2 (B:SBoard) (L:List SRegion) (t:Mach) (i:SInput):Mach:=
 let u:=clk1 B L t i
 if (zc2 t.s i&&zem t.s.core.cycle.kind)=true then { s:=zc0 B u.s t.s.core.cycle,g:=u.g,m:=zdq L u.m t.s.core.cycle,o:=zf3 u.o t.s.core.cycle } else u
def zh3 (B:SBoard) (L:List SRegion) (t:Mach) (i:SInput):SPins:=clkP t.s.core (zcv B L t.s i) (busM B L t.s t.m i).2
def zk0 (B:SBoard) (L:List SRegion) (t:Mach) (i:SInput):Bool:=(zh3 B L t i).hlda&&zg6 (clk2 B L t i).s.dma
def clk3 (B:SBoard) (L:List SRegion) (t:Mach) (i:SInput):Mach:=
 let u:=clk2 B L t i
 if zk0 B L t i=true then { s := { u.s with dma:=(zbj u.s.dma).1 },g:=u.g,m:=zen L u.m (zbj u.s.dma).2.1.at_ (zbj u.s.dma).2.1.val,o:=u.o } else u
def clkM (B:SBoard) (L:List SRegion) (t:Mach) (i:SInput):Mach:=
 let u:=clk3 B L t i
 if i.reset=true then { u with s := { u.s with dma := { u.s.dma with left:=0 },pic := { u.s.pic with step:=0 } } } else u
def momM (B:SBoard) (L:List SRegion) (t:Mach) (i:SInput):SMoment:=
 { lines:=zcv B L t.s i,data:=(busM B L t.s t.m i).2,cell:=if zk0 B L t i=true then (zbj (clk2 B L t i).s.dma).2.1 else SCell.zero,
   wrote:=zk0 B L t i&&(zbj (clk2 B L t i).s.dma).2.2,before:=t.s.core,pins:=zh3 B L t i }
end
section
open Go.RowKit
structure MEv where
 e:SEvent
 b:List Int
structure RecM where
 t:Mach
 tr:List SPins
 ev:List MEv
 cp:List SCPU
 last:SCPU
def addE (r:RecM) (e:MEv) (c:SCPU):RecM := { r with last:=c,ev:=r.ev++[e],cp:=r.cp++[c] }
def zkd (source:Int):Int:=if source=0 then 1 else if source=5 then 2 else 3
def znt (c:SCore) (G:List Int):Bool:=(decide (2<=c.next)&&decide (c.next<=7))||decide (0<G.length)||c.source != 0
def cutE (x:SMoment):SEvent:=latched { SEvent.zero with kind:=6,source:=x.before.source,lines:=x.lines } x.before.cpu
def zj1 (x:SMoment):SEvent:=latched { SEvent.zero with kind:=4,lines:=x.lines } x.before.cpu
def chX (x:SMoment) (G:List Int):SChange:=advX x.before G x.lines x.data ⟨none,0,0⟩
def endE (x:SMoment) (G:List Int):SEvent:=latched { SEvent.zero with kind:=zkd x.before.source,source:=x.before.source,lines:=x.lines } (chX x G).latched
def dmaE (x:SMoment):SEvent := { SEvent.zero with kind:=5,cell:=x.cell }
def cutR (r:RecM) (x:SMoment) (G:List Int):RecM:=if znt x.before G=true then addE r ⟨cutE x,G⟩ r.last else r
def zgw (r:RecM) (x:SMoment) (G:List Int) (now:SCPU):RecM:=addE (cutR r x G) ⟨zj1 x,[]⟩ now
def endR (r:RecM) (x:SMoment) (G:List Int):RecM:=if (chX x G).ended=true then addE r ⟨endE x G,xG x.before G x.data⟩ (chX x G).cpu else r
def zgf (r:RecM) (x:SMoment) (G:List Int) (now:SCPU):RecM:=if x.pins.state=10 then zgw r x G now else endR r x G
def dmaR (r:RecM) (x:SMoment):RecM:=if x.wrote=true then addE r ⟨dmaE x,[]⟩ r.last else r
def zgl (r:RecM) (x:SMoment) (G:List Int) (now:SCPU):RecM:=dmaR (zgf { r with tr:=r.tr++[x.pins] } x G now) x
def zjh (B:SBoard) (L:List SRegion) (r:RecM) (i:SInput):RecM:=
 zgl { r with t:=clkM B L r.t i } (momM B L r.t i) r.t.g (clkM B L r.t i).s.core.cpu
def runM (B:SBoard) (L:List SRegion) (r:RecM) (l:List SInput):RecM:=l.foldl (zjh B L) r
def zq6 (c:SCore):SEvent := { SEvent.zero with kind:=7,source:=c.source }
def zew (r:RecM):RecM:=if znt r.t.s.core r.t.g=true then addE r ⟨zq6 r.t.s.core,r.t.g⟩ r.last else r
def newS (B:SBoard):SSystem := { SSystem.zero with core:=zhf (zfc { SCPU.zero with chip:=B.chip }) 0,pic:=zj5 }
def newR (B:SBoard) (M:List SCell):RecM:=⟨⟨newS B,[],M,[]⟩,[],[],[],(newS B).core.cpu⟩
def zee (B:SBoard) (L:List SRegion) (M:List SCell) (l:List SInput):RecM:=zew (runM B L (newR B M) l)
end
section
open Go.RowKit
section
variable {w W w' w2:World} {b q:Nat} {X:Option Obj} {C:Prop}
theorem zqa (h:blk W b=X):blk W.drew b=X/\W.heap.size<=W.drew.heap.size/\Below W.heap.size W W.drew:=⟨h,Nat.le_refl _,Below.drew (Below.refl _ _)⟩
theorem znh (o:Obj) (hb:b<W.heap.size) (h:(blk w' b=X/\W.heap.size<=w'.heap.size/\Below W.heap.size W w')/\C):blk (w'.alloc o) b=X/\W.heap.size<=(w'.alloc o).heap.size/\Below W.heap.size W (w'.alloc o):=
 ⟨(blk_alloc_past _ _ _ oM).trans h.1.1,by simp;omega,h.1.2.2.alloc h.1.2.1 _⟩
theorem zp9 (hb:b<W.heap.size) (hB:Below w'.heap.size w' w2) (h:(blk w' b=X/\W.heap.size<=w'.heap.size/\Below W.heap.size W w')/\C):blk w2 b=X/\W.heap.size<=w2.heap.size/\Below W.heap.size W w2:=
 ⟨(hB.block b oM).trans h.1.1,Nat.le_trans h.1.2.1 hB.size,zaf hB h.1.2.2 h.1.2.1⟩
theorem zx0 (o:Obj) (hb:b<W.heap.size) (h:blk W b=X):blk (W.alloc o).drew b=X/\W.heap.size<=(W.alloc o).drew.heap.size/\Below W.heap.size W (W.alloc o).drew:=⟨(blk_alloc_past _ _ _ hb).trans h,by simp,((Below.refl _ _).alloc nL _).drew⟩
theorem zp8 (o:Obj) (hb:b<W.heap.size) (hB:Below W.drew.heap.size W.drew w') (h:blk W b=X):blk (w'.alloc o) b=X/\W.heap.size<=(w'.alloc o).heap.size/\Below W.heap.size W (w'.alloc o):=
 have hs:W.heap.size<=w'.heap.size:=hB.size
 ⟨(blk_alloc_past _ _ _ oM).trans ((hB.block b hb).trans h),by simp;omega,Below.alloc (Below.trans (Below.drew (Below.refl _ _)) hB) hs _⟩
theorem ztu (o:Obj) {A:Array Value} {t:TypeId} (hb:b<W.heap.size) (hB:Below (W.alloc o).drew.heap.size (W.alloc o).drew w') (h:blk W b=X):blk (zai w' W.heap.size A t) b=X/\W.heap.size<=(zai w' W.heap.size A t).heap.size/\Below W.heap.size W (zai w' W.heap.size A t):=
 have hs:W.heap.size+1<=w'.heap.size:=by have:=hB.size;simpa using this
 ⟨(blk_setBlk_other _ _ _ _ _ oM).trans ((hB.block b sO).trans ((blk_alloc_past _ _ _ hb).trans h)),by rw [size_setBlk];omega,zae ((((Below.refl _ W).alloc nL o).drew).trans (hB.mono sI)) nL⟩
end
theorem zfv {P:Program} {T:Nat} {Z:Array Value} {fields:Array Field} {places:Array (Nat × Nat)} (hz:∀ w,(zeroValue T).run P w=.ok (.agg Z) w) (hu:P.underlying T=some (.struct fields))
  (hp:∀ w,Sem.run P (fields.mapM fun (f:Field)=>do pure (f.offset,<- sizeOf f.type)) w=.ok places w)
  (ρ:Operand->Value) (dst:Option Tmp) (parts:Array (Nat × Operand)) (ty:TypeId) (pos:String) (aft:Array Edge) (gd:Option (Nat × Bool)) (w:World)
  (h:(Instr.fill (places[·]?) Z (parts.toList.map fun p=>(p.1,ρ p.2))).isSome=true) :
  (execOp ρ ⟨dst,.build T parts,ty,pos,aft,gd⟩).run P w=.ok (.value (.agg ((Instr.fill (places[·]?) Z (parts.toList.map fun p=>(p.1,ρ p.2))).getD #[]))) w:=by
 obtain ⟨C,hC⟩:=Option.isSome_iff_exists.1 h
 have hl:(parts.map fun (i,x)=>(i,ρ x)).toList=parts.toList.map fun p=>(p.1,ρ p.2):=by simp
 simp only [execOp,Instr.build,Sem.run_bind,hz,run_underlying hu,Result.andThen_ok,Value.cells,hp,hl,hC,Sem.run_pure]
 rfl
@[go_sem ↓] theorem SPState.run_build (ρ:Operand->Value) (dst:Option Tmp) (parts:Array (Nat × Operand)) (ty:TypeId) (pos:String) (aft:Array Edge) (gd:Option (Nat × Bool)) (w:World) (h:(SPState.fill SPState.zero (parts.toList.map fun p=>(p.1,ρ p.2))).isSome=true) :
  (execOp ρ ⟨dst,.build 167 parts,ty,pos,aft,gd⟩).run prog w=.ok (.value (.agg ((SPState.fill SPState.zero (parts.toList.map fun p=>(p.1,ρ p.2))).getD #[]))) w:=zfv (fields:=zcm prog 167) (places:=SPState.places) (fun w=>SPState.zeroValue w) kR (fun w=>kR) ρ dst parts ty pos aft gd w h
def zmp (c:SCore) (G:List Int) (l:SLines) (data:Int) (w:World) (e:Ending) (w':World):Prop:=
 ∃ s:Sl,e=.returned (.tuple #[.agg ({ clkC c G l data with got:=s }:SCore).cells,.agg (clkP c l data).cells])/\Row w' w.heap.size w'.heap.size 5 1 encB s (clkG c G l data)/\Below w.heap.size w w'
theorem zpq (c:SCPU) (h:c.regs.Ok):(zfc c).regs.Ok:=by
 unfold zfc
 exact ⟨h.a,h.b,h.c,h.d,h.e,h.h,h.l,h.sp,by simp⟩
theorem clk_r (c:SCore) (G:List Int) (l:SLines) (data:Int) (w:World) (hg:Row w 0 w.heap.size 5 1 encB c.got G) (hG:G.length<=900000) (hgb:∀ y ∈ G,0<=y/\y<=255) (hr:c.cpu.regs.Ok) (hd:0<=data/\data<=255) (hcd:0<=c.cycle.data/\c.cycle.data<=255) (hca:0<=c.cycle.at_/\c.cycle.at_<=65535) (hl:l.reset=true) :
  Calls prog 53 #[.agg c.cells,.agg l.cells,.int .u8 data] w (zmp c G l data w):=by
 obtain ⟨ha0,ha1⟩:=hca
 have hok:=zpq c.cpu hr
 have HL:=hid hl
 clear hg hG hgb hd hcd
 go_enter func53,ntmps53
 go_upto_region 1 with fail
 refine wpNm (fun W hW=>?_)
 have f0:blk W w.heap.size=some (.cells c.cells 45):=by rw [hW];simp [go_sem,↓iteOmega]
 have f1:blk W (w.heap.size+1)=some (.cells l.cells 59):=by rw [hW];simp [go_sem,↓iteOmega]
 have f2:blk W (w.heap.size+1+1)=some (.cells SCore.zero.cells 45):=by rw [hW];simp [go_sem,↓iteOmega]
 have f3:blk W (w.heap.size+1+1+1)=some (.cells SPins.zero.cells 76):=by rw [hW];simp [go_sem,↓iteOmega]
 have fz:w.heap.size+1+1+1<W.heap.size:=by rw [hW];simp
 have fB:Below w.heap.size w W:=by rw [hW];exact bL
 clear hW
 go_cut [8] (fun s8 wx=>∃ pb,s8=.pointer (some ⟨pb,0,none⟩)/\W.heap.size<=pb/\blk wx pb=some (.cells (SPState.mk (zaj c) c.cycle data c.cpu.regs.pc c.cpu.ie c.cpu.sod).cells 167)/\Below W.heap.size W wx)
 case first=>
  have F0:=hid f0
  have FZ:w.heap.size<W.heap.size:=oM
  have mkS:∀ w',(blk w' w.heap.size=some (.cells c.cells 45)/\W.heap.size<=w'.heap.size/\Below W.heap.size W w')->((blk w' w.heap.size=some (.cells c.cells 45)/\W.heap.size<=w'.heap.size/\Below W.heap.size W w')/\w'.cell? ⟨w.heap.size,16,none⟩=some (.int .u16 c.cpu.regs.pc)/\w'.cell? ⟨w.heap.size,17,none⟩=some (.bool c.cpu.ie)/\w'.cell? ⟨w.heap.size,27,none⟩=some (.bool c.cpu.sod)):=fun w' h=>⟨h,(zaa h.1).1 16,(zaa h.1).1 17,(zaa h.1).1 27⟩
  have MK:=hid mkS
  clear f1 f2 f3 fz mkS f0 fB
  go_region_held3 ((fun w'=>(blk w' w.heap.size=some (.cells c.cells 45)/\W.heap.size<=w'.heap.size/\Below W.heap.size W w')/\w'.cell? ⟨w.heap.size,16,none⟩=some (.int .u16 c.cpu.regs.pc)/\w'.cell? ⟨w.heap.size,17,none⟩=some (.bool c.cpu.ie)/\w'.cell? ⟨w.heap.size,27,none⟩=some (.bool c.cpu.sod))) (first|exact MK.out _ (zqa F0.out)|exact MK.out _ (zx0 _ FZ F0.out)|exact MK.out _ (zp8 _ FZ aS F0.out)|exact MK.out _ (ztu _ FZ aS F0.out)|exact MK.out _ (znh _ FZ aS)|exact MK.out _ (zp9 FZ aS aS)) (first|(go_at_call 50;with_reducible refine Cbv (zbe _ _) ?_;intro w' hB hb1 hb2 hb3 hs;(try simp only [szs] at hs hb1 hb2 hb3)))
  all_goals go_wp2_with fail
  all_goals
   go_meet
   case rel=>
    refine ⟨_,rfl,?_,?_,?_⟩
    ·first|exact Nat.le_refl _|exact hs
    ·simp [go_sem,↓iteOmega, *]
    ·exact bL
 obtain ⟨pb,rfl,hpb,hps,hBc⟩:=hcut
 have g0:blk wc w.heap.size=some (.cells c.cells 45):=(hBc.block _ oM).trans f0
 have g1:blk wc (w.heap.size+1)=some (.cells l.cells 59):=(hBc.block _ oM).trans f1
 have g2:blk wc (w.heap.size+1+1)=some (.cells SCore.zero.cells 45):=(hBc.block _ oM).trans f2
 have g3:blk wc (w.heap.size+1+1+1)=some (.cells SPins.zero.cells 76):=(hBc.block _ oM).trans f3
 have gz:w.heap.size+1+1+1<pb/\pb<wc.heap.size:=⟨oM,(zaa hps).2.2⟩
 have gB:Below w.heap.size w wc:=zaf hBc fB fB.size
 clear hBc hpb f0 f1 f2 f3 fz fB
 obtain ⟨gc1,gf1,gz1⟩:=zaa g1
 obtain ⟨gcp,gfp,gzp⟩:=zaa hps
 go_upto_region 4 with fail
 refine wpNm (fun W2 hW=>?_)
 have k0:blk W2 w.heap.size=some (.cells c.cells 45):=by rw [hW];exact sM
 have k2:blk W2 (w.heap.size+1+1)=some (.cells SCore.zero.cells 45):=by rw [hW];exact sM
 have k3:blk W2 (w.heap.size+1+1+1)=some (.cells SPins.zero.cells 76):=by rw [hW];exact sM
 have kp:blk W2 pb=some (.cells (SPState.mk 10 c.cycle data c.cpu.regs.pc c.cpu.ie c.cpu.sod).cells 167):=by rw [hW];first|(simp [go_sem,↓iteOmega, *];done)|(simp [go_sem,↓iteOmega, *]<;>rfl)
 have kz:w.heap.size+1+1+1<pb/\pb<W2.heap.size:=by rw [hW];(try simp only [szs] at *);omega
 have kB:Below w.heap.size w W2:=by rw [hW];exact zae gB oM
 clear hW g0 g1 g2 g3 hps gB gc1 gf1 gz1 gz gcp gfp gzp
 have q0:∀ d os,blk (Go.Sort.grow (redrawn W2 d) os) w.heap.size=some (.cells c.cells 45):=fun d os=>((below_regrown W2 d os).block _ oM).trans aS
 have q1:∀ d os,blk (Go.Sort.grow (redrawn W2 d) os) pb=some (.cells (SPState.mk 10 c.cycle data c.cpu.regs.pc c.cpu.ie c.cpu.sod).cells 167):=fun d os=>((below_regrown W2 d os).block _ oM).trans aS
 have hcl:∀ d os i,(Go.Sort.grow (redrawn W2 d) os).cell? ⟨w.heap.size,i,none⟩=c.cells[i]? := fun d os i=>(zaa (q0 d os)).1 i
 refine zad 9 kR kR ?_
 simp only [tkd]
 repeat (quiet_step (first|(go_at_call 25;exact Calls.regrown_of (ziz _ _))|(go_at_call 61;exact Calls.regrown_of (beginM_any _ _ _ hok))|(go_at_call 87;exact Calls.regrown_of (zm7 _ _ _ ha0 ha1))))
 refine wpQuiet_nil ?_
 intro wq hwq
 have hBq:Below W2.heap.size W2 wq:=by obtain ⟨p,rfl⟩:=hwq;exact below_regrown _ _ _
 clear hwq hcl q0 q1
 have l2:blk wq (w.heap.size+1+1)=some (.cells SCore.zero.cells 45):=(hBq.block _ oM).trans k2
 have l3:blk wq (w.heap.size+1+1+1)=some (.cells SPins.zero.cells 76):=(hBq.block _ oM).trans k3
 have lB:Below w.heap.size w wq:=zaf hBq kB kB.size
 have lz:w.heap.size+1+1+1<wq.heap.size:=by have:=hBq.size;omega
 clear k0 k2 k3 kp kz kB hBq
 go_wp2_with fail
 have e1:clkC c G l data=zhf (zfc c.cpu) 0:=by unfold clkC;rw [if_pos HL.out]
 have e2:clkG c G l data=[]:=by unfold clkG;rw [if_pos HL.out]
 have e3:clkP c l data=zfj c.cpu.chip (SPState.mk 10 c.cycle data c.cpu.regs.pc c.cpu.ie c.cpu.sod):=by unfold clkP;rw [if_pos HL.out]
 refine zbl (n:=36) (n':=17) (v:=.agg (zhf (zfc c.cpu) 0).cells) (u:=.agg (zfj c.cpu.chip (SPState.mk 10 c.cycle data c.cpu.regs.pc c.cpu.ie c.cpu.sod)).cells) rfl kR kR kR kR rfl ?_ ?_ rfl ?_ ?_ rfl ⟨⟨none,0,0⟩,by rw [e1,e3];rfl,by rw [e2];exact Row.nil _ _ _ _ _ _,?_⟩
 all_goals first|(simp [go_sem,↓iteOmega, *];done)|exact zae (zae lB oM) oM
end
section
open Go.RowKit
@[go_sem ↓] theorem SEvent.run_build (ρ:Operand->Value) (dst:Option Tmp) (parts:Array (Nat × Operand)) (ty:TypeId) (pos:String) (aft:Array Edge) (gd:Option (Nat × Bool)) (w:World) (h:(SEvent.fill SEvent.zero (parts.toList.map fun p=>(p.1,ρ p.2))).isSome=true) :
  (execOp ρ ⟨dst,.build 63 parts,ty,pos,aft,gd⟩).run prog w=.ok (.value (.agg ((SEvent.fill SEvent.zero (parts.toList.map fun p=>(p.1,ρ p.2))).getD #[]))) w:=zfv (fields:=zcm prog 63) (places:=SEvent.places) (fun w=>SEvent.zeroValue w) kR (fun w=>kR) ρ dst parts ty pos aft gd w h
end
section
open Go.RowKit
def slC (c:SCore) (a:Sl):SCore := { c with got:=a }
def slS (s:SSystem) (a b c:Sl):SSystem := { s with core:=slC s.core a,memory:=b,outs:=c }
def slX (x:SMoment) (a:Sl):SMoment := { x with before:=slC x.before a }
section
variable (c:SCore) (G:List Int) (l:SLines)
include c G l
theorem zug (a g:Sl):slC (endM (slC c a) G l) g=slC (endM c G l) g:=by
 unfold endM
 show slC (if zb9 c.cpu c.source G=true then _ else _) g=_
 split
 ·rfl
 ·rfl
theorem z2w (d:Int) (a g:Sl):slC (advC (slC c a) G l d) g=slC (advC c G l d) g:=by
 have hs:zaj (slC c a)=zaj c:=rfl
 unfold advC
 rw [hs]
 split
 ·rfl
 ·split
  ·show slC (if zfb c.cycle.kind=true/\l.ready=false then _ else _) g=_
   split<;>rfl
  ·split
   ·show slC (if 3<(zcj (zac c l) d).states then _ else _) g=_
    split
    ·rfl
    ·exact zug (third (zac c l) d) _ l a g
   ·split
    ·show slC (if zaj c<c.cycle.states/\zaj c≠6 then _ else _) g=_
     split
     ·rfl
     ·exact zug (zac c l) G l a g
    ·split
     ·rfl
     ·split
      ·show slC { (zfi (zac (slC c a) l) G (zc5 (zac c l).cpu l)).1 with next:=_ } g=_
       unfold zfi
       split<;>rfl
      ·rfl
theorem z0y (d:Int) (a g:Sl):slC (clkC (slC c a) G l d) g=slC (clkC c G l d) g:=by
 unfold clkC
 split
 ·rfl
 ·exact z2w c G l d a g
theorem z0x (d:Int) (a:Sl):clkG (slC c a) G l d=clkG c G l d:=by
 have hs:zaj (slC c a)=zaj c:=rfl
 unfold clkG
 split
 ·rfl
 ·unfold advG
  rw [hs]
  split
  ·rfl
  ·split
   ·rfl
   ·split
    ·show (zfi (zac (slC c a) l) G (zc5 (zac c l).cpu l)).2=_
     unfold zfi
     split<;>rfl
    ·rfl
end
theorem zj9 (B:SBoard) (L:List SRegion) (s:SSystem) (i:SInput) (a b c:Sl):zcv B L (slS s a b c) i=zcv B L s i:=rfl
theorem zti (B:SBoard) (s:SSystem) (i:SInput) (a b c:Sl):zfx B (slS s a b c) i=slS (zfx B s i) a b c:=rfl
theorem zvg (B:SBoard) (L:List SRegion) (s:SSystem) (M:List SCell) (i:SInput) (a b c:Sl):zdp B L (slS s a b c) M i=(slS (zdp B L s M i).1 a b c,(zdp B L s M i).2):=by
 have hc:(slS s a b c).core.cycle=s.core.cycle:=rfl
 unfold zdp
 rw [hc]
 dsimp only
 repeat' split
 all_goals rfl
theorem zpf (B:SBoard) (L:List SRegion) (s:SSystem) (M:List SCell) (i:SInput) (a b c:Sl):busM B L (slS s a b c) M i=(slS (busM B L s M i).1 a b c,(busM B L s M i).2):=by
 have h1:(zc2 (slS s a b c) i&&zd1 (slS s a b c).core.cycle.kind)=(zc2 s i&&zd1 s.core.cycle.kind):=rfl
 unfold busM
 rw [h1,zti,zvg]
 split
 ·rfl
 ·rfl
theorem zr8 (B:SBoard) (s:SSystem) (cy:SCycle) (a b c:Sl):zc0 B (slS s a b c) cy=slS (zc0 B s cy) a b c:=by
 unfold zc0
 repeat' split
 all_goals rfl
def slM (t:Mach) (a b c:Sl):Mach := { t with s:=slS t.s a b c }
section
variable (B:SBoard) (L:List SRegion) (t:Mach) (i:SInput)
include B L t i
theorem z00 (a b c a' b' c':Sl):slM (clk1 B L (slM t a b c) i) a' b' c'=slM (clk1 B L t i) a' b' c':=by
 unfold clk1 slM
 dsimp only
 rw [zpf,zj9]
 dsimp only
 have hc:=z0y t.s.core t.g (zcv B L t.s i) (busM B L t.s t.m i).2 a a'
 have hg:=z0x t.s.core t.g (zcv B L t.s i) (busM B L t.s t.m i).2 a
 have e1:∀ (s:SSystem) (co:SCore) (x y z:Sl),slS { slS s x y z with core:=co } a' b' c' = { s with core:=slC co a',memory:=b',outs:=c' }:=fun _ _ _ _ _=>rfl
 have e2:∀ (s:SSystem) (co:SCore),slS { s with core:=co } a' b' c' = { s with core:=slC co a',memory:=b',outs:=c' }:=fun _ _=>rfl
 rw [e1,e2]
 show Mach.mk { (busM B L t.s t.m i).1 with core:=slC (clkC (slC t.s.core a) t.g (zcv B L t.s i) (busM B L t.s t.m i).2) a',memory:=b',outs:=c' } (clkG (slC t.s.core a) t.g (zcv B L t.s i) (busM B L t.s t.m i).2) t.m t.o=_
 rw [hc,hg]
theorem zuq (a b c a' b' c':Sl):slM (clk2 B L (slM t a b c) i) a' b' c'=slM (clk2 B L t i) a' b' c':=by
 have h1:=z00 B L t i a b c a' b' c'
 have hs:∀ u:Mach,slM { s:=zc0 B u.s t.s.core.cycle,g:=u.g,m:=zdq L u.m t.s.core.cycle,o:=zf3 u.o t.s.core.cycle } a' b' c' = { s:=zc0 B (slM u a' b' c').s t.s.core.cycle,g:=(slM u a' b' c').g,m:=zdq L (slM u a' b' c').m t.s.core.cycle,o:=zf3 (slM u a' b' c').o t.s.core.cycle }:=fun u=>by
  show Mach.mk (slS (zc0 B u.s t.s.core.cycle) a' b' c') _ _ _=Mach.mk (zc0 B (slS u.s a' b' c') t.s.core.cycle) _ _ _
  rw [zr8]
  rfl
 have hc:(slM t a b c).s.core.cycle=t.s.core.cycle:=rfl
 have ha:zc2 (slM t a b c).s i=zc2 t.s i:=rfl
 unfold clk2
 dsimp only
 rw [ha,hc]
 split
 ·rw [hs,hs,h1]
 ·exact h1
theorem zpy (a b c:Sl):zh3 B L (slM t a b c) i=zh3 B L t i:=by
 unfold zh3 slM
 dsimp only
 rw [zpf,zj9]
 rfl
theorem zqh (a b c:Sl):(clk2 B L (slM t a b c) i).s.dma=(clk2 B L t i).s.dma:=by
 have:=congrArg (fun u:Mach=>u.s.dma) (zuq B L t i a b c a b c)
 exact this
theorem zp7 (a b c:Sl):zk0 B L (slM t a b c) i=zk0 B L t i:=by
 unfold zk0
 rw [zpy,zqh]
theorem z0z (a b c a' b' c':Sl):slM (clk3 B L (slM t a b c) i) a' b' c'=slM (clk3 B L t i) a' b' c':=by
 have h2:=zuq B L t i a b c a' b' c'
 have hs:∀ u:Mach,slM { s := { u.s with dma:=(zbj u.s.dma).1 },g:=u.g,m:=zen L u.m (zbj u.s.dma).2.1.at_ (zbj u.s.dma).2.1.val,o:=u.o } a' b' c' = { s := { (slM u a' b' c').s with dma:=(zbj (slM u a' b' c').s.dma).1 },g:=(slM u a' b' c').g,m:=zen L (slM u a' b' c').m (zbj (slM u a' b' c').s.dma).2.1.at_ (zbj (slM u a' b' c').s.dma).2.1.val,o:=(slM u a' b' c').o }:=fun _=>rfl
 unfold clk3
 dsimp only
 rw [zp7]
 split
 ·rw [hs,hs,h2]
 ·exact h2
theorem zml (a b c a' b' c':Sl):slM (clkM B L (slM t a b c) i) a' b' c'=slM (clkM B L t i) a' b' c':=by
 have h3:=z0z B L t i a b c a' b' c'
 have hs:∀ u:Mach,slM { u with s := { u.s with dma := { u.s.dma with left:=0 },pic := { u.s.pic with step:=0 } } } a' b' c' = { (slM u a' b' c') with s := { (slM u a' b' c').s with dma := { (slM u a' b' c').s.dma with left:=0 },pic := { (slM u a' b' c').s.pic with step:=0 } } }:=fun _=>rfl
 unfold clkM
 dsimp only
 split
 ·rw [hs,hs,h3]
 ·exact h3
theorem ztg (a b c:Sl):momM B L (slM t a b c) i=slX (momM B L t i) a:=by
 unfold momM
 rw [zp7,zpy,zqh]
 show SMoment.mk (zcv B L (slS t.s a b c) i) (busM B L (slS t.s a b c) t.m i).2 _ _ _ _=_
 rw [zpf,zj9]
 rfl
end
theorem zv0 (q:RecM) (x:SMoment) (G:List Int) (now:SCPU) (a:Sl):zgl q (slX x a) G now=zgl q x G now:=by
 unfold zgl dmaR zgf zgw cutR endR
 rfl
end
section
open Go.RowKit
section
variable (p:SPIC) (w:World) (h0:0<=p.isr) (h1:p.isr<=255)
include p w h0 h1
theorem z3h (hz:(p.step==0)=true) (hq:zev p<0) :
  Calls prog 83 #[.agg p.cells] w fun e w'=>e=.returned (.tuple #[.agg (ackC p).1.cells,.int .u8 (ackC p).2])/\Below w.heap.size w w':=by
 obtain ⟨x,hx⟩:∃ x,zev p=x:=⟨_,rfl⟩
 have hbd:=zhj p
 have PK:∀ w',Calls prog 100 #[.agg p.cells] w' fun e w''=>e=.returned (.int .i64 x)/\Below w'.heap.size w' w'':=fun w'=>by rw [<- hx];exact zf6 _ w' h0 h1
 rw [hx] at hbd hq
 have HM:ackC p=({ p with spurious:=true,serving:=7,step:=1 },205):=by unfold ackC;rw [if_pos (by simpa using hz),hx,if_pos hq]
 rw [HM]
 clear HM hx
 have hn:decide (x<0)=true:=decide_eq_true hq
 go_enter func83,ntmps83
 go_wp2_with ((go_at_call 100;(refine (PK _).mono ?_);rintro e w' ⟨rfl,hB⟩;obtain ⟨hb1,hb2,hb3⟩:=zdn hB;have hs:=hB.size;(try simp only [szs] at hs hb1 hb2 hb3)))
 all_goals
  refine za1 (n:=20) (v:=.agg ({ p with spurious:=true,serving:=7,step:=1 }).cells) (u:=.int .u8 (205)) rfl kR kR ?_ rfl ?_ ?_ rfl ⟨rfl,bL⟩
  all_goals (first|(simp [go_sem,↓iteOmega, *];done)|rfl|(simp [go_sem,↓iteOmega,zck, *];done)|(simp [go_sem,↓iteOmega,zck, *];split<;>rfl))
theorem z3g (hz:(p.step==0)=true) (hq:0<=zev p) :
  Calls prog 83 #[.agg p.cells] w fun e w'=>e=.returned (.tuple #[.agg (ackC p).1.cells,.int .u8 (ackC p).2])/\Below w.heap.size w w':=by
 obtain ⟨x,hx⟩:∃ x,zev p=x:=⟨_,rfl⟩
 have hbd:=zhj p
 have PK:∀ w',Calls prog 100 #[.agg p.cells] w' fun e w''=>e=.returned (.int .i64 x)/\Below w'.heap.size w' w'':=fun w'=>by rw [<- hx];exact zf6 _ w' h0 h1
 rw [hx] at hbd hq
 have HM:ackC p=({ zgy { p with spurious:=false } x with serving:=x,step:=1 },205):=by unfold ackC;rw [if_pos (by simpa using hz),hx,if_neg oM]
 rw [HM]
 clear HM hx
 have hn:decide (x<0)=false:=by rw [decide_eq_false_iff_not];omega
 go_enter func83,ntmps83
 go_wp2_with (first|(go_at_call 100;(refine (PK _).mono ?_);rintro e w' ⟨rfl,hB⟩;obtain ⟨hb1,hb2,hb3⟩:=zdn hB;have hs:=hB.size;(try simp only [szs] at hs hb1 hb2 hb3))|(go_at_call 103;with_reducible refine Cbv (zjx _ _ _ oM oM) ?_;intro w' hB hb1 hb2 hb3 hs;(try simp only [szs] at hs hb1 hb2 hb3)))
 all_goals
  refine za1 (n:=20) (v:=.agg ({ zgy { p with spurious:=false } x with serving:=x,step:=1 }).cells) (u:=.int .u8 (205)) rfl kR kR ?_ rfl ?_ ?_ rfl ⟨rfl,bL⟩
  all_goals (first|(simp [go_sem,↓iteOmega, *];done)|rfl|(simp [go_sem,↓iteOmega,zck, *];done)|(simp [go_sem,↓iteOmega,zck, *];split<;>rfl))
theorem z3f (hz:(p.step==0)=false) (hz1:(p.step==1)=true) (hf:p.four=true) :
  Calls prog 83 #[.agg p.cells] w fun e w'=>e=.returned (.tuple #[.agg (ackC p).1.cells,.int .u8 (ackC p).2])/\Below w.heap.size w w':=by
 obtain ⟨s,hs⟩:∃ s,p.serving%8=s:=⟨_,rfl⟩
 have hm:bits .and .i64 p.serving 7=s:=by rw [<- hs];exact zd7 p.serving
 have hm0:0<=s/\s<=7:=oM
 have hw:IntKind.u8.wrap (4 * s)=4 * s:=by rw [IntKind.wrap_u8];omega
 have HM:ackC p=({ p with step:=2 },IntKind.u8.wrap (bits .and .u8 p.low 224+4 * s)):=by unfold ackC;rw [if_neg (by simpa using hz),if_pos (by simpa using hz1),if_pos hf,hs]
 rw [HM]
 clear HM hs
 go_enter func83,ntmps83
 go_wp2_with fail
 all_goals (first|go_region|skip)
 all_goals (go_wp2_with fail)
 all_goals
  refine za1 (n:=20) (v:=.agg ({ p with step:=2 }).cells) (u:=.int .u8 (IntKind.u8.wrap (bits .and .u8 p.low 224+4 * s))) rfl kR kR ?_ rfl ?_ ?_ rfl ⟨rfl,bL⟩
  all_goals (first|(simp [go_sem,↓iteOmega, *];done)|rfl|(simp [go_sem,↓iteOmega,zck, *];done)|(simp [go_sem,↓iteOmega,zck, *];split<;>rfl))
theorem z3e (hz:(p.step==0)=false) (hz1:(p.step==1)=true) (hf:p.four=false) :
  Calls prog 83 #[.agg p.cells] w fun e w'=>e=.returned (.tuple #[.agg (ackC p).1.cells,.int .u8 (ackC p).2])/\Below w.heap.size w w':=by
 obtain ⟨s,hs⟩:∃ s,p.serving%8=s:=⟨_,rfl⟩
 have hm:bits .and .i64 p.serving 7=s:=by rw [<- hs];exact zd7 p.serving
 have hm0:0<=s/\s<=7:=oM
 have hw:IntKind.u8.wrap (8 * s)=8 * s:=by rw [IntKind.wrap_u8];omega
 have HM:ackC p=({ p with step:=2 },IntKind.u8.wrap (bits .and .u8 p.low 192+8 * s)):=by unfold ackC;rw [if_neg (by simpa using hz),if_pos (by simpa using hz1),if_neg (by rw [hf];simp),hs]
 rw [HM]
 clear HM hs
 go_enter func83,ntmps83
 go_wp2_with fail
 all_goals (first|go_region|skip)
 all_goals (go_wp2_with fail)
 all_goals
  refine za1 (n:=20) (v:=.agg ({ p with step:=2 }).cells) (u:=.int .u8 (IntKind.u8.wrap (bits .and .u8 p.low 192+8 * s))) rfl kR kR ?_ rfl ?_ ?_ rfl ⟨rfl,bL⟩
  all_goals (first|(simp [go_sem,↓iteOmega, *];done)|rfl|(simp [go_sem,↓iteOmega,zck, *];done)|(simp [go_sem,↓iteOmega,zck, *];split<;>rfl))
theorem z3d (hz:(p.step==0)=false) (hz1:(p.step==1)=false) (ha:p.auto=true) (hp:p.spurious=false) :
  Calls prog 83 #[.agg p.cells] w fun e w'=>e=.returned (.tuple #[.agg (ackC p).1.cells,.int .u8 (ackC p).2])/\Below w.heap.size w w':=by
 obtain ⟨s,hs⟩:∃ s,p.serving%8=s:=⟨_,rfl⟩
 have hm:bits .and .i64 p.serving 7=s:=by rw [<- hs];exact zd7 p.serving
 have hm0:0<=s/\s<=7:=oM
 have HM:ackC p=(zck { p with step:=0 } s,p.high):=by unfold ackC;rw [if_neg (by simpa using hz),if_neg (by simpa using hz1),if_pos (by rw [ha,hp];rfl),hs]
 rw [HM]
 clear HM hs
 go_enter func83,ntmps83
 go_wp2_with (first|(go_at_call 104;with_reducible refine Cbv (finishC_any _ _ _ oM oM) ?_;intro w' hB hb1 hb2 hb3 hs;(try simp only [szs] at hs hb1 hb2 hb3)))
 all_goals (first|go_region|skip)
 all_goals (go_wp2_with (first|(go_at_call 104;with_reducible refine Cbv (finishC_any _ _ _ oM oM) ?_;intro w' hB hb1 hb2 hb3 hs;(try simp only [szs] at hs hb1 hb2 hb3))))
 all_goals
  refine za1 (n:=20) (v:=.agg (zck { p with step:=0 } s).cells) (u:=.int .u8 (p.high)) rfl kR kR ?_ rfl ?_ ?_ rfl ⟨rfl,bL⟩
  all_goals (first|(simp [go_sem,↓iteOmega, *];done)|rfl|(simp [go_sem,↓iteOmega,zck, *];done)|(simp [go_sem,↓iteOmega,zck, *];split<;>rfl))
theorem z3c (hz:(p.step==0)=false) (hz1:(p.step==1)=false) (ha:p.auto=true) (hp:p.spurious=true) :
  Calls prog 83 #[.agg p.cells] w fun e w'=>e=.returned (.tuple #[.agg (ackC p).1.cells,.int .u8 (ackC p).2])/\Below w.heap.size w w':=by
 obtain ⟨s,hs⟩:∃ s,p.serving%8=s:=⟨_,rfl⟩
 have hm:bits .and .i64 p.serving 7=s:=by rw [<- hs];exact zd7 p.serving
 have hm0:0<=s/\s<=7:=oM
 have HM:ackC p=({ p with step:=0 },p.high):=by unfold ackC;rw [if_neg (by simpa using hz),if_neg (by simpa using hz1),if_neg (by rw [ha,hp];simp)]
 rw [HM]
 clear HM hs
 go_enter func83,ntmps83
 go_wp2_with (first|(go_at_call 104;with_reducible refine Cbv (finishC_any _ _ _ oM oM) ?_;intro w' hB hb1 hb2 hb3 hs;(try simp only [szs] at hs hb1 hb2 hb3)))
 all_goals (first|go_region|skip)
 all_goals (go_wp2_with (first|(go_at_call 104;with_reducible refine Cbv (finishC_any _ _ _ oM oM) ?_;intro w' hB hb1 hb2 hb3 hs;(try simp only [szs] at hs hb1 hb2 hb3))))
 all_goals
  refine za1 (n:=20) (v:=.agg ({ p with step:=0 }).cells) (u:=.int .u8 (p.high)) rfl kR kR ?_ rfl ?_ ?_ rfl ⟨rfl,bL⟩
  all_goals (first|(simp [go_sem,↓iteOmega, *];done)|rfl|(simp [go_sem,↓iteOmega,zck, *];done)|(simp [go_sem,↓iteOmega,zck, *];split<;>rfl))
theorem z3b (hz:(p.step==0)=false) (hz1:(p.step==1)=false) (ha:p.auto=false) (hp:p.spurious=false) :
  Calls prog 83 #[.agg p.cells] w fun e w'=>e=.returned (.tuple #[.agg (ackC p).1.cells,.int .u8 (ackC p).2])/\Below w.heap.size w w':=by
 obtain ⟨s,hs⟩:∃ s,p.serving%8=s:=⟨_,rfl⟩
 have hm:bits .and .i64 p.serving 7=s:=by rw [<- hs];exact zd7 p.serving
 have hm0:0<=s/\s<=7:=oM
 have HM:ackC p=({ p with step:=0 },p.high):=by unfold ackC;rw [if_neg (by simpa using hz),if_neg (by simpa using hz1),if_neg (by rw [ha,hp];simp)]
 rw [HM]
 clear HM hs
 go_enter func83,ntmps83
 go_wp2_with (first|(go_at_call 104;with_reducible refine Cbv (finishC_any _ _ _ oM oM) ?_;intro w' hB hb1 hb2 hb3 hs;(try simp only [szs] at hs hb1 hb2 hb3)))
 all_goals (first|go_region|skip)
 all_goals (go_wp2_with (first|(go_at_call 104;with_reducible refine Cbv (finishC_any _ _ _ oM oM) ?_;intro w' hB hb1 hb2 hb3 hs;(try simp only [szs] at hs hb1 hb2 hb3))))
 all_goals
  refine za1 (n:=20) (v:=.agg ({ p with step:=0 }).cells) (u:=.int .u8 (p.high)) rfl kR kR ?_ rfl ?_ ?_ rfl ⟨rfl,bL⟩
  all_goals (first|(simp [go_sem,↓iteOmega, *];done)|rfl|(simp [go_sem,↓iteOmega,zck, *];done)|(simp [go_sem,↓iteOmega,zck, *];split<;>rfl))
theorem z3a (hz:(p.step==0)=false) (hz1:(p.step==1)=false) (ha:p.auto=false) (hp:p.spurious=true) :
  Calls prog 83 #[.agg p.cells] w fun e w'=>e=.returned (.tuple #[.agg (ackC p).1.cells,.int .u8 (ackC p).2])/\Below w.heap.size w w':=by
 obtain ⟨s,hs⟩:∃ s,p.serving%8=s:=⟨_,rfl⟩
 have hm:bits .and .i64 p.serving 7=s:=by rw [<- hs];exact zd7 p.serving
 have hm0:0<=s/\s<=7:=oM
 have HM:ackC p=({ p with step:=0 },p.high):=by unfold ackC;rw [if_neg (by simpa using hz),if_neg (by simpa using hz1),if_neg (by rw [ha,hp];simp)]
 rw [HM]
 clear HM hs
 go_enter func83,ntmps83
 go_wp2_with (first|(go_at_call 104;with_reducible refine Cbv (finishC_any _ _ _ oM oM) ?_;intro w' hB hb1 hb2 hb3 hs;(try simp only [szs] at hs hb1 hb2 hb3)))
 all_goals (first|go_region|skip)
 all_goals (go_wp2_with (first|(go_at_call 104;with_reducible refine Cbv (finishC_any _ _ _ oM oM) ?_;intro w' hB hb1 hb2 hb3 hs;(try simp only [szs] at hs hb1 hb2 hb3))))
 all_goals
  refine za1 (n:=20) (v:=.agg ({ p with step:=0 }).cells) (u:=.int .u8 (p.high)) rfl kR kR ?_ rfl ?_ ?_ rfl ⟨rfl,bL⟩
  all_goals (first|(simp [go_sem,↓iteOmega, *];done)|rfl|(simp [go_sem,↓iteOmega,zck, *];done)|(simp [go_sem,↓iteOmega,zck, *];split<;>rfl))
theorem zxp :
  Calls prog 83 #[.agg p.cells] w fun e w'=>e=.returned (.tuple #[.agg (ackC p).1.cells,.int .u8 (ackC p).2])/\Below w.heap.size w w':=by
 cases hz:(p.step==0)
 ·cases hz1:(p.step==1)
  ·cases ha:p.auto<;>cases hp:p.spurious
   ·exact z3b p w h0 h1 hz hz1 ha hp
   ·exact z3a p w h0 h1 hz hz1 ha hp
   ·exact z3d p w h0 h1 hz hz1 ha hp
   ·exact z3c p w h0 h1 hz hz1 ha hp
  ·cases hf:p.four
   ·exact z3e p w h0 h1 hz hz1 hf
   ·exact z3f p w h0 h1 hz hz1 hf
 ·by_cases hq:zev p<0
  ·exact z3h p w h0 h1 hz hq
  ·exact z3g p w h0 h1 hz oM
end

end
section
open Go.RowKit
structure SPIC.Ok (p:SPIC):Prop where
 isr:0<=p.isr/\p.isr<=255
 imr:0<=p.imr/\p.imr<=255
 high:0<=p.high/\p.high<=255
 lines:0<=p.lines/\p.lines<=255
 edge:0<=p.edge/\p.edge<=255
structure SDMA.Ok (d:SDMA):Prop where
 at_:0<=d.at_/\d.at_<=65535
 value:0<=d.value/\d.value<=255
theorem zm8:zj5.Ok:=by constructor<;>simp [zj5,SPIC.zero]
theorem zlm:SDMA.zero.Ok:=by constructor<;>simp [SDMA.zero]
theorem zvk (p:SPIC) (l:Int) (h:p.Ok) (hl:0<=l/\l<=255):(zi8 p l).Ok:=by
 unfold zi8
 refine ⟨?_,?_,?_,?_,?_⟩<;>dsimp only<;>first|exact h.isr|exact h.imr|exact h.high|exact hl|exact zcd _ _ _
theorem zn5 (p:SPIC) (l:Int) (h:p.Ok):(zgy p l).Ok:=by
 unfold zgy
 refine ⟨?_,?_,?_,?_,?_⟩<;>dsimp only<;>first|exact h.imr|exact h.high|exact h.lines|exact zcd _ _ _
theorem zll (p:SPIC) (l:Int) (h:p.Ok):(zck p l).Ok:=by unfold zck;split<;>refine ⟨?_,?_,?_,?_,?_⟩<;>dsimp only<;>first|exact h.imr|exact h.high|exact h.lines|exact h.edge|exact zcd _ _ _
theorem zyd (p:SPIC) (h:p.Ok):(ackC p).1.Ok/\0<=(ackC p).2/\(ackC p).2<=255:=by
 have hw:∀ x,0<=IntKind.u8.wrap x/\IntKind.u8.wrap x<=255:=fun x=>by rw [IntKind.wrap_u8];omega
 unfold ackC
 split
 ·split
  ·exact ⟨⟨h.isr,h.imr,h.high,h.lines,h.edge⟩,by dsimp only;omega,by dsimp only;omega⟩
  ·have:=zn5 { p with spurious:=false } (zev p) ⟨h.isr,h.imr,h.high,h.lines,h.edge⟩
   exact ⟨⟨this.isr,this.imr,this.high,this.lines,this.edge⟩,by dsimp only;omega,by dsimp only;omega⟩
 ·split
  ·refine ⟨⟨h.isr,h.imr,h.high,h.lines,h.edge⟩,?_⟩
   dsimp only
   split<;>exact hw _
  ·split
   ·exact ⟨zll _ _ ⟨h.isr,h.imr,h.high,h.lines,h.edge⟩,h.high⟩
   ·exact ⟨⟨h.isr,h.imr,h.high,h.lines,h.edge⟩,h.high⟩
theorem zps (p:SPIC) (hi:Bool) (h:p.Ok):(zdw p hi).1.Ok/\0<=(zdw p hi).2/\(zdw p hi).2<=255:=by
 have hp:=zhj { p with poll:=false }
 have h':({ p with poll:=false }:SPIC).Ok:=⟨h.isr,h.imr,h.high,h.lines,h.edge⟩
 unfold zdw
 split
 ·exact ⟨h,h.imr⟩
 ·split
  ·split
   ·exact ⟨h',by dsimp only;omega,by dsimp only;omega⟩
   ·split
    ·exact ⟨zll _ _ (zn5 _ _ h'),by dsimp only;omega,by dsimp only;omega⟩
    ·exact ⟨zn5 _ _ h',by dsimp only;omega,by dsimp only;omega⟩
  ·split
   ·exact ⟨h,h.isr⟩
   ·refine ⟨h,?_⟩
    unfold reqs
    dsimp only
    split
    ·exact h.lines
    ·exact h.edge
theorem zrw (p:SPIC) (v:Int) (h:p.Ok):(zcx p v).Ok:=by
 unfold zcx
 repeat' split
 all_goals (refine ⟨?_,?_,?_,?_,?_⟩<;>(try dsimp only)<;>first|exact h.isr|exact h.imr|exact h.high|exact h.lines|exact h.edge|exact zcd _ _ _)
theorem zz6 (p:SPIC) (v:Int) (h:p.Ok) (hv:0<=v/\v<=255):(zo1 p v).Ok:=by
 unfold zo1
 repeat' split
 all_goals (refine ⟨?_,?_,?_,?_,?_⟩<;>(try dsimp only)<;>first|exact h.isr|exact h.imr|exact h.high|exact h.lines|exact h.edge|exact hv)
theorem zsa (p:SPIC) (hi:Bool) (v:Int) (h:p.Ok) (hv:0<=v/\v<=255):(zht p hi v).Ok:=by
 unfold zht
 split
 ·exact zz6 p v h hv
 ·split
  ·split
   ·exact zrw p v h
   ·unfold zpl zmq zk5
    repeat' split
    all_goals exact ⟨h.isr,h.imr,h.high,h.lines,h.edge⟩
  ·have:=zm8
   exact ⟨this.isr,this.imr,this.high,h.lines,this.edge⟩
theorem zru (d:SDMA) (r:Int) (h:d.Ok):0<=zgp d r/\zgp d r<=255:=by
 unfold zgp
 have:=h.value
 repeat' split
 all_goals omega
section
variable (B:SBoard) (L:List SRegion) (s:SSystem) (M:List SCell) (i:SInput) (hM:MemOk M) (hp:s.pic.Ok) (hd:s.dma.Ok) (hi:0<=i.port/\i.port<=255)
include B L s M i hM hp hd hi
theorem zvh :
  (zdp B L s M i).1.pic.Ok/\(0<=(zdp B L s M i).2/\(zdp B L s M i).2<=255)/\(zdp B L s M i).1 = { s with pic:=(zdp B L s M i).1.pic }:=by
 unfold zdp
 dsimp only
 repeat' split
 ·exact ⟨hp,zvf L hM _,rfl⟩
 ·exact ⟨hp,hi,rfl⟩
 ·exact ⟨(zyd _ hp).1,(zyd _ hp).2,rfl⟩
 ·exact ⟨(zps _ _ hp).1,(zps _ _ hp).2,rfl⟩
 ·exact ⟨hp,zru _ _ hd,rfl⟩
 ·exact ⟨hp,hi,rfl⟩
theorem zmn (hr:0<=i.requests/\i.requests<=255) :
  (busM B L s M i).1.pic.Ok/\(0<=(busM B L s M i).2/\(busM B L s M i).2<=255)/\(busM B L s M i).1 = { s with pic:=(busM B L s M i).1.pic,waited:=zf1 s }:=by
 have hl:(zfx B s i).pic.Ok:=by
  show (zgj B s i).Ok
  unfold zgj
  split
  ·exact hp
  ·exact zvk _ _ hp hr
 unfold busM
 split
 ·have h:=zvh B L (zfx B s i) M i hM hl hd hi
  refine ⟨h.1,h.2.1,?_⟩
  rw [h.2.2]
  rfl
 ·exact ⟨hl,⟨by dsimp only;omega,by dsimp only;omega⟩,rfl⟩
end

end
section
open Go.RowKit
def zgc (k:Int):Bool:=k==1||k==2||k==3
abbrev ECP:=MEv × SCPU
def zvy (p:ECP) (v:MEv):Prop:=zgc p.1.e.kind=true->v.e.kind≠4->v.e.source=zc5 p.2 p.1.e.lines\/(zc5 p.2 p.1.e.lines=0/\p.2.halted=true)
def okI:Option ECP->List ECP->Prop
  | _,[]=>True
  | q,x::r=>if x.1.e.kind=5 then okI q r else (∀ p,q=some p->zvy p x.1)/\okI (some x) r
def zmb:Option ECP->List ECP->Option ECP
  | q,[]=>q
  | q,x::r=>if x.1.e.kind=5 then zmb q r else zmb (some x) r
theorem zol:∀ (l:List ECP) (q:Option ECP) (x:ECP),okI q l->(x.1.e.kind≠5->∀ p,zmb q l=some p->zvy p x.1)->okI q (l++[x])
  | [], q, x, _, h => by
    simp only [List.nil_append,okI]
    split
    · trivial
    · rename_i hk;exact ⟨h hk,trivial⟩
  | y :: r, q, x, h1, h2 => by
    simp only [List.cons_append,okI,zmb] at h1 h2 ⊢
    split
    · rename_i hk
      rw [if_pos hk] at h1 h2
      exact zol r q x h1 h2
    · rename_i hk
      rw [if_neg hk] at h1 h2
      exact ⟨h1.1,zol r _ x h1.2 h2⟩
theorem zkb:∀ (l:List ECP) (q:Option ECP) (x:ECP),zmb q (l++[x])=if x.1.e.kind=5 then zmb q l else some x
  | [],q,x=>by simp only [List.nil_append,zmb]
  | y :: r, q, x => by
    simp only [List.cons_append,zmb]
    split
    · exact zkb r q x
    · exact zkb r _ x
structure KeepT3 (ev:List MEv) (cp:List SCPU) (c:SCore):Prop where
  len:ev.length=cp.length
  ok:okI none (ev.zip cp)
  pend:∀ p,zmb none (ev.zip cp)=some p->zgc p.1.e.kind=true->(c.source=zc5 p.2 p.1.e.lines\/(zc5 p.2 p.1.e.lines=0/\p.2.halted=true))/\(c.cpu.halted=true->p.2.halted=true)
  halt:c.next=9->c.source=0/\c.cpu.halted=true
theorem zls {ev:List MEv} {cp:List SCPU} (h:ev.length=cp.length) (e:MEv) (c:SCPU):(ev++[e]).zip (cp++[c])=ev.zip cp++[(e,c)]:=by
  rw [List.zip_append h];rfl
theorem zj4 (c:SCPU) (l:SLines):zc5 c l=0\/(1<=zc5 c l/\zc5 c l<=5):=by
  unfold zc5
  repeat' split
  all_goals omega
theorem zis (c:SCPU) (s:Int) (h0:1<=s) (h1:s<=5):(ze7 c s).halted=false:=by
  unfold ze7
  rw [if_neg oM]
  repeat' split
  all_goals rfl
theorem zpi (c:SCPU):ze7 c 0=c:=by unfold ze7;rw [if_pos oM]
theorem zc3 (c:SCPU) (l:SLines):(zam c l).halted=c.halted:=by
  unfold zam
  split
  · rfl
  · rfl
theorem zga (c:SCore) (h:Bool) (hn:zik c h=9):c.source=0/\c.cpu.halted=true:=by
  unfold zik at hn
  split at hn
  · omega
  · split at hn
    · rename_i hh
      simp only [Bool.and_eq_true,beq_iff_eq] at hh
      exact ⟨hh.2,hh.1⟩
    · omega
theorem z2v (c:SCore) (G:List Int) (l:SLines) (d:Int) (sg:Sl) (hh:c.next=9->c.source=0/\c.cpu.halted=true) :
    ((advC c G l d).next=9->(advC c G l d).source=0/\(advC c G l d).cpu.halted=true) /\
    (((advX c G l d sg).ended=true/\(advC c G l d).source=zc5 (advX c G l d sg).cpu l/\(advC c G l d).cpu=ze7 (advX c G l d sg).cpu (advC c G l d).source) \/
     ((advX c G l d sg).ended=false/\(((advC c G l d).source=c.source/\(advC c G l d).cpu.halted=c.cpu.halted)\/(c.source=0/\c.cpu.halted=true/\(advC c G l d).cpu.halted=false)))):=by
  have hend:∀ (c1:SCore) (G1:List Int) (x1:SChange),x1.ended=false->c1.source=c.source->c1.cpu.halted=c.cpu.halted ->
      ((endM c1 G1 l).next=9->(endM c1 G1 l).source=0/\(endM c1 G1 l).cpu.halted=true) /\
      (((endX c1 G1 l x1 sg).ended=true/\(endM c1 G1 l).source=zc5 (endX c1 G1 l x1 sg).cpu l/\(endM c1 G1 l).cpu=ze7 (endX c1 G1 l x1 sg).cpu (endM c1 G1 l).source) \/
       ((endX c1 G1 l x1 sg).ended=false/\(((endM c1 G1 l).source=c.source/\(endM c1 G1 l).cpu.halted=c.cpu.halted)\/(c.source=0/\c.cpu.halted=true/\(endM c1 G1 l).cpu.halted=false)))):=by
    intro c1 G1 x1 hx hs hp
    unfold endM endX
    split
    · exact ⟨fun hn=>zga _ _ hn,.inr ⟨hx,.inl ⟨hs,hp⟩⟩⟩
    · exact ⟨fun hn=>zga _ _ hn,.inl ⟨rfl,rfl,rfl⟩⟩
  have hs9:zaj c=9->c.next=9:=by unfold zaj;split<;>omega
  unfold advC advX
  by_cases h1:zaj c=1
  · rw [if_pos h1, if_neg oM, if_neg oM]
    exact ⟨fun hn=>absurd (show (2:Int)=9 from hn) dC,.inr ⟨rfl,.inl ⟨rfl,zc3 _ _⟩⟩⟩
  · rw [if_neg h1]
    by_cases h2:zaj c=2\/zaj c=7
    · rw [if_pos h2, if_neg (show ¬ zaj c = 3 by omega), if_neg (show ¬ (zaj c = 4 \/ zaj c = 5 \/ zaj c = 6) by omega)]
      split
      · exact ⟨fun hn=>absurd (show (7:Int)=9 from hn) dC,.inr ⟨rfl,.inl ⟨rfl,zc3 _ _⟩⟩⟩
      · exact ⟨fun hn=>absurd (show (3:Int)=9 from hn) dC,.inr ⟨rfl,.inl ⟨rfl,zc3 _ _⟩⟩⟩
    · rw [if_neg h2]
      by_cases h3:zaj c=3
      · rw [if_pos h3, if_pos h3]
        dsimp only
        by_cases h33:3<(zcj (zac c l) d).states
        · rw [if_pos h33, if_pos h33]
          exact ⟨fun hn=>absurd (show (4:Int)=9 from hn) dC,.inr ⟨rfl,.inl ⟨rfl,zc3 _ _⟩⟩⟩
        · rw [if_neg h33, if_neg h33]
          exact hend _ _ _ rfl rfl (zc3 _ _)
      · rw [if_neg h3, if_neg h3]
        by_cases h4:zaj c=4\/zaj c=5\/zaj c=6
        · rw [if_pos h4, if_pos h4]
          by_cases h5:zaj c<c.cycle.states/\zaj c≠6
          · rw [if_pos h5, if_pos h5]
            exact ⟨fun hn=>absurd (show zaj c+1=9 from hn) oM,.inr ⟨rfl,.inl ⟨rfl,zc3 _ _⟩⟩⟩
          · rw [if_neg h5, if_neg h5]
            exact hend _ _ _ rfl rfl (zc3 _ _)
        · rw [if_neg h4, if_neg h4]
          by_cases h8:zaj c=8
          · rw [if_pos h8]
            exact ⟨fun hn=>zga (zac c l) _ hn,.inr ⟨rfl,.inl ⟨rfl,zc3 _ _⟩⟩⟩
          · rw [if_neg h8]
            by_cases h9:zaj c=9
            · rw [if_pos h9]
              obtain ⟨k1,k2⟩:=hh (hs9 h9)
              have hl:(zac c l).cpu.halted=true:=(zc3 _ _).trans k2
              rcases zj4 (zac c l).cpu l with hz|⟨hz1,hz2⟩
              · rw [hz]
                exact ⟨fun _=>⟨k1,hl⟩,.inr ⟨rfl,.inl ⟨rfl,zc3 _ _⟩⟩⟩
              · have hne : zc5 (zac c l).cpu l ≠ 0 := oM
                unfold zfi
                rw [if_neg hne]
                refine ⟨fun hn=>absurd (show zdr _ _=9 from hn) ?_,.inr ⟨rfl,.inr ⟨k1,k2,zis _ _ hz1 hz2⟩⟩⟩
                unfold zdr
                split
                · omega
                · first|omega|(rw [if_neg hne];omega)
            · rw [if_neg h9]
              have hr:1<=zaj c/\zaj c<=9:=by unfold zaj;split<;>omega
              omega
theorem zog (c:Int) (s:SPState):(zfj c s).state=s.state:=by
  have h4:(zaz c s).state=s.state:=by
    unfold zaz za5 za3 za4 za6
    repeat' split
    all_goals rfl
  unfold zfj
  split
  · unfold pinL zdm zdi zdj zdk
    repeat' split
    all_goals exact h4
  · unfold pinE zfk zfl zfe ze3 ze8
    dsimp only
    repeat' split
    all_goals exact h4
theorem zg2 (c:SCore):1<=zaj c/\zaj c<=9:=by unfold zaj;split<;>omega
theorem zh2 (B:SBoard) (L:List SRegion) (t:Mach) (i:SInput):(zh3 B L t i).state=if i.reset=true then 10 else zaj t.s.core:=by
  unfold zh3 clkP
  rw [zog]
  rfl
theorem znv (B:SBoard) (s:SSystem) (c:SCycle):(zc0 B s c).core=s.core:=by
  unfold zc0
  repeat' split
  all_goals rfl
section
variable (B:SBoard) (L:List SRegion) (t:Mach) (i:SInput)
include B L t i
theorem znq:(clk2 B L t i).s.core=clkC t.s.core t.g (zcv B L t.s i) (busM B L t.s t.m i).2:=by
  unfold clk2 clk1
  dsimp only
  split
  · exact znv _ _ _
  · rfl
theorem znp:(clk3 B L t i).s.core=clkC t.s.core t.g (zcv B L t.s i) (busM B L t.s t.m i).2:=by
  unfold clk3
  dsimp only
  split
  · exact znq _ _ _ _
  · exact znq _ _ _ _
theorem zkq:(clkM B L t i).s.core=clkC t.s.core t.g (zcv B L t.s i) (busM B L t.s t.m i).2:=by
  unfold clkM
  dsimp only
  split
  · exact znp _ _ _ _
  · exact znp _ _ _ _
end
def zgx (r:RecM):Prop:=KeepT3 r.ev r.cp r.t.s.core
theorem KeepT3.add {ev:List MEv} {cp:List SCPU} {c:SCore} (h:KeepT3 ev cp c) (e:MEv) (q:SCPU) (c2:SCore) (h1:e.e.kind≠5->e.e.kind≠4->e.e.source=c.source)
    (h2:e.e.kind≠5->zgc e.e.kind=true->(c2.source=zc5 q e.e.lines\/(zc5 q e.e.lines=0/\q.halted=true))/\(c2.cpu.halted=true->q.halted=true))
    (h3:e.e.kind=5->c2=c) (h4:c2.next=9->c2.source=0/\c2.cpu.halted=true):KeepT3 (ev++[e]) (cp++[q]) c2:=by
  refine ⟨by simp [h.len],?_,?_,h4⟩
  · rw [zls h.len]
    refine zol _ _ _ h.ok fun hk p hp hc hk4=>?_
    rw [h1 hk hk4]
    exact (h.pend p hp hc).1
  · rw [zls h.len, zkb]
    intro p hp hc
    split at hp
    · rename_i hk
      rw [h3 hk]
      exact h.pend p hp hc
    · rename_i hk
      cases hp
      exact h2 hk hc
theorem zx4 (r:RecM) (x:SMoment) (G:List Int):(cutR r x G).t=r.t:=by unfold cutR;split<;>rfl
theorem zv8 (s:Int):zkd s≠5/\zkd s≠4:=by unfold zkd;repeat' split<;>omega
theorem zyg (B:SBoard) (L:List SRegion) (r:RecM) (i:SInput) (h:zgx r):zgx (zjh B L r i):=by
  have hc:=zkq B L r.t i
  have hs:=zh2 B L r.t i
  have hdma:∀ (r1:RecM) (x:SMoment),zgx r1->zgx (dmaR r1 x):=by
    intro r1 x h1
    unfold dmaR
    split
    · exact KeepT3.add h1 _ _ _ (fun hk=>absurd rfl hk) (fun hk=>absurd rfl hk) (fun _=>rfl) h1.halt
    · exact h1
  unfold zjh zgl
  refine hdma _ _ ?_
  unfold zgf
  dsimp only
  have hp:(momM B L r.t i).pins.state=if i.reset=true then 10 else zaj r.t.s.core:=hs
  have hb:(momM B L r.t i).before=r.t.s.core:=rfl
  by_cases hr:i.reset=true
  · rw [if_pos (by rw [hp, if_pos hr])]
    have hcore:(clkM B L r.t i).s.core=zhf (zfc r.t.s.core.cpu) 0:=by rw [hc];unfold clkC;rw [if_pos (show (zcv B L r.t.s i).reset=true from hr)]
    unfold zgw
    have hcut:∀ (r1:RecM),r1.ev=r.ev->r1.cp=r.cp->KeepT3 (cutR r1 (momM B L r.t i) r.t.g).ev (cutR r1 (momM B L r.t i) r.t.g).cp r.t.s.core:=by
      intro r1 e1 e2
      have h':KeepT3 r1.ev r1.cp r.t.s.core:=by rw [e1,e2];exact h
      unfold cutR
      split
      · exact KeepT3.add h' _ _ _ (fun _ _=>rfl) (fun _ hc=>absurd (show zgc 6=true from hc) dC) (fun hk=>absurd (show (6:Int)=5 from hk) dC) h.halt
      · exact h'
    have ht:(addE (cutR { t:=clkM B L r.t i,tr:=r.tr++[(momM B L r.t i).pins],ev:=r.ev,cp:=r.cp,last:=r.last } (momM B L r.t i) r.t.g) ⟨zj1 (momM B L r.t i),[]⟩ (clkM B L r.t i).s.core.cpu).t=clkM B L r.t i:=zx4 _ _ _
    unfold zgx
    rw [ht]
    exact KeepT3.add (hcut { t:=clkM B L r.t i,tr:=r.tr++[(momM B L r.t i).pins],ev:=r.ev,cp:=r.cp,last:=r.last } rfl rfl) ⟨zj1 (momM B L r.t i),[]⟩ _ _ (fun _ hk=>absurd rfl hk) (fun _ hc=>absurd (show zgc 4=true from hc) dC) (fun hk=>absurd (show (4:Int)=5 from hk) dC) (by
      show (clkM B L r.t i).s.core.next=9->(clkM B L r.t i).s.core.source=0/\(clkM B L r.t i).s.core.cpu.halted=true
      rw [hcore];exact fun hn=>absurd (show (1:Int)=9 from hn) dC)
  · have hne : ¬ (momM B L r.t i).pins.state = 10 := by rw [hp, if_neg hr]; have := zg2 r.t.s.core; omega
    rw [if_neg hne]
    have hcore:(clkM B L r.t i).s.core=advC r.t.s.core r.t.g (zcv B L r.t.s i) (busM B L r.t.s r.t.m i).2:=by rw [hc];unfold clkC;rw [if_neg (show ¬(zcv B L r.t.s i).reset=true from hr)]
    obtain ⟨a1,a2⟩:=z2v r.t.s.core r.t.g (zcv B L r.t.s i) (busM B L r.t.s r.t.m i).2 ⟨none,0,0⟩ h.halt
    unfold endR
    rcases a2 with ⟨b1,b2,b3⟩|⟨b1,b2⟩
    · rw [if_pos (show (chX (momM B L r.t i) r.t.g).ended = true from b1)]
      refine KeepT3.add (c:=r.t.s.core) h _ _ _ (fun _ _=>rfl) (fun _ _=>?_) (fun hk=>absurd hk (zv8 _).1) (by
        show (clkM B L r.t i).s.core.next=9->(clkM B L r.t i).s.core.source=0/\(clkM B L r.t i).s.core.cpu.halted=true
        rw [hcore];exact a1)
      show ((clkM B L r.t i).s.core.source=_\/_)/\((clkM B L r.t i).s.core.cpu.halted=true->_)
      rw [hcore]
      refine ⟨.inl b2,fun hh=>?_⟩
      rw [b3] at hh
      rcases zj4 (advX r.t.s.core r.t.g (zcv B L r.t.s i) (busM B L r.t.s r.t.m i).2 ⟨none,0,0⟩).cpu (zcv B L r.t.s i) with hz|⟨hz1,hz2⟩
      · rw [b2, hz, zpi] at hh
        exact hh
      · rw [b2, zis _ _ hz1 hz2] at hh
        cases hh
    · rw [if_neg (show ¬ (chX (momM B L r.t i) r.t.g).ended = true from by show ¬ (advX _ _ _ _ _).ended = true; rw [show (advX (momM B L r.t i).before r.t.g (momM B L r.t i).lines (momM B L r.t i).data ⟨none, 0, 0⟩).ended = false from b1]; simp)]
      refine ⟨h.len,h.ok,fun p hp hcp=>?_,?_⟩
      · obtain ⟨k1, k2⟩ := h.pend p hp hcp
        show ((clkM B L r.t i).s.core.source=_\/_)/\((clkM B L r.t i).s.core.cpu.halted=true->_)
        rw [hcore]
        rcases b2 with ⟨c1,c2⟩|⟨c1,c2,c3⟩
        · rw [c1,c2];exact ⟨k1,k2⟩
        · refine ⟨.inr ?_, fun hh => by rw [c3] at hh; cases hh⟩
          refine ⟨?_,k2 c2⟩
          rcases k1 with k1|k1
          · rw [<- k1,c1]
          · exact k1.1
      · show (clkM B L r.t i).s.core.next = 9 -> (clkM B L r.t i).s.core.source = 0 /\ (clkM B L r.t i).s.core.cpu.halted = true
        rw [hcore];exact a1
theorem zyx (B:SBoard) (M:List SCell):zgx (newR B M):=⟨rfl,trivial,fun p hp=>(by cases hp),fun hn=>absurd (show (1:Int)=9 from hn) dC⟩
theorem zxs (B:SBoard) (L:List SRegion):∀ (l:List SInput) (r:RecM),zgx r->zgx (runM B L r l)
  | [],_,h=>h
  | i::l,r,h=>zxs B L l _ (zyg B L r i h)
theorem ztz (r:RecM) (h:zgx r):zgx (zew r):=by
  unfold zew
  split
  · exact KeepT3.add h _ _ _ (fun _ _=>rfl) (fun _ hc=>absurd (show zgc 7=true from hc) dC) (fun hk=>absurd (show (7:Int)=5 from hk) dC) h.halt
  · exact h
theorem zxi (B:SBoard) (L:List SRegion) (M:List SCell) (l:List SInput):zgx (zee B L M l):=ztz _ (zxs B L l _ (zyx B M))
end
section
open Go.RowKit
theorem zjq (B:SBoard) (s:SSystem) (c:SCore) (cy:SCycle):zc0 B { s with core:=c } cy = { zc0 B s cy with core:=c }:=by
 unfold zc0
 dsimp only
 repeat' split
 all_goals rfl
theorem z2p {B:SBoard} {L:List SRegion} {s:SSystem} {G:List Int} {M:List SCell} {O:List SOutput} {i:SInput} {gs:Sl} {l1:SLines} {b1:SSystem} {d1:Int} {act v2 v3:Bool} {u1 u2 u3 u4:SSystem} {x1 x3:SMoment} {M2 M3:List SCell} {O2:List SOutput} {td:SDMA} {tc:SCell} {tw:Bool} {G2:List Int}
  (hl1:zcv B L s i=l1) (hb1:(busM B L s M i).1=b1) (hd1:(busM B L s M i).2=d1) (hact:(!i.reset&&zaj s.core==3)=act) (hv2:(act&&zem s.core.cycle.kind)=v2)
  (hu1:({ b1 with core := { clkC s.core G l1 d1 with got:=gs } }:SSystem)=u1) (hx1:({ SMoment.zero with lines:=l1,before:=s.core,data:=d1,pins:=clkP s.core l1 d1 }:SMoment)=x1)
  (hu2:(if v2=true then zc0 B u1 s.core.cycle else u1)=u2) (hM2:(if v2=true then zdq L M s.core.cycle else M)=M2) (hO2:(if v2=true then zf3 O s.core.cycle else O)=O2)
  (hv3:(x1.pins.hlda&&zg6 u2.dma)=v3) (htd:(zbj u2.dma).1=td) (htc:(zbj u2.dma).2.1=tc) (htw:(zbj u2.dma).2.2=tw)
  (hu3:(if v3=true then { u2 with dma:=td } else u2)=u3) (hM3:(if v3=true then zen L M2 tc.at_ tc.val else M2)=M3) (hx3:(if v3=true then ({ x1 with cell:=tc,wrote:=tw }:SMoment) else x1)=x3)
  (hu4:(if i.reset=true then { u3 with dma := { u3.dma with left:=0 },pic := { u3.pic with step:=0 } } else u3)=u4) (hG2:clkG s.core G l1 d1=G2) :
  momM B L ⟨s,G,M,O⟩ i=x3/\(clkM B L ⟨s,G,M,O⟩ i).g=G2/\(clkM B L ⟨s,G,M,O⟩ i).m=M3/\(clkM B L ⟨s,G,M,O⟩ i).o=O2 /\
   ∀ ms os:Sl,({ (clkM B L ⟨s,G,M,O⟩ i).s with core := { (clkM B L ⟨s,G,M,O⟩ i).s.core with got:=gs },memory:=ms,outs:=os }:SSystem) = { u4 with memory:=ms,outs:=os }:=by
 obtain ⟨c0,hc0⟩:∃ c,clkC s.core G l1 d1=c:=⟨_,rfl⟩
 rw [hc0] at hu1
 have c1:clk1 B L ⟨s,G,M,O⟩ i=⟨{ b1 with core:=c0 },G2,M,O⟩:=by
  unfold clk1;dsimp only;rw [hl1,hb1,hd1,hG2,hc0]
 have c2:clk2 B L ⟨s,G,M,O⟩ i=⟨{ u2 with core:=c0 },G2,M2,O2⟩:=by
  unfold clk2;dsimp only;rw [c1];unfold zc2;dsimp only;rw [hact,hv2]
  subst hu1
  cases v2
  ·rw [if_neg sI] at hu2 hM2 hO2 ⊢
   subst hu2;subst hM2;subst hO2;rfl
  ·rw [if_pos rfl] at hu2 hM2 hO2 ⊢
   subst hu2;subst hM2;subst hO2
   have e1:=zjq B b1 c0 s.core.cycle
   have e2:=zjq B b1 { c0 with got:=gs } s.core.cycle
   dsimp only at e1 e2 ⊢
   rw [e1,e2]
 have hh:zk0 B L ⟨s,G,M,O⟩ i=v3:=by
  unfold zk0 zh3;rw [c2];dsimp only;rw [hl1,hd1,<- hv3,<- hx1]
 have c3:clk3 B L ⟨s,G,M,O⟩ i=⟨{ u3 with core:=c0 },G2,M3,O2⟩:=by
  unfold clk3;dsimp only;rw [hh,c2];dsimp only;rw [htd,htc]
  cases v3
  ·rw [if_neg sI] at hu3 hM3 ⊢
   subst hu3;subst hM3;rfl
  ·rw [if_pos rfl] at hu3 hM3 ⊢
   subst hu3;subst hM3;rfl
 have hco:u3.core = { c0 with got:=gs }:=by
  have e1:u1.core = { c0 with got:=gs }:=by rw [<- hu1]
  have e2:u2.core = { c0 with got:=gs }:=by
   rw [<- hu2]
   split
   ·rw [show (zc0 B u1 s.core.cycle).core=u1.core from by unfold zc0;(repeat' split)<;>rfl];exact e1
   ·exact e1
  rw [<- hu3]
  split
  ·exact e2
  ·exact e2
 have c4:clkM B L ⟨s,G,M,O⟩ i=⟨{ u4 with core:=c0 },G2,M3,O2⟩:=by
  unfold clkM;dsimp only;rw [c3];dsimp only
  split
  ·rename_i hr;rw [if_pos hr] at hu4;subst hu4;rfl
  ·rename_i hr;rw [if_neg hr] at hu4;subst hu4;rfl
 have hco4:u4.core = { c0 with got:=gs }:=by
  rw [<- hu4]
  split
  ·exact hco
  ·exact hco
 refine ⟨?_,by rw [c4],by rw [c4],by rw [c4],fun ms os=>?_⟩
 ·unfold momM
  rw [hh,c2]
  dsimp only
  rw [hl1,hd1,htc,htw,<- hx3,<- hx1]
  unfold zh3
  dsimp only
  rw [hl1,hd1]
  cases v3
  ·rfl
  ·rfl
 ·rw [c4]
  dsimp only
  rw [<- hco4]
end
section
open Go.RowKit
def zhu (rs im:Sl):SBoard := { SBoard.zero with chip:=2,regions:=rs,image:=im }
def zlf:List SRegion:=[⟨0,65535,true,0⟩]
def zjc:List SCell:=[⟨0,62⟩,⟨1,5⟩,⟨2,198⟩,⟨3,7⟩,⟨4,50⟩,⟨5,16⟩,⟨7,118⟩]
def zkc (rs im:Sl):RecM:=zee (zhu rs im) zlf zjc (List.replicate 40 idleIn)
theorem ztl (rs im:Sl):((zkc rs im).t.s.core.cpu.halted&&(zkc rs im).t.s.core.cpu.regs.a==12&&getC (zkc rs im).t.m 16==12)=true:=kR
theorem ztm (rs im:Sl):decide ((zkc rs im).t.m.length<=100000)=true:=kR
theorem zza (rs im:Sl):∃ q:RecM,zee (zhu rs im) zlf zjc (List.replicate 40 idleIn)=q/\q.t.s.core.cpu.halted=true/\q.t.s.core.cpu.regs.a=12/\getC q.t.m 16=12/\q.t.m.length<=100000:=by
 have h:=ztl rs im
 have hl:=ztm rs im
 have he:zee (zhu rs im) zlf zjc (List.replicate 40 idleIn)=zkc rs im:=by unfold zkc;rfl
 generalize zkc rs im=q at *
 simp only [Bool.and_eq_true,beq_iff_eq,decide_eq_true_eq] at h hl
 exact ⟨q,he,h.1.1,h.1.2,h.2,hl⟩
theorem zv7:MemOk zjc:=MemOk.of_isMem dC kR
end
end Go.Proofs.YtlmbamdkklkliaaGreat
