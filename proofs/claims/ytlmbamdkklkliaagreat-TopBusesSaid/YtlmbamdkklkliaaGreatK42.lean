/- Part of the proof that a law holds at every input. No conditions. -/
import Derived.Test.YtlmbamdkklkliaaGreatK41
namespace Go.Proofs.YtlmbamdkklkliaaGreat
set_option linter.unusedVariables false
set_option linter.unusedSimpArgs false
set_option linter.unusedSectionVars false
set_option maxRecDepth 100000
set_option maxHeartbeats 16000000
open Go.Proofs.Tryz
open Lib (hid)
open Go.IntWalk (iteOmega)
section
open Go.RowKit
theorem zeu (c:SCPU) (l:SLines) (h:c.regs.Ok):(zam c l).regs.Ok:=by unfold zam zka zca zcb zbz;split<;>exact h
section
variable (c:SCore) (G:List Int) (l:SLines) (data:Int) (w:World) (hg:Row w 0 w.heap.size 5 1 encB c.got G) (hG:G.length<=1000000) (hgb:∀ y ∈ G,0<=y/\y<=255) (hr:c.cpu.regs.Ok) (hd:0<=data/\data<=255)
include c G l data w hg hG hgb hr hd
theorem z25 (hst:zaj c=4) (hgo:zaj c<c.cycle.states) :
  Calls prog 44 #[.agg c.cells,.agg l.cells,.int .u8 data] w (zb4 c G l data w):=by
 rw [hst] at hgo
 have hgo2:decide ((4:Int)<c.cycle.states)=true:=decide_eq_true hgo
 go_enter func44,ntmps44
 go_wp2_with (first|(go_at_call 50;with_reducible refine Cbv (zbe _ _) ?_;intro w' hB hb1 hb2 hb3 hs;(try simp only [szs] at hs hb1 hb2 hb3))|(go_at_call 33;(refine (cloneB_any _ (hg.thru (bL:Below w.heap.size w _) nL) hG).mono ?_);intro e w' hcl;obtain ⟨s1,rfl,hrow,hB⟩:=hcl;obtain ⟨hb1,hb2,hb3⟩:=zdn hB;have hs:=hB.size;(try simp only [szs] at hs hb1 hb2 hb3);(try simp only [szs] at hrow))|(go_at_call 70;with_reducible refine Cbv (zbs _ _ _) ?_;intro w' hB hb1 hb2 hb3 hs;(try simp only [szs] at hs hb1 hb2 hb3);obtain ⟨xb,hxb⟩:∃ xb,w'.heap.size=xb:=⟨_,rfl⟩))
 refine zej (fun W hW=>?_)
 have f0:blk W w.heap.size=some (.cells ({ c with cpu:=zam c.cpu l,got:=s1,next:=5 }:SCore).cells 45):=sR
 have f1:blk W (w.heap.size+1)=some (.cells l.cells 59):=sM
 have f2:blk W (w.heap.size+1+1)=some (.cells SCore.zero.cells 45):=sM
 have f3:blk W (w.heap.size+1+1+1)=some (.cells SChange.zero.cells 121):=sM
 have fx:blk W xb=some (.cells (SChange.mk false SCPU.zero ⟨none,0,0⟩ c.cycle (zam c.cpu l)).cells 121):=sR
 have fz:w.heap.size+1+1+1<xb/\xb<W.heap.size:=by
  refine ⟨oM,?_⟩
  rw [hW]
  (try simp only [szs] at *)
  omega
 have fB:Below w.heap.size w W:=by rw [hW];exact bL
 have fr:Row W w.heap.size W.heap.size 5 1 encB s1 G:=(((hrow.keepT (w':=W) fun g cur hlo hhi hg=>sM).lo_mono oM).hi_mono (by rw [hW];(try simp only [szs] at *);omega))
 clear hW
 obtain ⟨gc0,gf0,gz0⟩:=zaa f0
 obtain ⟨gcx,gfx,gzx⟩:=zaa fx
 obtain ⟨gc2,gf2,gz2⟩:=zaa f2
 obtain ⟨gc3,gf3,gz3⟩:=zaa f3
 go_region
 all_goals go_wp2_with fail
 all_goals
  refine zbl (n:=36) (n':=62) (v:=.agg ({ c with cpu:=zam c.cpu l,got:=s1,next:=5 }:SCore).cells) (u:=.agg (SChange.mk false SCPU.zero ⟨none,0,0⟩ c.cycle (zam c.cpu l)).cells) rfl kR kR kR kR rfl ?_ ?_ rfl ?_ ?_ rfl ?_
  all_goals (first|(simp [go_sem,↓iteOmega, *];done)|skip)
  have keepR:∀ g cur,0<=g->blk W g=some (.cells cur 5)->g≠w.heap.size+1+1/\g≠w.heap.size+1+1+1:=fun g cur _ hg=>⟨fun e=>by subst e;rw [f2] at hg;simp at hg,fun e=>by subst e;rw [f3] at hg;simp at hg⟩
  refine ⟨s1,s1,?_,?_,?_,?_⟩
  ·simp [advC,advX,advG,xG,zac,hst,hgo]<;>first|rfl|(refine ⟨?_,?_⟩<;>rfl)
  ·have e1:advG c G l data=G:=by simp [advC,advX,advG,xG,zac,hst,hgo]
   rw [e1]
   refine Row.hi_mono (Row.keepT fr fun g cur hlo hhi hg=>?_) (by simp [size_setBlk])
   obtain ⟨n1,n2⟩:=keepR g cur (Nat.zero_le _) hg
   simp [go_sem,↓iteOmega, *]
  ·have e1:xG c G data=G:=by simp [advC,advX,advG,xG,zac,hst,hgo]
   rw [e1]
   refine Row.hi_mono (Row.keepT fr fun g cur hlo hhi hg=>?_) (by simp [size_setBlk])
   obtain ⟨n1,n2⟩:=keepR g cur (Nat.zero_le _) hg
   simp [go_sem,↓iteOmega, *]
  ·(repeat' (first|(with_reducible exact fB)|(with_reducible refine zae ?_ ?_)|(with_reducible refine Below.drew ?_)|omega))
theorem z23 (hst:zaj c=5) (hgo:zaj c<c.cycle.states) :
  Calls prog 44 #[.agg c.cells,.agg l.cells,.int .u8 data] w (zb4 c G l data w):=by
 rw [hst] at hgo
 have hgo2:decide ((5:Int)<c.cycle.states)=true:=decide_eq_true hgo
 go_enter func44,ntmps44
 go_wp2_with (first|(go_at_call 50;with_reducible refine Cbv (zbe _ _) ?_;intro w' hB hb1 hb2 hb3 hs;(try simp only [szs] at hs hb1 hb2 hb3))|(go_at_call 33;(refine (cloneB_any _ (hg.thru (bL:Below w.heap.size w _) nL) hG).mono ?_);intro e w' hcl;obtain ⟨s1,rfl,hrow,hB⟩:=hcl;obtain ⟨hb1,hb2,hb3⟩:=zdn hB;have hs:=hB.size;(try simp only [szs] at hs hb1 hb2 hb3);(try simp only [szs] at hrow))|(go_at_call 70;with_reducible refine Cbv (zbs _ _ _) ?_;intro w' hB hb1 hb2 hb3 hs;(try simp only [szs] at hs hb1 hb2 hb3);obtain ⟨xb,hxb⟩:∃ xb,w'.heap.size=xb:=⟨_,rfl⟩))
 refine zej (fun W hW=>?_)
 have f0:blk W w.heap.size=some (.cells ({ c with cpu:=zam c.cpu l,got:=s1,next:=6 }:SCore).cells 45):=sR
 have f1:blk W (w.heap.size+1)=some (.cells l.cells 59):=sM
 have f2:blk W (w.heap.size+1+1)=some (.cells SCore.zero.cells 45):=sM
 have f3:blk W (w.heap.size+1+1+1)=some (.cells SChange.zero.cells 121):=sM
 have fx:blk W xb=some (.cells (SChange.mk false SCPU.zero ⟨none,0,0⟩ c.cycle (zam c.cpu l)).cells 121):=sR
 have fz:w.heap.size+1+1+1<xb/\xb<W.heap.size:=by
  refine ⟨oM,?_⟩
  rw [hW]
  (try simp only [szs] at *)
  omega
 have fB:Below w.heap.size w W:=by rw [hW];exact bL
 have fr:Row W w.heap.size W.heap.size 5 1 encB s1 G:=(((hrow.keepT (w':=W) fun g cur hlo hhi hg=>sM).lo_mono oM).hi_mono (by rw [hW];(try simp only [szs] at *);omega))
 clear hW
 obtain ⟨gc0,gf0,gz0⟩:=zaa f0
 obtain ⟨gcx,gfx,gzx⟩:=zaa fx
 obtain ⟨gc2,gf2,gz2⟩:=zaa f2
 obtain ⟨gc3,gf3,gz3⟩:=zaa f3
 go_region
 all_goals go_wp2_with fail
 all_goals
  refine zbl (n:=36) (n':=62) (v:=.agg ({ c with cpu:=zam c.cpu l,got:=s1,next:=6 }:SCore).cells) (u:=.agg (SChange.mk false SCPU.zero ⟨none,0,0⟩ c.cycle (zam c.cpu l)).cells) rfl kR kR kR kR rfl ?_ ?_ rfl ?_ ?_ rfl ?_
  all_goals (first|(simp [go_sem,↓iteOmega, *];done)|skip)
  have keepR:∀ g cur,0<=g->blk W g=some (.cells cur 5)->g≠w.heap.size+1+1/\g≠w.heap.size+1+1+1:=fun g cur _ hg=>⟨fun e=>by subst e;rw [f2] at hg;simp at hg,fun e=>by subst e;rw [f3] at hg;simp at hg⟩
  refine ⟨s1,s1,?_,?_,?_,?_⟩
  ·simp [advC,advX,advG,xG,zac,hst,hgo]<;>first|rfl|(refine ⟨?_,?_⟩<;>rfl)
  ·have e1:advG c G l data=G:=by simp [advC,advX,advG,xG,zac,hst,hgo]
   rw [e1]
   refine Row.hi_mono (Row.keepT fr fun g cur hlo hhi hg=>?_) (by simp [size_setBlk])
   obtain ⟨n1,n2⟩:=keepR g cur (Nat.zero_le _) hg
   simp [go_sem,↓iteOmega, *]
  ·have e1:xG c G data=G:=by simp [advC,advX,advG,xG,zac,hst,hgo]
   rw [e1]
   refine Row.hi_mono (Row.keepT fr fun g cur hlo hhi hg=>?_) (by simp [size_setBlk])
   obtain ⟨n1,n2⟩:=keepR g cur (Nat.zero_le _) hg
   simp [go_sem,↓iteOmega, *]
  ·(repeat' (first|(with_reducible exact fB)|(with_reducible refine zae ?_ ?_)|(with_reducible refine Below.drew ?_)|omega))
end
section
variable (c:SCore) (G:List Int) (l:SLines)
include c G l
theorem zgo (s:Sl):endM { c with got:=s } G l = { endM c G l with got:=if zb9 c.cpu c.source G=true then s else ⟨none,0,0⟩ }:=by
 unfold endM;split<;>rfl
theorem z26 (data:Int) (w:World) (hg:Row w 0 w.heap.size 5 1 encB c.got G) (hG:G.length<=1000000) (hgb:∀ y ∈ G,0<=y/\y<=255) (hr:c.cpu.regs.Ok) (hd:0<=data/\data<=255) (hst:zaj c=4) (hgo:¬zaj c<c.cycle.states) (hf:(zch (zam c.cpu l) c.source G l).regs.Ok) :
  Calls prog 44 #[.agg c.cells,.agg l.cells,.int .u8 data] w (zb4 c G l data w):=by
 rw [hst] at hgo
 have HGO:=hid (eq_false hgo)
 have hgo2:decide ((4:Int)<c.cycle.states)=false:=decide_eq_false hgo
 go_enter func44,ntmps44
 go_wp2_with (first|(go_at_call 50;with_reducible refine Cbv (zbe _ _) ?_;intro w' hB hb1 hb2 hb3 hs;(try simp only [szs] at hs hb1 hb2 hb3))|(go_at_call 33;(refine (cloneB_any _ (hg.thru (bL:Below w.heap.size w _) nL) hG).mono ?_);intro e w' hcl;obtain ⟨s1,rfl,hrow,hB⟩:=hcl;obtain ⟨hb1,hb2,hb3⟩:=zdn hB;have hs:=hB.size;(try simp only [szs] at hs hb1 hb2 hb3);(try simp only [szs] at hrow))|(go_at_call 70;with_reducible refine Cbv (zbs _ _ _) ?_;intro w' hB hb1 hb2 hb3 hs;(try simp only [szs] at hs hb1 hb2 hb3);obtain ⟨xb,hxb⟩:∃ xb,w'.heap.size=xb:=⟨_,rfl⟩))
 refine zgr (fun W hW=>?_)
 have f0:blk W w.heap.size=some (.cells ({ c with cpu:=zam c.cpu l,got:=s1 }:SCore).cells 45):=sR
 have f1:blk W (w.heap.size+1)=some (.cells l.cells 59):=sM
 have f2:blk W (w.heap.size+1+1)=some (.cells SCore.zero.cells 45):=sM
 have f3:blk W (w.heap.size+1+1+1)=some (.cells SChange.zero.cells 121):=sM
 have fx:blk W xb=some (.cells (SChange.mk false SCPU.zero ⟨none,0,0⟩ c.cycle (zam c.cpu l)).cells 121):=sR
 have fz:w.heap.size+1+1+1<xb/\xb<W.heap.size:=by
  refine ⟨oM,?_⟩
  rw [hW]
  (try simp only [szs] at *)
  omega
 have fB:Below w.heap.size w W:=by rw [hW];exact bL
 have fr:Row W w.heap.size W.heap.size 5 1 encB s1 G:=(((hrow.keepT (w':=W) fun g cur hlo hhi hg=>sM).lo_mono oM).hi_mono (by rw [hW];(try simp only [szs] at *);omega))
 clear hW
 refine (zh7 { c with cpu:=zam c.cpu l,got:=s1 } G l (SChange.mk false SCPU.zero ⟨none,0,0⟩ c.cycle (zam c.cpu l)) xb W fx (fr.lo_mono (Nat.zero_le _)) hG hgb (zeu _ _ hr) hf).mono ?_
 rintro e w2 ⟨rfl,hx2,hk2⟩
 have g0:blk w2 w.heap.size=some (.cells ({ c with cpu:=zam c.cpu l,got:=s1 }:SCore).cells 45):=(hk2.block _ oM (fun e=>by simp at e;omega)).trans f0
 have g2:blk w2 (w.heap.size+1+1)=some (.cells SCore.zero.cells 45):=(hk2.block _ oM (fun e=>by simp at e;omega)).trans f2
 have g3:blk w2 (w.heap.size+1+1+1)=some (.cells SChange.zero.cells 121):=(hk2.block _ oM (fun e=>by simp at e;omega)).trans f3
 have gz:=hk2.size
 have gB:Below w.heap.size w w2:=⟨hk2.os.trans fB.os,hk2.tape.trans fB.tape,hk2.output.trans fB.output,Nat.le_trans fB.size hk2.size,fun k hk=>(hk2.block k oM (fun e=>by simp at e;omega)).trans (fB.block k hk)⟩
 have gr:Row w2 w.heap.size w2.heap.size 5 1 encB s1 G:=(fr.keepT fun g cur hlo hhi hg=>hk2.block g oM (fun e=>by simp at e;subst e;rw [fx] at hg;simp at hg)).hi_mono hk2.size
 clear f0 f1 f2 f3 fx fB fr hk2
 obtain ⟨gc0,gf0,gz0⟩:=zaa g0
 go_wp2_with fail
 refine zej (fun W3 hW3=>?_)
 obtain ⟨E5,hE5⟩:∃ E5,endM { c with cpu:=zam c.cpu l,got:=s1 } G l=E5:=⟨_,rfl⟩
 obtain ⟨X5,hX5⟩:∃ X5,endX { c with cpu:=zam c.cpu l,got:=s1 } G l (SChange.mk false SCPU.zero ⟨none,0,0⟩ c.cycle (zam c.cpu l)) s1=X5:=⟨_,rfl⟩
 have hx3:blk w2 xb=some (.cells X5.cells 121):=by rw [<- hX5];exact hx2
 rw [hE5] at hW3
 clear hx2
 have k0:blk W3 w.heap.size=some (.cells E5.cells 45):=sM
 have k2:blk W3 (w.heap.size+1+1)=some (.cells SCore.zero.cells 45):=sM
 have k3:blk W3 (w.heap.size+1+1+1)=some (.cells SChange.zero.cells 121):=sM
 have kx:blk W3 xb=some (.cells X5.cells 121):=sM
 have kB:Below w.heap.size w W3:=by rw [hW3];exact zae gB nL
 have kr:Row W3 w.heap.size W3.heap.size 5 1 encB s1 G:=by rw [hW3,size_setBlk];exact gr.set g0 dC
 have kz:W3.heap.size=w2.heap.size:=by rw [hW3,size_setBlk]
 clear hW3 g0 g2 g3 gr gB hx3 gc0 gf0
 obtain ⟨gc0,gf0,gz0⟩:=zaa k0
 obtain ⟨gcx,gfx,gzx⟩:=zaa kx
 obtain ⟨gc2,gf2,gz2⟩:=zaa k2
 obtain ⟨gc3,gf3,gz3⟩:=zaa k3
 have HE:=hid hE5
 have HX:=hid hX5
 clear hE5 hX5
 go_region
 all_goals go_wp2_with fail
 all_goals
  refine zbl (n:=36) (n':=62) (v:=.agg E5.cells) (u:=.agg X5.cells) rfl kR kR kR kR rfl ?_ ?_ rfl ?_ ?_ rfl ?_
  all_goals (first|(simp [go_sem,↓iteOmega, *];done)|skip)
  have keepR:∀ g cur,0<=g->blk W3 g=some (.cells cur 5)->g≠w.heap.size+1+1/\g≠w.heap.size+1+1+1:=fun g cur _ hg=>⟨fun e=>by subst e;rw [k2] at hg;simp at hg,fun e=>by subst e;rw [k3] at hg;simp at hg⟩
  have e0:advC c G l data=endM (zac c l) G l:=by simp [advC,advX,advG,xG,hst,HGO.out]
  have e1:advG c G l data=endG (zac c l) G:=by simp [advC,advX,advG,xG,hst,HGO.out]
  have e2:xG c G data=G:=by simp [advC,advX,advG,xG,hst,HGO.out]
  have e3:advX c G l data s1=endX (zac c l) G l (SChange.mk false SCPU.zero ⟨none,0,0⟩ c.cycle (zam c.cpu l)) s1:=by simp [advC,advX,advG,xG,hst,HGO.out];try rfl
  refine ⟨if zb9 (zac c l).cpu c.source G=true then s1 else ⟨none,0,0⟩,s1,?_,?_,?_,?_⟩
  ·rw [<- HE.out,<- HX.out,e0,e3,show endM { c with cpu:=zam c.cpu l,got:=s1 } G l=_ from zgo (zac c l) G l s1];rfl
  ·rw [e1]
   unfold endG
   by_cases hmm:zb9 (zac c l).cpu c.source G=true
   ·rw [if_pos hmm,if_pos (show zb9 (zac c l).cpu (zac c l).source G=true from hmm)]
    refine Row.hi_mono (Row.keepT kr fun g cur hlo hhi hg=>?_) (by simp [size_setBlk])
    obtain ⟨n1,n2⟩:=keepR g cur (Nat.zero_le _) hg
    simp [go_sem,↓iteOmega, *]
   ·rw [if_neg hmm,if_neg (show ¬zb9 (zac c l).cpu (zac c l).source G=true from hmm)]
    exact Row.nil _ _ _ _ _ _
  ·rw [e2]
   refine Row.hi_mono (Row.keepT kr fun g cur hlo hhi hg=>?_) (by simp [size_setBlk])
   obtain ⟨n1,n2⟩:=keepR g cur (Nat.zero_le _) hg
   simp [go_sem,↓iteOmega, *]
  ·(repeat' (first|(with_reducible exact kB)|(with_reducible refine zae ?_ ?_)|(with_reducible refine Below.drew ?_)|omega))
theorem z24 (data:Int) (w:World) (hg:Row w 0 w.heap.size 5 1 encB c.got G) (hG:G.length<=1000000) (hgb:∀ y ∈ G,0<=y/\y<=255) (hr:c.cpu.regs.Ok) (hd:0<=data/\data<=255) (hst:zaj c=5) (hgo:¬zaj c<c.cycle.states) (hf:(zch (zam c.cpu l) c.source G l).regs.Ok) :
  Calls prog 44 #[.agg c.cells,.agg l.cells,.int .u8 data] w (zb4 c G l data w):=by
 rw [hst] at hgo
 have HGO:=hid (eq_false hgo)
 have hgo2:decide ((5:Int)<c.cycle.states)=false:=decide_eq_false hgo
 go_enter func44,ntmps44
 go_wp2_with (first|(go_at_call 50;with_reducible refine Cbv (zbe _ _) ?_;intro w' hB hb1 hb2 hb3 hs;(try simp only [szs] at hs hb1 hb2 hb3))|(go_at_call 33;(refine (cloneB_any _ (hg.thru (bL:Below w.heap.size w _) nL) hG).mono ?_);intro e w' hcl;obtain ⟨s1,rfl,hrow,hB⟩:=hcl;obtain ⟨hb1,hb2,hb3⟩:=zdn hB;have hs:=hB.size;(try simp only [szs] at hs hb1 hb2 hb3);(try simp only [szs] at hrow))|(go_at_call 70;with_reducible refine Cbv (zbs _ _ _) ?_;intro w' hB hb1 hb2 hb3 hs;(try simp only [szs] at hs hb1 hb2 hb3);obtain ⟨xb,hxb⟩:∃ xb,w'.heap.size=xb:=⟨_,rfl⟩))
 refine zgr (fun W hW=>?_)
 have f0:blk W w.heap.size=some (.cells ({ c with cpu:=zam c.cpu l,got:=s1 }:SCore).cells 45):=sR
 have f1:blk W (w.heap.size+1)=some (.cells l.cells 59):=sM
 have f2:blk W (w.heap.size+1+1)=some (.cells SCore.zero.cells 45):=sM
 have f3:blk W (w.heap.size+1+1+1)=some (.cells SChange.zero.cells 121):=sM
 have fx:blk W xb=some (.cells (SChange.mk false SCPU.zero ⟨none,0,0⟩ c.cycle (zam c.cpu l)).cells 121):=sR
 have fz:w.heap.size+1+1+1<xb/\xb<W.heap.size:=by
  refine ⟨oM,?_⟩
  rw [hW]
  (try simp only [szs] at *)
  omega
 have fB:Below w.heap.size w W:=by rw [hW];exact bL
 have fr:Row W w.heap.size W.heap.size 5 1 encB s1 G:=(((hrow.keepT (w':=W) fun g cur hlo hhi hg=>sM).lo_mono oM).hi_mono (by rw [hW];(try simp only [szs] at *);omega))
 clear hW
 refine (zh7 { c with cpu:=zam c.cpu l,got:=s1 } G l (SChange.mk false SCPU.zero ⟨none,0,0⟩ c.cycle (zam c.cpu l)) xb W fx (fr.lo_mono (Nat.zero_le _)) hG hgb (zeu _ _ hr) hf).mono ?_
 rintro e w2 ⟨rfl,hx2,hk2⟩
 have g0:blk w2 w.heap.size=some (.cells ({ c with cpu:=zam c.cpu l,got:=s1 }:SCore).cells 45):=(hk2.block _ oM (fun e=>by simp at e;omega)).trans f0
 have g2:blk w2 (w.heap.size+1+1)=some (.cells SCore.zero.cells 45):=(hk2.block _ oM (fun e=>by simp at e;omega)).trans f2
 have g3:blk w2 (w.heap.size+1+1+1)=some (.cells SChange.zero.cells 121):=(hk2.block _ oM (fun e=>by simp at e;omega)).trans f3
 have gz:=hk2.size
 have gB:Below w.heap.size w w2:=⟨hk2.os.trans fB.os,hk2.tape.trans fB.tape,hk2.output.trans fB.output,Nat.le_trans fB.size hk2.size,fun k hk=>(hk2.block k oM (fun e=>by simp at e;omega)).trans (fB.block k hk)⟩
 have gr:Row w2 w.heap.size w2.heap.size 5 1 encB s1 G:=(fr.keepT fun g cur hlo hhi hg=>hk2.block g oM (fun e=>by simp at e;subst e;rw [fx] at hg;simp at hg)).hi_mono hk2.size
 clear f0 f1 f2 f3 fx fB fr hk2
 obtain ⟨gc0,gf0,gz0⟩:=zaa g0
 go_wp2_with fail
 refine zej (fun W3 hW3=>?_)
 obtain ⟨E5,hE5⟩:∃ E5,endM { c with cpu:=zam c.cpu l,got:=s1 } G l=E5:=⟨_,rfl⟩
 obtain ⟨X5,hX5⟩:∃ X5,endX { c with cpu:=zam c.cpu l,got:=s1 } G l (SChange.mk false SCPU.zero ⟨none,0,0⟩ c.cycle (zam c.cpu l)) s1=X5:=⟨_,rfl⟩
 have hx3:blk w2 xb=some (.cells X5.cells 121):=by rw [<- hX5];exact hx2
 rw [hE5] at hW3
 clear hx2
 have k0:blk W3 w.heap.size=some (.cells E5.cells 45):=sM
 have k2:blk W3 (w.heap.size+1+1)=some (.cells SCore.zero.cells 45):=sM
 have k3:blk W3 (w.heap.size+1+1+1)=some (.cells SChange.zero.cells 121):=sM
 have kx:blk W3 xb=some (.cells X5.cells 121):=sM
 have kB:Below w.heap.size w W3:=by rw [hW3];exact zae gB nL
 have kr:Row W3 w.heap.size W3.heap.size 5 1 encB s1 G:=by rw [hW3,size_setBlk];exact gr.set g0 dC
 have kz:W3.heap.size=w2.heap.size:=by rw [hW3,size_setBlk]
 clear hW3 g0 g2 g3 gr gB hx3 gc0 gf0
 obtain ⟨gc0,gf0,gz0⟩:=zaa k0
 obtain ⟨gcx,gfx,gzx⟩:=zaa kx
 obtain ⟨gc2,gf2,gz2⟩:=zaa k2
 obtain ⟨gc3,gf3,gz3⟩:=zaa k3
 have HE:=hid hE5
 have HX:=hid hX5
 clear hE5 hX5
 go_region
 all_goals go_wp2_with fail
 all_goals
  refine zbl (n:=36) (n':=62) (v:=.agg E5.cells) (u:=.agg X5.cells) rfl kR kR kR kR rfl ?_ ?_ rfl ?_ ?_ rfl ?_
  all_goals (first|(simp [go_sem,↓iteOmega, *];done)|skip)
  have keepR:∀ g cur,0<=g->blk W3 g=some (.cells cur 5)->g≠w.heap.size+1+1/\g≠w.heap.size+1+1+1:=fun g cur _ hg=>⟨fun e=>by subst e;rw [k2] at hg;simp at hg,fun e=>by subst e;rw [k3] at hg;simp at hg⟩
  have e0:advC c G l data=endM (zac c l) G l:=by simp [advC,advX,advG,xG,hst,HGO.out]
  have e1:advG c G l data=endG (zac c l) G:=by simp [advC,advX,advG,xG,hst,HGO.out]
  have e2:xG c G data=G:=by simp [advC,advX,advG,xG,hst,HGO.out]
  have e3:advX c G l data s1=endX (zac c l) G l (SChange.mk false SCPU.zero ⟨none,0,0⟩ c.cycle (zam c.cpu l)) s1:=by simp [advC,advX,advG,xG,hst,HGO.out];try rfl
  refine ⟨if zb9 (zac c l).cpu c.source G=true then s1 else ⟨none,0,0⟩,s1,?_,?_,?_,?_⟩
  ·rw [<- HE.out,<- HX.out,e0,e3,show endM { c with cpu:=zam c.cpu l,got:=s1 } G l=_ from zgo (zac c l) G l s1];rfl
  ·rw [e1]
   unfold endG
   by_cases hmm:zb9 (zac c l).cpu c.source G=true
   ·rw [if_pos hmm,if_pos (show zb9 (zac c l).cpu (zac c l).source G=true from hmm)]
    refine Row.hi_mono (Row.keepT kr fun g cur hlo hhi hg=>?_) (by simp [size_setBlk])
    obtain ⟨n1,n2⟩:=keepR g cur (Nat.zero_le _) hg
    simp [go_sem,↓iteOmega, *]
   ·rw [if_neg hmm,if_neg (show ¬zb9 (zac c l).cpu (zac c l).source G=true from hmm)]
    exact Row.nil _ _ _ _ _ _
  ·rw [e2]
   refine Row.hi_mono (Row.keepT kr fun g cur hlo hhi hg=>?_) (by simp [size_setBlk])
   obtain ⟨n1,n2⟩:=keepR g cur (Nat.zero_le _) hg
   simp [go_sem,↓iteOmega, *]
  ·(repeat' (first|(with_reducible exact kB)|(with_reducible refine zae ?_ ?_)|(with_reducible refine Below.drew ?_)|omega))
theorem z22 (data:Int) (w:World) (hg:Row w 0 w.heap.size 5 1 encB c.got G) (hG:G.length<=1000000) (hgb:∀ y ∈ G,0<=y/\y<=255) (hr:c.cpu.regs.Ok) (hd:0<=data/\data<=255) (hst:zaj c=6) (hf:(zch (zam c.cpu l) c.source G l).regs.Ok) :
  Calls prog 44 #[.agg c.cells,.agg l.cells,.int .u8 data] w (zb4 c G l data w):=by
 have hgo2:decide ((6:Int)<c.cycle.states)=true\/decide ((6:Int)<c.cycle.states)=false:=by cases decide ((6:Int)<c.cycle.states)<;>simp
 rcases hgo2 with hgo2|hgo2
 all_goals
  go_enter func44,ntmps44
  go_wp2_with (first|(go_at_call 50;with_reducible refine Cbv (zbe _ _) ?_;intro w' hB hb1 hb2 hb3 hs;(try simp only [szs] at hs hb1 hb2 hb3))|(go_at_call 33;(refine (cloneB_any _ (hg.thru (bL:Below w.heap.size w _) nL) hG).mono ?_);intro e w' hcl;obtain ⟨s1,rfl,hrow,hB⟩:=hcl;obtain ⟨hb1,hb2,hb3⟩:=zdn hB;have hs:=hB.size;(try simp only [szs] at hs hb1 hb2 hb3);(try simp only [szs] at hrow))|(go_at_call 70;with_reducible refine Cbv (zbs _ _ _) ?_;intro w' hB hb1 hb2 hb3 hs;(try simp only [szs] at hs hb1 hb2 hb3);obtain ⟨xb,hxb⟩:∃ xb,w'.heap.size=xb:=⟨_,rfl⟩))
  refine zgr (fun W hW=>?_)
  have f0:blk W w.heap.size=some (.cells ({ c with cpu:=zam c.cpu l,got:=s1 }:SCore).cells 45):=sR
  have f1:blk W (w.heap.size+1)=some (.cells l.cells 59):=sM
  have f2:blk W (w.heap.size+1+1)=some (.cells SCore.zero.cells 45):=sM
  have f3:blk W (w.heap.size+1+1+1)=some (.cells SChange.zero.cells 121):=sM
  have fx:blk W xb=some (.cells (SChange.mk false SCPU.zero ⟨none,0,0⟩ c.cycle (zam c.cpu l)).cells 121):=sR
  have fz:w.heap.size+1+1+1<xb/\xb<W.heap.size:=by
   refine ⟨oM,?_⟩
   rw [hW]
   (try simp only [szs] at *)
   omega
  have fB:Below w.heap.size w W:=by rw [hW];exact bL
  have fr:Row W w.heap.size W.heap.size 5 1 encB s1 G:=(((hrow.keepT (w':=W) fun g cur hlo hhi hg=>sM).lo_mono oM).hi_mono (by rw [hW];(try simp only [szs] at *);omega))
  clear hW
  refine (zh7 { c with cpu:=zam c.cpu l,got:=s1 } G l (SChange.mk false SCPU.zero ⟨none,0,0⟩ c.cycle (zam c.cpu l)) xb W fx (fr.lo_mono (Nat.zero_le _)) hG hgb (zeu _ _ hr) hf).mono ?_
  rintro e w2 ⟨rfl,hx2,hk2⟩
  have g0:blk w2 w.heap.size=some (.cells ({ c with cpu:=zam c.cpu l,got:=s1 }:SCore).cells 45):=(hk2.block _ oM (fun e=>by simp at e;omega)).trans f0
  have g2:blk w2 (w.heap.size+1+1)=some (.cells SCore.zero.cells 45):=(hk2.block _ oM (fun e=>by simp at e;omega)).trans f2
  have g3:blk w2 (w.heap.size+1+1+1)=some (.cells SChange.zero.cells 121):=(hk2.block _ oM (fun e=>by simp at e;omega)).trans f3
  have gz:=hk2.size
  have gB:Below w.heap.size w w2:=⟨hk2.os.trans fB.os,hk2.tape.trans fB.tape,hk2.output.trans fB.output,Nat.le_trans fB.size hk2.size,fun k hk=>(hk2.block k oM (fun e=>by simp at e;omega)).trans (fB.block k hk)⟩
  have gr:Row w2 w.heap.size w2.heap.size 5 1 encB s1 G:=(fr.keepT fun g cur hlo hhi hg=>hk2.block g oM (fun e=>by simp at e;subst e;rw [fx] at hg;simp at hg)).hi_mono hk2.size
  clear f0 f1 f2 f3 fx fB fr hk2
  obtain ⟨gc0,gf0,gz0⟩:=zaa g0
  go_wp2_with fail
  refine zej (fun W3 hW3=>?_)
  obtain ⟨E5,hE5⟩:∃ E5,endM { c with cpu:=zam c.cpu l,got:=s1 } G l=E5:=⟨_,rfl⟩
  obtain ⟨X5,hX5⟩:∃ X5,endX { c with cpu:=zam c.cpu l,got:=s1 } G l (SChange.mk false SCPU.zero ⟨none,0,0⟩ c.cycle (zam c.cpu l)) s1=X5:=⟨_,rfl⟩
  have hx3:blk w2 xb=some (.cells X5.cells 121):=by rw [<- hX5];exact hx2
  rw [hE5] at hW3
  clear hx2
  have k0:blk W3 w.heap.size=some (.cells E5.cells 45):=sM
  have k2:blk W3 (w.heap.size+1+1)=some (.cells SCore.zero.cells 45):=sM
  have k3:blk W3 (w.heap.size+1+1+1)=some (.cells SChange.zero.cells 121):=sM
  have kx:blk W3 xb=some (.cells X5.cells 121):=sM
  have kB:Below w.heap.size w W3:=by rw [hW3];exact zae gB nL
  have kr:Row W3 w.heap.size W3.heap.size 5 1 encB s1 G:=by rw [hW3,size_setBlk];exact gr.set g0 dC
  have kz:W3.heap.size=w2.heap.size:=by rw [hW3,size_setBlk]
  clear hW3 g0 g2 g3 gr gB hx3 gc0 gf0
  obtain ⟨gc0,gf0,gz0⟩:=zaa k0
  obtain ⟨gcx,gfx,gzx⟩:=zaa kx
  obtain ⟨gc2,gf2,gz2⟩:=zaa k2
  obtain ⟨gc3,gf3,gz3⟩:=zaa k3
  have HE:=hid hE5
  have HX:=hid hX5
  clear hE5 hX5
  go_region
  all_goals go_wp2_with fail
  all_goals
   refine zbl (n:=36) (n':=62) (v:=.agg E5.cells) (u:=.agg X5.cells) rfl kR kR kR kR rfl ?_ ?_ rfl ?_ ?_ rfl ?_
   all_goals (first|(simp [go_sem,↓iteOmega, *];done)|skip)
   have keepR:∀ g cur,0<=g->blk W3 g=some (.cells cur 5)->g≠w.heap.size+1+1/\g≠w.heap.size+1+1+1:=fun g cur _ hg=>⟨fun e=>by subst e;rw [k2] at hg;simp at hg,fun e=>by subst e;rw [k3] at hg;simp at hg⟩
   have e0:advC c G l data=endM (zac c l) G l:=by simp [advC,advX,advG,xG,hst]
   have e1:advG c G l data=endG (zac c l) G:=by simp [advC,advX,advG,xG,hst]
   have e2:xG c G data=G:=by simp [advC,advX,advG,xG,hst]
   have e3:advX c G l data s1=endX (zac c l) G l (SChange.mk false SCPU.zero ⟨none,0,0⟩ c.cycle (zam c.cpu l)) s1:=by simp [advC,advX,advG,xG,hst];try rfl
   refine ⟨if zb9 (zac c l).cpu c.source G=true then s1 else ⟨none,0,0⟩,s1,?_,?_,?_,?_⟩
   ·rw [<- HE.out,<- HX.out,e0,e3,show endM { c with cpu:=zam c.cpu l,got:=s1 } G l=_ from zgo (zac c l) G l s1];rfl
   ·rw [e1]
    unfold endG
    by_cases hmm:zb9 (zac c l).cpu c.source G=true
    ·rw [if_pos hmm,if_pos (show zb9 (zac c l).cpu (zac c l).source G=true from hmm)]
     refine Row.hi_mono (Row.keepT kr fun g cur hlo hhi hg=>?_) (by simp [size_setBlk])
     obtain ⟨n1,n2⟩:=keepR g cur (Nat.zero_le _) hg
     simp [go_sem,↓iteOmega, *]
    ·rw [if_neg hmm,if_neg (show ¬zb9 (zac c l).cpu (zac c l).source G=true from hmm)]
     exact Row.nil _ _ _ _ _ _
   ·rw [e2]
    refine Row.hi_mono (Row.keepT kr fun g cur hlo hhi hg=>?_) (by simp [size_setBlk])
    obtain ⟨n1,n2⟩:=keepR g cur (Nat.zero_le _) hg
    simp [go_sem,↓iteOmega, *]
   ·(repeat' (first|(with_reducible exact kB)|(with_reducible refine zae ?_ ?_)|(with_reducible refine Below.drew ?_)|omega))
end

end
end Go.Proofs.YtlmbamdkklkliaaGreat
