/- Part of the proof that a law holds at every input. No conditions. -/
import Derived.Test.YtlmbamdkklkliaaGreatK42
namespace Go.Proofs.YtlmbamdkklkliaaGreat
set_option linter.unusedVariables false
set_option linter.unusedSimpArgs false
set_option linter.unusedSectionVars false
set_option maxRecDepth 100000
set_option maxHeartbeats 16000000
open Go.Proofs.Tryz
open Lib (hid)
open Go.IntWalk (iteOmega)
section
open Go.RowKit
section
variable (c:SCore) (G:List Int) (l:SLines) (data:Int) (w:World) (hg:Row w 0 w.heap.size 5 1 encB c.got G) (hG:G.length<=1000000) (hgb:∀ y ∈ G,0<=y/\y<=255) (hr:c.cpu.regs.Ok) (hd:0<=data/\data<=255) (hst:zaj c=3)
include c G l data w hg hG hgb hr hd hst
theorem z1c (hk:c.cycle.kind=1) (hcd:0<=c.cycle.data/\c.cycle.data<=255) (hG9:G.length<=900000) (hgt:3<(zcf (zam c.cpu l).chip data))  :
  Calls prog 44 #[.agg c.cells,.agg l.cells,.int .u8 data] w (zb4 c G l data w):=by
 have hrd:zd1 1=true:=rfl
 have HK:=hid hk
 have HR:=hid hrd
 have HGT:=hid (eq_true hgt)
 have hgt2:decide ((3:Int)<(zcf (zam c.cpu l).chip data))=true:=decide_eq_true hgt
 have hD:0<=data/\data<=255:=hd
 clear hrd
 go_enter func44,ntmps44
 go_upto_region 16 with (first|(go_at_call 50;with_reducible refine Cbv (zbe _ _) ?_;intro w' hB hb1 hb2 hb3 hs;(try simp only [szs] at hs hb1 hb2 hb3))|(go_at_call 33;(refine (cloneB_any _ (hg.thru (bL:Below w.heap.size w _) nL) hG).mono ?_);intro e w' hcl;obtain ⟨s1,rfl,hrow,hB⟩:=hcl;obtain ⟨hb1,hb2,hb3⟩:=zdn hB;have hs:=hB.size;(try simp only [szs] at hs hb1 hb2 hb3);(try simp only [szs] at hrow))|(go_at_call 70;with_reducible refine Cbv (zbs _ _ _) ?_;intro w' hB hb1 hb2 hb3 hs;(try simp only [szs] at hs hb1 hb2 hb3);obtain ⟨xb,hxb⟩:∃ xb,w'.heap.size=xb:=⟨_,rfl⟩)|(go_at_call 51;(with_reducible refine (zd9 _ _).mono ?_);rw [HR.out];rintro e w' ⟨rfl,rfl⟩))
 refine zej (fun W hW=>?_)
 have f0:blk W w.heap.size=some (.cells ({ c with cpu:=zam c.cpu l,got:=s1,cycle := { c.cycle with data:=data } }:SCore).cells 45):=sR
 have f1:blk W (w.heap.size+1)=some (.cells l.cells 59):=sM
 have f2:blk W (w.heap.size+1+1)=some (.cells SCore.zero.cells 45):=sM
 have f3:blk W (w.heap.size+1+1+1)=some (.cells SChange.zero.cells 121):=sM
 have fx:blk W xb=some (.cells (SChange.mk false SCPU.zero ⟨none,0,0⟩ c.cycle (zam c.cpu l)).cells 121):=sR
 have fz:w.heap.size+1+1+1<xb/\xb<W.heap.size:=by
  refine ⟨oM,?_⟩
  rw [hW]
  (try simp only [szs] at *)
  omega
 have fB:Below w.heap.size w W:=by rw [hW];exact bL
 have fr:Row W w.heap.size W.heap.size 5 1 encB s1 G:=(((hrow.keepT (w':=W) fun g cur hlo hhi hg=>sM).lo_mono oM).hi_mono (by rw [hW];(try simp only [szs] at *);omega))
 clear hW
 obtain ⟨gc0,gf0,gz0⟩:=zaa f0
 go_wp2_with (first|(at_builtin;refine za7 rfl _ _ 28 rfl (fr.thru ((Below.refl _ W).alloc nL (.cells #[.int .u8 data] 5)) nL) (fun _=>rfl) oneB oM zgn rfl [data] W.heap.size #[.int .u8 data] 5 1 1 rfl (zab _ _ _ rfl) (by simp [encL,encB]) rfl oM oM (by have:=fB.size;simp;omega) ?_;intro s2 w2 hrow2 hgr;have g0:=hgr.kept _ _ _ dC ((blk_alloc_past W w.heap.size _ oM).trans f0);have g1:=hgr.kept _ _ _ dC ((blk_alloc_past W (w.heap.size+1) _ oM).trans f1);have g2:=hgr.kept _ _ _ dC ((blk_alloc_past W (w.heap.size+1+1) _ oM).trans f2);have g3:=hgr.kept _ _ _ dC ((blk_alloc_past W (w.heap.size+1+1+1) _ oM).trans f3);have gx:=hgr.kept _ _ _ dC ((blk_alloc_past W xb _ oM).trans fx);have gB:Below w.heap.size w w2:=fB.trans (((Below.refl _ W).alloc oM _).trans hgr.below);have gsz:=hgr.below.size;simp only [World.size_alloc] at gsz;have gbd:w.heap.size+1+1+1<xb/\xb<w2.heap.size:=oM;clear f0 f1 f2 f3 fx fr gc0 gf0 hgr;obtain ⟨gc0,gf0,gz0⟩:=zaa g0;obtain ⟨gcx,gfx,gzx⟩:=zaa gx)|(go_at_call 72;with_reducible refine Cbv (zel _ _ _ hD.1 hD.2) ?_;intro w' hB hb1 hb2 hb3 hs;(try simp only [szs] at hs hb1 hb2 hb3)))
 refine zej (fun V hV=>?_)
 have f0:blk V w.heap.size=some (.cells ({ c with cpu:=zam c.cpu l,got:=s2,cycle:=(SCycle.mk c.cycle.kind c.cycle.at_ data (zcf (zam c.cpu l).chip data)),next:=4 }:SCore).cells 45):=sR
 have f1:blk V (w.heap.size+1)=some (.cells l.cells 59):=sM
 have f2:blk V (w.heap.size+1+1)=some (.cells SCore.zero.cells 45):=sM
 have f3:blk V (w.heap.size+1+1+1)=some (.cells SChange.zero.cells 121):=sM
 have fx:blk V xb=some (.cells (SChange.mk false SCPU.zero ⟨none,0,0⟩ (SCycle.mk c.cycle.kind c.cycle.at_ data (zcf (zam c.cpu l).chip data)) (zam c.cpu l)).cells 121):=sR
 have fz:w.heap.size+1+1+1<xb/\xb<V.heap.size:=by
  refine ⟨oM,?_⟩
  rw [hV]
  (try simp only [szs] at *)
  omega
 have fB:Below w.heap.size w V:=by rw [hV];(repeat' (first|(with_reducible exact gB)|(with_reducible refine zae ?_ ?_)|(with_reducible refine Below.drew ?_)|(with_reducible refine zaf ‹_› ?_ ?_)|((try simp only [szs]);omega)))
 have fr:Row V w.heap.size V.heap.size 5 1 encB s2 (G++[data]):=(((hrow2.keepT (w':=V) fun g cur hlo hhi hg=>by have n1:g≠w.heap.size:=(fun e=>by subst e;rw [g0] at hg;simp at hg);have n2:g≠xb:=(fun e=>by subst e;rw [gx] at hg;simp at hg);exact sM).lo_mono oM).hi_mono (by rw [hV];(try simp only [szs] at *);omega))
 clear hV
 obtain ⟨gc0,gf0,gz0⟩:=zaa f0
 obtain ⟨gcx,gfx,gzx⟩:=zaa fx
 obtain ⟨gc2,gf2,gz2⟩:=zaa f2
 obtain ⟨gc3,gf3,gz3⟩:=zaa f3
 go_region
 all_goals go_wp2_with fail
 all_goals
  refine zbl (n:=36) (n':=62) (v:=.agg ({ c with cpu:=zam c.cpu l,got:=s2,cycle:=(SCycle.mk c.cycle.kind c.cycle.at_ data (zcf (zam c.cpu l).chip data)),next:=4 }:SCore).cells) (u:=.agg (SChange.mk false SCPU.zero ⟨none,0,0⟩ (SCycle.mk c.cycle.kind c.cycle.at_ data (zcf (zam c.cpu l).chip data)) (zam c.cpu l)).cells) rfl kR kR kR kR rfl ?_ ?_ rfl ?_ ?_ rfl ?_
  all_goals (first|(simp [go_sem,↓iteOmega, *];done)|skip)
  have keepR:∀ g cur,0<=g->blk V g=some (.cells cur 5)->g≠w.heap.size+1+1/\g≠w.heap.size+1+1+1:=fun g cur _ hg=>⟨fun e=>by subst e;rw [f2] at hg;simp at hg,fun e=>by subst e;rw [f3] at hg;simp at hg⟩
  refine ⟨s2,s2,?_,?_,?_,?_⟩
  ·simp [advC,advX,advG,xG,hst,third,zcj,zby,zbn,zac,HR.out,HGT.out,HK.out]<;>first|rfl|(refine ⟨?_,?_⟩<;>rfl)
  ·have e1:advG c G l data=(G++[data]):=by simp [advC,advX,advG,xG,hst,third,zcj,zby,zbn,zac,HR.out,HGT.out,HK.out]
   rw [e1]
   refine Row.hi_mono (Row.keepT fr fun g cur hlo hhi hg=>?_) (by simp [size_setBlk])
   obtain ⟨n1,n2⟩:=keepR g cur (Nat.zero_le _) hg
   simp [go_sem,↓iteOmega, *]
  ·have e1:xG c G data=(G++[data]):=by simp [advC,advX,advG,xG,hst,third,zcj,zby,zbn,zac,HR.out,HGT.out,HK.out]
   rw [e1]
   refine Row.hi_mono (Row.keepT fr fun g cur hlo hhi hg=>?_) (by simp [size_setBlk])
   obtain ⟨n1,n2⟩:=keepR g cur (Nat.zero_le _) hg
   simp [go_sem,↓iteOmega, *]
  ·(repeat' (first|(with_reducible exact fB)|(with_reducible refine zae ?_ ?_)|(with_reducible refine Below.drew ?_)|omega))
theorem z1b (hk:c.cycle.kind=8) (hcd:0<=c.cycle.data/\c.cycle.data<=255) (hG9:G.length<=900000) (hgt:3<(zcf (zam c.cpu l).chip data))  :
  Calls prog 44 #[.agg c.cells,.agg l.cells,.int .u8 data] w (zb4 c G l data w):=by
 have hrd:zd1 8=true:=rfl
 have HK:=hid hk
 have HR:=hid hrd
 have HGT:=hid (eq_true hgt)
 have hgt2:decide ((3:Int)<(zcf (zam c.cpu l).chip data))=true:=decide_eq_true hgt
 have hD:0<=data/\data<=255:=hd
 clear hrd
 go_enter func44,ntmps44
 go_upto_region 16 with (first|(go_at_call 50;with_reducible refine Cbv (zbe _ _) ?_;intro w' hB hb1 hb2 hb3 hs;(try simp only [szs] at hs hb1 hb2 hb3))|(go_at_call 33;(refine (cloneB_any _ (hg.thru (bL:Below w.heap.size w _) nL) hG).mono ?_);intro e w' hcl;obtain ⟨s1,rfl,hrow,hB⟩:=hcl;obtain ⟨hb1,hb2,hb3⟩:=zdn hB;have hs:=hB.size;(try simp only [szs] at hs hb1 hb2 hb3);(try simp only [szs] at hrow))|(go_at_call 70;with_reducible refine Cbv (zbs _ _ _) ?_;intro w' hB hb1 hb2 hb3 hs;(try simp only [szs] at hs hb1 hb2 hb3);obtain ⟨xb,hxb⟩:∃ xb,w'.heap.size=xb:=⟨_,rfl⟩)|(go_at_call 51;(with_reducible refine (zd9 _ _).mono ?_);rw [HR.out];rintro e w' ⟨rfl,rfl⟩))
 refine zej (fun W hW=>?_)
 have f0:blk W w.heap.size=some (.cells ({ c with cpu:=zam c.cpu l,got:=s1,cycle := { c.cycle with data:=data } }:SCore).cells 45):=sR
 have f1:blk W (w.heap.size+1)=some (.cells l.cells 59):=sM
 have f2:blk W (w.heap.size+1+1)=some (.cells SCore.zero.cells 45):=sM
 have f3:blk W (w.heap.size+1+1+1)=some (.cells SChange.zero.cells 121):=sM
 have fx:blk W xb=some (.cells (SChange.mk false SCPU.zero ⟨none,0,0⟩ c.cycle (zam c.cpu l)).cells 121):=sR
 have fz:w.heap.size+1+1+1<xb/\xb<W.heap.size:=by
  refine ⟨oM,?_⟩
  rw [hW]
  (try simp only [szs] at *)
  omega
 have fB:Below w.heap.size w W:=by rw [hW];exact bL
 have fr:Row W w.heap.size W.heap.size 5 1 encB s1 G:=(((hrow.keepT (w':=W) fun g cur hlo hhi hg=>sM).lo_mono oM).hi_mono (by rw [hW];(try simp only [szs] at *);omega))
 clear hW
 obtain ⟨gc0,gf0,gz0⟩:=zaa f0
 go_wp2_with (first|(at_builtin;refine za7 rfl _ _ 28 rfl (fr.thru ((Below.refl _ W).alloc nL (.cells #[.int .u8 data] 5)) nL) (fun _=>rfl) oneB oM zgn rfl [data] W.heap.size #[.int .u8 data] 5 1 1 rfl (zab _ _ _ rfl) (by simp [encL,encB]) rfl oM oM (by have:=fB.size;simp;omega) ?_;intro s2 w2 hrow2 hgr;have g0:=hgr.kept _ _ _ dC ((blk_alloc_past W w.heap.size _ oM).trans f0);have g1:=hgr.kept _ _ _ dC ((blk_alloc_past W (w.heap.size+1) _ oM).trans f1);have g2:=hgr.kept _ _ _ dC ((blk_alloc_past W (w.heap.size+1+1) _ oM).trans f2);have g3:=hgr.kept _ _ _ dC ((blk_alloc_past W (w.heap.size+1+1+1) _ oM).trans f3);have gx:=hgr.kept _ _ _ dC ((blk_alloc_past W xb _ oM).trans fx);have gB:Below w.heap.size w w2:=fB.trans (((Below.refl _ W).alloc oM _).trans hgr.below);have gsz:=hgr.below.size;simp only [World.size_alloc] at gsz;have gbd:w.heap.size+1+1+1<xb/\xb<w2.heap.size:=oM;clear f0 f1 f2 f3 fx fr gc0 gf0 hgr;obtain ⟨gc0,gf0,gz0⟩:=zaa g0;obtain ⟨gcx,gfx,gzx⟩:=zaa gx)|(go_at_call 72;with_reducible refine Cbv (zel _ _ _ hD.1 hD.2) ?_;intro w' hB hb1 hb2 hb3 hs;(try simp only [szs] at hs hb1 hb2 hb3)))
 refine zej (fun V hV=>?_)
 have f0:blk V w.heap.size=some (.cells ({ c with cpu:=zam c.cpu l,got:=s2,cycle:=(SCycle.mk c.cycle.kind c.cycle.at_ data (zcf (zam c.cpu l).chip data)),next:=4 }:SCore).cells 45):=sR
 have f1:blk V (w.heap.size+1)=some (.cells l.cells 59):=sM
 have f2:blk V (w.heap.size+1+1)=some (.cells SCore.zero.cells 45):=sM
 have f3:blk V (w.heap.size+1+1+1)=some (.cells SChange.zero.cells 121):=sM
 have fx:blk V xb=some (.cells (SChange.mk false SCPU.zero ⟨none,0,0⟩ (SCycle.mk c.cycle.kind c.cycle.at_ data (zcf (zam c.cpu l).chip data)) (zam c.cpu l)).cells 121):=sR
 have fz:w.heap.size+1+1+1<xb/\xb<V.heap.size:=by
  refine ⟨oM,?_⟩
  rw [hV]
  (try simp only [szs] at *)
  omega
 have fB:Below w.heap.size w V:=by rw [hV];(repeat' (first|(with_reducible exact gB)|(with_reducible refine zae ?_ ?_)|(with_reducible refine Below.drew ?_)|(with_reducible refine zaf ‹_› ?_ ?_)|((try simp only [szs]);omega)))
 have fr:Row V w.heap.size V.heap.size 5 1 encB s2 (G++[data]):=(((hrow2.keepT (w':=V) fun g cur hlo hhi hg=>by have n1:g≠w.heap.size:=(fun e=>by subst e;rw [g0] at hg;simp at hg);have n2:g≠xb:=(fun e=>by subst e;rw [gx] at hg;simp at hg);exact sM).lo_mono oM).hi_mono (by rw [hV];(try simp only [szs] at *);omega))
 clear hV
 obtain ⟨gc0,gf0,gz0⟩:=zaa f0
 obtain ⟨gcx,gfx,gzx⟩:=zaa fx
 obtain ⟨gc2,gf2,gz2⟩:=zaa f2
 obtain ⟨gc3,gf3,gz3⟩:=zaa f3
 go_region
 all_goals go_wp2_with fail
 all_goals
  refine zbl (n:=36) (n':=62) (v:=.agg ({ c with cpu:=zam c.cpu l,got:=s2,cycle:=(SCycle.mk c.cycle.kind c.cycle.at_ data (zcf (zam c.cpu l).chip data)),next:=4 }:SCore).cells) (u:=.agg (SChange.mk false SCPU.zero ⟨none,0,0⟩ (SCycle.mk c.cycle.kind c.cycle.at_ data (zcf (zam c.cpu l).chip data)) (zam c.cpu l)).cells) rfl kR kR kR kR rfl ?_ ?_ rfl ?_ ?_ rfl ?_
  all_goals (first|(simp [go_sem,↓iteOmega, *];done)|skip)
  have keepR:∀ g cur,0<=g->blk V g=some (.cells cur 5)->g≠w.heap.size+1+1/\g≠w.heap.size+1+1+1:=fun g cur _ hg=>⟨fun e=>by subst e;rw [f2] at hg;simp at hg,fun e=>by subst e;rw [f3] at hg;simp at hg⟩
  refine ⟨s2,s2,?_,?_,?_,?_⟩
  ·simp [advC,advX,advG,xG,hst,third,zcj,zby,zbn,zac,HR.out,HGT.out,HK.out]<;>first|rfl|(refine ⟨?_,?_⟩<;>rfl)
  ·have e1:advG c G l data=(G++[data]):=by simp [advC,advX,advG,xG,hst,third,zcj,zby,zbn,zac,HR.out,HGT.out,HK.out]
   rw [e1]
   refine Row.hi_mono (Row.keepT fr fun g cur hlo hhi hg=>?_) (by simp [size_setBlk])
   obtain ⟨n1,n2⟩:=keepR g cur (Nat.zero_le _) hg
   simp [go_sem,↓iteOmega, *]
  ·have e1:xG c G data=(G++[data]):=by simp [advC,advX,advG,xG,hst,third,zcj,zby,zbn,zac,HR.out,HGT.out,HK.out]
   rw [e1]
   refine Row.hi_mono (Row.keepT fr fun g cur hlo hhi hg=>?_) (by simp [size_setBlk])
   obtain ⟨n1,n2⟩:=keepR g cur (Nat.zero_le _) hg
   simp [go_sem,↓iteOmega, *]
  ·(repeat' (first|(with_reducible exact fB)|(with_reducible refine zae ?_ ?_)|(with_reducible refine Below.drew ?_)|omega))
theorem z09 (hrd:zd1 c.cycle.kind=true) (hk1:(c.cycle.kind==1)=false) (hk8:(c.cycle.kind==8)=false) (hcd:0<=c.cycle.data/\c.cycle.data<=255) (hG9:G.length<=900000) (hgt:3<c.cycle.states)  :
  Calls prog 44 #[.agg c.cells,.agg l.cells,.int .u8 data] w (zb4 c G l data w):=by
 have HR:=hid hrd
 have HGT:=hid (eq_true hgt)
 have hgt2:decide ((3:Int)<c.cycle.states)=true:=decide_eq_true hgt
 have hD:0<=data/\data<=255:=hd
 clear hrd
 go_enter func44,ntmps44
 go_upto_region 16 with (first|(go_at_call 50;with_reducible refine Cbv (zbe _ _) ?_;intro w' hB hb1 hb2 hb3 hs;(try simp only [szs] at hs hb1 hb2 hb3))|(go_at_call 33;(refine (cloneB_any _ (hg.thru (bL:Below w.heap.size w _) nL) hG).mono ?_);intro e w' hcl;obtain ⟨s1,rfl,hrow,hB⟩:=hcl;obtain ⟨hb1,hb2,hb3⟩:=zdn hB;have hs:=hB.size;(try simp only [szs] at hs hb1 hb2 hb3);(try simp only [szs] at hrow))|(go_at_call 70;with_reducible refine Cbv (zbs _ _ _) ?_;intro w' hB hb1 hb2 hb3 hs;(try simp only [szs] at hs hb1 hb2 hb3);obtain ⟨xb,hxb⟩:∃ xb,w'.heap.size=xb:=⟨_,rfl⟩)|(go_at_call 51;(with_reducible refine (zd9 _ _).mono ?_);rw [HR.out];rintro e w' ⟨rfl,rfl⟩))
 refine zej (fun W hW=>?_)
 have f0:blk W w.heap.size=some (.cells ({ c with cpu:=zam c.cpu l,got:=s1,cycle := { c.cycle with data:=data } }:SCore).cells 45):=sR
 have f1:blk W (w.heap.size+1)=some (.cells l.cells 59):=sM
 have f2:blk W (w.heap.size+1+1)=some (.cells SCore.zero.cells 45):=sM
 have f3:blk W (w.heap.size+1+1+1)=some (.cells SChange.zero.cells 121):=sM
 have fx:blk W xb=some (.cells (SChange.mk false SCPU.zero ⟨none,0,0⟩ c.cycle (zam c.cpu l)).cells 121):=sR
 have fz:w.heap.size+1+1+1<xb/\xb<W.heap.size:=by
  refine ⟨oM,?_⟩
  rw [hW]
  (try simp only [szs] at *)
  omega
 have fB:Below w.heap.size w W:=by rw [hW];exact bL
 have fr:Row W w.heap.size W.heap.size 5 1 encB s1 G:=(((hrow.keepT (w':=W) fun g cur hlo hhi hg=>sM).lo_mono oM).hi_mono (by rw [hW];(try simp only [szs] at *);omega))
 clear hW
 obtain ⟨gc0,gf0,gz0⟩:=zaa f0
 go_wp2_with (first|(at_builtin;refine za7 rfl _ _ 28 rfl (fr.thru ((Below.refl _ W).alloc nL (.cells #[.int .u8 data] 5)) nL) (fun _=>rfl) oneB oM zgn rfl [data] W.heap.size #[.int .u8 data] 5 1 1 rfl (zab _ _ _ rfl) (by simp [encL,encB]) rfl oM oM (by have:=fB.size;simp;omega) ?_;intro s2 w2 hrow2 hgr;have g0:=hgr.kept _ _ _ dC ((blk_alloc_past W w.heap.size _ oM).trans f0);have g1:=hgr.kept _ _ _ dC ((blk_alloc_past W (w.heap.size+1) _ oM).trans f1);have g2:=hgr.kept _ _ _ dC ((blk_alloc_past W (w.heap.size+1+1) _ oM).trans f2);have g3:=hgr.kept _ _ _ dC ((blk_alloc_past W (w.heap.size+1+1+1) _ oM).trans f3);have gx:=hgr.kept _ _ _ dC ((blk_alloc_past W xb _ oM).trans fx);have gB:Below w.heap.size w w2:=fB.trans (((Below.refl _ W).alloc oM _).trans hgr.below);have gsz:=hgr.below.size;simp only [World.size_alloc] at gsz;have gbd:w.heap.size+1+1+1<xb/\xb<w2.heap.size:=oM;clear f0 f1 f2 f3 fx fr gc0 gf0 hgr;obtain ⟨gc0,gf0,gz0⟩:=zaa g0;obtain ⟨gcx,gfx,gzx⟩:=zaa gx)|(go_at_call 72;with_reducible refine Cbv (zel _ _ _ hD.1 hD.2) ?_;intro w' hB hb1 hb2 hb3 hs;(try simp only [szs] at hs hb1 hb2 hb3)))
 refine zej (fun V hV=>?_)
 have f0:blk V w.heap.size=some (.cells ({ c with cpu:=zam c.cpu l,got:=s2,cycle:=(SCycle.mk c.cycle.kind c.cycle.at_ data c.cycle.states),next:=4 }:SCore).cells 45):=sR
 have f1:blk V (w.heap.size+1)=some (.cells l.cells 59):=sM
 have f2:blk V (w.heap.size+1+1)=some (.cells SCore.zero.cells 45):=sM
 have f3:blk V (w.heap.size+1+1+1)=some (.cells SChange.zero.cells 121):=sM
 have fx:blk V xb=some (.cells (SChange.mk false SCPU.zero ⟨none,0,0⟩ (SCycle.mk c.cycle.kind c.cycle.at_ data c.cycle.states) (zam c.cpu l)).cells 121):=sR
 have fz:w.heap.size+1+1+1<xb/\xb<V.heap.size:=by
  refine ⟨oM,?_⟩
  rw [hV]
  (try simp only [szs] at *)
  omega
 have fB:Below w.heap.size w V:=by rw [hV];(repeat' (first|(with_reducible exact gB)|(with_reducible refine zae ?_ ?_)|(with_reducible refine Below.drew ?_)|(with_reducible refine zaf ‹_› ?_ ?_)|((try simp only [szs]);omega)))
 have fr:Row V w.heap.size V.heap.size 5 1 encB s2 (G++[data]):=(((hrow2.keepT (w':=V) fun g cur hlo hhi hg=>by have n1:g≠w.heap.size:=(fun e=>by subst e;rw [g0] at hg;simp at hg);have n2:g≠xb:=(fun e=>by subst e;rw [gx] at hg;simp at hg);exact sM).lo_mono oM).hi_mono (by rw [hV];(try simp only [szs] at *);omega))
 clear hV
 obtain ⟨gc0,gf0,gz0⟩:=zaa f0
 obtain ⟨gcx,gfx,gzx⟩:=zaa fx
 obtain ⟨gc2,gf2,gz2⟩:=zaa f2
 obtain ⟨gc3,gf3,gz3⟩:=zaa f3
 go_region
 all_goals go_wp2_with fail
 all_goals
  refine zbl (n:=36) (n':=62) (v:=.agg ({ c with cpu:=zam c.cpu l,got:=s2,cycle:=(SCycle.mk c.cycle.kind c.cycle.at_ data c.cycle.states),next:=4 }:SCore).cells) (u:=.agg (SChange.mk false SCPU.zero ⟨none,0,0⟩ (SCycle.mk c.cycle.kind c.cycle.at_ data c.cycle.states) (zam c.cpu l)).cells) rfl kR kR kR kR rfl ?_ ?_ rfl ?_ ?_ rfl ?_
  all_goals (first|(simp [go_sem,↓iteOmega, *];done)|skip)
  have keepR:∀ g cur,0<=g->blk V g=some (.cells cur 5)->g≠w.heap.size+1+1/\g≠w.heap.size+1+1+1:=fun g cur _ hg=>⟨fun e=>by subst e;rw [f2] at hg;simp at hg,fun e=>by subst e;rw [f3] at hg;simp at hg⟩
  refine ⟨s2,s2,?_,?_,?_,?_⟩
  ·simp [advC,advX,advG,xG,hst,third,zcj,zby,zbn,zac,HR.out,HGT.out,beq_eq_false_iff_ne.1 hk1,beq_eq_false_iff_ne.1 hk8]<;>first|rfl|(refine ⟨?_,?_⟩<;>rfl)
  ·have e1:advG c G l data=(G++[data]):=by simp [advC,advX,advG,xG,hst,third,zcj,zby,zbn,zac,HR.out,HGT.out,beq_eq_false_iff_ne.1 hk1,beq_eq_false_iff_ne.1 hk8]
   rw [e1]
   refine Row.hi_mono (Row.keepT fr fun g cur hlo hhi hg=>?_) (by simp [size_setBlk])
   obtain ⟨n1,n2⟩:=keepR g cur (Nat.zero_le _) hg
   simp [go_sem,↓iteOmega, *]
  ·have e1:xG c G data=(G++[data]):=by simp [advC,advX,advG,xG,hst,third,zcj,zby,zbn,zac,HR.out,HGT.out,beq_eq_false_iff_ne.1 hk1,beq_eq_false_iff_ne.1 hk8]
   rw [e1]
   refine Row.hi_mono (Row.keepT fr fun g cur hlo hhi hg=>?_) (by simp [size_setBlk])
   obtain ⟨n1,n2⟩:=keepR g cur (Nat.zero_le _) hg
   simp [go_sem,↓iteOmega, *]
  ·(repeat' (first|(with_reducible exact fB)|(with_reducible refine zae ?_ ?_)|(with_reducible refine Below.drew ?_)|omega))
theorem z1a (hrd:zd1 c.cycle.kind=false) (hk1:(c.cycle.kind==1)=false) (hk8:(c.cycle.kind==8)=false) (hcd:0<=c.cycle.data/\c.cycle.data<=255) (hG9:G.length<=900000) (hgt:3<c.cycle.states)  :
  Calls prog 44 #[.agg c.cells,.agg l.cells,.int .u8 data] w (zb4 c G l data w):=by
 have HR:=hid hrd
 have HGT:=hid (eq_true hgt)
 have hgt2:decide ((3:Int)<c.cycle.states)=true:=decide_eq_true hgt
 have hD:0<=c.cycle.data/\c.cycle.data<=255:=hcd
 clear hrd
 go_enter func44,ntmps44
 go_upto_region 16 with (first|(go_at_call 50;with_reducible refine Cbv (zbe _ _) ?_;intro w' hB hb1 hb2 hb3 hs;(try simp only [szs] at hs hb1 hb2 hb3))|(go_at_call 33;(refine (cloneB_any _ (hg.thru (bL:Below w.heap.size w _) nL) hG).mono ?_);intro e w' hcl;obtain ⟨s1,rfl,hrow,hB⟩:=hcl;obtain ⟨hb1,hb2,hb3⟩:=zdn hB;have hs:=hB.size;(try simp only [szs] at hs hb1 hb2 hb3);(try simp only [szs] at hrow))|(go_at_call 70;with_reducible refine Cbv (zbs _ _ _) ?_;intro w' hB hb1 hb2 hb3 hs;(try simp only [szs] at hs hb1 hb2 hb3);obtain ⟨xb,hxb⟩:∃ xb,w'.heap.size=xb:=⟨_,rfl⟩)|(go_at_call 51;(with_reducible refine (zd9 _ _).mono ?_);rw [HR.out];rintro e w' ⟨rfl,rfl⟩))
 refine zej (fun W hW=>?_)
 have f0:blk W w.heap.size=some (.cells ({ c with cpu:=zam c.cpu l,got:=s1,cycle := { c.cycle with data:=c.cycle.data } }:SCore).cells 45):=sR
 have f1:blk W (w.heap.size+1)=some (.cells l.cells 59):=sM
 have f2:blk W (w.heap.size+1+1)=some (.cells SCore.zero.cells 45):=sM
 have f3:blk W (w.heap.size+1+1+1)=some (.cells SChange.zero.cells 121):=sM
 have fx:blk W xb=some (.cells (SChange.mk false SCPU.zero ⟨none,0,0⟩ c.cycle (zam c.cpu l)).cells 121):=sR
 have fz:w.heap.size+1+1+1<xb/\xb<W.heap.size:=by
  refine ⟨oM,?_⟩
  rw [hW]
  (try simp only [szs] at *)
  omega
 have fB:Below w.heap.size w W:=by rw [hW];exact bL
 have fr:Row W w.heap.size W.heap.size 5 1 encB s1 G:=(((hrow.keepT (w':=W) fun g cur hlo hhi hg=>sM).lo_mono oM).hi_mono (by rw [hW];(try simp only [szs] at *);omega))
 clear hW
 obtain ⟨gc0,gf0,gz0⟩:=zaa f0
 go_wp2_with (first|(at_builtin;refine za7 rfl _ _ 28 rfl (fr.thru ((Below.refl _ W).alloc nL (.cells #[.int .u8 c.cycle.data] 5)) nL) (fun _=>rfl) oneB oM zgn rfl [c.cycle.data] W.heap.size #[.int .u8 c.cycle.data] 5 1 1 rfl (zab _ _ _ rfl) (by simp [encL,encB]) rfl oM oM (by have:=fB.size;simp;omega) ?_;intro s2 w2 hrow2 hgr;have g0:=hgr.kept _ _ _ dC ((blk_alloc_past W w.heap.size _ oM).trans f0);have g1:=hgr.kept _ _ _ dC ((blk_alloc_past W (w.heap.size+1) _ oM).trans f1);have g2:=hgr.kept _ _ _ dC ((blk_alloc_past W (w.heap.size+1+1) _ oM).trans f2);have g3:=hgr.kept _ _ _ dC ((blk_alloc_past W (w.heap.size+1+1+1) _ oM).trans f3);have gx:=hgr.kept _ _ _ dC ((blk_alloc_past W xb _ oM).trans fx);have gB:Below w.heap.size w w2:=fB.trans (((Below.refl _ W).alloc oM _).trans hgr.below);have gsz:=hgr.below.size;simp only [World.size_alloc] at gsz;have gbd:w.heap.size+1+1+1<xb/\xb<w2.heap.size:=oM;clear f0 f1 f2 f3 fx fr gc0 gf0 hgr;obtain ⟨gc0,gf0,gz0⟩:=zaa g0;obtain ⟨gcx,gfx,gzx⟩:=zaa gx)|(go_at_call 72;with_reducible refine Cbv (zel _ _ _ hD.1 hD.2) ?_;intro w' hB hb1 hb2 hb3 hs;(try simp only [szs] at hs hb1 hb2 hb3)))
 refine zej (fun V hV=>?_)
 have f0:blk V w.heap.size=some (.cells ({ c with cpu:=zam c.cpu l,got:=s2,cycle:=(SCycle.mk c.cycle.kind c.cycle.at_ c.cycle.data c.cycle.states),next:=4 }:SCore).cells 45):=sR
 have f1:blk V (w.heap.size+1)=some (.cells l.cells 59):=sM
 have f2:blk V (w.heap.size+1+1)=some (.cells SCore.zero.cells 45):=sM
 have f3:blk V (w.heap.size+1+1+1)=some (.cells SChange.zero.cells 121):=sM
 have fx:blk V xb=some (.cells (SChange.mk false SCPU.zero ⟨none,0,0⟩ (SCycle.mk c.cycle.kind c.cycle.at_ c.cycle.data c.cycle.states) (zam c.cpu l)).cells 121):=sR
 have fz:w.heap.size+1+1+1<xb/\xb<V.heap.size:=by
  refine ⟨oM,?_⟩
  rw [hV]
  (try simp only [szs] at *)
  omega
 have fB:Below w.heap.size w V:=by rw [hV];(repeat' (first|(with_reducible exact gB)|(with_reducible refine zae ?_ ?_)|(with_reducible refine Below.drew ?_)|(with_reducible refine zaf ‹_› ?_ ?_)|((try simp only [szs]);omega)))
 have fr:Row V w.heap.size V.heap.size 5 1 encB s2 (G++[c.cycle.data]):=(((hrow2.keepT (w':=V) fun g cur hlo hhi hg=>by have n1:g≠w.heap.size:=(fun e=>by subst e;rw [g0] at hg;simp at hg);have n2:g≠xb:=(fun e=>by subst e;rw [gx] at hg;simp at hg);exact sM).lo_mono oM).hi_mono (by rw [hV];(try simp only [szs] at *);omega))
 clear hV
 obtain ⟨gc0,gf0,gz0⟩:=zaa f0
 obtain ⟨gcx,gfx,gzx⟩:=zaa fx
 obtain ⟨gc2,gf2,gz2⟩:=zaa f2
 obtain ⟨gc3,gf3,gz3⟩:=zaa f3
 go_region
 all_goals go_wp2_with fail
 all_goals
  refine zbl (n:=36) (n':=62) (v:=.agg ({ c with cpu:=zam c.cpu l,got:=s2,cycle:=(SCycle.mk c.cycle.kind c.cycle.at_ c.cycle.data c.cycle.states),next:=4 }:SCore).cells) (u:=.agg (SChange.mk false SCPU.zero ⟨none,0,0⟩ (SCycle.mk c.cycle.kind c.cycle.at_ c.cycle.data c.cycle.states) (zam c.cpu l)).cells) rfl kR kR kR kR rfl ?_ ?_ rfl ?_ ?_ rfl ?_
  all_goals (first|(simp [go_sem,↓iteOmega, *];done)|skip)
  have keepR:∀ g cur,0<=g->blk V g=some (.cells cur 5)->g≠w.heap.size+1+1/\g≠w.heap.size+1+1+1:=fun g cur _ hg=>⟨fun e=>by subst e;rw [f2] at hg;simp at hg,fun e=>by subst e;rw [f3] at hg;simp at hg⟩
  refine ⟨s2,s2,?_,?_,?_,?_⟩
  ·simp [advC,advX,advG,xG,hst,third,zcj,zby,zbn,zac,HR.out,HGT.out,beq_eq_false_iff_ne.1 hk1,beq_eq_false_iff_ne.1 hk8]<;>first|rfl|(refine ⟨?_,?_⟩<;>rfl)
  ·have e1:advG c G l data=(G++[c.cycle.data]):=by simp [advC,advX,advG,xG,hst,third,zcj,zby,zbn,zac,HR.out,HGT.out,beq_eq_false_iff_ne.1 hk1,beq_eq_false_iff_ne.1 hk8]
   rw [e1]
   refine Row.hi_mono (Row.keepT fr fun g cur hlo hhi hg=>?_) (by simp [size_setBlk])
   obtain ⟨n1,n2⟩:=keepR g cur (Nat.zero_le _) hg
   simp [go_sem,↓iteOmega, *]
  ·have e1:xG c G data=(G++[c.cycle.data]):=by simp [advC,advX,advG,xG,hst,third,zcj,zby,zbn,zac,HR.out,HGT.out,beq_eq_false_iff_ne.1 hk1,beq_eq_false_iff_ne.1 hk8]
   rw [e1]
   refine Row.hi_mono (Row.keepT fr fun g cur hlo hhi hg=>?_) (by simp [size_setBlk])
   obtain ⟨n1,n2⟩:=keepR g cur (Nat.zero_le _) hg
   simp [go_sem,↓iteOmega, *]
  ·(repeat' (first|(with_reducible exact fB)|(with_reducible refine zae ?_ ?_)|(with_reducible refine Below.drew ?_)|omega))
end

end
end Go.Proofs.YtlmbamdkklkliaaGreat
