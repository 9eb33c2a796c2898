/- Part of the proof that a law holds at every input. No conditions. -/
import Derived.Test.YtlmbamdkklkliaaGreatK28
import Derived.Test.YtlmbamdkklkliaaGreatK44
import Derived.Test.YtlmbamdkklkliaaGreatK45
namespace Go.Proofs.YtlmbamdkklkliaaGreat
set_option linter.unusedVariables false
set_option linter.unusedSimpArgs false
set_option linter.unusedSectionVars false
set_option maxRecDepth 100000
set_option maxHeartbeats 16000000
open Go.Proofs.Tryz
open Lib (hid)
open Go.IntWalk (iteOmega)
section
open Go.RowKit
section
variable (c:SCore) (G:List Int) (l:SLines) (data:Int) (w:World) (hg:Row w 0 w.heap.size 5 1 encB c.got G) (hG:G.length<=1000000) (hgb:∀ y ∈ G,0<=y/\y<=255) (hr:c.cpu.regs.Ok) (hd:0<=data/\data<=255) (hst:zaj c=3)
include c G l data w hg hG hgb hr hd hst
theorem z08 (hk:c.cycle.kind=1) (hcd:0<=c.cycle.data/\c.cycle.data<=255) (hG9:G.length<=900000) (hgt:¬ 3<(zcf (zam c.cpu l).chip data)) (hf:(zch (zam c.cpu l) c.source (G++[data]) l).regs.Ok)  :
  Calls prog 44 #[.agg c.cells,.agg l.cells,.int .u8 data] w (zb4 c G l data w):=by
 have hrd:zd1 c.cycle.kind=true:=by rw [hk];rfl
 have HK:=hid hk
 have hkb:(c.cycle.kind==1)=true:=by rw [hk];rfl
 clear hk
 have HR:=hid hrd
 have HGT:=hid (eq_false hgt)
 have hgt2:decide ((3:Int)<(zcf (zam c.cpu l).chip data))=false:=decide_eq_false hgt
 have hD:0<=data/\data<=255:=hd
 clear hrd
 go_enter func44,ntmps44
 go_upto_region 16 with (first|(go_at_call 50;with_reducible refine Cbv (zbe _ _) ?_;intro w' hB hb1 hb2 hb3 hs;(try simp only [szs] at hs hb1 hb2 hb3))|(go_at_call 33;(refine (cloneB_any _ (hg.thru (bL:Below w.heap.size w _) nL) hG).mono ?_);intro e w' hcl;obtain ⟨s1,rfl,hrow,hB⟩:=hcl;obtain ⟨hb1,hb2,hb3⟩:=zdn hB;have hs:=hB.size;(try simp only [szs] at hs hb1 hb2 hb3);(try simp only [szs] at hrow))|(go_at_call 70;with_reducible refine Cbv (zbs _ _ _) ?_;intro w' hB hb1 hb2 hb3 hs;(try simp only [szs] at hs hb1 hb2 hb3);obtain ⟨xb,hxb⟩:∃ xb,w'.heap.size=xb:=⟨_,rfl⟩)|(go_at_call 51;(with_reducible refine (zd9 _ _).mono ?_);rw [HR.out];rintro e w' ⟨rfl,rfl⟩))
 refine zej (fun W hW=>?_)
 have f0:blk W w.heap.size=some (.cells ({ c with cpu:=zam c.cpu l,got:=s1,cycle := { c.cycle with data:=data } }:SCore).cells 45):=sR
 have f1:blk W (w.heap.size+1)=some (.cells l.cells 59):=sM
 have f2:blk W (w.heap.size+1+1)=some (.cells SCore.zero.cells 45):=sM
 have f3:blk W (w.heap.size+1+1+1)=some (.cells SChange.zero.cells 121):=sM
 have fx:blk W xb=some (.cells (SChange.mk false SCPU.zero ⟨none,0,0⟩ c.cycle (zam c.cpu l)).cells 121):=sR
 have fz:w.heap.size+1+1+1<xb/\xb<W.heap.size:=by
  refine ⟨oM,?_⟩
  rw [hW]
  (try simp only [szs] at *)
  omega
 have fB:Below w.heap.size w W:=by rw [hW];exact bL
 have fr:Row W w.heap.size W.heap.size 5 1 encB s1 G:=(((hrow.keepT (w':=W) fun g cur hlo hhi hg=>sM).lo_mono oM).hi_mono (by rw [hW];(try simp only [szs] at *);omega))
 clear hW
 obtain ⟨gc0,gf0,gz0⟩:=zaa f0
 go_wp2_with (first|(at_builtin;refine za7 rfl _ _ 28 rfl (fr.thru ((Below.refl _ W).alloc nL (.cells #[.int .u8 data] 5)) nL) (fun _=>rfl) oneB oM zgn rfl [data] W.heap.size #[.int .u8 data] 5 1 1 rfl (zab _ _ _ rfl) (by simp [encL,encB]) rfl oM oM (by have:=fB.size;simp;omega) ?_;intro s2 w2 hrow2 hgr;have g0:=hgr.kept _ _ _ dC ((blk_alloc_past W w.heap.size _ oM).trans f0);have g1:=hgr.kept _ _ _ dC ((blk_alloc_past W (w.heap.size+1) _ oM).trans f1);have g2:=hgr.kept _ _ _ dC ((blk_alloc_past W (w.heap.size+1+1) _ oM).trans f2);have g3:=hgr.kept _ _ _ dC ((blk_alloc_past W (w.heap.size+1+1+1) _ oM).trans f3);have gx:=hgr.kept _ _ _ dC ((blk_alloc_past W xb _ oM).trans fx);have gB:Below w.heap.size w w2:=fB.trans (((Below.refl _ W).alloc oM _).trans hgr.below);have gsz:=hgr.below.size;simp only [World.size_alloc] at gsz;have gbd:w.heap.size+1+1+1<xb/\xb<w2.heap.size:=oM;clear f0 f1 f2 f3 fx fr gc0 gf0 hgr;obtain ⟨gc0,gf0,gz0⟩:=zaa g0;obtain ⟨gcx,gfx,gzx⟩:=zaa gx)|(go_at_call 72;with_reducible refine Cbv (zel _ _ _ hD.1 hD.2) ?_;intro w' hB hb1 hb2 hb3 hs;(try simp only [szs] at hs hb1 hb2 hb3)))
 refine zgr (fun V hV=>?_)
 have f0:blk V w.heap.size=some (.cells ({ c with cpu:=zam c.cpu l,got:=s2,cycle:=(SCycle.mk c.cycle.kind c.cycle.at_ data (zcf (zam c.cpu l).chip data)) }:SCore).cells 45):=sR
 have f1:blk V (w.heap.size+1)=some (.cells l.cells 59):=sM
 have f2:blk V (w.heap.size+1+1)=some (.cells SCore.zero.cells 45):=sM
 have f3:blk V (w.heap.size+1+1+1)=some (.cells SChange.zero.cells 121):=sM
 have fx:blk V xb=some (.cells (SChange.mk false SCPU.zero ⟨none,0,0⟩ (SCycle.mk c.cycle.kind c.cycle.at_ data (zcf (zam c.cpu l).chip data)) (zam c.cpu l)).cells 121):=sR
 have fz:w.heap.size+1+1+1<xb/\xb<V.heap.size:=by
  refine ⟨oM,?_⟩
  rw [hV]
  (try simp only [szs] at *)
  omega
 have fB:Below w.heap.size w V:=by rw [hV];(repeat' (first|(with_reducible exact gB)|(with_reducible refine zae ?_ ?_)|(with_reducible refine Below.drew ?_)|(with_reducible refine zaf ‹_› ?_ ?_)|((try simp only [szs]);omega)))
 have fr:Row V w.heap.size V.heap.size 5 1 encB s2 (G++[data]):=(((hrow2.keepT (w':=V) fun g cur hlo hhi hg=>by have n1:g≠w.heap.size:=(fun e=>by subst e;rw [g0] at hg;simp at hg);have n2:g≠xb:=(fun e=>by subst e;rw [gx] at hg;simp at hg);exact sM).lo_mono oM).hi_mono (by rw [hV];(try simp only [szs] at *);omega))
 clear hV
 refine (zh7 { c with cpu:=zam c.cpu l,got:=s2,cycle:=(SCycle.mk c.cycle.kind c.cycle.at_ data (zcf (zam c.cpu l).chip data)) } (G++[data]) l (SChange.mk false SCPU.zero ⟨none,0,0⟩ (SCycle.mk c.cycle.kind c.cycle.at_ data (zcf (zam c.cpu l).chip data)) (zam c.cpu l)) xb V fx (fr.lo_mono (Nat.zero_le _)) sO (by intro y hy;rcases List.mem_append.1 hy with h|h<;>first|exact hgb y h|(have h2:=List.mem_singleton.1 h;rw [h2];exact hD)) (zeu _ _ hr) hf).mono ?_
 rintro e w2 ⟨rfl,hx2,hk2⟩
 have g0:blk w2 w.heap.size=some (.cells ({ c with cpu:=zam c.cpu l,got:=s2,cycle:=(SCycle.mk c.cycle.kind c.cycle.at_ data (zcf (zam c.cpu l).chip data)) }:SCore).cells 45):=(hk2.block _ oM (fun e=>by simp at e;omega)).trans f0
 have g2:blk w2 (w.heap.size+1+1)=some (.cells SCore.zero.cells 45):=(hk2.block _ oM (fun e=>by simp at e;omega)).trans f2
 have g3:blk w2 (w.heap.size+1+1+1)=some (.cells SChange.zero.cells 121):=(hk2.block _ oM (fun e=>by simp at e;omega)).trans f3
 have gz:=hk2.size
 have gB:Below w.heap.size w w2:=⟨hk2.os.trans fB.os,hk2.tape.trans fB.tape,hk2.output.trans fB.output,Nat.le_trans fB.size hk2.size,fun k hk=>(hk2.block k oM (fun e=>by simp at e;omega)).trans (fB.block k hk)⟩
 have gr:Row w2 w.heap.size w2.heap.size 5 1 encB s2 (G++[data]):=(fr.keepT fun g cur hlo hhi hg=>hk2.block g oM (fun e=>by simp at e;subst e;rw [fx] at hg;simp at hg)).hi_mono hk2.size
 clear f0 f1 f2 f3 fx fB fr hk2
 obtain ⟨gc0,gf0,gz0⟩:=zaa g0
 go_wp2_with fail
 refine zej (fun W3 hW3=>?_)
 obtain ⟨E5,hE5⟩:∃ E5,endM { c with cpu:=zam c.cpu l,got:=s2,cycle:=(SCycle.mk c.cycle.kind c.cycle.at_ data (zcf (zam c.cpu l).chip data)) } (G++[data]) l=E5:=⟨_,rfl⟩
 obtain ⟨X5,hX5⟩:∃ X5,endX { c with cpu:=zam c.cpu l,got:=s2,cycle:=(SCycle.mk c.cycle.kind c.cycle.at_ data (zcf (zam c.cpu l).chip data)) } (G++[data]) l (SChange.mk false SCPU.zero ⟨none,0,0⟩ (SCycle.mk c.cycle.kind c.cycle.at_ data (zcf (zam c.cpu l).chip data)) (zam c.cpu l)) s2=X5:=⟨_,rfl⟩
 have hx3:blk w2 xb=some (.cells X5.cells 121):=by rw [<- hX5];exact hx2
 rw [hE5] at hW3
 clear hx2
 have k0:blk W3 w.heap.size=some (.cells E5.cells 45):=sM
 have k2:blk W3 (w.heap.size+1+1)=some (.cells SCore.zero.cells 45):=sM
 have k3:blk W3 (w.heap.size+1+1+1)=some (.cells SChange.zero.cells 121):=sM
 have kx:blk W3 xb=some (.cells X5.cells 121):=sM
 have kB:Below w.heap.size w W3:=by rw [hW3];exact zae gB nL
 have kr:Row W3 w.heap.size W3.heap.size 5 1 encB s2 (G++[data]):=by rw [hW3,size_setBlk];exact gr.set g0 dC
 have kz:W3.heap.size=w2.heap.size:=by rw [hW3,size_setBlk]
 clear hW3 g0 g2 g3 gr gB hx3 gc0 gf0
 obtain ⟨gc0,gf0,gz0⟩:=zaa k0
 obtain ⟨gcx,gfx,gzx⟩:=zaa kx
 obtain ⟨gc2,gf2,gz2⟩:=zaa k2
 obtain ⟨gc3,gf3,gz3⟩:=zaa k3
 have HE:=hid hE5
 have HX:=hid hX5
 clear hE5 hX5
 go_region
 all_goals go_wp2_with fail
 all_goals
  refine zbl (n:=36) (n':=62) (v:=.agg E5.cells) (u:=.agg X5.cells) rfl kR kR kR kR rfl ?_ ?_ rfl ?_ ?_ rfl ?_
  all_goals (first|(simp [go_sem,↓iteOmega, *];done)|skip)
  have keepR:∀ g cur,0<=g->blk W3 g=some (.cells cur 5)->g≠w.heap.size+1+1/\g≠w.heap.size+1+1+1:=fun g cur _ hg=>⟨fun e=>by subst e;rw [k2] at hg;simp at hg,fun e=>by subst e;rw [k3] at hg;simp at hg⟩
  have e0:advC c G l data=endM (third (zac c l) data) (G++[data]) l:=by simp [advC,advX,advG,xG,hst,third,zcj,zby,zbn,zac,HR.out,HGT.out,HK.out,show zd1 1=true from rfl]
  have e1:advG c G l data=endG (third (zac c l) data) (G++[data]):=by simp [advC,advX,advG,xG,hst,third,zcj,zby,zbn,zac,HR.out,HGT.out,HK.out,show zd1 1=true from rfl]
  have e2:xG c G data=(G++[data]):=by simp [advC,advX,advG,xG,hst,third,zcj,zby,zbn,zac,HR.out,HGT.out,HK.out,show zd1 1=true from rfl]
  have e3:advX c G l data s2=endX (third (zac c l) data) (G++[data]) l (SChange.mk false SCPU.zero ⟨none,0,0⟩ (SCycle.mk c.cycle.kind c.cycle.at_ data (zcf (zam c.cpu l).chip data)) (zam c.cpu l)) s2:=by simp [advC,advX,advG,xG,hst,third,zcj,zby,zbn,zac,HR.out,HGT.out,HK.out,show zd1 1=true from rfl];try rfl
  refine ⟨if zb9 (third (zac c l) data).cpu c.source (G++[data])=true then s2 else ⟨none,0,0⟩,s2,?_,?_,?_,?_⟩
  ·rw [<- HE.out,<- HX.out,e0,e3,show endM { c with cpu:=zam c.cpu l,got:=s2,cycle:=(SCycle.mk c.cycle.kind c.cycle.at_ data (zcf (zam c.cpu l).chip data)) } (G++[data]) l=_ from zgo (third (zac c l) data) (G++[data]) l s2];rfl
  ·rw [e1]
   unfold endG
   by_cases hmm:zb9 (third (zac c l) data).cpu c.source (G++[data])=true
   ·rw [if_pos hmm,if_pos (show zb9 (third (zac c l) data).cpu (third (zac c l) data).source (G++[data])=true from hmm)]
    refine Row.hi_mono (Row.keepT kr fun g cur hlo hhi hg=>?_) (by simp [size_setBlk])
    obtain ⟨n1,n2⟩:=keepR g cur (Nat.zero_le _) hg
    simp [go_sem,↓iteOmega, *]
   ·rw [if_neg hmm,if_neg (show ¬zb9 (third (zac c l) data).cpu (third (zac c l) data).source (G++[data])=true from hmm)]
    exact Row.nil _ _ _ _ _ _
  ·rw [e2]
   refine Row.hi_mono (Row.keepT kr fun g cur hlo hhi hg=>?_) (by simp [size_setBlk])
   obtain ⟨n1,n2⟩:=keepR g cur (Nat.zero_le _) hg
   simp [go_sem,↓iteOmega, *]
  ·(repeat' (first|(with_reducible exact kB)|(with_reducible refine zae ?_ ?_)|(with_reducible refine Below.drew ?_)|omega))
theorem z07 (hk:c.cycle.kind=8) (hcd:0<=c.cycle.data/\c.cycle.data<=255) (hG9:G.length<=900000) (hgt:¬ 3<(zcf (zam c.cpu l).chip data)) (hf:(zch (zam c.cpu l) c.source (G++[data]) l).regs.Ok)  :
  Calls prog 44 #[.agg c.cells,.agg l.cells,.int .u8 data] w (zb4 c G l data w):=by
 have hrd:zd1 c.cycle.kind=true:=by rw [hk];rfl
 have HK:=hid hk
 have hkb:(c.cycle.kind==8)=true:=by rw [hk];rfl
 have hkc:(c.cycle.kind==1)=false:=by rw [hk];rfl
 clear hk
 have HR:=hid hrd
 have HGT:=hid (eq_false hgt)
 have hgt2:decide ((3:Int)<(zcf (zam c.cpu l).chip data))=false:=decide_eq_false hgt
 have hD:0<=data/\data<=255:=hd
 clear hrd
 go_enter func44,ntmps44
 go_upto_region 16 with (first|(go_at_call 50;with_reducible refine Cbv (zbe _ _) ?_;intro w' hB hb1 hb2 hb3 hs;(try simp only [szs] at hs hb1 hb2 hb3))|(go_at_call 33;(refine (cloneB_any _ (hg.thru (bL:Below w.heap.size w _) nL) hG).mono ?_);intro e w' hcl;obtain ⟨s1,rfl,hrow,hB⟩:=hcl;obtain ⟨hb1,hb2,hb3⟩:=zdn hB;have hs:=hB.size;(try simp only [szs] at hs hb1 hb2 hb3);(try simp only [szs] at hrow))|(go_at_call 70;with_reducible refine Cbv (zbs _ _ _) ?_;intro w' hB hb1 hb2 hb3 hs;(try simp only [szs] at hs hb1 hb2 hb3);obtain ⟨xb,hxb⟩:∃ xb,w'.heap.size=xb:=⟨_,rfl⟩)|(go_at_call 51;(with_reducible refine (zd9 _ _).mono ?_);rw [HR.out];rintro e w' ⟨rfl,rfl⟩))
 refine zej (fun W hW=>?_)
 have f0:blk W w.heap.size=some (.cells ({ c with cpu:=zam c.cpu l,got:=s1,cycle := { c.cycle with data:=data } }:SCore).cells 45):=sR
 have f1:blk W (w.heap.size+1)=some (.cells l.cells 59):=sM
 have f2:blk W (w.heap.size+1+1)=some (.cells SCore.zero.cells 45):=sM
 have f3:blk W (w.heap.size+1+1+1)=some (.cells SChange.zero.cells 121):=sM
 have fx:blk W xb=some (.cells (SChange.mk false SCPU.zero ⟨none,0,0⟩ c.cycle (zam c.cpu l)).cells 121):=sR
 have fz:w.heap.size+1+1+1<xb/\xb<W.heap.size:=by
  refine ⟨oM,?_⟩
  rw [hW]
  (try simp only [szs] at *)
  omega
 have fB:Below w.heap.size w W:=by rw [hW];exact bL
 have fr:Row W w.heap.size W.heap.size 5 1 encB s1 G:=(((hrow.keepT (w':=W) fun g cur hlo hhi hg=>sM).lo_mono oM).hi_mono (by rw [hW];(try simp only [szs] at *);omega))
 clear hW
 obtain ⟨gc0,gf0,gz0⟩:=zaa f0
 go_wp2_with (first|(at_builtin;refine za7 rfl _ _ 28 rfl (fr.thru ((Below.refl _ W).alloc nL (.cells #[.int .u8 data] 5)) nL) (fun _=>rfl) oneB oM zgn rfl [data] W.heap.size #[.int .u8 data] 5 1 1 rfl (zab _ _ _ rfl) (by simp [encL,encB]) rfl oM oM (by have:=fB.size;simp;omega) ?_;intro s2 w2 hrow2 hgr;have g0:=hgr.kept _ _ _ dC ((blk_alloc_past W w.heap.size _ oM).trans f0);have g1:=hgr.kept _ _ _ dC ((blk_alloc_past W (w.heap.size+1) _ oM).trans f1);have g2:=hgr.kept _ _ _ dC ((blk_alloc_past W (w.heap.size+1+1) _ oM).trans f2);have g3:=hgr.kept _ _ _ dC ((blk_alloc_past W (w.heap.size+1+1+1) _ oM).trans f3);have gx:=hgr.kept _ _ _ dC ((blk_alloc_past W xb _ oM).trans fx);have gB:Below w.heap.size w w2:=fB.trans (((Below.refl _ W).alloc oM _).trans hgr.below);have gsz:=hgr.below.size;simp only [World.size_alloc] at gsz;have gbd:w.heap.size+1+1+1<xb/\xb<w2.heap.size:=oM;clear f0 f1 f2 f3 fx fr gc0 gf0 hgr;obtain ⟨gc0,gf0,gz0⟩:=zaa g0;obtain ⟨gcx,gfx,gzx⟩:=zaa gx)|(go_at_call 72;with_reducible refine Cbv (zel _ _ _ hD.1 hD.2) ?_;intro w' hB hb1 hb2 hb3 hs;(try simp only [szs] at hs hb1 hb2 hb3)))
 refine zgr (fun V hV=>?_)
 have f0:blk V w.heap.size=some (.cells ({ c with cpu:=zam c.cpu l,got:=s2,cycle:=(SCycle.mk c.cycle.kind c.cycle.at_ data (zcf (zam c.cpu l).chip data)) }:SCore).cells 45):=sR
 have f1:blk V (w.heap.size+1)=some (.cells l.cells 59):=sM
 have f2:blk V (w.heap.size+1+1)=some (.cells SCore.zero.cells 45):=sM
 have f3:blk V (w.heap.size+1+1+1)=some (.cells SChange.zero.cells 121):=sM
 have fx:blk V xb=some (.cells (SChange.mk false SCPU.zero ⟨none,0,0⟩ (SCycle.mk c.cycle.kind c.cycle.at_ data (zcf (zam c.cpu l).chip data)) (zam c.cpu l)).cells 121):=sR
 have fz:w.heap.size+1+1+1<xb/\xb<V.heap.size:=by
  refine ⟨oM,?_⟩
  rw [hV]
  (try simp only [szs] at *)
  omega
 have fB:Below w.heap.size w V:=by rw [hV];(repeat' (first|(with_reducible exact gB)|(with_reducible refine zae ?_ ?_)|(with_reducible refine Below.drew ?_)|(with_reducible refine zaf ‹_› ?_ ?_)|((try simp only [szs]);omega)))
 have fr:Row V w.heap.size V.heap.size 5 1 encB s2 (G++[data]):=(((hrow2.keepT (w':=V) fun g cur hlo hhi hg=>by have n1:g≠w.heap.size:=(fun e=>by subst e;rw [g0] at hg;simp at hg);have n2:g≠xb:=(fun e=>by subst e;rw [gx] at hg;simp at hg);exact sM).lo_mono oM).hi_mono (by rw [hV];(try simp only [szs] at *);omega))
 clear hV
 refine (zh7 { c with cpu:=zam c.cpu l,got:=s2,cycle:=(SCycle.mk c.cycle.kind c.cycle.at_ data (zcf (zam c.cpu l).chip data)) } (G++[data]) l (SChange.mk false SCPU.zero ⟨none,0,0⟩ (SCycle.mk c.cycle.kind c.cycle.at_ data (zcf (zam c.cpu l).chip data)) (zam c.cpu l)) xb V fx (fr.lo_mono (Nat.zero_le _)) sO (by intro y hy;rcases List.mem_append.1 hy with h|h<;>first|exact hgb y h|(have h2:=List.mem_singleton.1 h;rw [h2];exact hD)) (zeu _ _ hr) hf).mono ?_
 rintro e w2 ⟨rfl,hx2,hk2⟩
 have g0:blk w2 w.heap.size=some (.cells ({ c with cpu:=zam c.cpu l,got:=s2,cycle:=(SCycle.mk c.cycle.kind c.cycle.at_ data (zcf (zam c.cpu l).chip data)) }:SCore).cells 45):=(hk2.block _ oM (fun e=>by simp at e;omega)).trans f0
 have g2:blk w2 (w.heap.size+1+1)=some (.cells SCore.zero.cells 45):=(hk2.block _ oM (fun e=>by simp at e;omega)).trans f2
 have g3:blk w2 (w.heap.size+1+1+1)=some (.cells SChange.zero.cells 121):=(hk2.block _ oM (fun e=>by simp at e;omega)).trans f3
 have gz:=hk2.size
 have gB:Below w.heap.size w w2:=⟨hk2.os.trans fB.os,hk2.tape.trans fB.tape,hk2.output.trans fB.output,Nat.le_trans fB.size hk2.size,fun k hk=>(hk2.block k oM (fun e=>by simp at e;omega)).trans (fB.block k hk)⟩
 have gr:Row w2 w.heap.size w2.heap.size 5 1 encB s2 (G++[data]):=(fr.keepT fun g cur hlo hhi hg=>hk2.block g oM (fun e=>by simp at e;subst e;rw [fx] at hg;simp at hg)).hi_mono hk2.size
 clear f0 f1 f2 f3 fx fB fr hk2
 obtain ⟨gc0,gf0,gz0⟩:=zaa g0
 go_wp2_with fail
 refine zej (fun W3 hW3=>?_)
 obtain ⟨E5,hE5⟩:∃ E5,endM { c with cpu:=zam c.cpu l,got:=s2,cycle:=(SCycle.mk c.cycle.kind c.cycle.at_ data (zcf (zam c.cpu l).chip data)) } (G++[data]) l=E5:=⟨_,rfl⟩
 obtain ⟨X5,hX5⟩:∃ X5,endX { c with cpu:=zam c.cpu l,got:=s2,cycle:=(SCycle.mk c.cycle.kind c.cycle.at_ data (zcf (zam c.cpu l).chip data)) } (G++[data]) l (SChange.mk false SCPU.zero ⟨none,0,0⟩ (SCycle.mk c.cycle.kind c.cycle.at_ data (zcf (zam c.cpu l).chip data)) (zam c.cpu l)) s2=X5:=⟨_,rfl⟩
 have hx3:blk w2 xb=some (.cells X5.cells 121):=by rw [<- hX5];exact hx2
 rw [hE5] at hW3
 clear hx2
 have k0:blk W3 w.heap.size=some (.cells E5.cells 45):=sM
 have k2:blk W3 (w.heap.size+1+1)=some (.cells SCore.zero.cells 45):=sM
 have k3:blk W3 (w.heap.size+1+1+1)=some (.cells SChange.zero.cells 121):=sM
 have kx:blk W3 xb=some (.cells X5.cells 121):=sM
 have kB:Below w.heap.size w W3:=by rw [hW3];exact zae gB nL
 have kr:Row W3 w.heap.size W3.heap.size 5 1 encB s2 (G++[data]):=by rw [hW3,size_setBlk];exact gr.set g0 dC
 have kz:W3.heap.size=w2.heap.size:=by rw [hW3,size_setBlk]
 clear hW3 g0 g2 g3 gr gB hx3 gc0 gf0
 obtain ⟨gc0,gf0,gz0⟩:=zaa k0
 obtain ⟨gcx,gfx,gzx⟩:=zaa kx
 obtain ⟨gc2,gf2,gz2⟩:=zaa k2
 obtain ⟨gc3,gf3,gz3⟩:=zaa k3
 have HE:=hid hE5
 have HX:=hid hX5
 clear hE5 hX5
 go_region
 all_goals go_wp2_with fail
 all_goals
  refine zbl (n:=36) (n':=62) (v:=.agg E5.cells) (u:=.agg X5.cells) rfl kR kR kR kR rfl ?_ ?_ rfl ?_ ?_ rfl ?_
  all_goals (first|(simp [go_sem,↓iteOmega, *];done)|skip)
  have keepR:∀ g cur,0<=g->blk W3 g=some (.cells cur 5)->g≠w.heap.size+1+1/\g≠w.heap.size+1+1+1:=fun g cur _ hg=>⟨fun e=>by subst e;rw [k2] at hg;simp at hg,fun e=>by subst e;rw [k3] at hg;simp at hg⟩
  have e0:advC c G l data=endM (third (zac c l) data) (G++[data]) l:=by simp [advC,advX,advG,xG,hst,third,zcj,zby,zbn,zac,HR.out,HGT.out,HK.out,show zd1 8=true from rfl]
  have e1:advG c G l data=endG (third (zac c l) data) (G++[data]):=by simp [advC,advX,advG,xG,hst,third,zcj,zby,zbn,zac,HR.out,HGT.out,HK.out,show zd1 8=true from rfl]
  have e2:xG c G data=(G++[data]):=by simp [advC,advX,advG,xG,hst,third,zcj,zby,zbn,zac,HR.out,HGT.out,HK.out,show zd1 8=true from rfl]
  have e3:advX c G l data s2=endX (third (zac c l) data) (G++[data]) l (SChange.mk false SCPU.zero ⟨none,0,0⟩ (SCycle.mk c.cycle.kind c.cycle.at_ data (zcf (zam c.cpu l).chip data)) (zam c.cpu l)) s2:=by simp [advC,advX,advG,xG,hst,third,zcj,zby,zbn,zac,HR.out,HGT.out,HK.out,show zd1 8=true from rfl];try rfl
  refine ⟨if zb9 (third (zac c l) data).cpu c.source (G++[data])=true then s2 else ⟨none,0,0⟩,s2,?_,?_,?_,?_⟩
  ·rw [<- HE.out,<- HX.out,e0,e3,show endM { c with cpu:=zam c.cpu l,got:=s2,cycle:=(SCycle.mk c.cycle.kind c.cycle.at_ data (zcf (zam c.cpu l).chip data)) } (G++[data]) l=_ from zgo (third (zac c l) data) (G++[data]) l s2];rfl
  ·rw [e1]
   unfold endG
   by_cases hmm:zb9 (third (zac c l) data).cpu c.source (G++[data])=true
   ·rw [if_pos hmm,if_pos (show zb9 (third (zac c l) data).cpu (third (zac c l) data).source (G++[data])=true from hmm)]
    refine Row.hi_mono (Row.keepT kr fun g cur hlo hhi hg=>?_) (by simp [size_setBlk])
    obtain ⟨n1,n2⟩:=keepR g cur (Nat.zero_le _) hg
    simp [go_sem,↓iteOmega, *]
   ·rw [if_neg hmm,if_neg (show ¬zb9 (third (zac c l) data).cpu (third (zac c l) data).source (G++[data])=true from hmm)]
    exact Row.nil _ _ _ _ _ _
  ·rw [e2]
   refine Row.hi_mono (Row.keepT kr fun g cur hlo hhi hg=>?_) (by simp [size_setBlk])
   obtain ⟨n1,n2⟩:=keepR g cur (Nat.zero_le _) hg
   simp [go_sem,↓iteOmega, *]
  ·(repeat' (first|(with_reducible exact kB)|(with_reducible refine zae ?_ ?_)|(with_reducible refine Below.drew ?_)|omega))
theorem z05 (hrd:zd1 c.cycle.kind=true) (hk1:(c.cycle.kind==1)=false) (hk8:(c.cycle.kind==8)=false) (hcd:0<=c.cycle.data/\c.cycle.data<=255) (hG9:G.length<=900000) (hgt:¬ 3<c.cycle.states) (hf:(zch (zam c.cpu l) c.source (G++[data]) l).regs.Ok)  :
  Calls prog 44 #[.agg c.cells,.agg l.cells,.int .u8 data] w (zb4 c G l data w):=by
 have HR:=hid hrd
 have HGT:=hid (eq_false hgt)
 have hgt2:decide ((3:Int)<c.cycle.states)=false:=decide_eq_false hgt
 have hD:0<=data/\data<=255:=hd
 clear hrd
 go_enter func44,ntmps44
 go_upto_region 16 with (first|(go_at_call 50;with_reducible refine Cbv (zbe _ _) ?_;intro w' hB hb1 hb2 hb3 hs;(try simp only [szs] at hs hb1 hb2 hb3))|(go_at_call 33;(refine (cloneB_any _ (hg.thru (bL:Below w.heap.size w _) nL) hG).mono ?_);intro e w' hcl;obtain ⟨s1,rfl,hrow,hB⟩:=hcl;obtain ⟨hb1,hb2,hb3⟩:=zdn hB;have hs:=hB.size;(try simp only [szs] at hs hb1 hb2 hb3);(try simp only [szs] at hrow))|(go_at_call 70;with_reducible refine Cbv (zbs _ _ _) ?_;intro w' hB hb1 hb2 hb3 hs;(try simp only [szs] at hs hb1 hb2 hb3);obtain ⟨xb,hxb⟩:∃ xb,w'.heap.size=xb:=⟨_,rfl⟩)|(go_at_call 51;(with_reducible refine (zd9 _ _).mono ?_);rw [HR.out];rintro e w' ⟨rfl,rfl⟩))
 refine zej (fun W hW=>?_)
 have f0:blk W w.heap.size=some (.cells ({ c with cpu:=zam c.cpu l,got:=s1,cycle := { c.cycle with data:=data } }:SCore).cells 45):=sR
 have f1:blk W (w.heap.size+1)=some (.cells l.cells 59):=sM
 have f2:blk W (w.heap.size+1+1)=some (.cells SCore.zero.cells 45):=sM
 have f3:blk W (w.heap.size+1+1+1)=some (.cells SChange.zero.cells 121):=sM
 have fx:blk W xb=some (.cells (SChange.mk false SCPU.zero ⟨none,0,0⟩ c.cycle (zam c.cpu l)).cells 121):=sR
 have fz:w.heap.size+1+1+1<xb/\xb<W.heap.size:=by
  refine ⟨oM,?_⟩
  rw [hW]
  (try simp only [szs] at *)
  omega
 have fB:Below w.heap.size w W:=by rw [hW];exact bL
 have fr:Row W w.heap.size W.heap.size 5 1 encB s1 G:=(((hrow.keepT (w':=W) fun g cur hlo hhi hg=>sM).lo_mono oM).hi_mono (by rw [hW];(try simp only [szs] at *);omega))
 clear hW
 obtain ⟨gc0,gf0,gz0⟩:=zaa f0
 go_wp2_with (first|(at_builtin;refine za7 rfl _ _ 28 rfl (fr.thru ((Below.refl _ W).alloc nL (.cells #[.int .u8 data] 5)) nL) (fun _=>rfl) oneB oM zgn rfl [data] W.heap.size #[.int .u8 data] 5 1 1 rfl (zab _ _ _ rfl) (by simp [encL,encB]) rfl oM oM (by have:=fB.size;simp;omega) ?_;intro s2 w2 hrow2 hgr;have g0:=hgr.kept _ _ _ dC ((blk_alloc_past W w.heap.size _ oM).trans f0);have g1:=hgr.kept _ _ _ dC ((blk_alloc_past W (w.heap.size+1) _ oM).trans f1);have g2:=hgr.kept _ _ _ dC ((blk_alloc_past W (w.heap.size+1+1) _ oM).trans f2);have g3:=hgr.kept _ _ _ dC ((blk_alloc_past W (w.heap.size+1+1+1) _ oM).trans f3);have gx:=hgr.kept _ _ _ dC ((blk_alloc_past W xb _ oM).trans fx);have gB:Below w.heap.size w w2:=fB.trans (((Below.refl _ W).alloc oM _).trans hgr.below);have gsz:=hgr.below.size;simp only [World.size_alloc] at gsz;have gbd:w.heap.size+1+1+1<xb/\xb<w2.heap.size:=oM;clear f0 f1 f2 f3 fx fr gc0 gf0 hgr;obtain ⟨gc0,gf0,gz0⟩:=zaa g0;obtain ⟨gcx,gfx,gzx⟩:=zaa gx)|(go_at_call 72;with_reducible refine Cbv (zel _ _ _ hD.1 hD.2) ?_;intro w' hB hb1 hb2 hb3 hs;(try simp only [szs] at hs hb1 hb2 hb3)))
 refine zgr (fun V hV=>?_)
 have f0:blk V w.heap.size=some (.cells ({ c with cpu:=zam c.cpu l,got:=s2,cycle:=(SCycle.mk c.cycle.kind c.cycle.at_ data c.cycle.states) }:SCore).cells 45):=sR
 have f1:blk V (w.heap.size+1)=some (.cells l.cells 59):=sM
 have f2:blk V (w.heap.size+1+1)=some (.cells SCore.zero.cells 45):=sM
 have f3:blk V (w.heap.size+1+1+1)=some (.cells SChange.zero.cells 121):=sM
 have fx:blk V xb=some (.cells (SChange.mk false SCPU.zero ⟨none,0,0⟩ (SCycle.mk c.cycle.kind c.cycle.at_ data c.cycle.states) (zam c.cpu l)).cells 121):=sR
 have fz:w.heap.size+1+1+1<xb/\xb<V.heap.size:=by
  refine ⟨oM,?_⟩
  rw [hV]
  (try simp only [szs] at *)
  omega
 have fB:Below w.heap.size w V:=by rw [hV];(repeat' (first|(with_reducible exact gB)|(with_reducible refine zae ?_ ?_)|(with_reducible refine Below.drew ?_)|(with_reducible refine zaf ‹_› ?_ ?_)|((try simp only [szs]);omega)))
 have fr:Row V w.heap.size V.heap.size 5 1 encB s2 (G++[data]):=(((hrow2.keepT (w':=V) fun g cur hlo hhi hg=>by have n1:g≠w.heap.size:=(fun e=>by subst e;rw [g0] at hg;simp at hg);have n2:g≠xb:=(fun e=>by subst e;rw [gx] at hg;simp at hg);exact sM).lo_mono oM).hi_mono (by rw [hV];(try simp only [szs] at *);omega))
 clear hV
 refine (zh7 { c with cpu:=zam c.cpu l,got:=s2,cycle:=(SCycle.mk c.cycle.kind c.cycle.at_ data c.cycle.states) } (G++[data]) l (SChange.mk false SCPU.zero ⟨none,0,0⟩ (SCycle.mk c.cycle.kind c.cycle.at_ data c.cycle.states) (zam c.cpu l)) xb V fx (fr.lo_mono (Nat.zero_le _)) sO (by intro y hy;rcases List.mem_append.1 hy with h|h<;>first|exact hgb y h|(have h2:=List.mem_singleton.1 h;rw [h2];exact hD)) (zeu _ _ hr) hf).mono ?_
 rintro e w2 ⟨rfl,hx2,hk2⟩
 have g0:blk w2 w.heap.size=some (.cells ({ c with cpu:=zam c.cpu l,got:=s2,cycle:=(SCycle.mk c.cycle.kind c.cycle.at_ data c.cycle.states) }:SCore).cells 45):=(hk2.block _ oM (fun e=>by simp at e;omega)).trans f0
 have g2:blk w2 (w.heap.size+1+1)=some (.cells SCore.zero.cells 45):=(hk2.block _ oM (fun e=>by simp at e;omega)).trans f2
 have g3:blk w2 (w.heap.size+1+1+1)=some (.cells SChange.zero.cells 121):=(hk2.block _ oM (fun e=>by simp at e;omega)).trans f3
 have gz:=hk2.size
 have gB:Below w.heap.size w w2:=⟨hk2.os.trans fB.os,hk2.tape.trans fB.tape,hk2.output.trans fB.output,Nat.le_trans fB.size hk2.size,fun k hk=>(hk2.block k oM (fun e=>by simp at e;omega)).trans (fB.block k hk)⟩
 have gr:Row w2 w.heap.size w2.heap.size 5 1 encB s2 (G++[data]):=(fr.keepT fun g cur hlo hhi hg=>hk2.block g oM (fun e=>by simp at e;subst e;rw [fx] at hg;simp at hg)).hi_mono hk2.size
 clear f0 f1 f2 f3 fx fB fr hk2
 obtain ⟨gc0,gf0,gz0⟩:=zaa g0
 go_wp2_with fail
 refine zej (fun W3 hW3=>?_)
 obtain ⟨E5,hE5⟩:∃ E5,endM { c with cpu:=zam c.cpu l,got:=s2,cycle:=(SCycle.mk c.cycle.kind c.cycle.at_ data c.cycle.states) } (G++[data]) l=E5:=⟨_,rfl⟩
 obtain ⟨X5,hX5⟩:∃ X5,endX { c with cpu:=zam c.cpu l,got:=s2,cycle:=(SCycle.mk c.cycle.kind c.cycle.at_ data c.cycle.states) } (G++[data]) l (SChange.mk false SCPU.zero ⟨none,0,0⟩ (SCycle.mk c.cycle.kind c.cycle.at_ data c.cycle.states) (zam c.cpu l)) s2=X5:=⟨_,rfl⟩
 have hx3:blk w2 xb=some (.cells X5.cells 121):=by rw [<- hX5];exact hx2
 rw [hE5] at hW3
 clear hx2
 have k0:blk W3 w.heap.size=some (.cells E5.cells 45):=sM
 have k2:blk W3 (w.heap.size+1+1)=some (.cells SCore.zero.cells 45):=sM
 have k3:blk W3 (w.heap.size+1+1+1)=some (.cells SChange.zero.cells 121):=sM
 have kx:blk W3 xb=some (.cells X5.cells 121):=sM
 have kB:Below w.heap.size w W3:=by rw [hW3];exact zae gB nL
 have kr:Row W3 w.heap.size W3.heap.size 5 1 encB s2 (G++[data]):=by rw [hW3,size_setBlk];exact gr.set g0 dC
 have kz:W3.heap.size=w2.heap.size:=by rw [hW3,size_setBlk]
 clear hW3 g0 g2 g3 gr gB hx3 gc0 gf0
 obtain ⟨gc0,gf0,gz0⟩:=zaa k0
 obtain ⟨gcx,gfx,gzx⟩:=zaa kx
 obtain ⟨gc2,gf2,gz2⟩:=zaa k2
 obtain ⟨gc3,gf3,gz3⟩:=zaa k3
 have HE:=hid hE5
 have HX:=hid hX5
 clear hE5 hX5
 go_region
 all_goals go_wp2_with fail
 all_goals
  refine zbl (n:=36) (n':=62) (v:=.agg E5.cells) (u:=.agg X5.cells) rfl kR kR kR kR rfl ?_ ?_ rfl ?_ ?_ rfl ?_
  all_goals (first|(simp [go_sem,↓iteOmega, *];done)|skip)
  have keepR:∀ g cur,0<=g->blk W3 g=some (.cells cur 5)->g≠w.heap.size+1+1/\g≠w.heap.size+1+1+1:=fun g cur _ hg=>⟨fun e=>by subst e;rw [k2] at hg;simp at hg,fun e=>by subst e;rw [k3] at hg;simp at hg⟩
  have e0:advC c G l data=endM (third (zac c l) data) (G++[data]) l:=by simp [advC,advX,advG,xG,hst,third,zcj,zby,zbn,zac,HR.out,HGT.out,beq_eq_false_iff_ne.1 hk1,beq_eq_false_iff_ne.1 hk8]
  have e1:advG c G l data=endG (third (zac c l) data) (G++[data]):=by simp [advC,advX,advG,xG,hst,third,zcj,zby,zbn,zac,HR.out,HGT.out,beq_eq_false_iff_ne.1 hk1,beq_eq_false_iff_ne.1 hk8]
  have e2:xG c G data=(G++[data]):=by simp [advC,advX,advG,xG,hst,third,zcj,zby,zbn,zac,HR.out,HGT.out,beq_eq_false_iff_ne.1 hk1,beq_eq_false_iff_ne.1 hk8]
  have e3:advX c G l data s2=endX (third (zac c l) data) (G++[data]) l (SChange.mk false SCPU.zero ⟨none,0,0⟩ (SCycle.mk c.cycle.kind c.cycle.at_ data c.cycle.states) (zam c.cpu l)) s2:=by simp [advC,advX,advG,xG,hst,third,zcj,zby,zbn,zac,HR.out,HGT.out,beq_eq_false_iff_ne.1 hk1,beq_eq_false_iff_ne.1 hk8];try rfl
  refine ⟨if zb9 (third (zac c l) data).cpu c.source (G++[data])=true then s2 else ⟨none,0,0⟩,s2,?_,?_,?_,?_⟩
  ·rw [<- HE.out,<- HX.out,e0,e3,show endM { c with cpu:=zam c.cpu l,got:=s2,cycle:=(SCycle.mk c.cycle.kind c.cycle.at_ data c.cycle.states) } (G++[data]) l=_ from zgo (third (zac c l) data) (G++[data]) l s2];rfl
  ·rw [e1]
   unfold endG
   by_cases hmm:zb9 (third (zac c l) data).cpu c.source (G++[data])=true
   ·rw [if_pos hmm,if_pos (show zb9 (third (zac c l) data).cpu (third (zac c l) data).source (G++[data])=true from hmm)]
    refine Row.hi_mono (Row.keepT kr fun g cur hlo hhi hg=>?_) (by simp [size_setBlk])
    obtain ⟨n1,n2⟩:=keepR g cur (Nat.zero_le _) hg
    simp [go_sem,↓iteOmega, *]
   ·rw [if_neg hmm,if_neg (show ¬zb9 (third (zac c l) data).cpu (third (zac c l) data).source (G++[data])=true from hmm)]
    exact Row.nil _ _ _ _ _ _
  ·rw [e2]
   refine Row.hi_mono (Row.keepT kr fun g cur hlo hhi hg=>?_) (by simp [size_setBlk])
   obtain ⟨n1,n2⟩:=keepR g cur (Nat.zero_le _) hg
   simp [go_sem,↓iteOmega, *]
  ·(repeat' (first|(with_reducible exact kB)|(with_reducible refine zae ?_ ?_)|(with_reducible refine Below.drew ?_)|omega))
theorem z06 (hrd:zd1 c.cycle.kind=false) (hk1:(c.cycle.kind==1)=false) (hk8:(c.cycle.kind==8)=false) (hcd:0<=c.cycle.data/\c.cycle.data<=255) (hG9:G.length<=900000) (hgt:¬ 3<c.cycle.states) (hf:(zch (zam c.cpu l) c.source (G++[c.cycle.data]) l).regs.Ok)  :
  Calls prog 44 #[.agg c.cells,.agg l.cells,.int .u8 data] w (zb4 c G l data w):=by
 have HR:=hid hrd
 have HGT:=hid (eq_false hgt)
 have hgt2:decide ((3:Int)<c.cycle.states)=false:=decide_eq_false hgt
 have hD:0<=c.cycle.data/\c.cycle.data<=255:=hcd
 clear hrd
 go_enter func44,ntmps44
 go_upto_region 16 with (first|(go_at_call 50;with_reducible refine Cbv (zbe _ _) ?_;intro w' hB hb1 hb2 hb3 hs;(try simp only [szs] at hs hb1 hb2 hb3))|(go_at_call 33;(refine (cloneB_any _ (hg.thru (bL:Below w.heap.size w _) nL) hG).mono ?_);intro e w' hcl;obtain ⟨s1,rfl,hrow,hB⟩:=hcl;obtain ⟨hb1,hb2,hb3⟩:=zdn hB;have hs:=hB.size;(try simp only [szs] at hs hb1 hb2 hb3);(try simp only [szs] at hrow))|(go_at_call 70;with_reducible refine Cbv (zbs _ _ _) ?_;intro w' hB hb1 hb2 hb3 hs;(try simp only [szs] at hs hb1 hb2 hb3);obtain ⟨xb,hxb⟩:∃ xb,w'.heap.size=xb:=⟨_,rfl⟩)|(go_at_call 51;(with_reducible refine (zd9 _ _).mono ?_);rw [HR.out];rintro e w' ⟨rfl,rfl⟩))
 refine zej (fun W hW=>?_)
 have f0:blk W w.heap.size=some (.cells ({ c with cpu:=zam c.cpu l,got:=s1,cycle := { c.cycle with data:=c.cycle.data } }:SCore).cells 45):=sR
 have f1:blk W (w.heap.size+1)=some (.cells l.cells 59):=sM
 have f2:blk W (w.heap.size+1+1)=some (.cells SCore.zero.cells 45):=sM
 have f3:blk W (w.heap.size+1+1+1)=some (.cells SChange.zero.cells 121):=sM
 have fx:blk W xb=some (.cells (SChange.mk false SCPU.zero ⟨none,0,0⟩ c.cycle (zam c.cpu l)).cells 121):=sR
 have fz:w.heap.size+1+1+1<xb/\xb<W.heap.size:=by
  refine ⟨oM,?_⟩
  rw [hW]
  (try simp only [szs] at *)
  omega
 have fB:Below w.heap.size w W:=by rw [hW];exact bL
 have fr:Row W w.heap.size W.heap.size 5 1 encB s1 G:=(((hrow.keepT (w':=W) fun g cur hlo hhi hg=>sM).lo_mono oM).hi_mono (by rw [hW];(try simp only [szs] at *);omega))
 clear hW
 obtain ⟨gc0,gf0,gz0⟩:=zaa f0
 go_wp2_with (first|(at_builtin;refine za7 rfl _ _ 28 rfl (fr.thru ((Below.refl _ W).alloc nL (.cells #[.int .u8 c.cycle.data] 5)) nL) (fun _=>rfl) oneB oM zgn rfl [c.cycle.data] W.heap.size #[.int .u8 c.cycle.data] 5 1 1 rfl (zab _ _ _ rfl) (by simp [encL,encB]) rfl oM oM (by have:=fB.size;simp;omega) ?_;intro s2 w2 hrow2 hgr;have g0:=hgr.kept _ _ _ dC ((blk_alloc_past W w.heap.size _ oM).trans f0);have g1:=hgr.kept _ _ _ dC ((blk_alloc_past W (w.heap.size+1) _ oM).trans f1);have g2:=hgr.kept _ _ _ dC ((blk_alloc_past W (w.heap.size+1+1) _ oM).trans f2);have g3:=hgr.kept _ _ _ dC ((blk_alloc_past W (w.heap.size+1+1+1) _ oM).trans f3);have gx:=hgr.kept _ _ _ dC ((blk_alloc_past W xb _ oM).trans fx);have gB:Below w.heap.size w w2:=fB.trans (((Below.refl _ W).alloc oM _).trans hgr.below);have gsz:=hgr.below.size;simp only [World.size_alloc] at gsz;have gbd:w.heap.size+1+1+1<xb/\xb<w2.heap.size:=oM;clear f0 f1 f2 f3 fx fr gc0 gf0 hgr;obtain ⟨gc0,gf0,gz0⟩:=zaa g0;obtain ⟨gcx,gfx,gzx⟩:=zaa gx)|(go_at_call 72;with_reducible refine Cbv (zel _ _ _ hD.1 hD.2) ?_;intro w' hB hb1 hb2 hb3 hs;(try simp only [szs] at hs hb1 hb2 hb3)))
 refine zgr (fun V hV=>?_)
 have f0:blk V w.heap.size=some (.cells ({ c with cpu:=zam c.cpu l,got:=s2,cycle:=(SCycle.mk c.cycle.kind c.cycle.at_ c.cycle.data c.cycle.states) }:SCore).cells 45):=sR
 have f1:blk V (w.heap.size+1)=some (.cells l.cells 59):=sM
 have f2:blk V (w.heap.size+1+1)=some (.cells SCore.zero.cells 45):=sM
 have f3:blk V (w.heap.size+1+1+1)=some (.cells SChange.zero.cells 121):=sM
 have fx:blk V xb=some (.cells (SChange.mk false SCPU.zero ⟨none,0,0⟩ (SCycle.mk c.cycle.kind c.cycle.at_ c.cycle.data c.cycle.states) (zam c.cpu l)).cells 121):=sR
 have fz:w.heap.size+1+1+1<xb/\xb<V.heap.size:=by
  refine ⟨oM,?_⟩
  rw [hV]
  (try simp only [szs] at *)
  omega
 have fB:Below w.heap.size w V:=by rw [hV];(repeat' (first|(with_reducible exact gB)|(with_reducible refine zae ?_ ?_)|(with_reducible refine Below.drew ?_)|(with_reducible refine zaf ‹_› ?_ ?_)|((try simp only [szs]);omega)))
 have fr:Row V w.heap.size V.heap.size 5 1 encB s2 (G++[c.cycle.data]):=(((hrow2.keepT (w':=V) fun g cur hlo hhi hg=>by have n1:g≠w.heap.size:=(fun e=>by subst e;rw [g0] at hg;simp at hg);have n2:g≠xb:=(fun e=>by subst e;rw [gx] at hg;simp at hg);exact sM).lo_mono oM).hi_mono (by rw [hV];(try simp only [szs] at *);omega))
 clear hV
 refine (zh7 { c with cpu:=zam c.cpu l,got:=s2,cycle:=(SCycle.mk c.cycle.kind c.cycle.at_ c.cycle.data c.cycle.states) } (G++[c.cycle.data]) l (SChange.mk false SCPU.zero ⟨none,0,0⟩ (SCycle.mk c.cycle.kind c.cycle.at_ c.cycle.data c.cycle.states) (zam c.cpu l)) xb V fx (fr.lo_mono (Nat.zero_le _)) sO (by intro y hy;rcases List.mem_append.1 hy with h|h<;>first|exact hgb y h|(have h2:=List.mem_singleton.1 h;rw [h2];exact hD)) (zeu _ _ hr) hf).mono ?_
 rintro e w2 ⟨rfl,hx2,hk2⟩
 have g0:blk w2 w.heap.size=some (.cells ({ c with cpu:=zam c.cpu l,got:=s2,cycle:=(SCycle.mk c.cycle.kind c.cycle.at_ c.cycle.data c.cycle.states) }:SCore).cells 45):=(hk2.block _ oM (fun e=>by simp at e;omega)).trans f0
 have g2:blk w2 (w.heap.size+1+1)=some (.cells SCore.zero.cells 45):=(hk2.block _ oM (fun e=>by simp at e;omega)).trans f2
 have g3:blk w2 (w.heap.size+1+1+1)=some (.cells SChange.zero.cells 121):=(hk2.block _ oM (fun e=>by simp at e;omega)).trans f3
 have gz:=hk2.size
 have gB:Below w.heap.size w w2:=⟨hk2.os.trans fB.os,hk2.tape.trans fB.tape,hk2.output.trans fB.output,Nat.le_trans fB.size hk2.size,fun k hk=>(hk2.block k oM (fun e=>by simp at e;omega)).trans (fB.block k hk)⟩
 have gr:Row w2 w.heap.size w2.heap.size 5 1 encB s2 (G++[c.cycle.data]):=(fr.keepT fun g cur hlo hhi hg=>hk2.block g oM (fun e=>by simp at e;subst e;rw [fx] at hg;simp at hg)).hi_mono hk2.size
 clear f0 f1 f2 f3 fx fB fr hk2
 obtain ⟨gc0,gf0,gz0⟩:=zaa g0
 go_wp2_with fail
 refine zej (fun W3 hW3=>?_)
 obtain ⟨E5,hE5⟩:∃ E5,endM { c with cpu:=zam c.cpu l,got:=s2,cycle:=(SCycle.mk c.cycle.kind c.cycle.at_ c.cycle.data c.cycle.states) } (G++[c.cycle.data]) l=E5:=⟨_,rfl⟩
 obtain ⟨X5,hX5⟩:∃ X5,endX { c with cpu:=zam c.cpu l,got:=s2,cycle:=(SCycle.mk c.cycle.kind c.cycle.at_ c.cycle.data c.cycle.states) } (G++[c.cycle.data]) l (SChange.mk false SCPU.zero ⟨none,0,0⟩ (SCycle.mk c.cycle.kind c.cycle.at_ c.cycle.data c.cycle.states) (zam c.cpu l)) s2=X5:=⟨_,rfl⟩
 have hx3:blk w2 xb=some (.cells X5.cells 121):=by rw [<- hX5];exact hx2
 rw [hE5] at hW3
 clear hx2
 have k0:blk W3 w.heap.size=some (.cells E5.cells 45):=sM
 have k2:blk W3 (w.heap.size+1+1)=some (.cells SCore.zero.cells 45):=sM
 have k3:blk W3 (w.heap.size+1+1+1)=some (.cells SChange.zero.cells 121):=sM
 have kx:blk W3 xb=some (.cells X5.cells 121):=sM
 have kB:Below w.heap.size w W3:=by rw [hW3];exact zae gB nL
 have kr:Row W3 w.heap.size W3.heap.size 5 1 encB s2 (G++[c.cycle.data]):=by rw [hW3,size_setBlk];exact gr.set g0 dC
 have kz:W3.heap.size=w2.heap.size:=by rw [hW3,size_setBlk]
 clear hW3 g0 g2 g3 gr gB hx3 gc0 gf0
 obtain ⟨gc0,gf0,gz0⟩:=zaa k0
 obtain ⟨gcx,gfx,gzx⟩:=zaa kx
 obtain ⟨gc2,gf2,gz2⟩:=zaa k2
 obtain ⟨gc3,gf3,gz3⟩:=zaa k3
 have HE:=hid hE5
 have HX:=hid hX5
 clear hE5 hX5
 go_region
 all_goals go_wp2_with fail
 all_goals
  refine zbl (n:=36) (n':=62) (v:=.agg E5.cells) (u:=.agg X5.cells) rfl kR kR kR kR rfl ?_ ?_ rfl ?_ ?_ rfl ?_
  all_goals (first|(simp [go_sem,↓iteOmega, *];done)|skip)
  have keepR:∀ g cur,0<=g->blk W3 g=some (.cells cur 5)->g≠w.heap.size+1+1/\g≠w.heap.size+1+1+1:=fun g cur _ hg=>⟨fun e=>by subst e;rw [k2] at hg;simp at hg,fun e=>by subst e;rw [k3] at hg;simp at hg⟩
  have e0:advC c G l data=endM (third (zac c l) data) (G++[c.cycle.data]) l:=by simp [advC,advX,advG,xG,hst,third,zcj,zby,zbn,zac,HR.out,HGT.out,beq_eq_false_iff_ne.1 hk1,beq_eq_false_iff_ne.1 hk8]
  have e1:advG c G l data=endG (third (zac c l) data) (G++[c.cycle.data]):=by simp [advC,advX,advG,xG,hst,third,zcj,zby,zbn,zac,HR.out,HGT.out,beq_eq_false_iff_ne.1 hk1,beq_eq_false_iff_ne.1 hk8]
  have e2:xG c G data=(G++[c.cycle.data]):=by simp [advC,advX,advG,xG,hst,third,zcj,zby,zbn,zac,HR.out,HGT.out,beq_eq_false_iff_ne.1 hk1,beq_eq_false_iff_ne.1 hk8]
  have e3:advX c G l data s2=endX (third (zac c l) data) (G++[c.cycle.data]) l (SChange.mk false SCPU.zero ⟨none,0,0⟩ (SCycle.mk c.cycle.kind c.cycle.at_ c.cycle.data c.cycle.states) (zam c.cpu l)) s2:=by simp [advC,advX,advG,xG,hst,third,zcj,zby,zbn,zac,HR.out,HGT.out,beq_eq_false_iff_ne.1 hk1,beq_eq_false_iff_ne.1 hk8];try rfl
  refine ⟨if zb9 (third (zac c l) data).cpu c.source (G++[c.cycle.data])=true then s2 else ⟨none,0,0⟩,s2,?_,?_,?_,?_⟩
  ·rw [<- HE.out,<- HX.out,e0,e3,show endM { c with cpu:=zam c.cpu l,got:=s2,cycle:=(SCycle.mk c.cycle.kind c.cycle.at_ c.cycle.data c.cycle.states) } (G++[c.cycle.data]) l=_ from zgo (third (zac c l) data) (G++[c.cycle.data]) l s2];rfl
  ·rw [e1]
   unfold endG
   by_cases hmm:zb9 (third (zac c l) data).cpu c.source (G++[c.cycle.data])=true
   ·rw [if_pos hmm,if_pos (show zb9 (third (zac c l) data).cpu (third (zac c l) data).source (G++[c.cycle.data])=true from hmm)]
    refine Row.hi_mono (Row.keepT kr fun g cur hlo hhi hg=>?_) (by simp [size_setBlk])
    obtain ⟨n1,n2⟩:=keepR g cur (Nat.zero_le _) hg
    simp [go_sem,↓iteOmega, *]
   ·rw [if_neg hmm,if_neg (show ¬zb9 (third (zac c l) data).cpu (third (zac c l) data).source (G++[c.cycle.data])=true from hmm)]
    exact Row.nil _ _ _ _ _ _
  ·rw [e2]
   refine Row.hi_mono (Row.keepT kr fun g cur hlo hhi hg=>?_) (by simp [size_setBlk])
   obtain ⟨n1,n2⟩:=keepR g cur (Nat.zero_le _) hg
   simp [go_sem,↓iteOmega, *]
  ·(repeat' (first|(with_reducible exact kB)|(with_reducible refine zae ?_ ?_)|(with_reducible refine Below.drew ?_)|omega))
end

end
section
open Go.RowKit
theorem zut (c:SCore) (G:List Int) (l:SLines) (data:Int) (w:World) (hg:Row w 0 w.heap.size 5 1 encB c.got G) (hG:G.length<=900000) (hgb:∀ y ∈ G,0<=y/\y<=255) (hr:c.cpu.regs.Ok) (hd:0<=data/\data<=255) (hcd:0<=c.cycle.data/\c.cycle.data<=255) :
  Calls prog 44 #[.agg c.cells,.agg l.cells,.int .u8 data] w (zb4 c G l data w):=by
 have hG1:G.length<=1000000:=oM
 have hl:=zeu c.cpu l hr
 have f0:=zi4 (zam c.cpu l) c.source G l hl hgb
 have f1:∀ d,0<=d/\d<=255->(zch (zam c.cpu l) c.source (G++[d]) l).regs.Ok:=fun d h=>zi4 _ _ _ _ hl (by
  intro y hy
  rcases List.mem_append.1 hy with h1|h1
  ·exact hgb y h1
  ·rw [List.mem_singleton.1 h1];exact h)
 have hs:zaj c=1\/zaj c=2\/zaj c=3\/zaj c=4\/zaj c=5\/zaj c=6\/zaj c=7\/zaj c=8\/zaj c=9:=by unfold zaj;split<;>omega
 rcases hs with hs|hs|hs|hs|hs|hs|hs|hs|hs
 ·exact adv_1 c G l data w hg hG1 hgb hr hd hs
 ·cases ha:zfb c.cycle.kind
  ·exact z27 c G l data w hg hG1 hgb hr hd hs ha
  ·cases hy:l.ready
   ·exact z29 c G l data w hg hG1 hgb hr hd hs ha hy
   ·exact z28 c G l data w hg hG1 hgb hr hd hs ha hy
 ·by_cases k1:c.cycle.kind=1
  ·by_cases hgt:3<zcf (zam c.cpu l).chip data
   ·exact z1c c G l data w hg hG1 hgb hr hd hs k1 hcd hG hgt
   ·exact z08 c G l data w hg hG1 hgb hr hd hs k1 hcd hG hgt (f1 _ hd)
  ·by_cases k8:c.cycle.kind=8
   ·by_cases hgt:3<zcf (zam c.cpu l).chip data
    ·exact z1b c G l data w hg hG1 hgb hr hd hs k8 hcd hG hgt
    ·exact z07 c G l data w hg hG1 hgb hr hd hs k8 hcd hG hgt (f1 _ hd)
   ·have h1:=beq_eq_false_iff_ne.2 k1
    have h8:=beq_eq_false_iff_ne.2 k8
    cases hrd:zd1 c.cycle.kind<;>by_cases hgt:3<c.cycle.states
    ·exact z1a c G l data w hg hG1 hgb hr hd hs hrd h1 h8 hcd hG hgt
    ·exact z06 c G l data w hg hG1 hgb hr hd hs hrd h1 h8 hcd hG hgt (f1 _ hcd)
    ·exact z09 c G l data w hg hG1 hgb hr hd hs hrd h1 h8 hcd hG hgt
    ·exact z05 c G l data w hg hG1 hgb hr hd hs hrd h1 h8 hcd hG hgt (f1 _ hd)
 ·by_cases hgo:zaj c<c.cycle.states
  ·exact z25 c G l data w hg hG1 hgb hr hd hs hgo
  ·exact z26 c G l data w hg hG1 hgb hr hd hs hgo f0
 ·by_cases hgo:zaj c<c.cycle.states
  ·exact z23 c G l data w hg hG1 hgb hr hd hs hgo
  ·exact z24 c G l data w hg hG1 hgb hr hd hs hgo f0
 ·exact z22 c G l data w hg hG1 hgb hr hd hs f0
 ·cases ha:zfb c.cycle.kind
  ·exact z2z c G l data w hg hG1 hgb hr hd hs ha
  ·cases hy:l.ready
   ·exact z21 c G l data w hg hG1 hgb hr hd hs ha hy
   ·exact z20 c G l data w hg hG1 hgb hr hd hs ha hy
 ·exact adv_8 c G l data w hg hG1 hgb hr hd hs
 ·by_cases hp:zc5 (zam c.cpu l) l=0
  ·exact z2y c G l data w hg hG1 hgb hr hd hs hp
  ·exact z2x c G l data w hg hG1 hgb hr hd hs (beq_eq_false_iff_ne.2 hp)
end
end Go.Proofs.YtlmbamdkklkliaaGreat
