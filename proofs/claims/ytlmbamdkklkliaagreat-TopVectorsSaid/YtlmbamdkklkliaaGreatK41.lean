/- Part of the proof that a law holds at every input. No conditions. -/
import Derived.Test.YtlmbamdkklkliaaGreatK40
namespace Go.Proofs.YtlmbamdkklkliaaGreat
set_option linter.unusedVariables false
set_option linter.unusedSimpArgs false
set_option linter.unusedSectionVars false
set_option maxRecDepth 100000
set_option maxHeartbeats 16000000
open Go.Proofs.Tryz
open Lib (hid)
open Go.IntWalk (iteOmega)
section
open Go.RowKit
theorem zh7 (c:SCore) (G:List Int) (l:SLines) (x:SChange) (xb:Nat) (w:World) (hx:blk w xb=some (.cells x.cells 121)) (hg:Row w 0 w.heap.size 5 1 encB c.got G) (hG:G.length<=1000000) (hgb:∀ y ∈ G,0<=y/\y<=255) (h0:c.cpu.regs.Ok) (hf:(zch c.cpu c.source G l).regs.Ok) :
  Calls prog 73 #[.agg c.cells,.agg l.cells,.pointer (some ⟨xb,0,none⟩)] w fun e w'=>e=.returned (.agg (endM c G l).cells)/\blk w' xb=some (.cells (endX c G l x c.got).cells 121)/\w.grownBy w' (some xb):=by
 cases hm:zb9 c.cpu c.source G
 ·exact zw3 c G l x xb w hx hg hG hgb h0 hf hm
 ·exact zw2 c G l x xb w hx hg hG hgb h0 hf hm
def zb4 (c:SCore) (G:List Int) (l:SLines) (data:Int) (w:World) (e:Ending) (w':World):Prop:=
 ∃ s sx:Sl,e=.returned (.tuple #[.agg ({ advC c G l data with got:=s }:SCore).cells,.agg (advX c G l data sx).cells])/\Row w' w.heap.size w'.heap.size 5 1 encB s (advG c G l data)/\Row w' w.heap.size w'.heap.size 5 1 encB sx (xG c G data)/\Below w.heap.size w w'
theorem zej {P:Program} {c:Code} {Q:Exit->Act->World->Prop} {a:Act} {w:World} (h:∀ W,W=w->Code.wp P c Q a W):Code.wp P c Q a w:=h w rfl
theorem zgr {P:Program} {f:FuncId} {xs:Array Value} {w:World} {K:Ending->World->Prop} (h:∀ W,W=w->Calls P f xs W K):Calls P f xs w K:=h w rfl
section
variable (c:SCore) (G:List Int) (l:SLines) (data:Int) (w:World) (hg:Row w 0 w.heap.size 5 1 encB c.got G) (hG:G.length<=1000000) (hgb:∀ y ∈ G,0<=y/\y<=255) (hr:c.cpu.regs.Ok) (hd:0<=data/\data<=255)
include c G l data w hg hG hgb hr hd
theorem adv_1 (hst:zaj c=1) :
  Calls prog 44 #[.agg c.cells,.agg l.cells,.int .u8 data] w (zb4 c G l data w):=by
 go_enter func44,ntmps44
 go_wp2_with (first|(go_at_call 50;with_reducible refine Cbv (zbe _ _) ?_;intro w' hB hb1 hb2 hb3 hs;(try simp only [szs] at hs hb1 hb2 hb3))|(go_at_call 33;(refine (cloneB_any _ (hg.thru (bL:Below w.heap.size w _) nL) hG).mono ?_);intro e w' hcl;obtain ⟨s1,rfl,hrow,hB⟩:=hcl;obtain ⟨hb1,hb2,hb3⟩:=zdn hB;have hs:=hB.size;(try simp only [szs] at hs hb1 hb2 hb3);(try simp only [szs] at hrow))|(go_at_call 70;with_reducible refine Cbv (zbs _ _ _) ?_;intro w' hB hb1 hb2 hb3 hs;(try simp only [szs] at hs hb1 hb2 hb3);obtain ⟨xb,hxb⟩:∃ xb,w'.heap.size=xb:=⟨_,rfl⟩))
 refine zej (fun W hW=>?_)
 have f0:blk W w.heap.size=some (.cells ({ c with cpu:=zam c.cpu l,got:=s1,next:=2 }:SCore).cells 45):=sR
 have f1:blk W (w.heap.size+1)=some (.cells l.cells 59):=sM
 have f2:blk W (w.heap.size+1+1)=some (.cells SCore.zero.cells 45):=sM
 have f3:blk W (w.heap.size+1+1+1)=some (.cells SChange.zero.cells 121):=sM
 have fx:blk W xb=some (.cells (SChange.mk false SCPU.zero ⟨none,0,0⟩ c.cycle (zam c.cpu l)).cells 121):=sR
 have fz:w.heap.size+1+1+1<xb/\xb<W.heap.size:=by
  refine ⟨oM,?_⟩
  rw [hW]
  (try simp only [szs] at *)
  omega
 have fB:Below w.heap.size w W:=by rw [hW];exact bL
 have fr:Row W w.heap.size W.heap.size 5 1 encB s1 G:=(((hrow.keepT (w':=W) fun g cur hlo hhi hg=>sM).lo_mono oM).hi_mono (by rw [hW];(try simp only [szs] at *);omega))
 clear hW
 obtain ⟨gc0,gf0,gz0⟩:=zaa f0
 obtain ⟨gcx,gfx,gzx⟩:=zaa fx
 obtain ⟨gc2,gf2,gz2⟩:=zaa f2
 obtain ⟨gc3,gf3,gz3⟩:=zaa f3
 go_region
 all_goals go_wp2_with fail
 all_goals
  refine zbl (n:=36) (n':=62) (v:=.agg ({ c with cpu:=zam c.cpu l,got:=s1,next:=2 }:SCore).cells) (u:=.agg (SChange.mk false SCPU.zero ⟨none,0,0⟩ c.cycle (zam c.cpu l)).cells) rfl kR kR kR kR rfl ?_ ?_ rfl ?_ ?_ rfl ?_
  all_goals (first|(simp [go_sem,↓iteOmega, *];done)|skip)
  have keepR:∀ g cur,0<=g->blk W g=some (.cells cur 5)->g≠w.heap.size+1+1/\g≠w.heap.size+1+1+1:=fun g cur _ hg=>⟨fun e=>by subst e;rw [f2] at hg;simp at hg,fun e=>by subst e;rw [f3] at hg;simp at hg⟩
  refine ⟨s1,s1,?_,?_,?_,?_⟩
  ·simp [advC,advX,advG,xG,zac,hst]<;>first|rfl|(refine ⟨?_,?_⟩<;>rfl)
  ·have e1:advG c G l data=G:=by simp [advC,advX,advG,xG,zac,hst]
   rw [e1]
   refine Row.hi_mono (Row.keepT fr fun g cur hlo hhi hg=>?_) (by simp [size_setBlk])
   obtain ⟨n1,n2⟩:=keepR g cur (Nat.zero_le _) hg
   simp [go_sem,↓iteOmega, *]
  ·have e1:xG c G data=G:=by simp [advC,advX,advG,xG,zac,hst]
   rw [e1]
   refine Row.hi_mono (Row.keepT fr fun g cur hlo hhi hg=>?_) (by simp [size_setBlk])
   obtain ⟨n1,n2⟩:=keepR g cur (Nat.zero_le _) hg
   simp [go_sem,↓iteOmega, *]
  ·(repeat' (first|(with_reducible exact fB)|(with_reducible refine zae ?_ ?_)|(with_reducible refine Below.drew ?_)|omega))
theorem z29 (hst:zaj c=2) (ha:zfb c.cycle.kind=true) (hy:l.ready=false) :
  Calls prog 44 #[.agg c.cells,.agg l.cells,.int .u8 data] w (zb4 c G l data w):=by
 have HA:=hid ha
 go_enter func44,ntmps44
 go_wp2_with (first|(go_at_call 50;with_reducible refine Cbv (zbe _ _) ?_;intro w' hB hb1 hb2 hb3 hs;(try simp only [szs] at hs hb1 hb2 hb3))|(go_at_call 33;(refine (cloneB_any _ (hg.thru (bL:Below w.heap.size w _) nL) hG).mono ?_);intro e w' hcl;obtain ⟨s1,rfl,hrow,hB⟩:=hcl;obtain ⟨hb1,hb2,hb3⟩:=zdn hB;have hs:=hB.size;(try simp only [szs] at hs hb1 hb2 hb3);(try simp only [szs] at hrow))|(go_at_call 70;with_reducible refine Cbv (zbs _ _ _) ?_;intro w' hB hb1 hb2 hb3 hs;(try simp only [szs] at hs hb1 hb2 hb3);obtain ⟨xb,hxb⟩:∃ xb,w'.heap.size=xb:=⟨_,rfl⟩)|with_reducible refine Cpv (ze0 _ _) ?_)
 refine zej (fun W hW=>?_)
 have f0:blk W w.heap.size=some (.cells ({ c with cpu:=zam c.cpu l,got:=s1,next:=7 }:SCore).cells 45):=sR
 have f1:blk W (w.heap.size+1)=some (.cells l.cells 59):=sM
 have f2:blk W (w.heap.size+1+1)=some (.cells SCore.zero.cells 45):=sM
 have f3:blk W (w.heap.size+1+1+1)=some (.cells SChange.zero.cells 121):=sM
 have fx:blk W xb=some (.cells (SChange.mk false SCPU.zero ⟨none,0,0⟩ c.cycle (zam c.cpu l)).cells 121):=sR
 have fz:w.heap.size+1+1+1<xb/\xb<W.heap.size:=by
  refine ⟨oM,?_⟩
  rw [hW]
  (try simp only [szs] at *)
  omega
 have fB:Below w.heap.size w W:=by rw [hW];exact bL
 have fr:Row W w.heap.size W.heap.size 5 1 encB s1 G:=(((hrow.keepT (w':=W) fun g cur hlo hhi hg=>sM).lo_mono oM).hi_mono (by rw [hW];(try simp only [szs] at *);omega))
 clear hW
 obtain ⟨gc0,gf0,gz0⟩:=zaa f0
 obtain ⟨gcx,gfx,gzx⟩:=zaa fx
 obtain ⟨gc2,gf2,gz2⟩:=zaa f2
 obtain ⟨gc3,gf3,gz3⟩:=zaa f3
 go_region
 all_goals go_wp2_with fail
 all_goals
  refine zbl (n:=36) (n':=62) (v:=.agg ({ c with cpu:=zam c.cpu l,got:=s1,next:=7 }:SCore).cells) (u:=.agg (SChange.mk false SCPU.zero ⟨none,0,0⟩ c.cycle (zam c.cpu l)).cells) rfl kR kR kR kR rfl ?_ ?_ rfl ?_ ?_ rfl ?_
  all_goals (first|(simp [go_sem,↓iteOmega, *];done)|skip)
  have keepR:∀ g cur,0<=g->blk W g=some (.cells cur 5)->g≠w.heap.size+1+1/\g≠w.heap.size+1+1+1:=fun g cur _ hg=>⟨fun e=>by subst e;rw [f2] at hg;simp at hg,fun e=>by subst e;rw [f3] at hg;simp at hg⟩
  refine ⟨s1,s1,?_,?_,?_,?_⟩
  ·simp [advC,advX,advG,xG,zac,hst,HA.out,hy]<;>first|rfl|(refine ⟨?_,?_⟩<;>rfl)
  ·have e1:advG c G l data=G:=by simp [advC,advX,advG,xG,zac,hst,HA.out,hy]
   rw [e1]
   refine Row.hi_mono (Row.keepT fr fun g cur hlo hhi hg=>?_) (by simp [size_setBlk])
   obtain ⟨n1,n2⟩:=keepR g cur (Nat.zero_le _) hg
   simp [go_sem,↓iteOmega, *]
  ·have e1:xG c G data=G:=by simp [advC,advX,advG,xG,zac,hst,HA.out,hy]
   rw [e1]
   refine Row.hi_mono (Row.keepT fr fun g cur hlo hhi hg=>?_) (by simp [size_setBlk])
   obtain ⟨n1,n2⟩:=keepR g cur (Nat.zero_le _) hg
   simp [go_sem,↓iteOmega, *]
  ·(repeat' (first|(with_reducible exact fB)|(with_reducible refine zae ?_ ?_)|(with_reducible refine Below.drew ?_)|omega))
theorem z21 (hst:zaj c=7) (ha:zfb c.cycle.kind=true) (hy:l.ready=false) :
  Calls prog 44 #[.agg c.cells,.agg l.cells,.int .u8 data] w (zb4 c G l data w):=by
 have HA:=hid ha
 go_enter func44,ntmps44
 go_wp2_with (first|(go_at_call 50;with_reducible refine Cbv (zbe _ _) ?_;intro w' hB hb1 hb2 hb3 hs;(try simp only [szs] at hs hb1 hb2 hb3))|(go_at_call 33;(refine (cloneB_any _ (hg.thru (bL:Below w.heap.size w _) nL) hG).mono ?_);intro e w' hcl;obtain ⟨s1,rfl,hrow,hB⟩:=hcl;obtain ⟨hb1,hb2,hb3⟩:=zdn hB;have hs:=hB.size;(try simp only [szs] at hs hb1 hb2 hb3);(try simp only [szs] at hrow))|(go_at_call 70;with_reducible refine Cbv (zbs _ _ _) ?_;intro w' hB hb1 hb2 hb3 hs;(try simp only [szs] at hs hb1 hb2 hb3);obtain ⟨xb,hxb⟩:∃ xb,w'.heap.size=xb:=⟨_,rfl⟩)|with_reducible refine Cpv (ze0 _ _) ?_)
 refine zej (fun W hW=>?_)
 have f0:blk W w.heap.size=some (.cells ({ c with cpu:=zam c.cpu l,got:=s1,next:=7 }:SCore).cells 45):=sR
 have f1:blk W (w.heap.size+1)=some (.cells l.cells 59):=sM
 have f2:blk W (w.heap.size+1+1)=some (.cells SCore.zero.cells 45):=sM
 have f3:blk W (w.heap.size+1+1+1)=some (.cells SChange.zero.cells 121):=sM
 have fx:blk W xb=some (.cells (SChange.mk false SCPU.zero ⟨none,0,0⟩ c.cycle (zam c.cpu l)).cells 121):=sR
 have fz:w.heap.size+1+1+1<xb/\xb<W.heap.size:=by
  refine ⟨oM,?_⟩
  rw [hW]
  (try simp only [szs] at *)
  omega
 have fB:Below w.heap.size w W:=by rw [hW];exact bL
 have fr:Row W w.heap.size W.heap.size 5 1 encB s1 G:=(((hrow.keepT (w':=W) fun g cur hlo hhi hg=>sM).lo_mono oM).hi_mono (by rw [hW];(try simp only [szs] at *);omega))
 clear hW
 obtain ⟨gc0,gf0,gz0⟩:=zaa f0
 obtain ⟨gcx,gfx,gzx⟩:=zaa fx
 obtain ⟨gc2,gf2,gz2⟩:=zaa f2
 obtain ⟨gc3,gf3,gz3⟩:=zaa f3
 go_region
 all_goals go_wp2_with fail
 all_goals
  refine zbl (n:=36) (n':=62) (v:=.agg ({ c with cpu:=zam c.cpu l,got:=s1,next:=7 }:SCore).cells) (u:=.agg (SChange.mk false SCPU.zero ⟨none,0,0⟩ c.cycle (zam c.cpu l)).cells) rfl kR kR kR kR rfl ?_ ?_ rfl ?_ ?_ rfl ?_
  all_goals (first|(simp [go_sem,↓iteOmega, *];done)|skip)
  have keepR:∀ g cur,0<=g->blk W g=some (.cells cur 5)->g≠w.heap.size+1+1/\g≠w.heap.size+1+1+1:=fun g cur _ hg=>⟨fun e=>by subst e;rw [f2] at hg;simp at hg,fun e=>by subst e;rw [f3] at hg;simp at hg⟩
  refine ⟨s1,s1,?_,?_,?_,?_⟩
  ·simp [advC,advX,advG,xG,zac,hst,HA.out,hy]<;>first|rfl|(refine ⟨?_,?_⟩<;>rfl)
  ·have e1:advG c G l data=G:=by simp [advC,advX,advG,xG,zac,hst,HA.out,hy]
   rw [e1]
   refine Row.hi_mono (Row.keepT fr fun g cur hlo hhi hg=>?_) (by simp [size_setBlk])
   obtain ⟨n1,n2⟩:=keepR g cur (Nat.zero_le _) hg
   simp [go_sem,↓iteOmega, *]
  ·have e1:xG c G data=G:=by simp [advC,advX,advG,xG,zac,hst,HA.out,hy]
   rw [e1]
   refine Row.hi_mono (Row.keepT fr fun g cur hlo hhi hg=>?_) (by simp [size_setBlk])
   obtain ⟨n1,n2⟩:=keepR g cur (Nat.zero_le _) hg
   simp [go_sem,↓iteOmega, *]
  ·(repeat' (first|(with_reducible exact fB)|(with_reducible refine zae ?_ ?_)|(with_reducible refine Below.drew ?_)|omega))
theorem z28 (hst:zaj c=2) (ha:zfb c.cycle.kind=true) (hy:l.ready=true) :
  Calls prog 44 #[.agg c.cells,.agg l.cells,.int .u8 data] w (zb4 c G l data w):=by
 have HA:=hid ha
 go_enter func44,ntmps44
 go_wp2_with (first|(go_at_call 50;with_reducible refine Cbv (zbe _ _) ?_;intro w' hB hb1 hb2 hb3 hs;(try simp only [szs] at hs hb1 hb2 hb3))|(go_at_call 33;(refine (cloneB_any _ (hg.thru (bL:Below w.heap.size w _) nL) hG).mono ?_);intro e w' hcl;obtain ⟨s1,rfl,hrow,hB⟩:=hcl;obtain ⟨hb1,hb2,hb3⟩:=zdn hB;have hs:=hB.size;(try simp only [szs] at hs hb1 hb2 hb3);(try simp only [szs] at hrow))|(go_at_call 70;with_reducible refine Cbv (zbs _ _ _) ?_;intro w' hB hb1 hb2 hb3 hs;(try simp only [szs] at hs hb1 hb2 hb3);obtain ⟨xb,hxb⟩:∃ xb,w'.heap.size=xb:=⟨_,rfl⟩)|with_reducible refine Cpv (ze0 _ _) ?_)
 go_region
 all_goals go_wp2_with fail
 all_goals
  refine zej (fun W hW=>?_)
  have f0:blk W w.heap.size=some (.cells ({ c with cpu:=zam c.cpu l,got:=s1,next:=3,hold:=l.hold }:SCore).cells 45):=sR
  have f1:blk W (w.heap.size+1)=some (.cells l.cells 59):=sM
  have f2:blk W (w.heap.size+1+1)=some (.cells SCore.zero.cells 45):=sM
  have f3:blk W (w.heap.size+1+1+1)=some (.cells SChange.zero.cells 121):=sM
  have fx:blk W xb=some (.cells (SChange.mk false SCPU.zero ⟨none,0,0⟩ c.cycle (zam c.cpu l)).cells 121):=sR
  have fz:w.heap.size+1+1+1<xb/\xb<W.heap.size:=by
   refine ⟨oM,?_⟩
   rw [hW]
   (try simp only [szs] at *)
   omega
  have fB:Below w.heap.size w W:=by rw [hW];exact bL
  have fr:Row W w.heap.size W.heap.size 5 1 encB s1 G:=(((hrow.keepT (w':=W) fun g cur hlo hhi hg=>sM).lo_mono oM).hi_mono (by rw [hW];(try simp only [szs] at *);omega))
  clear hW
  obtain ⟨gc0,gf0,gz0⟩:=zaa f0
  obtain ⟨gcx,gfx,gzx⟩:=zaa fx
  obtain ⟨gc2,gf2,gz2⟩:=zaa f2
  obtain ⟨gc3,gf3,gz3⟩:=zaa f3
  go_region
  all_goals go_wp2_with fail
  all_goals
   refine zbl (n:=36) (n':=62) (v:=.agg ({ c with cpu:=zam c.cpu l,got:=s1,next:=3,hold:=l.hold }:SCore).cells) (u:=.agg (SChange.mk false SCPU.zero ⟨none,0,0⟩ c.cycle (zam c.cpu l)).cells) rfl kR kR kR kR rfl ?_ ?_ rfl ?_ ?_ rfl ?_
   all_goals (first|(simp [go_sem,↓iteOmega, *];done)|skip)
   have keepR:∀ g cur,0<=g->blk W g=some (.cells cur 5)->g≠w.heap.size+1+1/\g≠w.heap.size+1+1+1:=fun g cur _ hg=>⟨fun e=>by subst e;rw [f2] at hg;simp at hg,fun e=>by subst e;rw [f3] at hg;simp at hg⟩
   refine ⟨s1,s1,?_,?_,?_,?_⟩
   ·simp [advC,advX,advG,xG,zac,hst,HA.out,hy]<;>first|rfl|(refine ⟨?_,?_⟩<;>rfl)
   ·have e1:advG c G l data=G:=by simp [advC,advX,advG,xG,zac,hst,HA.out,hy]
    rw [e1]
    refine Row.hi_mono (Row.keepT fr fun g cur hlo hhi hg=>?_) (by simp [size_setBlk])
    obtain ⟨n1,n2⟩:=keepR g cur (Nat.zero_le _) hg
    simp [go_sem,↓iteOmega, *]
   ·have e1:xG c G data=G:=by simp [advC,advX,advG,xG,zac,hst,HA.out,hy]
    rw [e1]
    refine Row.hi_mono (Row.keepT fr fun g cur hlo hhi hg=>?_) (by simp [size_setBlk])
    obtain ⟨n1,n2⟩:=keepR g cur (Nat.zero_le _) hg
    simp [go_sem,↓iteOmega, *]
   ·(repeat' (first|(with_reducible exact fB)|(with_reducible refine zae ?_ ?_)|(with_reducible refine Below.drew ?_)|omega))
theorem z20 (hst:zaj c=7) (ha:zfb c.cycle.kind=true) (hy:l.ready=true) :
  Calls prog 44 #[.agg c.cells,.agg l.cells,.int .u8 data] w (zb4 c G l data w):=by
 have HA:=hid ha
 go_enter func44,ntmps44
 go_wp2_with (first|(go_at_call 50;with_reducible refine Cbv (zbe _ _) ?_;intro w' hB hb1 hb2 hb3 hs;(try simp only [szs] at hs hb1 hb2 hb3))|(go_at_call 33;(refine (cloneB_any _ (hg.thru (bL:Below w.heap.size w _) nL) hG).mono ?_);intro e w' hcl;obtain ⟨s1,rfl,hrow,hB⟩:=hcl;obtain ⟨hb1,hb2,hb3⟩:=zdn hB;have hs:=hB.size;(try simp only [szs] at hs hb1 hb2 hb3);(try simp only [szs] at hrow))|(go_at_call 70;with_reducible refine Cbv (zbs _ _ _) ?_;intro w' hB hb1 hb2 hb3 hs;(try simp only [szs] at hs hb1 hb2 hb3);obtain ⟨xb,hxb⟩:∃ xb,w'.heap.size=xb:=⟨_,rfl⟩)|with_reducible refine Cpv (ze0 _ _) ?_)
 go_region
 all_goals go_wp2_with fail
 all_goals
  refine zej (fun W hW=>?_)
  have f0:blk W w.heap.size=some (.cells ({ c with cpu:=zam c.cpu l,got:=s1,next:=3,hold:=l.hold }:SCore).cells 45):=sR
  have f1:blk W (w.heap.size+1)=some (.cells l.cells 59):=sM
  have f2:blk W (w.heap.size+1+1)=some (.cells SCore.zero.cells 45):=sM
  have f3:blk W (w.heap.size+1+1+1)=some (.cells SChange.zero.cells 121):=sM
  have fx:blk W xb=some (.cells (SChange.mk false SCPU.zero ⟨none,0,0⟩ c.cycle (zam c.cpu l)).cells 121):=sR
  have fz:w.heap.size+1+1+1<xb/\xb<W.heap.size:=by
   refine ⟨oM,?_⟩
   rw [hW]
   (try simp only [szs] at *)
   omega
  have fB:Below w.heap.size w W:=by rw [hW];exact bL
  have fr:Row W w.heap.size W.heap.size 5 1 encB s1 G:=(((hrow.keepT (w':=W) fun g cur hlo hhi hg=>sM).lo_mono oM).hi_mono (by rw [hW];(try simp only [szs] at *);omega))
  clear hW
  obtain ⟨gc0,gf0,gz0⟩:=zaa f0
  obtain ⟨gcx,gfx,gzx⟩:=zaa fx
  obtain ⟨gc2,gf2,gz2⟩:=zaa f2
  obtain ⟨gc3,gf3,gz3⟩:=zaa f3
  go_region
  all_goals go_wp2_with fail
  all_goals
   refine zbl (n:=36) (n':=62) (v:=.agg ({ c with cpu:=zam c.cpu l,got:=s1,next:=3,hold:=l.hold }:SCore).cells) (u:=.agg (SChange.mk false SCPU.zero ⟨none,0,0⟩ c.cycle (zam c.cpu l)).cells) rfl kR kR kR kR rfl ?_ ?_ rfl ?_ ?_ rfl ?_
   all_goals (first|(simp [go_sem,↓iteOmega, *];done)|skip)
   have keepR:∀ g cur,0<=g->blk W g=some (.cells cur 5)->g≠w.heap.size+1+1/\g≠w.heap.size+1+1+1:=fun g cur _ hg=>⟨fun e=>by subst e;rw [f2] at hg;simp at hg,fun e=>by subst e;rw [f3] at hg;simp at hg⟩
   refine ⟨s1,s1,?_,?_,?_,?_⟩
   ·simp [advC,advX,advG,xG,zac,hst,HA.out,hy]<;>first|rfl|(refine ⟨?_,?_⟩<;>rfl)
   ·have e1:advG c G l data=G:=by simp [advC,advX,advG,xG,zac,hst,HA.out,hy]
    rw [e1]
    refine Row.hi_mono (Row.keepT fr fun g cur hlo hhi hg=>?_) (by simp [size_setBlk])
    obtain ⟨n1,n2⟩:=keepR g cur (Nat.zero_le _) hg
    simp [go_sem,↓iteOmega, *]
   ·have e1:xG c G data=G:=by simp [advC,advX,advG,xG,zac,hst,HA.out,hy]
    rw [e1]
    refine Row.hi_mono (Row.keepT fr fun g cur hlo hhi hg=>?_) (by simp [size_setBlk])
    obtain ⟨n1,n2⟩:=keepR g cur (Nat.zero_le _) hg
    simp [go_sem,↓iteOmega, *]
   ·(repeat' (first|(with_reducible exact fB)|(with_reducible refine zae ?_ ?_)|(with_reducible refine Below.drew ?_)|omega))
theorem z27 (hst:zaj c=2) (ha:zfb c.cycle.kind=false) :
  Calls prog 44 #[.agg c.cells,.agg l.cells,.int .u8 data] w (zb4 c G l data w):=by
 have HA:=hid ha
 go_enter func44,ntmps44
 go_wp2_with (first|(go_at_call 50;with_reducible refine Cbv (zbe _ _) ?_;intro w' hB hb1 hb2 hb3 hs;(try simp only [szs] at hs hb1 hb2 hb3))|(go_at_call 33;(refine (cloneB_any _ (hg.thru (bL:Below w.heap.size w _) nL) hG).mono ?_);intro e w' hcl;obtain ⟨s1,rfl,hrow,hB⟩:=hcl;obtain ⟨hb1,hb2,hb3⟩:=zdn hB;have hs:=hB.size;(try simp only [szs] at hs hb1 hb2 hb3);(try simp only [szs] at hrow))|(go_at_call 70;with_reducible refine Cbv (zbs _ _ _) ?_;intro w' hB hb1 hb2 hb3 hs;(try simp only [szs] at hs hb1 hb2 hb3);obtain ⟨xb,hxb⟩:∃ xb,w'.heap.size=xb:=⟨_,rfl⟩)|with_reducible refine Cpv (ze0 _ _) ?_)
 go_region
 all_goals go_wp2_with fail
 all_goals
  refine zej (fun W hW=>?_)
  have f0:blk W w.heap.size=some (.cells ({ c with cpu:=zam c.cpu l,got:=s1,next:=3,hold:=l.hold }:SCore).cells 45):=sR
  have f1:blk W (w.heap.size+1)=some (.cells l.cells 59):=sM
  have f2:blk W (w.heap.size+1+1)=some (.cells SCore.zero.cells 45):=sM
  have f3:blk W (w.heap.size+1+1+1)=some (.cells SChange.zero.cells 121):=sM
  have fx:blk W xb=some (.cells (SChange.mk false SCPU.zero ⟨none,0,0⟩ c.cycle (zam c.cpu l)).cells 121):=sR
  have fz:w.heap.size+1+1+1<xb/\xb<W.heap.size:=by
   refine ⟨oM,?_⟩
   rw [hW]
   (try simp only [szs] at *)
   omega
  have fB:Below w.heap.size w W:=by rw [hW];exact bL
  have fr:Row W w.heap.size W.heap.size 5 1 encB s1 G:=(((hrow.keepT (w':=W) fun g cur hlo hhi hg=>sM).lo_mono oM).hi_mono (by rw [hW];(try simp only [szs] at *);omega))
  clear hW
  obtain ⟨gc0,gf0,gz0⟩:=zaa f0
  obtain ⟨gcx,gfx,gzx⟩:=zaa fx
  obtain ⟨gc2,gf2,gz2⟩:=zaa f2
  obtain ⟨gc3,gf3,gz3⟩:=zaa f3
  go_region
  all_goals go_wp2_with fail
  all_goals
   refine zbl (n:=36) (n':=62) (v:=.agg ({ c with cpu:=zam c.cpu l,got:=s1,next:=3,hold:=l.hold }:SCore).cells) (u:=.agg (SChange.mk false SCPU.zero ⟨none,0,0⟩ c.cycle (zam c.cpu l)).cells) rfl kR kR kR kR rfl ?_ ?_ rfl ?_ ?_ rfl ?_
   all_goals (first|(simp [go_sem,↓iteOmega, *];done)|skip)
   have keepR:∀ g cur,0<=g->blk W g=some (.cells cur 5)->g≠w.heap.size+1+1/\g≠w.heap.size+1+1+1:=fun g cur _ hg=>⟨fun e=>by subst e;rw [f2] at hg;simp at hg,fun e=>by subst e;rw [f3] at hg;simp at hg⟩
   refine ⟨s1,s1,?_,?_,?_,?_⟩
   ·simp [advC,advX,advG,xG,zac,hst,HA.out]<;>first|rfl|(refine ⟨?_,?_⟩<;>rfl)
   ·have e1:advG c G l data=G:=by simp [advC,advX,advG,xG,zac,hst,HA.out]
    rw [e1]
    refine Row.hi_mono (Row.keepT fr fun g cur hlo hhi hg=>?_) (by simp [size_setBlk])
    obtain ⟨n1,n2⟩:=keepR g cur (Nat.zero_le _) hg
    simp [go_sem,↓iteOmega, *]
   ·have e1:xG c G data=G:=by simp [advC,advX,advG,xG,zac,hst,HA.out]
    rw [e1]
    refine Row.hi_mono (Row.keepT fr fun g cur hlo hhi hg=>?_) (by simp [size_setBlk])
    obtain ⟨n1,n2⟩:=keepR g cur (Nat.zero_le _) hg
    simp [go_sem,↓iteOmega, *]
   ·(repeat' (first|(with_reducible exact fB)|(with_reducible refine zae ?_ ?_)|(with_reducible refine Below.drew ?_)|omega))
theorem z2z (hst:zaj c=7) (ha:zfb c.cycle.kind=false) :
  Calls prog 44 #[.agg c.cells,.agg l.cells,.int .u8 data] w (zb4 c G l data w):=by
 have HA:=hid ha
 go_enter func44,ntmps44
 go_wp2_with (first|(go_at_call 50;with_reducible refine Cbv (zbe _ _) ?_;intro w' hB hb1 hb2 hb3 hs;(try simp only [szs] at hs hb1 hb2 hb3))|(go_at_call 33;(refine (cloneB_any _ (hg.thru (bL:Below w.heap.size w _) nL) hG).mono ?_);intro e w' hcl;obtain ⟨s1,rfl,hrow,hB⟩:=hcl;obtain ⟨hb1,hb2,hb3⟩:=zdn hB;have hs:=hB.size;(try simp only [szs] at hs hb1 hb2 hb3);(try simp only [szs] at hrow))|(go_at_call 70;with_reducible refine Cbv (zbs _ _ _) ?_;intro w' hB hb1 hb2 hb3 hs;(try simp only [szs] at hs hb1 hb2 hb3);obtain ⟨xb,hxb⟩:∃ xb,w'.heap.size=xb:=⟨_,rfl⟩)|with_reducible refine Cpv (ze0 _ _) ?_)
 go_region
 all_goals go_wp2_with fail
 all_goals
  refine zej (fun W hW=>?_)
  have f0:blk W w.heap.size=some (.cells ({ c with cpu:=zam c.cpu l,got:=s1,next:=3,hold:=l.hold }:SCore).cells 45):=sR
  have f1:blk W (w.heap.size+1)=some (.cells l.cells 59):=sM
  have f2:blk W (w.heap.size+1+1)=some (.cells SCore.zero.cells 45):=sM
  have f3:blk W (w.heap.size+1+1+1)=some (.cells SChange.zero.cells 121):=sM
  have fx:blk W xb=some (.cells (SChange.mk false SCPU.zero ⟨none,0,0⟩ c.cycle (zam c.cpu l)).cells 121):=sR
  have fz:w.heap.size+1+1+1<xb/\xb<W.heap.size:=by
   refine ⟨oM,?_⟩
   rw [hW]
   (try simp only [szs] at *)
   omega
  have fB:Below w.heap.size w W:=by rw [hW];exact bL
  have fr:Row W w.heap.size W.heap.size 5 1 encB s1 G:=(((hrow.keepT (w':=W) fun g cur hlo hhi hg=>sM).lo_mono oM).hi_mono (by rw [hW];(try simp only [szs] at *);omega))
  clear hW
  obtain ⟨gc0,gf0,gz0⟩:=zaa f0
  obtain ⟨gcx,gfx,gzx⟩:=zaa fx
  obtain ⟨gc2,gf2,gz2⟩:=zaa f2
  obtain ⟨gc3,gf3,gz3⟩:=zaa f3
  go_region
  all_goals go_wp2_with fail
  all_goals
   refine zbl (n:=36) (n':=62) (v:=.agg ({ c with cpu:=zam c.cpu l,got:=s1,next:=3,hold:=l.hold }:SCore).cells) (u:=.agg (SChange.mk false SCPU.zero ⟨none,0,0⟩ c.cycle (zam c.cpu l)).cells) rfl kR kR kR kR rfl ?_ ?_ rfl ?_ ?_ rfl ?_
   all_goals (first|(simp [go_sem,↓iteOmega, *];done)|skip)
   have keepR:∀ g cur,0<=g->blk W g=some (.cells cur 5)->g≠w.heap.size+1+1/\g≠w.heap.size+1+1+1:=fun g cur _ hg=>⟨fun e=>by subst e;rw [f2] at hg;simp at hg,fun e=>by subst e;rw [f3] at hg;simp at hg⟩
   refine ⟨s1,s1,?_,?_,?_,?_⟩
   ·simp [advC,advX,advG,xG,zac,hst,HA.out]<;>first|rfl|(refine ⟨?_,?_⟩<;>rfl)
   ·have e1:advG c G l data=G:=by simp [advC,advX,advG,xG,zac,hst,HA.out]
    rw [e1]
    refine Row.hi_mono (Row.keepT fr fun g cur hlo hhi hg=>?_) (by simp [size_setBlk])
    obtain ⟨n1,n2⟩:=keepR g cur (Nat.zero_le _) hg
    simp [go_sem,↓iteOmega, *]
   ·have e1:xG c G data=G:=by simp [advC,advX,advG,xG,zac,hst,HA.out]
    rw [e1]
    refine Row.hi_mono (Row.keepT fr fun g cur hlo hhi hg=>?_) (by simp [size_setBlk])
    obtain ⟨n1,n2⟩:=keepR g cur (Nat.zero_le _) hg
    simp [go_sem,↓iteOmega, *]
   ·(repeat' (first|(with_reducible exact fB)|(with_reducible refine zae ?_ ?_)|(with_reducible refine Below.drew ?_)|omega))
end

end
section
open Go.RowKit
theorem adv_8 (c:SCore) (G:List Int) (l:SLines) (data:Int) (w:World) (hg:Row w 0 w.heap.size 5 1 encB c.got G) (hG:G.length<=1000000) (hgb:∀ y ∈ G,0<=y/\y<=255) (hr:c.cpu.regs.Ok) (hd:0<=data/\data<=255) (hst:zaj c=8) :
  Calls prog 44 #[.agg c.cells,.agg l.cells,.int .u8 data] w (zb4 c G l data w):=by
 go_enter func44,ntmps44
 go_wp2_with (first|(go_at_call 50;with_reducible refine Cbv (zbe _ _) ?_;intro w' hB hb1 hb2 hb3 hs;(try simp only [szs] at hs hb1 hb2 hb3))|(go_at_call 33;(refine (cloneB_any _ (hg.thru (bL:Below w.heap.size w _) nL) hG).mono ?_);intro e w' hcl;obtain ⟨s1,rfl,hrow,hB⟩:=hcl;obtain ⟨hb1,hb2,hb3⟩:=zdn hB;have hs:=hB.size;(try simp only [szs] at hs hb1 hb2 hb3);(try simp only [szs] at hrow))|(go_at_call 70;with_reducible refine Cbv (zbs _ _ _) ?_;intro w' hB hb1 hb2 hb3 hs;(try simp only [szs] at hs hb1 hb2 hb3);obtain ⟨xb,hxb⟩:∃ xb,w'.heap.size=xb:=⟨_,rfl⟩)|(go_at_call 74;with_reducible refine Cbv (zki _ _ _) ?_;intro w' hB hb1 hb2 hb3 hs;(try simp only [szs] at hs hb1 hb2 hb3)))
 refine zej (fun W hW=>?_)
 have f0:blk W w.heap.size=some (.cells ({ c with cpu:=zam c.cpu l,got:=s1,next:=zik (zac c l) l.hold }:SCore).cells 45):=sR
 have f1:blk W (w.heap.size+1)=some (.cells l.cells 59):=sM
 have f2:blk W (w.heap.size+1+1)=some (.cells SCore.zero.cells 45):=sM
 have f3:blk W (w.heap.size+1+1+1)=some (.cells SChange.zero.cells 121):=sM
 have fx:blk W xb=some (.cells (SChange.mk false SCPU.zero ⟨none,0,0⟩ c.cycle (zam c.cpu l)).cells 121):=sR
 have fz:w.heap.size+1+1+1<xb/\xb<W.heap.size:=by
  refine ⟨oM,?_⟩
  rw [hW]
  (try simp only [szs] at *)
  omega
 have fB:Below w.heap.size w W:=by rw [hW];exact bL
 have fr:Row W w.heap.size W.heap.size 5 1 encB s1 G:=(((hrow.keepT (w':=W) fun g cur hlo hhi hg=>sM).lo_mono oM).hi_mono (by rw [hW];(try simp only [szs] at *);omega))
 clear hW
 obtain ⟨gc0,gf0,gz0⟩:=zaa f0
 obtain ⟨gcx,gfx,gzx⟩:=zaa fx
 obtain ⟨gc2,gf2,gz2⟩:=zaa f2
 obtain ⟨gc3,gf3,gz3⟩:=zaa f3
 go_region
 all_goals go_wp2_with fail
 all_goals
  refine zbl (n:=36) (n':=62) (v:=.agg ({ c with cpu:=zam c.cpu l,got:=s1,next:=zik (zac c l) l.hold }:SCore).cells) (u:=.agg (SChange.mk false SCPU.zero ⟨none,0,0⟩ c.cycle (zam c.cpu l)).cells) rfl kR kR kR kR rfl ?_ ?_ rfl ?_ ?_ rfl ?_
  all_goals (first|(simp [go_sem,↓iteOmega, *];done)|skip)
  have keepR:∀ g cur,0<=g->blk W g=some (.cells cur 5)->g≠w.heap.size+1+1/\g≠w.heap.size+1+1+1:=fun g cur _ hg=>⟨fun e=>by subst e;rw [f2] at hg;simp at hg,fun e=>by subst e;rw [f3] at hg;simp at hg⟩
  refine ⟨s1,s1,?_,?_,?_,?_⟩
  ·simp [advC,advX,advG,xG,zac,hst]<;>first|rfl|(refine ⟨?_,?_⟩<;>rfl)
  ·have e1:advG c G l data=G:=by simp [advC,advX,advG,xG,zac,hst]
   rw [e1]
   refine Row.hi_mono (Row.keepT fr fun g cur hlo hhi hg=>?_) (by simp [size_setBlk])
   obtain ⟨n1,n2⟩:=keepR g cur (Nat.zero_le _) hg
   simp [go_sem,↓iteOmega, *]
  ·have e1:xG c G data=G:=by simp [advC,advX,advG,xG,zac,hst]
   rw [e1]
   refine Row.hi_mono (Row.keepT fr fun g cur hlo hhi hg=>?_) (by simp [size_setBlk])
   obtain ⟨n1,n2⟩:=keepR g cur (Nat.zero_le _) hg
   simp [go_sem,↓iteOmega, *]
  ·(repeat' (first|(with_reducible exact fB)|(with_reducible refine zae ?_ ?_)|(with_reducible refine Below.drew ?_)|omega))
end
end Go.Proofs.YtlmbamdkklkliaaGreat
