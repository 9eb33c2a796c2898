/- Part of the proof that a law holds at every input. No conditions. -/
import Derived.Deep.DeepCutAuto
import Derived.Deep.DrawnRows
import Derived.Deep.RegionLaw
import Derived.RegionTactic
import Derived.Test.YtlmbamdkklkliaaGreatK25
namespace Go.Proofs.YtlmbamdkklkliaaGreat
set_option linter.unusedVariables false
set_option linter.unusedSimpArgs false
set_option linter.unusedSectionVars false
set_option maxRecDepth 100000
set_option maxHeartbeats 16000000
open Go.Proofs.Tryz
open Lib (hid)
open Go.IntWalk (iteOmega)
section
open Go.RowKit
attribute [local go_sem ↓] Go.wp_at_zero Go.wp_at_succ
theorem zoi (c:SCPU) (j:Bool) (i:SInstr) (g g' s s':Sl) (n:Nat):zbf ⟨c,j,g,i,s⟩ n=zbf ⟨c,j,g',i,s'⟩ n:=by
 induction n with
 | zero=>rfl
 | succ n ih=>simp only [zbf,ih];rfl
theorem zzh (c:SCPU) (j:Bool) (i:SInstr) (g g' s s':Sl) (n:Nat):zf9 ⟨c,j,g,i,s⟩ n=zf9 ⟨c,j,g',i,s'⟩ n:=by
 induction n with
 | zero=>rfl
 | succ n ih=>simp only [zf9,ih]
theorem zzw (c:SCPU) (j:Bool) (i:SInstr) (g g' s s':Sl) (G:List Int):zcl ⟨c,j,g,i,s⟩ G=zcl ⟨c,j,g',i,s'⟩ G:=by
 unfold zcl zgb zcq zhr
 simp only [zoi c j i g g' s s',zzh c j i g g' s s']
 rfl
section
variable (c:SCPU) (source:Int) (sg:Sl) (G:List Int) (w:World) (hg:Row w 0 w.heap.size 5 1 encB sg G) (hG:G.length<=1000000) (hgb:∀ x ∈ G,0<=x/\x<=255) (hr:c.regs.Ok)
include c source sg G w hg hG hgb hr
theorem z1t (hi:zdo source=true) :
  Calls prog 93 #[.agg c.cells,.int .i64 source,.slice sg.p sg.n sg.c] w fun e w'=>e=.returned (.tuple #[.agg (zdb c source G).cells,.bool (zb9 c source G)])/\Below w.heap.size w w':=by
 have HGN:=hid hg.len
 go_enter func93,ntmps93
 go_wp2_with fail
 refine (zfm c source sg G _ ((hg.thru (w':=(w.alloc (.cells c.cells 41)).alloc (.cells SCycle.zero.cells 43)) (((Below.refl _ _).alloc nL _).alloc sI _) nL).hi_mono sO) hG hgb).mono ?_
 intro e w1 hpl
 obtain ⟨b,rfl,hP,hB⟩:=hpl.elim
 clear hpl
 obtain ⟨hb1,hb2,hb3⟩:=zdn hB
 have hs:=hB.size
 (try simp only [szs] at hs hb1 hb2 hb3)
 obtain ⟨hcl,hfr,hlt⟩:=zaa hP.at_
 have hat:=hP.at_
 have hgn:=HGN.out
 go_wp2_with (first|with_reducible refine Cpv (zd6 _ _) ?_)
 have hPd:=hP.thru ((Below.refl _ _).alloc nL (.cells (⟨12,c.regs.pc,0,6⟩:SCycle).cells 43))
 have hF:blk (w1.alloc (.cells (⟨12,c.regs.pc,0,6⟩:SCycle).cells 43)) w1.heap.size=some (.cells (⟨12,c.regs.pc,0,6⟩:SCycle).cells 43):=zab _ _ _ rfl
 have hsz1:(w1.alloc (.cells (⟨12,c.regs.pc,0,6⟩:SCycle).cells 43)).heap.size=w1.heap.size+1:=World.size_alloc _ _
 have hBd:Below w1.heap.size w1 (w1.alloc (.cells (⟨12,c.regs.pc,0,6⟩:SCycle).cells 43)):=(Below.refl _ _).alloc nL _
 change Code.wp _ _ _ _ (w1.alloc (.cells (⟨12,c.regs.pc,0,6⟩:SCycle).cells 43))
 generalize w1.alloc (.cells (⟨12,c.regs.pc,0,6⟩:SCycle).cells 43)=W1 at hPd hF hsz1 hBd ⊢
 obtain ⟨hclW,hfrW,hltW⟩:=zaa hPd.at_
 have hatW:=hPd.at_
 obtain ⟨hclF,hfrF,hltF⟩:=zaa hF
 have hPdd:=hPd.drew
 have hC1:blk w1 w.heap.size=some (.cells c.cells 41):=(hB.block w.heap.size sO).trans ((blk_alloc_past _ _ _ sI).trans (zab _ _ _ rfl))
 have hCW:blk W1 w.heap.size=some (.cells c.cells 41):=(hBd.block w.heap.size oM).trans hC1
 have hbW:b≠W1.heap.size:=Nat.ne_of_lt hltW
 clear hsz1
 go_cut [] (fun wx=>∃ s':Sl,PlanAt ((w.alloc (.cells c.cells 41)).alloc (.cells SCycle.zero.cells 43)).heap.size b ⟨c,source==5,sg,zb7 c.chip (gAt G 0),s'⟩ G [(⟨12,c.regs.pc,0,6⟩:SCycle)] wx/\Below ((w.alloc (.cells c.cells 41)).alloc (.cells SCycle.zero.cells 43)).heap.size W1 wx)
 case first=>
  go_region_law ((refine zbr rfl _ _ 196 (by rfl) (hPdd.thru ((Below.refl _ _).alloc nL _)).cyc (fun _=>rfl) SCycle.one oM zko (by rfl) [(⟨12,c.regs.pc,0,6⟩:SCycle)] W1.heap.size (⟨12,c.regs.pc,0,6⟩:SCycle).cells 43 1 1 (by rfl) (zab _ _ _ rfl) (by simp [encL]) rfl oM sI (by have:=hPd.n0_le;simp only [World.size_alloc,World.size_drew] at this ⊢;omega) ?_;intro s' w2 hrow hgr;have hat1:=hgr.kept b _ _ dC ((blk_alloc_past _ b _ hltW).trans ((zjp _ b).trans hatW));obtain ⟨hcl1,hfr1,hlt1⟩:=zaa hat1))
  all_goals go_wp2_with fail
  all_goals
   go_meet
   have hBe:Below ((w.alloc (.cells c.cells 41)).alloc (.cells SCycle.zero.cells 43)).heap.size W1 w2:=((((Below.refl _ W1).drew).alloc (by have:=hPd.n0_le;simpa using this) _).trans hgr.below)
   have hBf:=zae (A:=(SPlan.mk c (source==5) sg (zb7 c.chip (gAt G 0)) s').cells) (t:=198) hBe hP.lo
   exact ⟨s',⟨blk_setBlk_same _ _ _ _ hlt1,hP.lo,hPd.got.thru hBf nL,by rw [size_setBlk];exact hrow.set hat1 dC⟩,hBf⟩
 obtain ⟨s',hP2,hB2⟩:=hcut
 have hBK:=(hB.trans (hBd.mono (by have:=hP.n0_le;simpa using this))).trans hB2
 have hC2:=(hB2.block w.heap.size sO).trans hCW
 obtain ⟨hclc,hfrc,hltc⟩:=zaa hC2
 obtain ⟨hcl2,hfr2,hlt2⟩:=zaa hP2.at_
 have hat2:=hP2.at_
 clear hB2 hCW hC1 hclF hfrF hF hclW hfrW hatW hbW hPd hPdd hBd hat hcl hfr hb1 hb2 hb3
 go_wp2_with fail
 refine (zhi _ hP2 c.regs.pc sI hr.pc).mono ?_
 rintro e w3 ⟨rfl,hB3,s3,hP3⟩
 obtain ⟨hcl3,hfr3,hlt3⟩:=zaa hP3.at_
 have hat3:=hP3.at_
 replace hBK:=hBK.trans hB3
 obtain ⟨CC,hCC⟩:∃ CC,[(⟨12,c.regs.pc,0,6⟩:SCycle)]++zic ⟨c,source==5,sg,zb7 c.chip (gAt G 0),s'⟩ c.regs.pc=CC:=⟨_,rfl⟩
 rw [hCC] at hP3
 have hCM:zdz c source G=CC:=by rw [<- hCC];unfold zdz;rw [if_pos hi];rfl
 clear hCC
 have hres:blk _ (w.heap.size+1)=some (.cells SCycle.zero.cells 43):=(hBK.block (w.heap.size+1) sI).trans (zab _ _ _ sI)
 have hlen:=hP3.cyc.len
 have hltK:=hP3.lt
 have hn2:=hP3.n0_le
 (try simp only [World.size_alloc] at hn2)
 have HCM:=hid hCM
 by_cases hlt':G.length<CC.length
 ·obtain ⟨g,hp,hlo,hhi,hsz,hok,hval⟩:=hP3.cyc.elem (fun _=>rfl) G.length hlt'
  have hnm:zdb c source G=CC[G.length]:=by unfold zdb;rw [HCM.out];simp [hlt']
  have hmm:zb9 c source G=true:=by unfold zb9;rw [HCM.out];simp [hlt']
  have HN:=hid hnm
  have HM:=hid hmm
  clear hnm hmm
  go_wp2_with fail
  refine za1 (n:=4) (v:=.agg (zdb c source G).cells) (u:=.bool (zb9 c source G)) rfl kR kR ?_ rfl ?_ ?_ rfl ⟨rfl,?_⟩
  all_goals (first|(simp [go_sem,↓iteOmega,HN.out,HM.out, *];done)|exact zae (((((Below.refl _ _).alloc nL _).alloc sI _).trans (hBK.mono sO))) oM)
 ·have hnm:zdb c source G=SCycle.zero:=by unfold zdb;rw [HCM.out];simp [Nat.not_lt.1 hlt']
  have hmm:zb9 c source G=false:=by unfold zb9;rw [HCM.out];simp [Nat.not_lt.1 hlt']
  have HN:=hid hnm
  have HM:=hid hmm
  clear hnm hmm
  go_wp2_with fail
  refine za1 (n:=4) (v:=.agg (zdb c source G).cells) (u:=.bool (zb9 c source G)) rfl kR kR ?_ rfl ?_ ?_ rfl ⟨rfl,?_⟩
  all_goals (first|(simp [go_sem,↓iteOmega,HN.out,HM.out, *];done)|exact zae (((((Below.refl _ _).alloc nL _).alloc sI _).trans (hBK.mono sO))) oM)
theorem z1s (hi:zdo source=false) (hz:0<G.length) :
  Calls prog 93 #[.agg c.cells,.int .i64 source,.slice sg.p sg.n sg.c] w fun e w'=>e=.returned (.tuple #[.agg (zdb c source G).cells,.bool (zb9 c source G)])/\Below w.heap.size w w':=by
 have HGN:=hid hg.len
 go_enter func93,ntmps93
 go_wp2_with fail
 refine (zfm c source sg G _ ((hg.thru (w':=(w.alloc (.cells c.cells 41)).alloc (.cells SCycle.zero.cells 43)) (((Below.refl _ _).alloc nL _).alloc sI _) nL).hi_mono sO) hG hgb).mono ?_
 intro e w1 hpl
 obtain ⟨b,rfl,hP,hB⟩:=hpl.elim
 clear hpl
 obtain ⟨hb1,hb2,hb3⟩:=zdn hB
 have hs:=hB.size
 (try simp only [szs] at hs hb1 hb2 hb3)
 obtain ⟨hcl,hfr,hlt⟩:=zaa hP.at_
 have hat:=hP.at_
 have hgn:=HGN.out
 go_wp2_with (first|with_reducible refine Cpv (zd6 _ _) ?_)
 have hPd:=hP.thru ((Below.refl _ _).alloc nL (.cells (⟨1,c.regs.pc,0,4⟩:SCycle).cells 43))
 have hF:blk (w1.alloc (.cells (⟨1,c.regs.pc,0,4⟩:SCycle).cells 43)) w1.heap.size=some (.cells (⟨1,c.regs.pc,0,4⟩:SCycle).cells 43):=zab _ _ _ rfl
 have hsz1:(w1.alloc (.cells (⟨1,c.regs.pc,0,4⟩:SCycle).cells 43)).heap.size=w1.heap.size+1:=World.size_alloc _ _
 have hBd:Below w1.heap.size w1 (w1.alloc (.cells (⟨1,c.regs.pc,0,4⟩:SCycle).cells 43)):=(Below.refl _ _).alloc nL _
 change Code.wp _ _ _ _ (w1.alloc (.cells (⟨1,c.regs.pc,0,4⟩:SCycle).cells 43))
 generalize w1.alloc (.cells (⟨1,c.regs.pc,0,4⟩:SCycle).cells 43)=W1 at hPd hF hsz1 hBd ⊢
 obtain ⟨hclW,hfrW,hltW⟩:=zaa hPd.at_
 have hatW:=hPd.at_
 obtain ⟨hclF,hfrF,hltF⟩:=zaa hF
 have hPdd:=hPd.drew
 have hC1:blk w1 w.heap.size=some (.cells c.cells 41):=(hB.block w.heap.size sO).trans ((blk_alloc_past _ _ _ sI).trans (zab _ _ _ rfl))
 have hCW:blk W1 w.heap.size=some (.cells c.cells 41):=(hBd.block w.heap.size oM).trans hC1
 have hbW:b≠W1.heap.size:=Nat.ne_of_lt hltW
 clear hsz1
 go_cut [50] (fun s50 wx=>∃ s':Sl,PlanAt ((w.alloc (.cells c.cells 41)).alloc (.cells SCycle.zero.cells 43)).heap.size b ⟨c,source==5,sg,zb7 c.chip (gAt G 0),s'⟩ G [(⟨1,c.regs.pc,0,4⟩:SCycle)] wx/\Below ((w.alloc (.cells c.cells 41)).alloc (.cells SCycle.zero.cells 43)).heap.size W1 wx)
 case first=>
  go_region_law ((refine zbr rfl _ _ 196 (by rfl) (hPdd.thru ((Below.refl _ _).alloc nL _)).cyc (fun _=>rfl) SCycle.one oM zko (by rfl) [(⟨1,c.regs.pc,0,4⟩:SCycle)] W1.heap.size (⟨1,c.regs.pc,0,4⟩:SCycle).cells 43 1 1 (by rfl) (zab _ _ _ rfl) (by simp [encL]) rfl oM sI (by have:=hPd.n0_le;simp only [World.size_alloc,World.size_drew] at this ⊢;omega) ?_;intro s' w2 hrow hgr;have hat1:=hgr.kept b _ _ dC ((blk_alloc_past _ b _ hltW).trans ((zjp _ b).trans hatW));obtain ⟨hcl1,hfr1,hlt1⟩:=zaa hat1))
  all_goals go_wp2_with fail
  all_goals
   go_meet
   have hBe:Below ((w.alloc (.cells c.cells 41)).alloc (.cells SCycle.zero.cells 43)).heap.size W1 w2:=((((Below.refl _ W1).drew).alloc (by have:=hPd.n0_le;simpa using this) _).trans hgr.below)
   have hBf:=zae (A:=(SPlan.mk c (source==5) sg (zb7 c.chip (gAt G 0)) s').cells) (t:=198) hBe hP.lo
   exact ⟨s',⟨blk_setBlk_same _ _ _ _ hlt1,hP.lo,hPd.got.thru hBf nL,by rw [size_setBlk];exact hrow.set hat1 dC⟩,hBf⟩
 obtain ⟨s',hP2,hB2⟩:=hcut
 have hBK:=(hB.trans (hBd.mono (by have:=hP.n0_le;simpa using this))).trans hB2
 have hC2:=(hB2.block w.heap.size sO).trans hCW
 obtain ⟨hclc,hfrc,hltc⟩:=zaa hC2
 obtain ⟨hcl2,hfr2,hlt2⟩:=zaa hP2.at_
 have hat2:=hP2.at_
 clear hB2 hCW hC1 hclF hfrF hF hclW hfrW hatW hbW hPd hPdd hBd hat hcl hfr hb1 hb2 hb3
 go_wp2_with fail
 refine (zwi _ hP2 sI hr hG hgb).mono ?_
 rintro e w3 ⟨rfl,hB3,s3,hP3⟩
 obtain ⟨hcl3,hfr3,hlt3⟩:=zaa hP3.at_
 have hat3:=hP3.at_
 replace hBK:=hBK.trans hB3
 obtain ⟨CC,hCC⟩:∃ CC,[(⟨1,c.regs.pc,0,4⟩:SCycle)]++zcl ⟨c,source==5,sg,zb7 c.chip (gAt G 0),s'⟩ G=CC:=⟨_,rfl⟩
 rw [hCC] at hP3
 have hCM:zdz c source G=CC:=by rw [<- hCC];unfold zdz;rw [if_neg (by rw [hi];simp),if_neg oM];unfold zi0;rw [zzw c (source==5) _ sg ⟨none,0,0⟩ s' ⟨none,0,0⟩];rfl
 clear hCC
 have hres:blk _ (w.heap.size+1)=some (.cells SCycle.zero.cells 43):=(hBK.block (w.heap.size+1) sI).trans (zab _ _ _ sI)
 have hlen:=hP3.cyc.len
 have hltK:=hP3.lt
 have hn2:=hP3.n0_le
 (try simp only [World.size_alloc] at hn2)
 have HCM:=hid hCM
 by_cases hlt':G.length<CC.length
 ·obtain ⟨g,hp,hlo,hhi,hsz,hok,hval⟩:=hP3.cyc.elem (fun _=>rfl) G.length hlt'
  have hnm:zdb c source G=CC[G.length]:=by unfold zdb;rw [HCM.out];simp [hlt']
  have hmm:zb9 c source G=true:=by unfold zb9;rw [HCM.out];simp [hlt']
  have HN:=hid hnm
  have HM:=hid hmm
  clear hnm hmm
  go_wp2_with fail
  refine za1 (n:=4) (v:=.agg (zdb c source G).cells) (u:=.bool (zb9 c source G)) rfl kR kR ?_ rfl ?_ ?_ rfl ⟨rfl,?_⟩
  all_goals (first|(simp [go_sem,↓iteOmega,HN.out,HM.out, *];done)|exact zae (((((Below.refl _ _).alloc nL _).alloc sI _).trans (hBK.mono sO))) oM)
 ·have hnm:zdb c source G=SCycle.zero:=by unfold zdb;rw [HCM.out];simp [Nat.not_lt.1 hlt']
  have hmm:zb9 c source G=false:=by unfold zb9;rw [HCM.out];simp [Nat.not_lt.1 hlt']
  have HN:=hid hnm
  have HM:=hid hmm
  clear hnm hmm
  go_wp2_with fail
  refine za1 (n:=4) (v:=.agg (zdb c source G).cells) (u:=.bool (zb9 c source G)) rfl kR kR ?_ rfl ?_ ?_ rfl ⟨rfl,?_⟩
  all_goals (first|(simp [go_sem,↓iteOmega,HN.out,HM.out, *];done)|exact zae (((((Below.refl _ _).alloc nL _).alloc sI _).trans (hBK.mono sO))) oM)
end

end
section
open Go.RowKit
attribute [local go_sem ↓] Go.wp_at_zero Go.wp_at_succ
section
variable (c:SCPU) (source:Int) (sg:Sl) (w:World) (hg:Row w 0 w.heap.size 5 1 encB sg ([]:List Int)) (hr:c.regs.Ok) (hi:zdo source=false)
include c source sg w hg hr hi
theorem zyw (h5:source=5) :
  Calls prog 93 #[.agg c.cells,.int .i64 source,.slice sg.p sg.n sg.c] w fun e w'=>e=.returned (.tuple #[.agg (zdb c source []).cells,.bool (zb9 c source [])])/\Below w.heap.size w w':=by
 have HGN:=hid (show sg.n=0 from hg.len)
 have hG:([]:List Int).length<=1000000:=by simp
 have hgb:∀ x ∈ ([]:List Int),0<=x/\x<=255:=by simp
 have h5b:(source==5)=true:=beq_iff_eq.2 h5
 have HZ:=hid h5
 clear h5
 go_enter func93,ntmps93
 go_wp2_with fail
 refine (zfm c source sg [] _ ((hg.thru (w':=(w.alloc (.cells c.cells 41)).alloc (.cells SCycle.zero.cells 43)) (((Below.refl _ _).alloc nL _).alloc sI _) nL).hi_mono sO) hG hgb).mono ?_
 intro e w1 hpl
 obtain ⟨b,rfl,hP,hB⟩:=hpl.elim
 clear hpl
 obtain ⟨hb1,hb2,hb3⟩:=zdn hB
 have hs:=hB.size
 (try simp only [szs] at hs hb1 hb2 hb3)
 obtain ⟨hcl,hfr,hlt⟩:=zaa hP.at_
 have hat:=hP.at_
 have hgn:=HGN.out
 go_wp2_with (first|with_reducible refine Cpv (zd6 _ _) ?_)
 have hPd:=hP.thru ((Below.refl _ _).alloc nL (.cells (⟨8,c.regs.pc,0,4⟩:SCycle).cells 43))
 have hF:blk (w1.alloc (.cells (⟨8,c.regs.pc,0,4⟩:SCycle).cells 43)) w1.heap.size=some (.cells (⟨8,c.regs.pc,0,4⟩:SCycle).cells 43):=zab _ _ _ rfl
 have hsz1:(w1.alloc (.cells (⟨8,c.regs.pc,0,4⟩:SCycle).cells 43)).heap.size=w1.heap.size+1:=World.size_alloc _ _
 have hBd:Below w1.heap.size w1 (w1.alloc (.cells (⟨8,c.regs.pc,0,4⟩:SCycle).cells 43)):=(Below.refl _ _).alloc nL _
 change Code.wp _ _ _ _ (w1.alloc (.cells (⟨8,c.regs.pc,0,4⟩:SCycle).cells 43))
 generalize w1.alloc (.cells (⟨8,c.regs.pc,0,4⟩:SCycle).cells 43)=W1 at hPd hF hsz1 hBd ⊢
 obtain ⟨hclW,hfrW,hltW⟩:=zaa hPd.at_
 have hatW:=hPd.at_
 obtain ⟨hclF,hfrF,hltF⟩:=zaa hF
 have hPdd:=hPd.drew
 have hC1:blk w1 w.heap.size=some (.cells c.cells 41):=(hB.block w.heap.size sO).trans ((blk_alloc_past _ _ _ sI).trans (zab _ _ _ rfl))
 have hCW:blk W1 w.heap.size=some (.cells c.cells 41):=(hBd.block w.heap.size oM).trans hC1
 have hbW:b≠W1.heap.size:=Nat.ne_of_lt hltW
 clear hsz1
 go_region_law ((refine zbr rfl _ _ 196 (by rfl) (hPdd.thru ((Below.refl _ _).alloc nL _)).cyc (fun _=>rfl) SCycle.one oM zko (by rfl) [(⟨8,c.regs.pc,0,4⟩:SCycle)] W1.heap.size (⟨8,c.regs.pc,0,4⟩:SCycle).cells 43 1 1 (by rfl) (zab _ _ _ rfl) (by simp [encL]) rfl oM sI (by have:=hPd.n0_le;simp only [World.size_alloc,World.size_drew] at this ⊢;omega) ?_;intro s' w2 hrow hgr;have hat1:=hgr.kept b _ _ dC ((blk_alloc_past _ b _ hltW).trans ((zjp _ b).trans hatW));obtain ⟨hcl1,hfr1,hlt1⟩:=zaa hat1))
 all_goals
  have hBe:Below ((w.alloc (.cells c.cells 41)).alloc (.cells SCycle.zero.cells 43)).heap.size W1 w2:=((((Below.refl _ W1).drew).alloc (by have:=hPd.n0_le;simpa using this) _).trans hgr.below)
  have hBf:=zae (A:=(SPlan.mk c (source==5) sg (zb7 c.chip (gAt [] 0)) s').cells) (t:=198) hBe hP.lo
  obtain ⟨hP2,hB2⟩:=(show PlanAt ((w.alloc (.cells c.cells 41)).alloc (.cells SCycle.zero.cells 43)).heap.size b ⟨c,source==5,sg,zb7 c.chip (gAt [] 0),s'⟩ [] [(⟨8,c.regs.pc,0,4⟩:SCycle)] _/\_ from ⟨⟨blk_setBlk_same _ _ _ _ hlt1,hP.lo,hPd.got.thru hBf nL,by rw [size_setBlk];exact hrow.set hat1 dC⟩,hBf⟩)
  try simp only [h5b] at hP2 hB2
  generalize hWX:zai w2 b _=wx at hP2 hB2 ⊢
  clear hWX
  have hBK:=(hB.trans (hBd.mono (by have:=hP.n0_le;simpa using this))).trans hB2
  have hC2:=(hB2.block w.heap.size sO).trans hCW
  obtain ⟨hclc,hfrc,hltc⟩:=zaa hC2
  obtain ⟨hcl2,hfr2,hlt2⟩:=zaa hP2.at_
  have hat2:=hP2.at_
  clear hB2 hCW hC1 hclF hfrF hF hclW hfrW hatW hbW hPd hPdd hBd hat hcl hfr hb1 hb2 hb3
  have hres:blk _ (w.heap.size+1)=some (.cells SCycle.zero.cells 43):=(hBK.block (w.heap.size+1) sI).trans (zab _ _ _ sI)
  have hlen:s'.n=1:=hP2.cyc.len
  have hltK:=hP2.lt
  have hn2:=hP2.n0_le
  (try simp only [World.size_alloc] at hn2)
  obtain ⟨g,hp,hlo,hhi,hsz,hok,hval⟩:=hP2.cyc.elem (fun _=>rfl) 0 sI
  simp only [Nat.zero_mul,List.getElem_cons_zero] at hok hval
  have hCM:zdz c source []=[(⟨8,c.regs.pc,0,4⟩:SCycle)]:=by unfold zdz;rw [if_neg (by rw [hi];simp),if_pos sI,if_pos HZ.out]
  have HN:=hid (show zdb c source []=⟨8,c.regs.pc,0,4⟩ by unfold zdb;rw [hCM];rfl)
  have HM:=hid (show zb9 c source []=true by unfold zb9;rw [hCM];rfl)
  clear hCM
  go_wp2_with fail
  refine za1 (n:=4) (v:=.agg (zdb c source []).cells) (u:=.bool (zb9 c source [])) rfl kR kR ?_ rfl ?_ ?_ rfl ⟨rfl,?_⟩
  all_goals (first|(simp [go_sem,↓iteOmega,HN.out,HM.out, *];done)|exact zae (((((Below.refl _ _).alloc nL _).alloc sI _).trans (hBK.mono sO))) oM)
theorem zyv (h5:(source==5)=false) :
  Calls prog 93 #[.agg c.cells,.int .i64 source,.slice sg.p sg.n sg.c] w fun e w'=>e=.returned (.tuple #[.agg (zdb c source []).cells,.bool (zb9 c source [])])/\Below w.heap.size w w':=by
 have HGN:=hid (show sg.n=0 from hg.len)
 have hG:([]:List Int).length<=1000000:=by simp
 have hgb:∀ x ∈ ([]:List Int),0<=x/\x<=255:=by simp
 go_enter func93,ntmps93
 go_wp2_with fail
 refine (zfm c source sg [] _ ((hg.thru (w':=(w.alloc (.cells c.cells 41)).alloc (.cells SCycle.zero.cells 43)) (((Below.refl _ _).alloc nL _).alloc sI _) nL).hi_mono sO) hG hgb).mono ?_
 intro e w1 hpl
 obtain ⟨b,rfl,hP,hB⟩:=hpl.elim
 clear hpl
 obtain ⟨hb1,hb2,hb3⟩:=zdn hB
 have hs:=hB.size
 (try simp only [szs] at hs hb1 hb2 hb3)
 obtain ⟨hcl,hfr,hlt⟩:=zaa hP.at_
 have hat:=hP.at_
 have hgn:=HGN.out
 go_wp2_with (first|with_reducible refine Cpv (zd6 _ _) ?_)
 have hPd:=hP.thru ((Below.refl _ _).alloc nL (.cells (⟨1,c.regs.pc,0,4⟩:SCycle).cells 43))
 have hF:blk (w1.alloc (.cells (⟨1,c.regs.pc,0,4⟩:SCycle).cells 43)) w1.heap.size=some (.cells (⟨1,c.regs.pc,0,4⟩:SCycle).cells 43):=zab _ _ _ rfl
 have hsz1:(w1.alloc (.cells (⟨1,c.regs.pc,0,4⟩:SCycle).cells 43)).heap.size=w1.heap.size+1:=World.size_alloc _ _
 have hBd:Below w1.heap.size w1 (w1.alloc (.cells (⟨1,c.regs.pc,0,4⟩:SCycle).cells 43)):=(Below.refl _ _).alloc nL _
 change Code.wp _ _ _ _ (w1.alloc (.cells (⟨1,c.regs.pc,0,4⟩:SCycle).cells 43))
 generalize w1.alloc (.cells (⟨1,c.regs.pc,0,4⟩:SCycle).cells 43)=W1 at hPd hF hsz1 hBd ⊢
 obtain ⟨hclW,hfrW,hltW⟩:=zaa hPd.at_
 have hatW:=hPd.at_
 obtain ⟨hclF,hfrF,hltF⟩:=zaa hF
 have hPdd:=hPd.drew
 have hC1:blk w1 w.heap.size=some (.cells c.cells 41):=(hB.block w.heap.size sO).trans ((blk_alloc_past _ _ _ sI).trans (zab _ _ _ rfl))
 have hCW:blk W1 w.heap.size=some (.cells c.cells 41):=(hBd.block w.heap.size oM).trans hC1
 have hbW:b≠W1.heap.size:=Nat.ne_of_lt hltW
 clear hsz1
 go_region_law ((refine zbr rfl _ _ 196 (by rfl) (hPdd.thru ((Below.refl _ _).alloc nL _)).cyc (fun _=>rfl) SCycle.one oM zko (by rfl) [(⟨1,c.regs.pc,0,4⟩:SCycle)] W1.heap.size (⟨1,c.regs.pc,0,4⟩:SCycle).cells 43 1 1 (by rfl) (zab _ _ _ rfl) (by simp [encL]) rfl oM sI (by have:=hPd.n0_le;simp only [World.size_alloc,World.size_drew] at this ⊢;omega) ?_;intro s' w2 hrow hgr;have hat1:=hgr.kept b _ _ dC ((blk_alloc_past _ b _ hltW).trans ((zjp _ b).trans hatW));obtain ⟨hcl1,hfr1,hlt1⟩:=zaa hat1))
 all_goals
  have hBe:Below ((w.alloc (.cells c.cells 41)).alloc (.cells SCycle.zero.cells 43)).heap.size W1 w2:=((((Below.refl _ W1).drew).alloc (by have:=hPd.n0_le;simpa using this) _).trans hgr.below)
  have hBf:=zae (A:=(SPlan.mk c (source==5) sg (zb7 c.chip (gAt [] 0)) s').cells) (t:=198) hBe hP.lo
  obtain ⟨hP2,hB2⟩:=(show PlanAt ((w.alloc (.cells c.cells 41)).alloc (.cells SCycle.zero.cells 43)).heap.size b ⟨c,source==5,sg,zb7 c.chip (gAt [] 0),s'⟩ [] [(⟨1,c.regs.pc,0,4⟩:SCycle)] _/\_ from ⟨⟨blk_setBlk_same _ _ _ _ hlt1,hP.lo,hPd.got.thru hBf nL,by rw [size_setBlk];exact hrow.set hat1 dC⟩,hBf⟩)
  try simp only [h5] at hP2 hB2
  generalize hWX:zai w2 b _=wx at hP2 hB2 ⊢
  clear hWX
  have hBK:=(hB.trans (hBd.mono (by have:=hP.n0_le;simpa using this))).trans hB2
  have hC2:=(hB2.block w.heap.size sO).trans hCW
  obtain ⟨hclc,hfrc,hltc⟩:=zaa hC2
  obtain ⟨hcl2,hfr2,hlt2⟩:=zaa hP2.at_
  have hat2:=hP2.at_
  clear hB2 hCW hC1 hclF hfrF hF hclW hfrW hatW hbW hPd hPdd hBd hat hcl hfr hb1 hb2 hb3
  have hres:blk _ (w.heap.size+1)=some (.cells SCycle.zero.cells 43):=(hBK.block (w.heap.size+1) sI).trans (zab _ _ _ sI)
  have hlen:s'.n=1:=hP2.cyc.len
  have hltK:=hP2.lt
  have hn2:=hP2.n0_le
  (try simp only [World.size_alloc] at hn2)
  obtain ⟨g,hp,hlo,hhi,hsz,hok,hval⟩:=hP2.cyc.elem (fun _=>rfl) 0 sI
  simp only [Nat.zero_mul,List.getElem_cons_zero] at hok hval
  have hCM:zdz c source []=[(⟨1,c.regs.pc,0,4⟩:SCycle)]:=by unfold zdz;rw [if_neg (by rw [hi];simp),if_pos sI,if_neg (beq_eq_false_iff_ne.1 h5)]
  have HN:=hid (show zdb c source []=⟨1,c.regs.pc,0,4⟩ by unfold zdb;rw [hCM];rfl)
  have HM:=hid (show zb9 c source []=true by unfold zb9;rw [hCM];rfl)
  clear hCM
  go_wp2_with fail
  refine za1 (n:=4) (v:=.agg (zdb c source []).cells) (u:=.bool (zb9 c source [])) rfl kR kR ?_ rfl ?_ ?_ rfl ⟨rfl,?_⟩
  all_goals (first|(simp [go_sem,↓iteOmega,HN.out,HM.out, *];done)|exact zae (((((Below.refl _ _).alloc nL _).alloc sI _).trans (hBK.mono sO))) oM)
end
theorem zl8 (c:SCPU) (source:Int) (sg:Sl) (G:List Int) (w:World) (hg:Row w 0 w.heap.size 5 1 encB sg G) (hG:G.length<=1000000) (hgb:∀ x ∈ G,0<=x/\x<=255) (hr:c.regs.Ok) :
  Calls prog 93 #[.agg c.cells,.int .i64 source,.slice sg.p sg.n sg.c] w fun e w'=>e=.returned (.tuple #[.agg (zdb c source G).cells,.bool (zb9 c source G)])/\Below w.heap.size w w':=by
 cases hi:zdo source
 ·by_cases hz:G.length=0
  ·obtain rfl:G=[]:=List.eq_nil_of_length_eq_zero hz
   by_cases h5:source=5
   ·exact zyw c source sg w hg hr hi h5
   ·exact zyv c source sg w hg hr hi (beq_eq_false_iff_ne.2 h5)
  ·exact z1s c source sg G w hg hG hgb hr hi (Nat.pos_of_ne_zero hz)
 ·exact z1t c source sg G w hg hG hgb hr hi
end
section
open Go.RowKit
theorem next0_any (c:SCPU) (source:Int) (w:World) (hr:c.regs.Ok):Calls prog 93 #[.agg c.cells,.int .i64 source,.slice none 0 0] w fun e w'=>e=.returned (.tuple #[.agg (zdb c source []).cells,.bool (zb9 c source [])])/\Below w.heap.size w w':=
 zl8 c source ⟨none,0,0⟩ [] w (Row.nil _ _ _ _ _ _) sI sI hr
theorem accept_ok (c:SCPU) (s:Int) (h:c.regs.Ok):(ze7 c s).regs.Ok:=by unfold ze7;(repeat' split)<;>exact h
theorem ziy (c:SCore) (s:Int) (w:World) (h0:c.cpu.regs.Ok) :
  Calls prog 75 #[.agg c.cells,.int .i64 s] w fun e w'=>e=.returned (.agg (zgu c s).cells)/\Below w.heap.size w w':=by
 all_goals
  go_enter func75,ntmps75
  go_wp2_with (first|(go_at_call 99;with_reducible refine Cbv (zr2 _ _ _) ?_;intro w' hB hb1 hb2 hb3 hs;(try simp only [szs] at hs hb1 hb2 hb3))|(go_at_call 93;with_reducible refine Cbv (next0_any _ _ _ (accept_ok _ _ h0)) ?_;intro w' hB hb1 hb2 hb3 hs;(try simp only [szs] at hs hb1 hb2 hb3)))
  all_goals
   refine SCore.ret (zgu c s) rfl rfl ?_ rfl ⟨rfl,bL⟩
   (try simp only [beq_iff_eq,beq_eq_false_iff_ne,ne_eq,bne_iff_ne,bne_eq_false_iff_eq] at *);first|(simp [go_sem,↓iteOmega,zgu, *]<;>first|omega|((repeat' split)<;>first|rfl|omega|simp_all))|(exfalso;omega)
theorem beginM_any (cpu:SCPU) (s:Int) (w:World) (h0:cpu.regs.Ok) :
  Calls prog 61 #[.agg cpu.cells,.int .i64 s] w fun e w'=>e=.returned (.agg (zhf cpu s).cells)/\Below w.heap.size w w':=by
 all_goals
  go_enter func61,ntmps61
  go_wp2_with (first|(go_at_call 93;with_reducible refine Cbv (next0_any _ _ _ h0) ?_;intro w' hB hb1 hb2 hb3 hs;(try simp only [szs] at hs hb1 hb2 hb3)))
  all_goals
   refine SCore.ret (zhf cpu s) rfl rfl ?_ rfl ⟨rfl,bL⟩
   (try simp only [beq_iff_eq,beq_eq_false_iff_ne,ne_eq,bne_iff_ne,bne_eq_false_iff_eq] at *);first|(simp [go_sem,↓iteOmega,zhf, *]<;>first|omega|((repeat' split)<;>first|rfl|omega|simp_all))|(exfalso;omega)
end
section
open Go.RowKit
theorem zero_ok (k:Int):(zfc { SCPU.zero with chip:=k }).regs.Ok:=by unfold zfc;constructor<;>simp [SCPU.zero,SRegs.zero]
def zo5 (k:Int):SCore:=
 zhf (zfc { SCPU.zero with chip:=k }) 0
theorem zo4 (k:Int) (w:World)  :
  Calls prog 27 #[.int .i64 k] w fun e w'=>e=.returned (.agg (zo5 k).cells)/\Below w.heap.size w w':=by
 all_goals
  go_enter func27,ntmps27
  go_wp2_with (first|(go_at_call 25;with_reducible refine Cbv (ziz _ _) ?_;intro w' hB hb1 hb2 hb3 hs;(try simp only [szs] at hs hb1 hb2 hb3))|(go_at_call 61;with_reducible refine Cbv (beginM_any _ _ _ (zero_ok k)) ?_;intro w' hB hb1 hb2 hb3 hs;(try simp only [szs] at hs hb1 hb2 hb3)))
  all_goals
   refine SCore.ret (zo5 k) rfl rfl ?_ rfl ⟨rfl,bL⟩
   (try simp only [beq_iff_eq,beq_eq_false_iff_ne,ne_eq,bne_iff_ne,bne_eq_false_iff_eq] at *);first|(simp [go_sem,↓iteOmega,zo5, *]<;>first|omega|((repeat' split)<;>first|rfl|omega|simp_all))|(exfalso;omega)
end
end Go.Proofs.YtlmbamdkklkliaaGreat
