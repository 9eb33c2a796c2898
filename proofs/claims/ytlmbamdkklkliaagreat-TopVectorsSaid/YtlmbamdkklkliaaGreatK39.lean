/- Part of the proof that a law holds at every input. No conditions. -/
import Derived.Deep.DrawnRows
import Derived.RegionTactic
import Derived.Test.YtlmbamdkklkliaaGreatK37
namespace Go.Proofs.YtlmbamdkklkliaaGreat
set_option linter.unusedVariables false
set_option linter.unusedSimpArgs false
set_option linter.unusedSectionVars false
set_option maxRecDepth 100000
set_option maxHeartbeats 16000000
open Go.Proofs.Tryz
open Lib (hid)
open Go.IntWalk (iteOmega)
section
open Go.RowKit
attribute [local go_sem ↓] Go.wp_at_zero Go.wp_at_succ
section
variable {n0 b:Nat} {P:SPlan} {G:List Int} (w:World) (hP:PlanAt n0 b P G [] w) (l:SLines) (hr:P.c.regs.Ok) (hG:G.length<=1000000) (hgb:∀ x ∈ G,0<=x/\x<=255)
include n0 b P G w hP l hr hG hgb
theorem zrl (hk:P.i.kind=39) :
  Calls prog 128 #[.pointer (some ⟨b,0,none⟩),.agg l.cells] w fun e w'=>e=.returned (.agg (zbk P G l).cells)/\Below w.heap.size w w':=by
 obtain ⟨hcl0,hfr0,hlt0⟩:=zaa hP.at_
 have hat0:=hP.at_
 have HK:=hid hk
 clear hk
 go_enter func128,ntmps128
 go_wp2_with fail
 have hBW:Below w.heap.size w (((w.alloc (.cells l.cells 59)).alloc (.cells SCPU.zero.cells 41)).alloc (.cells P.c.cells 41)):=(((Below.refl _ _).alloc nL _).alloc sI _).alloc sO _
 refine (zc9 _ (hP.thru hBW)).mono ?_
 rintro e w4 ⟨rfl,hB⟩
 have hP4:=(hP.thru hBW).thru hB
 have hs:=hB.size
 simp only [World.size_alloc] at hs
 have h1:blk w4 w.heap.size=some (.cells l.cells 59):=(hB.block _ sO).trans ((blk_alloc_past _ _ _ sO).trans ((blk_alloc_past _ _ _ sI).trans (zab _ _ _ rfl)))
 have h2:blk w4 (w.heap.size+1)=some (.cells SCPU.zero.cells 41):=(hB.block _ sI).trans ((blk_alloc_past _ _ _ sI).trans (zab _ _ _ sI))
 have h3:blk w4 (w.heap.size+1+1)=some (.cells P.c.cells 41):=(hB.block _ sI).trans (zab _ _ _ sI)
 have hBw:Below w.heap.size w w4:=hBW.trans (hB.mono sO)
 obtain ⟨hcl,hfr,hlt⟩:=zaa hP4.at_
 obtain ⟨hcp,hfp,hlp⟩:=zaa h3
 have hn0:=hP.n0_le
 have hne:b≠w.heap.size+1+1:=by have:=hP.lt;omega
 have hat4:=hP4.at_
 go_wp2_with fail
 have hF0:FinA n0 w4 b (w.heap.size+1+1) P G P.c w4:=⟨hP4,h3,oM,⟨rfl,rfl,rfl,Nat.le_refl _,fun _ _ _=>rfl⟩⟩
 have hF:=hF0.set { P.c with regs := { P.c.regs with pc:=zb1 P } }
 generalize hW:zai w4 (w.heap.size+1+1) _ _=W at hF ⊢
 clear hcl0 hfr0 hat0 hW hcl hfr hcp hfp hat4 h3 hF0 hP4
 obtain ⟨ob,hob⟩:∃ ob,w.heap.size+1+1=ob:=⟨_,rfl⟩
 rw [hob] at hF
 have HOB:=hid hob
 obtain ⟨hcl,hco,hfo,hat,hto,hlo⟩:=hF.facts
 obtain ⟨qb,qo,qc,qd⟩:=hF.qfacts
 refine zat 13 (fun k=>k==6||k==7||k==8||k==9||k==11) kR kR (fun _ _ _ d _ h=>by cases d<;>exact h) ?_
 simp only [tkd]
 rw [HOB.out]
 repeat (first|(refine zb2 rfl (by rfl) ?_;apply Exists.intro;refine ⟨fun w=>?_,?_⟩;(go_simp;first|done|with_reducible rfl))|(refine zcp rfl (fun K hK=>?_);go_simp;(refine hK _ ?_;clear hK K)))
 refine zda ?_
 intro wq hwq
 replace hF:=hF.regrown hwq
 clear hwq qb qo qc qd hcl hco hfo hat hto hlo
 obtain ⟨hcl,hco,hfo,hat,hto,hlo⟩:=hF.facts
 have hl2:blk wq w.heap.size=some (.cells l.cells 59):=(hF.bel.block w.heap.size oM (fun e=>by have:=HOB.out;simp at e;omega)).trans h1
 have hr2:blk wq (w.heap.size+1)=some (.cells SCPU.zero.cells 41):=(hF.bel.block (w.heap.size+1) oM (fun e=>by have:=HOB.out;simp at e;omega)).trans h2
 have hobn:w.heap.size+1<ob:=by have:=HOB.out;omega
 have hsz2:=hF.bel.size
 have hO0:SRegs.Ok { P.c.regs with pc:=zb1 P }:=⟨hr.a,hr.b,hr.c,hr.d,hr.e,hr.h,hr.l,hr.sp,zdd P hr⟩
 have hBq:Below w.heap.size w wq:=⟨hF.bel.os.trans hBw.os,hF.bel.tape.trans hBw.tape,hF.bel.output.trans hBw.output,Nat.le_trans hBw.size hF.bel.size,fun k hk=>(hF.bel.block k oM (fun e=>by simp at e;omega)).trans (hBw.block k hk)⟩
 have H1:=hid h1
 have H2:=hid h2
 clear h1 h2
 have hk2:P.i.kind=39:=by have hk:=HK.out;omega
 rcases hk2 with h
 all_goals
  go_wp2_with (first|fail)
  generalize hW2:zai wq ob _ _=W2
  have hF2:FinA n0 w4 b ob P G { P.c with regs := { P.c.regs with pc:=zb1 P },delay:=false,halted:=false } W2:=by rw [<- hW2];exact hF.set _
  clear hW2
  obtain ⟨qb,qo,qc,qd⟩:=hF2.qfacts
  refine zad 8 kR kR ?_
  simp only [tkd]
  repeat (quiet_step (first|(go_at_call 153;exact Calls.regrown_of (zyi _ _ _))))
  refine wpQuiet_nil ?_
  intro w5 hwq
  have hF5:=hF2.regrown hwq
  clear hwq qb qo qc qd
  obtain ⟨gcl,gco,gfo,gat,gto,glo⟩:=hF5.facts
  have gl2:blk w5 w.heap.size=some (.cells l.cells 59):=(hF5.bel.block w.heap.size oM (fun e=>by have:=HOB.out;simp at e;omega)).trans H1.out
  have gr2:blk w5 (w.heap.size+1)=some (.cells SCPU.zero.cells 41):=(hF5.bel.block (w.heap.size+1) oM (fun e=>by have:=HOB.out;simp at e;omega)).trans H2.out
  have gsz:=hF5.bel.size
  have hBq5:Below w.heap.size w w5:=⟨hF5.bel.os.trans hBw.os,hF5.bel.tape.trans hBw.tape,hF5.bel.output.trans hBw.output,Nat.le_trans hBw.size hF5.bel.size,fun k hk=>(hF5.bel.block k oM (fun e=>by simp at e;omega)).trans (hBw.block k hk)⟩
  go_wp2_with fail
  refine SCPU.ret (zbk P G l) rfl rfl ?_ rfl ⟨rfl,?_⟩
  ·first|(simp [go_sem,↓iteOmega,zbk,zci,zd3,zbu,zbt,zc7,rimC, *];done)|(simp [go_sem,↓iteOmega,zbk,zci,zd3,zbu,zbt,zc7,rimC,h]<;>rfl)
  ·(repeat' (first|(with_reducible exact hBq5)|(with_reducible exact hBq)|(with_reducible refine zae ?_ ?_)|(with_reducible refine Below.drew ?_)|(with_reducible refine zaf hB5 ?_ ?_)|((try simp only [szs]);omega)))
theorem zt0 (hk:(P.i.kind==2)=false/\(P.i.kind==3)=false/\(P.i.kind==4)=false/\(P.i.kind==5)=false/\(P.i.kind==9)=false/\(P.i.kind==33)=false/\(P.i.kind==7)=false/\(P.i.kind==47)=false/\(P.i.kind==32)=false/\(P.i.kind==11)=false/\(P.i.kind==12)=false/\(P.i.kind==13)=false/\(P.i.kind==14)=false/\(P.i.kind==15)=false/\(P.i.kind==16)=false/\(P.i.kind==17)=false/\(P.i.kind==18)=false/\(P.i.kind==19)=false/\(P.i.kind==20)=false/\(P.i.kind==21)=false/\(P.i.kind==22)=false/\(P.i.kind==23)=false/\(P.i.kind==24)=false/\(P.i.kind==25)=false/\(P.i.kind==26)=false/\(P.i.kind==27)=false/\(P.i.kind==45)=false/\(P.i.kind==28)=false/\(P.i.kind==29)=false/\(P.i.kind==30)=false/\(P.i.kind==31)=false/\(P.i.kind==40)=false/\(P.i.kind==41)=false/\(P.i.kind==42)=false/\(P.i.kind==43)=false/\(P.i.kind==44)=false/\(P.i.kind==35)=false/\(P.i.kind==36)=false/\(P.i.kind==38)=false/\(P.i.kind==39)=false) :
  Calls prog 128 #[.pointer (some ⟨b,0,none⟩),.agg l.cells] w fun e w'=>e=.returned (.agg (zbk P G l).cells)/\Below w.heap.size w w':=by
 obtain ⟨hcl0,hfr0,hlt0⟩:=zaa hP.at_
 have hat0:=hP.at_
 have HK:=hid hk
 clear hk
 go_enter func128,ntmps128
 go_wp2_with fail
 have hBW:Below w.heap.size w (((w.alloc (.cells l.cells 59)).alloc (.cells SCPU.zero.cells 41)).alloc (.cells P.c.cells 41)):=(((Below.refl _ _).alloc nL _).alloc sI _).alloc sO _
 refine (zc9 _ (hP.thru hBW)).mono ?_
 rintro e w4 ⟨rfl,hB⟩
 have hP4:=(hP.thru hBW).thru hB
 have hs:=hB.size
 simp only [World.size_alloc] at hs
 have h1:blk w4 w.heap.size=some (.cells l.cells 59):=(hB.block _ sO).trans ((blk_alloc_past _ _ _ sO).trans ((blk_alloc_past _ _ _ sI).trans (zab _ _ _ rfl)))
 have h2:blk w4 (w.heap.size+1)=some (.cells SCPU.zero.cells 41):=(hB.block _ sI).trans ((blk_alloc_past _ _ _ sI).trans (zab _ _ _ sI))
 have h3:blk w4 (w.heap.size+1+1)=some (.cells P.c.cells 41):=(hB.block _ sI).trans (zab _ _ _ sI)
 have hBw:Below w.heap.size w w4:=hBW.trans (hB.mono sO)
 obtain ⟨hcl,hfr,hlt⟩:=zaa hP4.at_
 obtain ⟨hcp,hfp,hlp⟩:=zaa h3
 have hn0:=hP.n0_le
 have hne:b≠w.heap.size+1+1:=by have:=hP.lt;omega
 have hat4:=hP4.at_
 go_wp2_with fail
 have hF0:FinA n0 w4 b (w.heap.size+1+1) P G P.c w4:=⟨hP4,h3,oM,⟨rfl,rfl,rfl,Nat.le_refl _,fun _ _ _=>rfl⟩⟩
 have hF:=hF0.set { P.c with regs := { P.c.regs with pc:=zb1 P } }
 generalize hW:zai w4 (w.heap.size+1+1) _ _=W at hF ⊢
 clear hcl0 hfr0 hat0 hW hcl hfr hcp hfp hat4 h3 hF0 hP4
 obtain ⟨ob,hob⟩:∃ ob,w.heap.size+1+1=ob:=⟨_,rfl⟩
 rw [hob] at hF
 have HOB:=hid hob
 obtain ⟨hcl,hco,hfo,hat,hto,hlo⟩:=hF.facts
 obtain ⟨qb,qo,qc,qd⟩:=hF.qfacts
 refine zat 13 (fun k=>k==6||k==7||k==8||k==9||k==11) kR kR (fun _ _ _ d _ h=>by cases d<;>exact h) ?_
 simp only [tkd]
 rw [HOB.out]
 repeat (first|(refine zb2 rfl (by rfl) ?_;apply Exists.intro;refine ⟨fun w=>?_,?_⟩;(go_simp;first|done|with_reducible rfl))|(refine zcp rfl (fun K hK=>?_);go_simp;(refine hK _ ?_;clear hK K)))
 refine zda ?_
 intro wq hwq
 replace hF:=hF.regrown hwq
 clear hwq qb qo qc qd hcl hco hfo hat hto hlo
 obtain ⟨hcl,hco,hfo,hat,hto,hlo⟩:=hF.facts
 have hl2:blk wq w.heap.size=some (.cells l.cells 59):=(hF.bel.block w.heap.size oM (fun e=>by have:=HOB.out;simp at e;omega)).trans h1
 have hr2:blk wq (w.heap.size+1)=some (.cells SCPU.zero.cells 41):=(hF.bel.block (w.heap.size+1) oM (fun e=>by have:=HOB.out;simp at e;omega)).trans h2
 have hobn:w.heap.size+1<ob:=by have:=HOB.out;omega
 have hsz2:=hF.bel.size
 have hO0:SRegs.Ok { P.c.regs with pc:=zb1 P }:=⟨hr.a,hr.b,hr.c,hr.d,hr.e,hr.h,hr.l,hr.sp,zdd P hr⟩
 have hBq:Below w.heap.size w wq:=⟨hF.bel.os.trans hBw.os,hF.bel.tape.trans hBw.tape,hF.bel.output.trans hBw.output,Nat.le_trans hBw.size hF.bel.size,fun k hk=>(hF.bel.block k oM (fun e=>by simp at e;omega)).trans (hBw.block k hk)⟩
 have H1:=hid h1
 have H2:=hid h2
 clear h1 h2
 obtain ⟨hn2,hn3,hn4,hn5,hn9,hn33,hn7,hn47,hn32,hn11,hn12,hn13,hn14,hn15,hn16,hn17,hn18,hn19,hn20,hn21,hn22,hn23,hn24,hn25,hn26,hn27,hn45,hn28,hn29,hn30,hn31,hn40,hn41,hn42,hn43,hn44,hn35,hn36,hn38,hn39⟩:=HK.out
 go_wp2_with fail
 refine SCPU.ret (zbk P G l) rfl rfl ?_ rfl ⟨rfl,?_⟩
 ·simp [go_sem,↓iteOmega,zbk,zci,zd3,zbu,zbt,zc7, *,beq_eq_false_iff_ne.1 hn35,beq_eq_false_iff_ne.1 hn36,beq_eq_false_iff_ne.1 hn38,beq_eq_false_iff_ne.1 hn39]
 ·(repeat' (first|(with_reducible exact hBq)|(with_reducible refine zae ?_ ?_)|(with_reducible refine Below.drew ?_)|((try simp only [szs]);omega)))
end

end
section
open Go.RowKit
theorem zro {n0 b:Nat} {P:SPlan} {G:List Int} (w:World) (hP:PlanAt n0 b P G [] w) (l:SLines) (hr:P.c.regs.Ok) (hG:G.length<=1000000) (hgb:∀ x ∈ G,0<=x/\x<=255)  :
  Calls prog 128 #[.pointer (some ⟨b,0,none⟩),.agg l.cells] w fun e w'=>e=.returned (.agg (zbk P G l).cells)/\Below w.heap.size w w':=by
 cases a1:zd3 P.i.kind
 ·cases a2 : zbu P.i.kind
  ·cases a3:zbt P.i.kind
   ·cases a4:zc7 P.i.kind
    ·by_cases a5:P.i.kind=35\/P.i.kind=36
     ·exact zt1 w hP l hr hG hgb a5
     ·by_cases a6:P.i.kind=38
      ·exact zrm w hP l hr hG hgb a6
      ·by_cases a7:P.i.kind=39
       ·exact zrl w hP l hr hG hgb a7
       ·refine zt0 w hP l hr hG hgb ?_
        simp only [zd3,zbu,zbt,zc7,Bool.or_eq_false_iff] at a1 a2 a3 a4
        simp only [beq_eq_false_iff_ne] at *
        omega
    ·exact znk w hP l hr hG hgb a4
   ·exact zk1 w hP l hr hG hgb a3
  ·exact zk2 w hP l hr hG hgb a2
 ·exact zow w hP l hr hG hgb a1
end
section
open Go.RowKit
attribute [local go_sem ↓] Go.wp_at_zero Go.wp_at_succ
theorem zox (c:SCPU) (source:Int) (sg:Sl) (G:List Int) (l:SLines) (w:World) (hg:Row w 0 w.heap.size 5 1 encB sg G) (hG:G.length<=1000000) (hgb:∀ x ∈ G,0<=x/\x<=255) (hr:c.regs.Ok) :
  Calls prog 98 #[.agg c.cells,.int .i64 source,.slice sg.p sg.n sg.c,.agg l.cells] w fun e w'=>e=.returned (.agg (zch c source G l).cells)/\Below w.heap.size w w':=by
 cases hi:zdo source
 ·have hM:zch c source G l=zbk ⟨c,source==5,sg,zb7 c.chip (gAt G 0),⟨none,0,0⟩⟩ G l:=by unfold zch zi0;rw [if_neg (by rw [hi];simp)];rfl
  rw [hM]
  clear hM
  go_enter func98,ntmps98
  go_wp2_with (first|with_reducible refine Cpv (zd6 _ _) ?_)
  have hBW:Below w.heap.size w (((w.alloc (.cells c.cells 41)).alloc (.cells l.cells 59)).alloc (.cells SCPU.zero.cells 41)):=(((Below.refl _ _).alloc nL _).alloc sI _).alloc sO _
  refine (zfm c source sg G _ ((hg.thru hBW nL).hi_mono sO) hG hgb).mono ?_
  intro e w1 hpl
  obtain ⟨b,rfl,hP,hB⟩:=hpl.elim
  clear hpl
  have h1:blk w1 (w.heap.size+1)=some (.cells l.cells 59):=(hB.block _ sI).trans ((blk_alloc_past _ _ _ sI).trans (zab _ _ _ sI))
  have h2:blk w1 (w.heap.size+1+1)=some (.cells SCPU.zero.cells 41):=(hB.block _ sI).trans (zab _ _ _ sI)
  have hs:=hB.size
  simp only [World.size_alloc] at hs
  go_wp2_with fail
  refine (zro w1 hP l hr hG hgb).mono ?_
  rintro e w2 ⟨rfl,hB2⟩
  have h3:blk w2 (w.heap.size+1+1)=some (.cells SCPU.zero.cells 41):=(hB2.block _ oM).trans h2
  have hs2:=hB2.size
  go_wp2_with fail
  refine SCPU.ret (zbk ⟨c,source==5,sg,zb7 c.chip (gAt G 0),⟨none,0,0⟩⟩ G l) rfl rfl ?_ rfl ⟨rfl,?_⟩
  ·simp [go_sem,↓iteOmega, *]
  ·exact zae ((hBW.trans (hB.mono sO)).trans (hB2.mono oM)) oM
 ·go_enter func98,ntmps98
  go_wp2_with (first|with_reducible refine Cpv (zd6 _ _) ?_|with_reducible refine Cpv (zqt _ _) ?_)
  all_goals (first|go_region|skip)
  all_goals go_wp2_with fail
  all_goals
   refine SCPU.ret (zch c source G l) rfl rfl ?_ rfl ⟨rfl,bL⟩
   simp [go_sem,↓iteOmega,zch,hi]
end
end Go.Proofs.YtlmbamdkklkliaaGreat
