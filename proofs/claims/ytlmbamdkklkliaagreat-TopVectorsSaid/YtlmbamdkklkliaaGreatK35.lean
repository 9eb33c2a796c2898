/- Part of the proof that a law holds at every input. No conditions. -/
import Derived.Test.YtlmbamdkklkliaaGreatK32
import Derived.Test.YtlmbamdkklkliaaGreatK33
namespace Go.Proofs.YtlmbamdkklkliaaGreat
set_option linter.unusedVariables false
set_option linter.unusedSimpArgs false
set_option linter.unusedSectionVars false
set_option maxRecDepth 100000
set_option maxHeartbeats 16000000
open Go.Proofs.Tryz
open Lib (hid)
open Go.IntWalk (iteOmega)
section
open Go.RowKit
section
variable {n0 b ob:Nat} {w0:World} {P:SPlan} {G:List Int} {O:SCPU} (w:World) (hF:FinA n0 w0 b ob P G O w) (hr:P.c.regs.Ok) (hO:O.regs.Ok) (hG:G.length<=1000000) (hgb:∀ x ∈ G,0<=x/\x<=255)
include n0 b ob w0 P G O w hF hr hO hG hgb
theorem zo7 (hk:zbu P.i.kind=true) :
  Calls prog 150 #[.pointer (some ⟨b,0,none⟩),.pointer (some ⟨ob,1,none⟩)] w (Does n0 w0 b ob P G { O with regs:=zan P G O.regs }):=by
 have hk2:P.i.kind=12\/P.i.kind=13\/P.i.kind=14\/P.i.kind=15\/P.i.kind=16\/P.i.kind=17\/P.i.kind=18\/P.i.kind=19\/P.i.kind=20\/P.i.kind=21\/P.i.kind=22\/P.i.kind=23:=by simp [zbu] at hk;omega
 rcases hk2 with h|h|h|h|h|h|h|h|h|h|h|h
 ·exact z0t w hF hr hO hG hgb h
 ·exact z0s w hF hr hO hG hgb h
 ·by_cases hd:P.i.dst=6
  ·exact zxd w hF hr hO hG hgb h hd
  ·exact zxc w hF hr hO hG hgb h (beq_eq_false_iff_ne.2 hd)
 ·by_cases hd:P.i.dst=6
  ·exact zxb w hF hr hO hG hgb h hd
  ·exact zxa w hF hr hO hG hgb h (beq_eq_false_iff_ne.2 hd)
 ·exact z0r w hF hr hO hG hgb h
 ·exact z0q w hF hr hO hG hgb h
 ·exact z0p w hF hr hO hG hgb h
 ·exact z0o w hF hr hO hG hgb h
 ·exact z0n w hF hr hO hG hgb h
 ·exact z0m w hF hr hO hG hgb h
 ·exact z0l w hF hr hO hG hgb h
 ·exact z0k w hF hr hO hG hgb h
theorem zo6 (hk:zbt P.i.kind=true) :
  Calls prog 151 #[.pointer (some ⟨b,0,none⟩),.pointer (some ⟨ob,1,none⟩)] w (Does n0 w0 b ob P G { O with regs:=zal P G O.regs }):=by
 have hk2:P.i.kind=24\/P.i.kind=25\/P.i.kind=26\/P.i.kind=27\/P.i.kind=45\/P.i.kind=28\/P.i.kind=29\/P.i.kind=30\/P.i.kind=31:=by simp [zbt] at hk;omega
 rcases hk2 with h|h|h|h|h|h|h|h|h
 ·cases ht:zcn P
  ·exact z0i w hF hr hO hG hgb h ht
  ·exact z0h w hF hr hO hG hgb h ht
 ·cases ht:zcn P
  ·exact z0g w hF hr hO hG hgb h ht
  ·exact z0f w hF hr hO hG hgb h ht
 ·cases ht:zcn P
  ·exact z0e w hF hr hO hG hgb h ht
  ·exact z0d w hF hr hO hG hgb h ht
 ·exact z2o w hF hr hO hG hgb h
 ·cases ht:zcn P
  ·exact z0a w hF hr hO hG hgb h ht
  ·exact zz9 w hF hr hO hG hgb h ht
 ·exact z2n w hF hr hO hG hgb h
 ·exact z2m w hF hr hO hG hgb h
 ·exact z2l w hF hr hO hG hgb h
 ·by_cases hp:P.i.pair=3
  ·exact z0b w hF hr hO hG hgb h hp
  ·exact z0c w hF hr hO hG hgb h (beq_eq_false_iff_ne.2 hp)
theorem ztj (hk:zc7 P.i.kind=true) :
  Calls prog 154 #[.pointer (some ⟨b,0,none⟩),.pointer (some ⟨ob,1,none⟩)] w (Does n0 w0 b ob P G { O with regs:=zcw P G O.regs }):=by
 have hk2:P.i.kind=40\/P.i.kind=41\/P.i.kind=42\/P.i.kind=43\/P.i.kind=44:=by simp [zc7] at hk;omega
 rcases hk2 with h|h|h|h|h
 ·exact z19 w hF hr hO hG hgb h
 ·exact z18 w hF hr hO hG hgb h
 ·exact z17 w hF hr hO hG hgb h
 ·exact z16 w hF hr hO hG hgb h
 ·exact z15 w hF hr hO hG hgb h
end
section
variable {n0 b:Nat} {P:SPlan} {G:List Int} (w:World) (hP:PlanAt n0 b P G [] w) (l:SLines) (hr:P.c.regs.Ok) (hG:G.length<=1000000) (hgb:∀ x ∈ G,0<=x/\x<=255)
include n0 b P G w hP l hr hG hgb
theorem zow (hk:zd3 P.i.kind=true) :
  Calls prog 128 #[.pointer (some ⟨b,0,none⟩),.agg l.cells] w fun e w'=>e=.returned (.agg (zbk P G l).cells)/\Below w.heap.size w w':=by
 obtain ⟨hcl0,hfr0,hlt0⟩:=zaa hP.at_
 have hat0:=hP.at_
 have HK:=hid hk
 clear hk
 go_enter func128,ntmps128
 go_wp2_with fail
 have hBW:Below w.heap.size w (((w.alloc (.cells l.cells 59)).alloc (.cells SCPU.zero.cells 41)).alloc (.cells P.c.cells 41)):=(((Below.refl _ _).alloc nL _).alloc sI _).alloc sO _
 refine (zc9 _ (hP.thru hBW)).mono ?_
 rintro e w4 ⟨rfl,hB⟩
 have hP4:=(hP.thru hBW).thru hB
 have hs:=hB.size
 simp only [World.size_alloc] at hs
 have h1:blk w4 w.heap.size=some (.cells l.cells 59):=(hB.block _ sO).trans ((blk_alloc_past _ _ _ sO).trans ((blk_alloc_past _ _ _ sI).trans (zab _ _ _ rfl)))
 have h2:blk w4 (w.heap.size+1)=some (.cells SCPU.zero.cells 41):=(hB.block _ sI).trans ((blk_alloc_past _ _ _ sI).trans (zab _ _ _ sI))
 have h3:blk w4 (w.heap.size+1+1)=some (.cells P.c.cells 41):=(hB.block _ sI).trans (zab _ _ _ sI)
 have hBw:Below w.heap.size w w4:=hBW.trans (hB.mono sO)
 obtain ⟨hcl,hfr,hlt⟩:=zaa hP4.at_
 obtain ⟨hcp,hfp,hlp⟩:=zaa h3
 have hn0:=hP.n0_le
 have hne:b≠w.heap.size+1+1:=by have:=hP.lt;omega
 have hat4:=hP4.at_
 go_wp2_with fail
 have hF0:FinA n0 w4 b (w.heap.size+1+1) P G P.c w4:=⟨hP4,h3,oM,⟨rfl,rfl,rfl,Nat.le_refl _,fun _ _ _=>rfl⟩⟩
 have hF:=hF0.set { P.c with regs := { P.c.regs with pc:=zb1 P } }
 generalize hW:zai w4 (w.heap.size+1+1) _ _=W at hF ⊢
 clear hcl0 hfr0 hat0 hW hcl hfr hcp hfp hat4 h3 hF0 hP4
 obtain ⟨ob,hob⟩:∃ ob,w.heap.size+1+1=ob:=⟨_,rfl⟩
 rw [hob] at hF
 have HOB:=hid hob
 obtain ⟨hcl,hco,hfo,hat,hto,hlo⟩:=hF.facts
 obtain ⟨qb,qo,qc,qd⟩:=hF.qfacts
 refine zat 13 (fun k=>k==6||k==7||k==8||k==9||k==11) kR kR (fun _ _ _ d _ h=>by cases d<;>exact h) ?_
 simp only [tkd]
 rw [HOB.out]
 repeat (first|(refine zb2 rfl (by rfl) ?_;apply Exists.intro;refine ⟨fun w=>?_,?_⟩;(go_simp;first|done|with_reducible rfl))|(refine zcp rfl (fun K hK=>?_);go_simp;(refine hK _ ?_;clear hK K)))
 refine zda ?_
 intro wq hwq
 replace hF:=hF.regrown hwq
 clear hwq qb qo qc qd hcl hco hfo hat hto hlo
 obtain ⟨hcl,hco,hfo,hat,hto,hlo⟩:=hF.facts
 have hl2:blk wq w.heap.size=some (.cells l.cells 59):=(hF.bel.block w.heap.size oM (fun e=>by have:=HOB.out;simp at e;omega)).trans h1
 have hr2:blk wq (w.heap.size+1)=some (.cells SCPU.zero.cells 41):=(hF.bel.block (w.heap.size+1) oM (fun e=>by have:=HOB.out;simp at e;omega)).trans h2
 have hobn:w.heap.size+1<ob:=by have:=HOB.out;omega
 have hsz2:=hF.bel.size
 have hO0:SRegs.Ok { P.c.regs with pc:=zb1 P }:=⟨hr.a,hr.b,hr.c,hr.d,hr.e,hr.h,hr.l,hr.sp,zdd P hr⟩
 have hBq:Below w.heap.size w wq:=⟨hF.bel.os.trans hBw.os,hF.bel.tape.trans hBw.tape,hF.bel.output.trans hBw.output,Nat.le_trans hBw.size hF.bel.size,fun k hk=>(hF.bel.block k oM (fun e=>by simp at e;omega)).trans (hBw.block k hk)⟩
 have H1:=hid h1
 have H2:=hid h2
 clear h1 h2
 have hk2:P.i.kind=2\/P.i.kind=3\/P.i.kind=4\/P.i.kind=5\/P.i.kind=9\/P.i.kind=33\/P.i.kind=7\/P.i.kind=47\/P.i.kind=32\/P.i.kind=11:=by have hk:=HK.out;simp [zd3] at hk;omega
 rcases hk2 with h|h|h|h|h|h|h|h|h|h
 all_goals
  go_wp2_with (first|(go_at_call 149;(refine (zv5 _ (hF.set _) hr hO0 hG hgb HK.out).mono ?_);rintro e w5 ⟨rfl,hF5⟩;obtain ⟨gcl,gco,gfo,gat,gto,glo⟩:=hF5.facts;have gl2:blk w5 w.heap.size=some (.cells l.cells 59):=(hF5.bel.block w.heap.size oM (fun e=>by have:=HOB.out;simp at e;omega)).trans H1.out;have gr2:blk w5 (w.heap.size+1)=some (.cells SCPU.zero.cells 41):=(hF5.bel.block (w.heap.size+1) oM (fun e=>by have:=HOB.out;simp at e;omega)).trans H2.out;have gsz:=hF5.bel.size;have hBq5:Below w.heap.size w w5:=⟨hF5.bel.os.trans hBw.os,hF5.bel.tape.trans hBw.tape,hF5.bel.output.trans hBw.output,Nat.le_trans hBw.size hF5.bel.size,fun k hk=>(hF5.bel.block k oM (fun e=>by simp at e;omega)).trans (hBw.block k hk)⟩))
  refine SCPU.ret (zbk P G l) rfl rfl ?_ rfl ⟨rfl,?_⟩
  ·first|(simp [go_sem,↓iteOmega,zbk,zci,zd3,zbu,zbt,zc7,rimC, *];done)|(simp [go_sem,↓iteOmega,zbk,zci,zd3,zbu,zbt,zc7,rimC,h]<;>rfl)
  ·(repeat' (first|(with_reducible exact hBq5)|(with_reducible exact hBq)|(with_reducible refine zae ?_ ?_)|(with_reducible refine Below.drew ?_)|(with_reducible refine zaf hB5 ?_ ?_)|((try simp only [szs]);omega)))
theorem zk2 (hk:zbu P.i.kind=true) :
  Calls prog 128 #[.pointer (some ⟨b,0,none⟩),.agg l.cells] w fun e w'=>e=.returned (.agg (zbk P G l).cells)/\Below w.heap.size w w':=by
 obtain ⟨hcl0,hfr0,hlt0⟩:=zaa hP.at_
 have hat0:=hP.at_
 have HK:=hid hk
 clear hk
 go_enter func128,ntmps128
 go_wp2_with fail
 have hBW:Below w.heap.size w (((w.alloc (.cells l.cells 59)).alloc (.cells SCPU.zero.cells 41)).alloc (.cells P.c.cells 41)):=(((Below.refl _ _).alloc nL _).alloc sI _).alloc sO _
 refine (zc9 _ (hP.thru hBW)).mono ?_
 rintro e w4 ⟨rfl,hB⟩
 have hP4:=(hP.thru hBW).thru hB
 have hs:=hB.size
 simp only [World.size_alloc] at hs
 have h1:blk w4 w.heap.size=some (.cells l.cells 59):=(hB.block _ sO).trans ((blk_alloc_past _ _ _ sO).trans ((blk_alloc_past _ _ _ sI).trans (zab _ _ _ rfl)))
 have h2:blk w4 (w.heap.size+1)=some (.cells SCPU.zero.cells 41):=(hB.block _ sI).trans ((blk_alloc_past _ _ _ sI).trans (zab _ _ _ sI))
 have h3:blk w4 (w.heap.size+1+1)=some (.cells P.c.cells 41):=(hB.block _ sI).trans (zab _ _ _ sI)
 have hBw:Below w.heap.size w w4:=hBW.trans (hB.mono sO)
 obtain ⟨hcl,hfr,hlt⟩:=zaa hP4.at_
 obtain ⟨hcp,hfp,hlp⟩:=zaa h3
 have hn0:=hP.n0_le
 have hne:b≠w.heap.size+1+1:=by have:=hP.lt;omega
 have hat4:=hP4.at_
 go_wp2_with fail
 have hF0:FinA n0 w4 b (w.heap.size+1+1) P G P.c w4:=⟨hP4,h3,oM,⟨rfl,rfl,rfl,Nat.le_refl _,fun _ _ _=>rfl⟩⟩
 have hF:=hF0.set { P.c with regs := { P.c.regs with pc:=zb1 P } }
 generalize hW:zai w4 (w.heap.size+1+1) _ _=W at hF ⊢
 clear hcl0 hfr0 hat0 hW hcl hfr hcp hfp hat4 h3 hF0 hP4
 obtain ⟨ob,hob⟩:∃ ob,w.heap.size+1+1=ob:=⟨_,rfl⟩
 rw [hob] at hF
 have HOB:=hid hob
 obtain ⟨hcl,hco,hfo,hat,hto,hlo⟩:=hF.facts
 obtain ⟨qb,qo,qc,qd⟩:=hF.qfacts
 refine zat 13 (fun k=>k==6||k==7||k==8||k==9||k==11) kR kR (fun _ _ _ d _ h=>by cases d<;>exact h) ?_
 simp only [tkd]
 rw [HOB.out]
 repeat (first|(refine zb2 rfl (by rfl) ?_;apply Exists.intro;refine ⟨fun w=>?_,?_⟩;(go_simp;first|done|with_reducible rfl))|(refine zcp rfl (fun K hK=>?_);go_simp;(refine hK _ ?_;clear hK K)))
 refine zda ?_
 intro wq hwq
 replace hF:=hF.regrown hwq
 clear hwq qb qo qc qd hcl hco hfo hat hto hlo
 obtain ⟨hcl,hco,hfo,hat,hto,hlo⟩:=hF.facts
 have hl2:blk wq w.heap.size=some (.cells l.cells 59):=(hF.bel.block w.heap.size oM (fun e=>by have:=HOB.out;simp at e;omega)).trans h1
 have hr2:blk wq (w.heap.size+1)=some (.cells SCPU.zero.cells 41):=(hF.bel.block (w.heap.size+1) oM (fun e=>by have:=HOB.out;simp at e;omega)).trans h2
 have hobn:w.heap.size+1<ob:=by have:=HOB.out;omega
 have hsz2:=hF.bel.size
 have hO0:SRegs.Ok { P.c.regs with pc:=zb1 P }:=⟨hr.a,hr.b,hr.c,hr.d,hr.e,hr.h,hr.l,hr.sp,zdd P hr⟩
 have hBq:Below w.heap.size w wq:=⟨hF.bel.os.trans hBw.os,hF.bel.tape.trans hBw.tape,hF.bel.output.trans hBw.output,Nat.le_trans hBw.size hF.bel.size,fun k hk=>(hF.bel.block k oM (fun e=>by simp at e;omega)).trans (hBw.block k hk)⟩
 have H1:=hid h1
 have H2:=hid h2
 clear h1 h2
 have hk2:P.i.kind=12\/P.i.kind=13\/P.i.kind=14\/P.i.kind=15\/P.i.kind=16\/P.i.kind=17\/P.i.kind=18\/P.i.kind=19\/P.i.kind=20\/P.i.kind=21\/P.i.kind=22\/P.i.kind=23:=by have hk:=HK.out;simp [zbu] at hk;omega
 rcases hk2 with h|h|h|h|h|h|h|h|h|h|h|h
 all_goals
  go_wp2_with (first|(go_at_call 150;(refine (zo7 _ (hF.set _) hr hO0 hG hgb HK.out).mono ?_);rintro e w5 ⟨rfl,hF5⟩;obtain ⟨gcl,gco,gfo,gat,gto,glo⟩:=hF5.facts;have gl2:blk w5 w.heap.size=some (.cells l.cells 59):=(hF5.bel.block w.heap.size oM (fun e=>by have:=HOB.out;simp at e;omega)).trans H1.out;have gr2:blk w5 (w.heap.size+1)=some (.cells SCPU.zero.cells 41):=(hF5.bel.block (w.heap.size+1) oM (fun e=>by have:=HOB.out;simp at e;omega)).trans H2.out;have gsz:=hF5.bel.size;have hBq5:Below w.heap.size w w5:=⟨hF5.bel.os.trans hBw.os,hF5.bel.tape.trans hBw.tape,hF5.bel.output.trans hBw.output,Nat.le_trans hBw.size hF5.bel.size,fun k hk=>(hF5.bel.block k oM (fun e=>by simp at e;omega)).trans (hBw.block k hk)⟩))
  refine SCPU.ret (zbk P G l) rfl rfl ?_ rfl ⟨rfl,?_⟩
  ·first|(simp [go_sem,↓iteOmega,zbk,zci,zd3,zbu,zbt,zc7,rimC, *];done)|(simp [go_sem,↓iteOmega,zbk,zci,zd3,zbu,zbt,zc7,rimC,h]<;>rfl)
  ·(repeat' (first|(with_reducible exact hBq5)|(with_reducible exact hBq)|(with_reducible refine zae ?_ ?_)|(with_reducible refine Below.drew ?_)|(with_reducible refine zaf hB5 ?_ ?_)|((try simp only [szs]);omega)))
end

end
end Go.Proofs.YtlmbamdkklkliaaGreat
