/- Part of the proof that a law holds at every input. No conditions. -/
import Derived.Test.YtlmbamdkklkliaaGreatK52
namespace Go.Proofs.YtlmbamdkklkliaaGreat
set_option linter.unusedVariables false
set_option linter.unusedSimpArgs false
set_option linter.unusedSectionVars false
set_option maxRecDepth 100000
set_option maxHeartbeats 16000000
open Go.Proofs.Tryz
open Lib (hid)
section
open Go.RowKit
def VecOk (b:List Int) (q c:SCPU):Prop:=
 b.length=5/\gAt b 0=205/\q.regs.pc=ze9 (gAt b 2) (gAt b 1)/\ze9 (gAt b 3) (gAt b 4)=c.regs.pc/\q.regs.sp=IntKind.u16.wrap (c.regs.sp-2)/\BytesOk b
def okV:SCPU->List ECP->Prop
 | _,[]=>True
 | c,x::r=>(x.1.e.kind=2->VecOk x.1.b x.2 c)/\okV x.2 r
def ztk:SCPU->List ECP->SCPU
 | c,[]=>c
 | _,x::r=>ztk x.2 r
theorem zta:∀ (l:List ECP) (c:SCPU) (x:ECP),okV c l->(x.1.e.kind=2->VecOk x.1.b x.2 (ztk c l))->okV c (l++[x])
 | [],c,x,_,h=>⟨h,trivial⟩
 | y::r,c,x,h1,h2=>⟨h1.1,zta r y.2 x h1.2 h2⟩
theorem znd:∀ (l:List ECP) (c:SCPU) (x:ECP),ztk c (l++[x])=x.2
 | [],c,x=>rfl
 | y::r,c,x=>znd r y.2 x
theorem zqk (k:Int) (h:k=1\/k=2):(zb7 k 205).kind=25/\(zb7 k 205).cond=11:=by
 rcases h with rfl|rfl<;>constructor<;>kernel_rfl
theorem zun (c:SCPU) (G:List Int) (hc:c.chip=1\/c.chip=2) (hg:gAt G 0=205) (hG:0<G.length) :
  zdz c 5 G=[⟨1,c.regs.pc,0,4⟩,cyc 9 c.regs.pc 0,cyc 9 c.regs.pc 0,cyc 5 (IntKind.u16.wrap (c.regs.sp-1)) (c.regs.pc / 256),cyc 5 (IntKind.u16.wrap (c.regs.sp-2)) (c.regs.pc%256)]:=by
 obtain ⟨k1,k2⟩:=zqk c.chip hc
 have hk:(zi0 c 5 G).i.kind=25:=by show (zb7 c.chip (gAt G 0)).kind=25;rw [hg];exact k1
 have ht:zcn (zi0 c 5 G)=true:=by
  unfold zcn
  show ztt (zb7 c.chip (gAt G 0)).cond _=true
  rw [hg,k2]
  rfl
 have hi:(zi0 c 5 G).injected=true:=rfl
 have hp:(zi0 c 5 G).c=c:=rfl
 have h1:zdo 5=false:=dC
 unfold zdz
 rw [h1,if_neg dC,if_neg oM]
 congr 1
 unfold zcl
 simp [hk,zcq,ht,zhr,zbf,zhk,zic,zb1,hi,hp]
def NoAck (l:List SCycle):Prop:=∀ x ∈ l,x.kind≠8/\x.kind≠9
theorem NoAck.app {l m:List SCycle} (h:NoAck l) (k:NoAck m):NoAck (l++m):=fun x hx=>by
 rcases List.mem_append.1 hx with hx|hx
 ·exact h x hx
 ·exact k x hx
theorem NoAck.nil:NoAck []:=fun x h=>by cases h
theorem NoAck.consK {k a d n:Int} {l:List SCycle} (h8:k≠8) (h9:k≠9) (hl:NoAck l):NoAck (⟨k,a,d,n⟩::l):=fun y hy=>by
 rcases List.mem_cons.1 hy with rfl|hy
 ·exact ⟨h8,h9⟩
 ·exact hl y hy
theorem NoAck.cyc1 {k a d:Int} (h8:k≠8) (h9:k≠9):NoAck [cyc k a d]:=NoAck.consK h8 h9 NoAck.nil
theorem NoAck.cyc2 {k a d k' a' d':Int} (h8:k≠8) (h9:k≠9) (h8':k'≠8) (h9':k'≠9):NoAck [cyc k a d,cyc k' a' d']:=NoAck.consK h8 h9 (NoAck.consK h8' h9' NoAck.nil)
theorem zc1 (P:SPlan) (hi:P.injected=false):∀ (n:Nat),NoAck (zbf P n)
 | 0=>NoAck.nil
 | n+1=>(zc1 P hi n).app (by unfold zhk;rw [hi];exact NoAck.cyc1 (k:=2) dC dC)
theorem zij (P:SPlan):∀ (n:Nat),NoAck (zf9 P n)
 | 0=>NoAck.nil
 | n+1=>(zij P n).app (NoAck.cyc1 dC dC)
theorem zg7 (P:SPlan) (v:Int):NoAck (zic P v):=NoAck.cyc2 dC dC dC dC
theorem zl3 (P:SPlan):NoAck (popP P):=NoAck.cyc2 dC dC dC dC
theorem ziu (P:SPlan) (v:Int) (b:Bool):NoAck (zgz P v b):=by
 unfold zgz
 split<;>exact NoAck.cyc2 dC dC dC dC
theorem zkf (P:SPlan) (hi:P.injected=false):NoAck (zhr P):=by
 unfold zhr
 split<;>exact zc1 P hi _
theorem NoAck.ite {c:Prop} [Decidable c] {a b:List SCycle} (ha:NoAck a) (hb:NoAck b):NoAck (if c then a else b):=by split<;>assumption
theorem zrt (P:SPlan) (hi:P.injected=false):NoAck (zcq P):=by
 unfold zcq
 exact (NoAck.ite (zkf P hi) (NoAck.ite (NoAck.ite ((zkf P hi).app (zg7 P _)) (zkf P hi)) (NoAck.ite (NoAck.ite (zl3 P) (NoAck.nil)) (NoAck.ite (zg7 P _) (NoAck.ite (NoAck.ite (zg7 P _) (NoAck.nil)) (NoAck.ite (zg7 P _) (NoAck.ite (zl3 P) (NoAck.ite ((zl3 P).app (NoAck.consK dC dC (NoAck.consK dC dC NoAck.nil))) (NoAck.ite (NoAck.ite (NoAck.nil) (NoAck.cyc1 dC dC)) (NoAck.ite (zij P _) (NoAck.ite (zij P _) (NoAck.ite (NoAck.app (zc1 P hi _) (zij P _)) (NoAck.nil)))))))))))))
theorem zrs (P:SPlan) (G:List Int) (hi:P.injected=false):NoAck (zgb P G):=by
 unfold zgb
 exact NoAck.app (zc1 P hi _) (NoAck.ite (NoAck.cyc1 dC dC) (NoAck.ite (NoAck.cyc1 dC dC) (NoAck.ite (ziu P _ _) (NoAck.ite (ziu P _ _) (NoAck.nil)))))
theorem zrr (P:SPlan) (G:List Int) (hi:P.injected=false):NoAck (zcl P G):=by
 unfold zcl
 exact (NoAck.ite (NoAck.ite (NoAck.cyc1 dC dC) (NoAck.ite (NoAck.cyc1 dC dC) (NoAck.nil))) (NoAck.ite (NoAck.ite (NoAck.app (zc1 P hi _) (NoAck.cyc1 dC dC)) (zc1 P hi _)) (NoAck.ite (NoAck.ite (NoAck.cyc1 dC dC) (NoAck.nil)) (NoAck.ite (zc1 P hi _) (NoAck.ite (NoAck.ite (NoAck.cyc2 dC dC dC dC) (NoAck.nil)) (NoAck.ite (zrs P G hi) (NoAck.ite (NoAck.cyc1 dC dC) (NoAck.ite (NoAck.cyc1 dC dC) (NoAck.ite (NoAck.app (zc1 P hi _) (NoAck.cyc1 dC dC)) (NoAck.ite (NoAck.app (zc1 P hi _) (NoAck.cyc1 dC dC)) (NoAck.ite (ziu P _ _) (zrt P hi))))))))))))
theorem zg8 (c:SCPU) (s:Int) (G:List Int) (hs:s≠5):(zdb c s G).kind≠8/\(zdb c s G).kind≠9:=by
 have hall:NoAck (zdz c s G):=by
  unfold zdz
  rw [if_neg hs]
  split
  ·exact NoAck.consK dC dC (zg7 _ _)
  split
  ·exact NoAck.consK dC dC NoAck.nil
  ·exact NoAck.consK dC dC (zrr _ _ (by show (s==5)=false;simpa using hs))
 unfold zdb
 cases h:(zdz c s G)[G.length]? with
 | none=>exact ⟨dC,dC⟩
 | some x=>exact hall x (List.mem_of_getElem? h)
def Inj (c:SCore) (G:List Int) (st:Int):Prop:=
 (G=[]/\c.cycle.kind=8/\st=0) \/
 (gAt G 0=205/\c.cycle.states=3/\((G.length=1/\c.cycle.kind=9/\st=1)\/(G.length=2/\c.cycle.kind=9/\st=2) \/
  (G.length=3/\c.cycle.kind=5/\c.cycle.data=c.cpu.regs.pc / 256/\st=0)\/(G.length=4/\gAt G 3=c.cpu.regs.pc / 256/\c.cycle.kind=5/\c.cycle.data=c.cpu.regs.pc%256/\st=0)))
structure VecS (c:SCore) (G:List Int) (st:Int):Prop where
 other:c.source≠5->st=0/\c.cycle.kind≠8/\c.cycle.kind≠9
 halt:c.next=9->c.source=0
 mine:c.source=5->(¬(zaj c=4\/zaj c=5\/zaj c=6)/\Inj c G st)\/((zaj c=4\/zaj c=5\/zaj c=6)/\G=[205]/\st=1)
theorem zrd (c:SCPU) (l:SLines):(zam c l).regs=c.regs/\(zam c l).chip=c.chip:=by
 unfold zam
 split
 ·exact ⟨rfl,rfl⟩
 ·exact ⟨rfl,rfl⟩
theorem zh8 (c:SCPU) (s:Int):(ze7 c s).regs=c.regs/\(ze7 c s).chip=c.chip:=by
 unfold ze7
 repeat' split
 all_goals exact ⟨rfl,rfl⟩
theorem zkl (G:List Int) (v:Int) (n:Nat) (h:n<G.length):gAt (G++[v]) n=gAt G n:=by
 unfold gAt
 rw [List.getElem?_append_left h]
theorem zqd (G:List Int) (v:Int):gAt (G++[v]) G.length=v:=by
 unfold gAt
 simp
theorem zu1 (c:SCPU) (a:Int):(sim c a).chip=c.chip:=by
 unfold sim
 dsimp only
 repeat' split
 all_goals rfl
theorem znl (P:SPlan) (G:List Int) (l:SLines):(zbk P G l).chip=P.c.chip:=by
 unfold zbk
 split
 ·rfl
 split
 ·rfl
 split
 ·rfl
 split
 ·rfl
 split
 ·rfl
 split
 ·exact zu1 _ _
 split
 ·rfl
 ·rfl
theorem znm (c:SCPU) (s:Int) (G:List Int) (l:SLines):(zch c s G l).chip=c.chip:=by
 unfold zch
 split
 ·rfl
 ·exact znl _ _ _
end
section
open Go.RowKit
theorem zjy (c:SCore) (n:Int) (h:Bool) (a:1<=n) (b:n<=9):zaj { c with next:=n,hold:=h }=n:=by
 unfold zaj
 dsimp only
 rw [if_neg oM]
theorem zli (c:SCore):(zg9 c).next=8\/((zg9 c).next=9/\c.source=0)\/(zg9 c).next=1:=by
 have h:=zga c c.hold
 show zik c c.hold=8\/(zik c c.hold=9/\c.source=0)\/zik c c.hold=1
 unfold zik at h ⊢
 split
 ·exact .inl rfl
 ·split
  ·rename_i h1 h2
   simp only [Bool.and_eq_true,beq_iff_eq] at h2
   exact .inr (.inl ⟨rfl,h2.2⟩)
  ·exact .inr (.inr rfl)
theorem zkg (c:SCore):¬(zaj (zg9 c)=4\/zaj (zg9 c)=5\/zaj (zg9 c)=6):=by
 unfold zaj
 rcases zli c with h|⟨h,_⟩|h<;>rw [h]<;>decide
theorem zi3 (c:SCore) (h:(zg9 c).next=9):(zg9 c).source=0:=by
 rcases zli c with k|⟨_,k⟩|k
 ·omega
 ·exact k
 ·omega
theorem zp4 (c:SCPU):(zdb c 5 []).kind=8:=rfl
theorem zsm (c:SCore) (s:Int):VecS (zg9 (zgu c s)) [] 0:=by
 refine ⟨fun hs=>⟨rfl,zg8 _ s [] hs⟩,fun hn=>zi3 _ hn,fun hs=>.inl ⟨zkg _,.inl ⟨rfl,?_,rfl⟩⟩⟩
 have hs':s=5:=hs
 subst hs'
 exact zp4 _
theorem z2k (c:SCore) (G:List Int) (l:SLines) (h5:c.source≠5):VecS (endM c G l) (endG c G) 0:=by
 unfold endM endG
 split
 ·exact ⟨fun _=>⟨rfl,zg8 c.cpu c.source G h5⟩,fun hn=>zi3 _ hn,fun h=>absurd h h5⟩
 ·exact zsm _ _
theorem ztf (c:SCPU) (G:List Int) (hc:c.chip=1\/c.chip=2) (hg:gAt G 0=205) (hG:0<G.length):zb9 c 5 G=decide (G.length<5):=by
 unfold zb9
 rw [zun c G hc hg hG]
 rfl
theorem zx1 (c:SCore) (G:List Int) (l:SLines) (st:Int) (h5:c.source=5) (hc:c.cpu.chip=1\/c.cpu.chip=2) (hg:gAt G 0=205)
  (hl:(G.length=1/\st=1)\/(G.length=2/\st=2)\/(G.length=3/\st=0)\/(G.length=4/\gAt G 3=c.cpu.regs.pc / 256/\st=0)\/(G.length=5/\st=0)):VecS (endM c G l) (endG c G) st:=by
 have hG:0<G.length:=oM
 have hm:=ztf c.cpu G hc hg hG
 have hn:zdb c.cpu 5 G=([⟨1,c.cpu.regs.pc,0,4⟩,cyc 9 c.cpu.regs.pc 0,cyc 9 c.cpu.regs.pc 0,cyc 5 (IntKind.u16.wrap (c.cpu.regs.sp-1)) (c.cpu.regs.pc / 256),cyc 5 (IntKind.u16.wrap (c.cpu.regs.sp-2)) (c.cpu.regs.pc%256)]:List SCycle)[G.length]?.getD SCycle.zero:=by
  unfold zdb
  rw [zun c.cpu G hc hg hG]
 unfold endM endG
 rw [h5,hm]
 by_cases h:G.length<5
 ·rw [if_pos (by simpa using h),if_pos (by simpa using h)]
  refine ⟨fun k=>absurd rfl k,fun hn=>zi3 _ hn,fun _=>.inl ⟨zkg _,.inr ⟨hg,?_⟩⟩⟩
  show (zdb c.cpu 5 G).states=3/\((G.length=1/\(zdb c.cpu 5 G).kind=9/\st=1)\/(G.length=2/\(zdb c.cpu 5 G).kind=9/\st=2) \/
   (G.length=3/\(zdb c.cpu 5 G).kind=5/\(zdb c.cpu 5 G).data=c.cpu.regs.pc / 256/\st=0)\/(G.length=4/\gAt G 3=c.cpu.regs.pc / 256/\(zdb c.cpu 5 G).kind=5/\(zdb c.cpu 5 G).data=c.cpu.regs.pc%256/\st=0))
  rw [hn]
  rcases hl with ⟨e,k⟩|⟨e,k⟩|⟨e,k⟩|⟨e,k1,k⟩|⟨e,k⟩
  ·rw [e];exact ⟨rfl,.inl ⟨rfl,rfl,k⟩⟩
  ·rw [e];exact ⟨rfl,.inr (.inl ⟨rfl,rfl,k⟩)⟩
  ·rw [e];exact ⟨rfl,.inr (.inr (.inl ⟨rfl,rfl,rfl,k⟩))⟩
  ·rw [e];exact ⟨rfl,.inr (.inr (.inr ⟨rfl,k1,rfl,rfl,k⟩))⟩
  ·omega
 ·have hst:st=0:=oM
  rw [if_neg (by simpa using h),if_neg (by simpa using h),hst]
  exact zsm _ _
theorem fin_v (c:SCPU) (G:List Int) (l:SLines) (hc:c.chip=1\/c.chip=2) (hg:gAt G 0=205):(zch c 5 G l).regs.pc=zfp G 1/\(zch c 5 G l).regs.sp=IntKind.u16.wrap (c.regs.sp-2):=by
 obtain ⟨k1,k2⟩:=zqk c.chip hc
 have hk:(zi0 c 5 G).i.kind=25:=by show (zb7 c.chip (gAt G 0)).kind=25;rw [hg];exact k1
 have ht:zcn (zi0 c 5 G)=true:=by
  unfold zcn
  show ztt (zb7 c.chip (gAt G 0)).cond _=true
  rw [hg,k2]
  rfl
 have h1:zdo 5=false:=dC
 unfold zch
 rw [h1,if_neg dC]
 unfold zbk
 rw [hk,if_neg dC,if_neg dC,if_pos dC]
 unfold zal
 rw [hk,if_neg dC,if_pos rfl,if_pos ht]
 exact ⟨rfl,rfl⟩
theorem zx2 (c:SCore) (G:List Int) (l:SLines) (x:SChange) (sg:Sl) (hx:x.ended=false) :
  (endM c G l).cpu.chip=c.cpu.chip/\(((endX c G l x sg).ended=true/\(endM c G l).cpu.regs=(endX c G l x sg).cpu.regs/\zb9 c.cpu c.source G=false/\(endX c G l x sg).cpu=zch c.cpu c.source G l)\/((endX c G l x sg).ended=false/\(endM c G l).cpu.regs=c.cpu.regs)):=by
 unfold endM endX
 split
 ·exact ⟨rfl,.inr ⟨hx,rfl⟩⟩
 ·rename_i h
  refine ⟨?_,.inl ⟨rfl,(zh8 _ _).1,by simpa using h,rfl⟩⟩
  exact ((zh8 _ _).2).trans (znm _ _ _ _)
theorem adv_v (c:SCore) (G:List Int) (l:SLines) (d st st':Int) (sg:Sl) (hv:VecS c G st) (hc:c.cpu.chip=1\/c.cpu.chip=2) (h1:c.source≠5->st'=0)
  (h2:c.source=5->st'=if zaj c=3/\(c.cycle.kind=8\/c.cycle.kind=9) then (if st=0 then 1 else if st=1 then 2 else 0) else st) (h3:zaj c=3->c.cycle.kind=8->st=0->d=205) (hpc:0<=c.cpu.regs.pc/\c.cpu.regs.pc<=65535) (hGB:BytesOk G) (hd:0<=d/\d<=255) (hcy:0<=c.cycle.data/\c.cycle.data<=255) :
  VecS (advC c G l d) (advG c G l d) st'/\(advC c G l d).cpu.chip=c.cpu.chip /\
  (((advX c G l d sg).ended=true/\(advC c G l d).cpu.regs=(advX c G l d sg).cpu.regs/\(c.source=5->VecOk (xG c G d) (advX c G l d sg).cpu c.cpu))\/((advX c G l d sg).ended=false/\(advC c G l d).cpu.regs=c.cpu.regs)):=by
 obtain ⟨hr,hch⟩:=zrd c.cpu l
 have hb:=zg2 c
 have keep:∀ (n:Int) (h:Bool),n≠4->n≠5->n≠6->(n=9->c.source=0)->¬(zaj c=4\/zaj c=5\/zaj c=6)->¬(zaj c=3)->VecS { zac c l with next:=n,hold:=h } G st':=by
  intro n h a4 a5 a6 a9 hns hn3
  refine ⟨fun k=>⟨h1 k,(hv.other k).2⟩,a9,fun k=>?_⟩
  have e2:st'=st:=by rw [h2 k,if_neg (fun e=>hn3 e.1)]
  have hnew:¬(zaj { zac c l with next:=n,hold:=h }=4\/zaj { zac c l with next:=n,hold:=h }=5\/zaj { zac c l with next:=n,hold:=h }=6):=by
   unfold zaj
   dsimp only
   split<;>omega
  rcases hv.mine k with ⟨m1,m2⟩|⟨m1,_⟩
  ·refine .inl ⟨hnew,?_⟩
   rw [e2]
   unfold Inj at m2 ⊢
   show (G=[]/\c.cycle.kind=8/\st=0)\/(gAt G 0=205/\c.cycle.states=3/\((G.length=1/\c.cycle.kind=9/\st=1)\/(G.length=2/\c.cycle.kind=9/\st=2) \/
    (G.length=3/\c.cycle.kind=5/\c.cycle.data=(zam c.cpu l).regs.pc / 256/\st=0)\/(G.length=4/\gAt G 3=(zam c.cpu l).regs.pc / 256/\c.cycle.kind=5/\c.cycle.data=(zam c.cpu l).regs.pc%256/\st=0)))
   rw [hr]
   exact m2
  ·exact absurd m1 hns
 unfold advC advG advX
 by_cases e1:zaj c=1
 ·rw [if_pos e1,if_neg oM,if_neg oM,if_neg oM,if_neg oM,if_neg oM]
  exact ⟨keep 2 c.hold dC dC dC (fun h=>absurd h dC) oM oM,hch,.inr ⟨rfl,hr⟩⟩
 rw [if_neg e1]
 by_cases e2:zaj c=2\/zaj c=7
 ·rw [if_pos e2,if_neg (show ¬zaj c=3 by omega),if_neg (show ¬(zaj c=4\/zaj c=5\/zaj c=6) by omega),if_neg (show ¬zaj c=9 by omega),if_neg (show ¬zaj c=3 by omega),if_neg (show ¬(zaj c=4\/zaj c=5\/zaj c=6) by omega)]
  refine ⟨?_,?_,.inr ⟨rfl,?_⟩⟩
  ·split
   ·exact keep 7 c.hold dC dC dC (fun h=>absurd h dC) oM oM
   ·exact keep 3 l.hold dC dC dC (fun h=>absurd h dC) oM oM
  ·split<;>exact hch
  ·split<;>exact hr
 rw [if_neg e2]
 by_cases e3:zaj c=3
 ·rw [if_pos e3, if_pos e3, if_pos e3]
  dsimp only
  have hx:xG c G d=G++[zbn c d]:=by unfold xG;rw [if_pos e3]
  by_cases h33:3<(zcj (zac c l) d).states
  ·rw [if_pos h33, if_pos h33, if_pos h33]
   refine ⟨⟨fun k=>⟨h1 k,(hv.other k).2⟩,fun h=>absurd (show (4:Int)=9 from h) dC,fun k=>.inr ⟨.inl rfl,?_⟩⟩,hch,.inr ⟨rfl,hr⟩⟩
   rcases hv.mine k with ⟨m1,m2⟩|⟨m1,_⟩
   ·rcases m2 with ⟨g1,g2,g3⟩|⟨g0,gs,g1⟩
    ·have hd:=h3 e3 g2 g3
     have hrd:zbn c d=205:=by unfold zbn;rw [g2,hd];rfl
     rw [hrd,g1,h2 k,if_pos ⟨e3,.inl g2⟩,if_pos g3]
     exact ⟨rfl,rfl⟩
    ·exfalso
     have hkk:¬(c.cycle.kind=1\/c.cycle.kind=8):=oM
     have:(zcj (zac c l) d).states=3:=by
      show zby (zac c l) d=3
      unfold zby
      rw [if_neg (show ¬((zac c l).cycle.kind=1\/(zac c l).cycle.kind=8) from hkk)]
      exact gs
     omega
   ·omega
  ·rw [if_neg h33, if_neg h33, if_neg h33]
   have hrd0:zbn (zac c l) d=zbn c d:=rfl
   obtain ⟨ec,ee⟩:=zx2 (third (zac c l) d) (G++[zbn c d]) l { SChange.zero with cycle:=zcj (zac c l) d,latched:=zam c.cpu l } sg rfl
   have hsrc:(third (zac c l) d).source=c.source:=rfl
   have hcpu:(third (zac c l) d).cpu=zam c.cpu l:=rfl
   have hchip:(third (zac c l) d).cpu.chip=1\/(third (zac c l) d).cpu.chip=2:=by rw [hcpu,hch];exact hc
   have key:c.source=5->gAt (G++[zbn c d]) 0=205/\(((G++[zbn c d]).length=2/\st'=2)\/((G++[zbn c d]).length=3/\st'=0)\/((G++[zbn c d]).length=4/\gAt (G++[zbn c d]) 3=c.cpu.regs.pc / 256/\st'=0)\/((G++[zbn c d]).length=5/\gAt (G++[zbn c d]) 3=c.cpu.regs.pc / 256/\gAt (G++[zbn c d]) 4=c.cpu.regs.pc%256/\st'=0)):=by
    intro k
    have h2':=h2 k
    rcases hv.mine k with ⟨m1,m2⟩|⟨m1,_⟩
    ·rcases m2 with ⟨g1,g2,g3⟩|⟨g0,gs,g1⟩
     ·exfalso
      have hd:=h3 e3 g2 g3
      have:3<(zcj (zac c l) d).states:=by
       show 3<zby (zac c l) d
       unfold zby
       rw [if_pos (show (zac c l).cycle.kind=1\/(zac c l).cycle.kind=8 from .inr g2)]
       have hrd:zbn (zac c l) d=205:=by unfold zbn;rw [show (zac c l).cycle.kind=8 from g2,hd];rfl
       rw [hrd]
       have:(zac c l).cpu.chip=c.cpu.chip:=hch
       rw [this]
       rcases hc with q|q<;>rw [q]<;>decide +kernel
      exact h33 this
     ·rcases g1 with ⟨a1,a2,a3⟩|⟨a1,a2,a3⟩|⟨a1,a2,a3,a4⟩|⟨a1,a2,a3,a4,a5⟩
      ·rw [if_pos ⟨e3,.inr a2⟩,a3,if_neg dC,if_pos rfl] at h2'
       exact ⟨by rw [zkl _ _ _ oM];exact g0,.inl ⟨by simp [a1],h2'⟩⟩
      ·rw [if_pos ⟨e3,.inr a2⟩,a3,if_neg dC,if_neg dC] at h2'
       exact ⟨by rw [zkl _ _ _ oM];exact g0,.inr (.inl ⟨by simp [a1],h2'⟩)⟩
      ·rw [if_neg oM,a4] at h2'
       have hrd:zbn c d=c.cpu.regs.pc / 256:=by unfold zbn;rw [a2,if_neg dC];exact a3
       have hla:=zqd G (zbn c d)
       rw [a1] at hla
       exact ⟨by rw [zkl _ _ _ oM];exact g0,.inr (.inr (.inl ⟨by simp [a1],hla.trans hrd,h2'⟩))⟩
      ·rw [if_neg oM,a5] at h2'
       have hrd:zbn c d=c.cpu.regs.pc%256:=by unfold zbn;rw [a3,if_neg dC];exact a4
       have hla:=zqd G (zbn c d)
       rw [a1] at hla
       exact ⟨by rw [zkl _ _ _ oM];exact g0,.inr (.inr (.inr ⟨by simp [a1],by rw [zkl _ _ _ oM];exact a2,hla.trans hrd,h2'⟩))⟩
    ·omega
   refine ⟨?_,ec.trans hch,?_⟩
   ·by_cases k:c.source=5
    ·obtain ⟨k1,k2⟩:=key k
     refine zx1 _ _ l st' k hchip k1 ?_
     rw [hcpu,hr]
     omega
    ·rw [h1 k]
     exact z2k _ _ _ k
   ·rcases ee with ⟨f1,f2,f3,f4⟩|⟨f1,f2⟩
    ·refine .inl ⟨f1,f2,fun k=>?_⟩
     obtain ⟨k1,k2⟩:=key k
     have hl5:(G++[zbn c d]).length=5:=by
      have:=ztf (third (zac c l) d).cpu (G++[zbn c d]) hchip k1 oM
      rw [hsrc,k,this] at f3
      have f3':¬(G++[zbn c d]).length<5:=by simpa using f3
      omega
     obtain ⟨v1,v2⟩:=fin_v (third (zac c l) d).cpu (G++[zbn c d]) l hchip k1
     rw [hx,show (endX (third (zac c l) d) (G++[zbn c d]) l { SChange.zero with cycle:=zcj (zac c l) d,latched:=zam c.cpu l } sg).cpu=zch (third (zac c l) d).cpu 5 (G++[zbn c d]) l from by rw [f4,hsrc,k]]
     refine ⟨hl5,k1,v1,?_,by rw [v2,hcpu,hr],hGB.app (by unfold zbn;split;exact hd;exact hcy)⟩
     have k3:gAt (G++[zbn c d]) 3=c.cpu.regs.pc / 256/\gAt (G++[zbn c d]) 4=c.cpu.regs.pc%256:=by
      rcases k2 with ⟨a,_⟩|⟨a,_⟩|⟨a,_⟩|⟨_,a,b,_⟩
      ·omega
      ·omega
      ·omega
      ·exact ⟨a,b⟩
     rw [k3.1,k3.2]
     unfold ze9
     omega
    ·exact .inr ⟨f1,f2.trans hr⟩
 rw [if_neg e3,if_neg e3,if_neg e3]
 by_cases e4:zaj c=4\/zaj c=5\/zaj c=6
 ·rw [if_pos e4, if_pos e4, if_pos e4]
  by_cases h5:zaj c<c.cycle.states/\zaj c≠6
  ·rw [if_pos h5,if_pos h5,if_pos h5]
   refine ⟨⟨fun k=>⟨h1 k,(hv.other k).2⟩,fun h=>absurd (show zaj c+1=9 from h) oM,fun k=>.inr ⟨?_,?_⟩⟩,hch,.inr ⟨rfl,hr⟩⟩
   ·rw [show zaj { zac c l with next:=zaj c+1 }=zaj c+1 from zjy (zac c l) (zaj c+1) c.hold oM oM]
    omega
   ·rcases hv.mine k with ⟨m1,_⟩|⟨_,m2,m3⟩
    ·exact absurd e4 m1
    ·exact ⟨m2,by rw [h2 k,if_neg (fun e=>e3 e.1)];exact m3⟩
  ·rw [if_neg h5, if_neg h5, if_neg h5]
   obtain ⟨ec,ee⟩:=zx2 (zac c l) G l { SChange.zero with cycle:=c.cycle,latched:=zam c.cpu l } sg rfl
   have hchip:(zac c l).cpu.chip=1\/(zac c l).cpu.chip=2:=by rw [show (zac c l).cpu.chip=c.cpu.chip from hch];exact hc
   refine ⟨?_,ec.trans hch,?_⟩
   ·by_cases k:c.source=5
    ·rcases hv.mine k with ⟨m1,_⟩|⟨_,m2,m3⟩
     ·exact absurd e4 m1
     ·have hst:st'=1:=by rw [h2 k,if_neg (fun e=>e3 e.1)];exact m3
      refine zx1 _ _ l st' k hchip (by rw [m2];rfl) (.inl ⟨by rw [m2];rfl,hst⟩)
    ·rw [h1 k]
     exact z2k _ _ _ k
   ·rcases ee with ⟨f1,f2,f3,f4⟩|⟨f1,f2⟩
    ·refine .inl ⟨f1,f2,fun k=>?_⟩
     exfalso
     rcases hv.mine k with ⟨m1,_⟩|⟨_,m2,m3⟩
     ·exact m1 e4
     ·rw [show (zac c l).source=5 from k,m2,ztf _ [205] hchip rfl dC] at f3
      cases f3
    ·exact .inr ⟨f1,f2.trans hr⟩
 rw [if_neg e4,if_neg e4,if_neg e4]
 by_cases e8:zaj c=8
 ·rw [if_pos e8,if_neg (show ¬zaj c=9 by omega)]
  have hn:=zga (zac c l) l.hold
  refine ⟨keep (zik (zac c l) l.hold) c.hold ?_ ?_ ?_ (fun h=>(hn h).1) e4 e3,hch,.inr ⟨rfl,hr⟩⟩
  all_goals
   unfold zik
   repeat' split
   all_goals decide
 rw [if_neg e8]
 by_cases e9:zaj c=9
 ·rw [if_pos e9,if_pos e9]
  have hs0:c.source=0:=hv.halt (by unfold zaj at e9;split at e9<;>omega)
  have hst:st'=0:=h1 oM
  unfold zfi
  by_cases hp:zc5 (zac c l).cpu l=0
  ·rw [if_pos hp,hp]
   refine ⟨⟨fun k=>⟨hst,(hv.other k).2⟩,fun _=>hs0,fun k=>absurd (hs0.symm.trans k) dC⟩,hch,.inr ⟨rfl,hr⟩⟩
  ·rw [if_neg hp]
   obtain ⟨ar,ac⟩:=zh8 (zac c l).cpu (zc5 (zac c l).cpu l)
   have hw:zdr (zc5 (zac c l).cpu l) l.hold=8\/zdr (zc5 (zac c l).cpu l) l.hold=1:=by
    unfold zdr
    rw [if_neg hp]
    split
    ·exact .inl rfl
    ·exact .inr rfl
   refine ⟨⟨fun k=>⟨hst,zg8 _ _ [] k⟩,fun h=>?_,fun k=>.inl ⟨?_,.inl ⟨rfl,?_,hst⟩⟩⟩,ac.trans hch,.inr ⟨rfl,ar.trans hr⟩⟩
   ·exfalso
    have h':zdr (zc5 (zac c l).cpu l) l.hold=9:=h
    omega
   ·rw [show zaj { zgu (zac c l) (zc5 (zac c l).cpu l) with next:=zdr (zc5 (zac c l).cpu l) l.hold }=zdr (zc5 (zac c l).cpu l) l.hold from zjy (zgu (zac c l) (zc5 (zac c l).cpu l)) _ _ oM oM]
    omega
   ·have k':zc5 (zac c l).cpu l=5:=k
    show (zdb (ze7 (zac c l).cpu (zc5 (zac c l).cpu l)) (zc5 (zac c l).cpu l) []).kind=8
    rw [k']
    exact zp4 _
 ·exfalso;omega
end
section
open Go.RowKit
theorem zje (p:SPIC) (l:Int):(zck p l).step=p.step:=by
 unfold zck
 split<;>rfl
theorem zxo (p:SPIC):(ackC p).1.step=(if p.step=0 then 1 else if p.step=1 then 2 else 0)/\(p.step=0->(ackC p).2=205):=by
 unfold ackC
 by_cases h0:p.step=0
 ·rw [if_pos h0,if_pos h0]
  split<;>exact ⟨rfl,fun _=>rfl⟩
 ·rw [if_neg h0,if_neg h0]
  by_cases h1:p.step=1
  ·rw [if_pos h1,if_pos h1]
   exact ⟨rfl,fun h=>absurd h h0⟩
  ·rw [if_neg h1,if_neg h1]
   refine ⟨?_,fun h=>absurd h h0⟩
   split
   ·exact zje _ _
   ·rfl
theorem zss (p:SPIC) (hi:Bool):(zdw p hi).1.step=p.step:=by
 unfold zdw
 split
 ·rfl
 split
 ·split
  ·rfl
  split
  ·exact zje _ _
  ·rfl
 ·split<;>rfl
theorem zqo (p:SPIC) (hi:Bool) (v:Int) (h:p.step=0):(zht p hi v).step=0:=by
 unfold zht
 split
 ·unfold zo1
  split
  ·split
   ·split<;>exact h
   ·exact h
  split
  ·split<;>exact h
  split
  ·exact h
  ·exact h
 split
 ·split
  ·unfold zcx
   split
   ·exact h
   split
   ·exact h
   split
   ·split
    ·exact h
    ·split<;>exact h
   split
   ·exact h
   split
   ·exact h
   split
   ·exact h
   ·exact h
  ·have e0:(zk5 p v).step=0:=by unfold zk5;split<;>exact h
   have e1:(zmq (zk5 p v) v).step=0:=by unfold zmq;split<;>exact e0
   unfold zpl
   split<;>exact e1
 ·rfl
theorem z0u (B:SBoard) (L:List SRegion) (t:Mach) (i:SInput) (hr:¬i.reset=true):(clkM B L t i).s.pic=(clk2 B L t i).s.pic:=by
 unfold clkM
 rw [if_neg hr]
 unfold clk3
 dsimp only
 split<;>rfl
theorem zqm (B:SBoard) (L:List SRegion) (s:SSystem) (M:List SCell) (i:SInput) (hj:B.jam=false) :
  (busM B L s M i).1.pic.step=(if zc2 s i=true/\(s.core.cycle.kind=8\/s.core.cycle.kind=9) then (if s.pic.step=0 then 1 else if s.pic.step=1 then 2 else 0) else s.pic.step) /\
  (zc2 s i=true->s.core.cycle.kind=8->s.pic.step=0->(busM B L s M i).2=205):=by
 have hl:(zfx B s i).pic.step=s.pic.step:=by
  unfold zfx zgj
  rw [hj]
  rfl
 have hc:(zfx B s i).core=s.core:=rfl
 unfold busM
 by_cases ha:zc2 s i=true
 ·by_cases hrd:zd1 s.core.cycle.kind=true
  ·rw [if_pos (by rw [ha,hrd];rfl)]
   unfold zdp
   dsimp only
   rw [hc]
   by_cases hacc:accM s.core.cycle.kind=true
   ·rw [if_pos hacc]
    have hk:¬(s.core.cycle.kind=8\/s.core.cycle.kind=9):=by
     unfold accM at hacc
     simp only [Bool.or_eq_true,beq_iff_eq] at hacc
     omega
    rw [if_neg (show ¬(zc2 s i=true/\(s.core.cycle.kind=8\/s.core.cycle.kind=9)) from fun e=>hk e.2)]
    exact ⟨hl,fun _ k=>absurd (.inl k) hk⟩
   ·rw [if_neg hacc]
    by_cases hk:s.core.cycle.kind=8\/s.core.cycle.kind=9
    ·rw [if_pos hk,if_pos (show zc2 s i=true/\(s.core.cycle.kind=8\/s.core.cycle.kind=9) from ⟨ha,hk⟩),if_neg (show ¬(B.jam=true) by rw [hj];decide)]
     obtain ⟨a1,a2⟩:=zxo (zfx B s i).pic
     rw [hl] at a1
     exact ⟨a1,fun _ _ k=>a2 (hl.trans k)⟩
    ·rw [if_neg hk,if_neg (show ¬(zc2 s i=true/\(s.core.cycle.kind=8\/s.core.cycle.kind=9)) from fun e=>hk e.2)]
     refine ⟨?_,fun _ k=>absurd (.inl k) hk⟩
     split
     ·exact (zss _ _).trans hl
     split<;>exact hl
  ·rw [if_neg (by rw [ha];simpa using hrd)]
   have hk:¬(s.core.cycle.kind=8\/s.core.cycle.kind=9):=by
    unfold zd1 at hrd
    simp only [Bool.or_eq_true,beq_iff_eq] at hrd
    omega
   rw [if_neg (show ¬(zc2 s i=true/\(s.core.cycle.kind=8\/s.core.cycle.kind=9)) from fun e=>hk e.2)]
   exact ⟨hl,fun _ k=>absurd (.inl k) hk⟩
 ·rw [if_neg (by simp [ha]),if_neg (show ¬(zc2 s i=true/\(s.core.cycle.kind=8\/s.core.cycle.kind=9)) from fun e=>ha e.1)]
  exact ⟨hl,fun k=>absurd k ha⟩
theorem zxe (B:SBoard) (L:List SRegion) (t:Mach) (i:SInput) (hj:B.jam=false) (hr:¬i.reset=true) (hv:VecS t.s.core t.g t.s.pic.step) :
  (t.s.core.source≠5->(clkM B L t i).s.pic.step=0) /\
  (t.s.core.source=5->(clkM B L t i).s.pic.step=if zaj t.s.core=3/\(t.s.core.cycle.kind=8\/t.s.core.cycle.kind=9) then (if t.s.pic.step=0 then 1 else if t.s.pic.step=1 then 2 else 0) else t.s.pic.step):=by
 obtain ⟨b1,_⟩:=zqm B L t.s t.m i hj
 have hact:zc2 t.s i=true ↔ zaj t.s.core=3:=by
  unfold zc2
  simp [hr]
 rw [z0u B L t i hr]
 have h1:(clk1 B L t i).s.pic=(busM B L t.s t.m i).1.pic:=rfl
 constructor
 ·intro hs
  obtain ⟨o1,o2,o3⟩:=hv.other hs
  have hb:(busM B L t.s t.m i).1.pic.step=0:=by rw [b1,if_neg oM];exact o1
  unfold clk2
  dsimp only
  split
  ·unfold zc0
   split
   ·split
    ·exact zqo _ _ _ hb
    split<;>exact hb
   ·exact hb
  ·exact hb
 ·intro hs
  have hk7:zc2 t.s i=true->t.s.core.cycle.kind≠7:=by
   intro ha
   rw [hact] at ha
   rcases hv.mine hs with ⟨m1,m2⟩|⟨m1,_⟩
   ·unfold Inj at m2
    omega
   ·omega
  have hb:(clk2 B L t i).s.pic.step=(busM B L t.s t.m i).1.pic.step:=by
   unfold clk2
   dsimp only
   split
   ·rename_i hw
    simp only [Bool.and_eq_true] at hw
    unfold zc0
    rw [if_neg (hk7 hw.1)]
    rfl
   ·rfl
  rw [hb,b1]
  by_cases h:zaj t.s.core=3/\(t.s.core.cycle.kind=8\/t.s.core.cycle.kind=9)
  ·rw [if_pos h,if_pos ⟨hact.2 h.1,h.2⟩]
  ·rw [if_neg h,if_neg (fun e=>h ⟨hact.1 e.1,e.2⟩)]
structure KeepV (B:SBoard) (r:RecM):Prop where
 len:r.ev.length=r.cp.length
 ok:okV (zg3 B) (r.ev.zip r.cp)
 last:r.last=ztk (zg3 B) (r.ev.zip r.cp)
 regs:r.t.s.core.cpu.regs=r.last.regs
 chip:r.t.s.core.cpu.chip=B.chip
 vec:VecS r.t.s.core r.t.g r.t.s.pic.step
structure RecV (B:SBoard) (ev:List MEv) (cp:List SCPU) (last:SCPU):Prop where
 len:ev.length=cp.length
 ok:okV (zg3 B) (ev.zip cp)
 last:last=ztk (zg3 B) (ev.zip cp)
theorem RecV.add {B:SBoard} {ev:List MEv} {cp:List SCPU} {last:SCPU} (h:RecV B ev cp last) (e:MEv) (q:SCPU) (hk:e.e.kind=2->VecOk e.b q last):RecV B (ev++[e]) (cp++[q]) q:=by
 refine ⟨by simp [h.len],?_,?_⟩
 ·rw [zls h.len]
  exact zta _ _ _ h.ok (fun k=>by rw [<- h.last];exact hk k)
 ·rw [zls h.len,znd]
theorem ztn (s:Int) (h:zkd s=2):s=5:=by
 unfold zkd at h
 split at h
 ·omega
 ·split at h
  ·assumption
  ·omega
theorem VecOk.regs {b:List Int} {q c c':SCPU} (h:VecOk b q c) (e:c.regs=c'.regs):VecOk b q c':=by
 unfold VecOk at h ⊢
 rw [<- e]
 exact h
theorem z1n (B:SBoard) (L:List SRegion) (r:RecM) (i:SInput) (k n:Nat) (hj:B.jam=false) (hB:B.chip=1\/B.chip=2) (ho:r.t.Ok k n) (hi:okIn i) (h:KeepV B r):KeepV B (zjh B L r i):=by
 have hc:=zkq B L r.t i
 have hp:(momM B L r.t i).pins.state=if i.reset=true then 10 else zaj r.t.s.core:=zh2 B L r.t i
 have hR:RecV B r.ev r.cp r.last:=⟨h.len,h.ok,h.last⟩
 have hdma:∀ (r1:RecM) (x:SMoment),KeepV B r1->KeepV B (dmaR r1 x):=by
  intro r1 x h1
  unfold dmaR
  split
  ·have:=RecV.add ⟨h1.len,h1.ok,h1.last⟩ ⟨dmaE x,[]⟩ r1.last (fun k=>absurd (show (5:Int)=2 from k) dC)
   exact ⟨this.len,this.ok,this.last,h1.regs,h1.chip,h1.vec⟩
  ·exact h1
 unfold zjh zgl
 refine hdma _ _ ?_
 unfold zgf
 dsimp only
 by_cases hr:i.reset=true
 ·rw [if_pos (by rw [hp,if_pos hr])]
  have hcore:(clkM B L r.t i).s.core=zhf (zfc r.t.s.core.cpu) 0:=by rw [hc];unfold clkC;rw [if_pos (show (zcv B L r.t.s i).reset=true from hr)]
  have hg:(clkM B L r.t i).s.pic.step=0:=by unfold clkM;rw [if_pos hr]
  have hV:VecS (clkM B L r.t i).s.core (clkM B L r.t i).g (clkM B L r.t i).s.pic.step:=by
   rw [hcore,hg]
   exact ⟨fun _=>⟨rfl,zg8 _ 0 [] dC⟩,fun hn=>rfl,fun k=>absurd (show (0:Int)=5 from k) dC⟩
  have hchip:(clkM B L r.t i).s.core.cpu.chip=B.chip:=by rw [hcore];exact h.chip
  unfold zgw cutR
  split
  ·have a1:=hR.add ⟨cutE (momM B L r.t i),r.t.g⟩ r.last (fun k=>absurd (show (6:Int)=2 from k) dC)
   have a2:=a1.add ⟨zj1 (momM B L r.t i),[]⟩ (clkM B L r.t i).s.core.cpu (fun k=>absurd (show (4:Int)=2 from k) dC)
   exact ⟨a2.len,a2.ok,a2.last,rfl,hchip,hV⟩
  ·have a2:=hR.add ⟨zj1 (momM B L r.t i),[]⟩ (clkM B L r.t i).s.core.cpu (fun k=>absurd (show (4:Int)=2 from k) dC)
   exact ⟨a2.len,a2.ok,a2.last,rfl,hchip,hV⟩
 ·have hne:¬(momM B L r.t i).pins.state=10:=by rw [hp,if_neg hr];have:=zg2 r.t.s.core;omega
  rw [if_neg hne]
  have hcore:(clkM B L r.t i).s.core=advC r.t.s.core r.t.g (zcv B L r.t.s i) (busM B L r.t.s r.t.m i).2:=by rw [hc];unfold clkC;rw [if_neg (show ¬(zcv B L r.t.s i).reset=true from hr)]
  have hgg:(clkM B L r.t i).g=advG r.t.s.core r.t.g (zcv B L r.t.s i) (busM B L r.t.s r.t.m i).2:=by
   unfold clkM
   rw [if_neg hr]
   unfold clk3 clk2 clk1
   dsimp only
   repeat' split
   all_goals (dsimp only;unfold clkG;rw [if_neg (show ¬(zcv B L r.t.s i).reset=true from hr)])
  obtain ⟨s1,s2⟩:=zxe B L r.t i hj hr h.vec
  obtain ⟨_,b2⟩:=zqm B L r.t.s r.t.m i hj
  have hact:zaj r.t.s.core=3->zc2 r.t.s i=true:=by
   intro e
   unfold zc2
   simp [hr,e]
  obtain ⟨a1,a2,a3⟩:=adv_v r.t.s.core r.t.g (zcv B L r.t.s i) (busM B L r.t.s r.t.m i).2 r.t.s.pic.step (clkM B L r.t i).s.pic.step ⟨none,0,0⟩ h.vec (by rw [h.chip];exact hB) s1 s2 (fun e k z=>b2 (hact e) k z) ⟨ho.core.regs.pc.1,ho.core.regs.pc.2⟩ ho.core.bytes (zmn B L r.t.s r.t.m i ho.m ho.pic ho.dma ⟨hi.2.2.1,hi.2.2.2⟩ ⟨hi.1,hi.2.1⟩).2.1 ho.core.cyc.data
  rw [<- hcore,<- hgg] at a1
  rw [<- hcore] at a2 a3
  have hchip:(clkM B L r.t i).s.core.cpu.chip=B.chip:=a2.trans h.chip
  unfold endR
  rcases a3 with ⟨c1,c2,c3⟩|⟨c1,c2⟩
  ·rw [if_pos (show (chX (momM B L r.t i) r.t.g).ended=true from c1)]
   have:=hR.add ⟨endE (momM B L r.t i) r.t.g,xG r.t.s.core r.t.g (busM B L r.t.s r.t.m i).2⟩ (advX r.t.s.core r.t.g (zcv B L r.t.s i) (busM B L r.t.s r.t.m i).2 ⟨none,0,0⟩).cpu (fun k=>(c3 (ztn _ k)).regs h.regs)
   exact ⟨this.len,this.ok,this.last,c2,hchip,a1⟩
  ·rw [if_neg (show ¬(chX (momM B L r.t i) r.t.g).ended=true from by show ¬(advX _ _ _ _ _).ended=true;rw [show (advX (momM B L r.t i).before r.t.g (momM B L r.t i).lines (momM B L r.t i).data ⟨none,0,0⟩).ended=false from c1];simp)]
   exact ⟨h.len,h.ok,h.last,c2.trans h.regs,hchip,a1⟩
theorem z1u (B:SBoard) (M:List SCell):KeepV B (newR B M):=
 ⟨rfl,trivial,rfl,rfl,rfl,⟨fun _=>⟨rfl,zg8 _ 0 [] dC⟩,fun hn=>rfl,fun k=>absurd (show (0:Int)=5 from k) dC⟩⟩
theorem zyf (B:SBoard) (L:List SRegion) (r:RecM) (i:SInput):(zjh B L r i).t=clkM B L r.t i:=by
 unfold zjh zgl dmaR zgf zgw endR
 repeat' split
 all_goals first|rfl|exact zx4 _ _ _
theorem z1p (B:SBoard) (L:List SRegion) (hj:B.jam=false) (hB:B.chip=1\/B.chip=2) (k:Nat):∀ (l:List SInput) (r:RecM) (n:Nat),(∀ i ∈ l,okIn i)->n+l.length<=1000000->r.t.Ok k n->KeepV B r->KeepV B (runM B L r l)
 | [],_,_,_,_,_,h=>h
 | i::l,r,n,hi,hn,ho,h=>by
  have hi0:=hi i sI
  refine z1p B L hj hB k l _ (n+1) (fun x hx=>hi x (by simp [hx])) (by simp at hn;omega) ?_ (z1n B L r i k n hj hB ho hi0 h)
  rw [zyf]
  exact zpc B L r.t i k n ho ⟨⟨hi0.1,hi0.2.1⟩,⟨hi0.2.2.1,hi0.2.2.2⟩⟩ (by simp at hn;omega)
theorem z02 (B:SBoard) (L:List SRegion) (M:List SCell) (l:List SInput) (hj:B.jam=false) (hB:B.chip=1\/B.chip=2) (hM:MemOk M) (hi:∀ i ∈ l,okIn i) (hl:l.length<=1000000) :
  (zee B L M l).ev.length=(zee B L M l).cp.length/\okV (zg3 B) ((zee B L M l).ev.zip (zee B L M l).cp):=by
 have h:=z1p B L hj hB M.length l (newR B M) 0 hi oM (zom B M hM) (z1u B M)
 unfold zee zew
 split
 ·have:=RecV.add ⟨h.len,h.ok,h.last⟩ ⟨zq6 (runM B L (newR B M) l).t.s.core,(runM B L (newR B M) l).t.g⟩ (runM B L (newR B M) l).last (fun k=>absurd (show (7:Int)=2 from k) dC)
  exact ⟨this.len,this.ok⟩
 ·exact ⟨h.len,h.ok⟩
end
section
open Go.RowKit
theorem BoardOk.jam {w:World} {B B':SBoard} {L:List SRegion} {M:List SCell} (h:BoardOk w B L M) (h1:B'.chip=B.chip) (h2:B'.regions=B.regions) (h3:B'.image=B.image) (h4:B'.iowaits=B.iowaits):BoardOk w B' L M:=
 ⟨by rw [h1];exact h.chip,by rw [h2];exact h.regs,by rw [h3];exact h.image,h.few,h.each,by rw [h4];exact h.waits,h.mem,h.len⟩
theorem topVectors_walk (a:Option Addr) (len cap:Nat) (zs:List Int) (w:World) (wl:IsRow .i64 w a len cap zs) :
  Calls prog 4 #[.slice a len cap] w fun e w'=>e=.returned (.bool true)/\Below w.heap.size w w':=by
 by_cases hl:250<len
 ·have hlI:(250:Int)<(len:Int):=oM
  go_enter func4,ntmps4
  go_wp2_with (go_at_call 6;(refine (zf8 _).mono ?_);rintro e w1 ⟨rfl,hB1⟩)
  go_ret
  exact ⟨rfl,hB1⟩
 ·have hlI : ¬ (250 : Int) < (len : Int) := oM
  have MD:Aside (∀ w1,Below w.heap.size w w1->Calls prog 7 #[.slice a len cap,.int .i64 120] w1 (Made 120 w1)):=fun w1 hB=>by
   obtain ⟨r0,r1⟩:=zj0 wl
   refine zl9 ⟨a,len,cap⟩ (zs.take len) w1 r0 (fun j hj=>?_) (by rw [<- r0];omega) 120 oM
   obtain ⟨g,off,e1,e2,e3⟩:=r1 j hj
   exact ⟨g,off,e1,Nat.lt_of_lt_of_le e2 hB.size,(zbx hB e2 _).trans e3⟩
  clear wl
  go_enter func4,ntmps4
  go_upto_region 5 with (go_at_call 7;(refine (MD.out _ bL).mono ?_);rintro e w2 ⟨B0,L,M,q,X,rfl,hBO0,hX,hXl,hXb,hb2⟩)
  obtain ⟨B,hBd,hBj,hBc⟩:∃ B:SBoard,({ B0 with jam:=false }:SBoard)=B/\B.jam=false/\(B.chip=B0.chip/\B.regions=B0.regions/\B.image=B0.image/\B.iowaits=B0.iowaits):=⟨_,rfl,rfl,rfl,rfl,rfl,rfl⟩
  refine wpNm (fun W2 hW2=>?_)
  have fb:blk W2 w2.heap.size=some (.cells B.cells 27):=by rw [hW2,<- hBd];exact sM
  have hb22:Below w2.heap.size w2 W2:=by rw [hW2];exact bL
  have hBO:BoardOk W2 B L M:=(hBO0.thru hb22).jam hBc.1 hBc.2.1 hBc.2.2.1 hBc.2.2.2
  have hX3:Row W2 0 W2.heap.size 5 1 encB q X:=(hX.thru hb22 nL).hi_mono hb22.size
  have RN:=hid (zoc _ hBO hX3 hXb oM)
  have HJ:Aside (B.jam=false/\(B.chip=1\/B.chip=2)/\MemOk M):=⟨hBj,hBO.chip,hBO.mem⟩
  have hb23:Below w.heap.size w W2:=hb2.trans (hb22.mono hb2.size)
  have hz2:=zak fb
  clear hW2 hBO0 hX hBO hX3 hXb hBd hBj hBc hb2 hb22
  go_upto_region 6 with (go_at_call 8;(refine RN.out.mono ?_);intro e w3 hran;obtain ⟨rn,l,E,gs,ms,ou,rfl,hl1,hl2,hl3,Rtr,Rev,REv,Rcp,hsys,Rmem,htr,hb3⟩:=hran;have fb3:blk w3 w2.heap.size=some (.cells B.cells 27):=(hb3.block _ hz2).trans fb)
  obtain ⟨hvl,hvo⟩:=z02 B L M l HJ.out.1 HJ.out.2.1 HJ.out.2.2 hl2 oM
  obtain ⟨RM,hRM⟩:∃ r,zee B L M l=r:=⟨_,rfl⟩
  rw [hRM] at Rtr REv Rcp hvl hvo
  have hbw3:Aside (Below w.heap.size w w3):=hb23.trans (hb3.mono hb23.size)
  clear hl1 hl2 hl3 Rtr hsys Rmem htr hRM hb3 hb23 RN fb
  refine wpNm (fun W hW=>?_)
  have f50:blk W w3.heap.size=some (.cells rn.cells 54):=by rw [hW];exact zab _ _ _ rfl
  have hb3W:Below w3.heap.size w3 W:=by rw [hW];exact (Below.refl _ w3).alloc nL _
  have fbW:blk W w2.heap.size=some (.cells B.cells 27):=(hb3W.block _ (zak fb3)).trans fb3
  obtain ⟨g5,hg5⟩:∃ g,g=w3.heap.size:=⟨_,rfl⟩
  rw [<- hg5] at f50 ⊢
  have f5:=f50
  obtain ⟨N,hN⟩:∃ N,E.length=N:=⟨_,rfl⟩
  have hnE:rn.events.n=N:=Rev.len.trans hN
  have hevN:RM.ev.length=N:=REv.len.symm.trans hN
  have hcpN:RM.cp.length=N:=hvl.symm.trans hevN
  have hnC:rn.cpus.n=N:=Rcp.len.trans hcpN
  obtain ⟨pE,hpE⟩:∃ pE,rn.events.p=pE:=⟨_,rfl⟩
  obtain ⟨pC,hpC⟩:∃ pC,rn.cpus.p=pC:=⟨_,rfl⟩
  have hNb:N<=9223372036854775807:=by
   by_cases h0:0<E.length
   ·obtain ⟨_,_,_,_,_,_,_,k1,k2,_⟩:=Rev.at h0
    unfold maxLen at k2
    omega
   ·omega
  have RE:Aside (Row W 0 W.heap.size 63 18 SEvent.cells rn.events E):=(Rev.thru hb3W nL).hi_mono hb3W.size
  have RC:Aside (Row W 0 W.heap.size 41 28 SCPU.cells rn.cpus RM.cp):=(Rcp.thru hb3W nL).hi_mono hb3W.size
  have hbW:Aside (Below w.heap.size w W):=hbw3.out.trans (hb3W.mono hbw3.out.size)
  have HN:Aside (E.length=N/\RM.ev.length=N/\RM.cp.length=N):=⟨hN,hevN,hcpN⟩
  have HEV:Aside (∀ (j:Nat) (hj:j<E.length) (hl:j<RM.ev.length),E[j] = { (RM.ev[j]).e with bytes:=(E[j]).bytes }):=REv.get
  have HEB:Aside (∀ (j:Nat) (hj:j<E.length) (hl:j<RM.ev.length),Row W 0 W.heap.size 5 1 encB (E[j]).bytes (RM.ev[j]).b):=fun j h1 h2=>((REv.row j h1 h2).thru hb3W nL).hi_mono hb3W.size
  have HK:Aside (okV (zg3 B) (RM.ev.zip RM.cp)):=hvo
  clear hW hb3W hg5 f50 hN hevN hcpN Rev Rcp REv hvl hvo hbw3 fb3
  obtain ⟨gc5,gf5,gz5⟩:=zaa f5
  go_upto_region 9 with (go_at_call 11;(refine (zqx B _).mono ?_);rintro e w4 ⟨rfl,hB4⟩)
  have hzW4:W.heap.size<=w4.heap.size:=hB4.size
  refine wpNm (fun V hV=>?_)
  have hWV:Aside (Below W.heap.size W V):=by rw [hV];exact hB4.alloc hzW4 _
  obtain ⟨g7,hg7⟩:∃ g,g=w4.heap.size:=⟨_,rfl⟩
  have f7:blk V g7=some (.cells (zg3 B).cells 41):=by rw [hV,hg7];exact zab _ _ _ rfl
  have hW7:W.heap.size<=g7:=oM
  rw [<- hg7]
  have f5V:blk V g5=some (.cells rn.cells 54):=(hWV.out.block g5 gz5).trans f5
  obtain ⟨c0,hc0⟩:∃ c,zg3 B=c:=⟨_,rfl⟩
  rw [hc0] at f7 HK ⊢
  have hbV:Aside (Below w.heap.size w V):=hbW.out.trans (hWV.out.mono hbW.out.size)
  have hw7:w.heap.size<=g7:=Nat.le_trans hbW.out.size hW7
  have hg57:g5<g7:=oM
  clear hV hg7 hc0 hB4 hzW4 gc5 gf5 f5 fbW
  obtain ⟨gc5,gf5,gzV⟩:=zaa f5V
  go_wp2_with fail
  go_loopg [42] N (fun kx s42 wr=>∃ (i:Nat) (c:SCPU),s42=.int .i64 i/\i<=N/\N-i<=kx/\Aside (okV c ((RM.ev.zip RM.cp).drop i))/\blk wr g7=some (.cells c.cells 41)/\Aside (Below g7 V wr))
  case atStart=>exact ⟨0,c0,rfl,oM,oM,HK,f7,Below.refl _ _⟩
  case round=>
   obtain ⟨i,c,rfl,hi,hix,hok,f7r,hBr⟩:=hrel
   have f5r:blk wr g5=some (.cells rn.cells 54):=(hBr.out.block g5 hg57).trans f5V
   by_cases hlt:i<N
   ·have hiI:(i:Int)<(N:Int):=oM
    have hZ:i<(RM.ev.zip RM.cp).length:=by rw [List.length_zip,HN.out.2.1,HN.out.2.2];omega
    have hiE:i<E.length:=by rw [HN.out.1];exact hlt
    have hiV:i<RM.ev.length:=by rw [HN.out.2.1];exact hlt
    have hiC:i<RM.cp.length:=by rw [HN.out.2.2];exact hlt
    obtain ⟨gE,hpE2,_,hgE,hgEw,hoE,hvE⟩:=((RE.out.thru hWV.out nL).thru hBr.out hW7).elem (fun _=>rfl) i hiE
    obtain rfl:pE=some ⟨gE,0,none⟩:=hpE.symm.trans hpE2
    obtain ⟨gC,hpC2,_,hgC,hgCw,hoC,hvC⟩:=((RC.out.thru hWV.out nL).thru hBr.out hW7).elem (fun _=>rfl) i hiC
    obtain rfl:pC=some ⟨gC,0,none⟩:=hpC.symm.trans hpC2
    clear hpE2 hpC2
    obtain ⟨x,hx⟩:∃ x,E[i]=x:=⟨_,rfl⟩
    obtain ⟨q1,hq1⟩:∃ q,RM.cp[i]=q:=⟨_,rfl⟩
    obtain ⟨bb,hbb⟩:∃ b,RM.ev[i].b=b:=⟨_,rfl⟩
    have HXB:Aside (Row W 0 W.heap.size 5 1 encB x.bytes bb):=by
     have:=HEB.out i hiE hiV
     rwa [hx,hbb] at this
    have hxk:RM.ev[i].e.kind=x.kind:=by
     have:=HEV.out i hiE hiV
     rw [hx] at this
     rw [this]
    have HV2:Aside ((x.kind=2->VecOk bb q1 c)/\okV q1 ((RM.ev.zip RM.cp).drop (i+1))):=by
     have h1:=hok.out
     rw [List.drop_eq_getElem_cons hZ,List.getElem_zip] at h1
     unfold okV at h1
     dsimp only at h1
     rw [hbb,hq1,hxk] at h1
     exact h1
    rw [hx] at hvE
    rw [hq1] at hvC
    clear hx hq1 hbb hxk
    go_upto_if 49 with fail
    refine wpNm (fun U hU=>?_)
    have fv:blk U wr.heap.size=some (.cells x.cells 63):=by rw [hU];exact sM
    have hbU:Below wr.heap.size wr U:=by rw [hU];exact bL
    have hrz:g7<wr.heap.size:=zak f7r
    have f7U:blk U g7=some (.cells c.cells 41):=(hbU.block _ hrz).trans f7r
    have f5U:blk U g5=some (.cells rn.cells 54):=(hbU.block _ oM).trans f5r
    have hoCU:okO 28 (blk U gC) (i * 28)=true:=by rw [show blk U gC=blk wr gC from hbU.block _ hgCw];exact hoC
    have hvCU:valO 28 (blk U gC) (i * 28)=.agg q1.cells:=by rw [show blk U gC=blk wr gC from hbU.block _ hgCw];exact hvC
    have HBU:Aside (Below g7 V U):=hBr.out.trans (hbU.mono oM)
    have hzU:=hbU.size
    have hgCU:gC<g7:=oM
    clear hU hbU hoE hvE hoC hvC f5r f7r
    go_cut [] (fun wx=>Below U.heap.size U wx)
    case first=>
     by_cases hk:x.kind=2
     ·have hkb:(x.kind==2)=true:=beq_iff_eq.2 hk
      obtain ⟨hl5,h205,hpc0,hcp0,hsp0,hby⟩:=HV2.out.1 hk
      obtain ⟨b0,b1,b2,b3,b4,rfl⟩:∃ b0 b1 b2 b3 b4,bb=[b0,b1,b2,b3,b4]:=by
       match bb,hl5 with
       | [b0,b1,b2,b3,b4],_=>exact ⟨_,_,_,_,_,rfl⟩
      obtain rfl:b0=205:=h205
      have hpc:q1.regs.pc=ze9 b2 b1:=hpc0
      have hcp:c.regs.pc=ze9 b3 b4:=hcp0.symm
      have hsp:q1.regs.sp=IntKind.u16.wrap (c.regs.sp-2):=hsp0
      have y1:=hby b1 sI
      have y2:=hby b2 sI
      have y3:=hby b3 sI
      have y4:=hby b4 sI
      have j1:bits .or .u16 (b2 * 256) b1=ze9 b2 b1:=zoq b2 b1 y2.1 y2.2 y1.1 y1.2
      have j2:bits .or .u16 (b3 * 256) b4=ze9 b3 b4:=zoq b3 b4 y3.1 y3.2 y4.1 y4.2
      have s2:IntKind.u16.wrap (b2 * 256)=b2 * 256:=by rw [IntKind.wrap_u16];omega
      have s3:IntKind.u16.wrap (b3 * 256)=b3 * 256:=by rw [IntKind.wrap_u16];omega
      have w1:IntKind.u16.wrap b1=b1:=by rw [IntKind.wrap_u16];omega
      have w2':IntKind.u16.wrap b2=b2:=by rw [IntKind.wrap_u16];omega
      have w3':IntKind.u16.wrap b3=b3:=by rw [IntKind.wrap_u16];omega
      have w4':IntKind.u16.wrap b4=b4:=by rw [IntKind.wrap_u16];omega
      have hRb:=(HXB.out.thru hWV.out nL).thru HBU.out hW7
      have hnb:x.bytes.n=5:=hRb.len
      obtain ⟨gb,hpb,_,hgb,hgbw,cb0⟩:=hRb.cell (fun x=>.int .u8 x) (fun _=>rfl) 0 sI
      obtain ⟨gb1,hpb1,_,_,_,cb1⟩:=hRb.cell (fun x=>.int .u8 x) (fun _=>rfl) 1 sI
      obtain rfl:gb=gb1:=by simpa using hpb.symm.trans hpb1
      obtain ⟨gb2,hpb2,_,_,_,cb2⟩:=hRb.cell (fun x=>.int .u8 x) (fun _=>rfl) 2 sI
      obtain rfl:gb=gb2:=by simpa using hpb.symm.trans hpb2
      obtain ⟨gb3,hpb3,_,_,_,cb3⟩:=hRb.cell (fun x=>.int .u8 x) (fun _=>rfl) 3 sI
      obtain rfl:gb=gb3:=by simpa using hpb.symm.trans hpb3
      obtain ⟨gb4,hpb4,_,_,_,cb4⟩:=hRb.cell (fun x=>.int .u8 x) (fun _=>rfl) 4 sI
      obtain rfl:gb=gb4:=by simpa using hpb.symm.trans hpb4
      have hvz:=zak fv
      have h7z:=zak f7U
      have h5z:=zak f5U
      have cpc:U.cell? ⟨gC,i * 28+16,none⟩=some (.int .u16 q1.regs.pc):=by rw [za2];exact zkr hoCU hvCU oM
      have csp:U.cell? ⟨gC,i * 28+15,none⟩=some (.int .u16 q1.regs.sp):=by rw [za2];exact zkr hoCU hvCU oM
      have qv:∀ d os ix,(Go.Sort.grow (redrawn U d) os).cell? ⟨wr.heap.size,ix,none⟩=(x.cells)[ix]? := fun d os ix=>(zaa (((below_regrown U d os).block _ hvz).trans fv)).1 ix
      have q5:∀ d os ix,(Go.Sort.grow (redrawn U d) os).cell? ⟨g5,ix,none⟩=(rn.cells)[ix]? := fun d os ix=>(zaa (((below_regrown U d os).block _ h5z).trans f5U)).1 ix
      have q7:∀ d os ix,(Go.Sort.grow (redrawn U d) os).cell? ⟨g7,ix,none⟩=(c.cells)[ix]? := fun d os ix=>(zaa (((below_regrown U d os).block _ h7z).trans f7U)).1 ix
      have qb0:∀ d os,(Go.Sort.grow (redrawn U d) os).cell? ⟨gb,0,none⟩=some (.int .u8 205):=fun d os=>(zbx (below_regrown U d os) hgbw _).trans cb0
      have qb1:∀ d os,(Go.Sort.grow (redrawn U d) os).cell? ⟨gb,1,none⟩=some (.int .u8 b1):=fun d os=>(zbx (below_regrown U d os) hgbw _).trans cb1
      have qb2:∀ d os,(Go.Sort.grow (redrawn U d) os).cell? ⟨gb,2,none⟩=some (.int .u8 b2):=fun d os=>(zbx (below_regrown U d os) hgbw _).trans cb2
      have qb3:∀ d os,(Go.Sort.grow (redrawn U d) os).cell? ⟨gb,3,none⟩=some (.int .u8 b3):=fun d os=>(zbx (below_regrown U d os) hgbw _).trans cb3
      have qb4:∀ d os,(Go.Sort.grow (redrawn U d) os).cell? ⟨gb,4,none⟩=some (.int .u8 b4):=fun d os=>(zbx (below_regrown U d os) hgbw _).trans cb4
      have qpc:∀ d os,(Go.Sort.grow (redrawn U d) os).cell? ⟨gC,i * 28+16,none⟩=some (.int .u16 q1.regs.pc):=fun d os=>(zbx (below_regrown U d os) oM _).trans cpc
      have qsp:∀ d os,(Go.Sort.grow (redrawn U d) os).cell? ⟨gC,i * 28+15,none⟩=some (.int .u16 q1.regs.sp):=fun d os=>(zbx (below_regrown U d os) oM _).trans csp
      clear hk hl5 hpc0 hcp0 hsp0 hby hRb hpb1 hpb2 hpb3 hpb4 cb0 cb1 cb2 cb3 cb4 cpc csp
      go_upto_region 13 with fail
      refine zad 63 kR kR ?_
      simp only [List.append_eq,List.cons_append,List.nil_append,tkd]
      repeat (quiet_step (fail))
      refine wpQuiet_nil ?_
      intro wq hwq
      have hBq:Below U.heap.size U wq:=by obtain ⟨p,rfl⟩:=hwq;exact below_regrown _ _ _
      clear hwq qv q5 q7 qb0 qb1 qb2 qb3 qb4 qpc qsp
      go_wp2_with fail
      all_goals
       go_meet
       exact hBq
     ·have hkb:(x.kind==2)=false:=beq_eq_false_iff_ne.2 hk
      clear hk
      go_wp2_with fail
      go_meet
      exact Below.refl _ _
    have fvz:=zak fv
    have f7z:=zak f7U
    have f7c:blk wc g7=some (.cells c.cells 41):=(hcut.block _ f7z).trans f7U
    have f5c:blk wc g5=some (.cells rn.cells 54):=(hcut.block _ oM).trans f5U
    have hoCc:okO 28 (blk wc gC) (i * 28)=true:=by rw [show blk wc gC=blk U gC from hcut.block _ oM];exact hoCU
    have hvCc:valO 28 (blk wc gC) (i * 28)=.agg q1.cells:=by rw [show blk wc gC=blk U gC from hcut.block _ oM];exact hvCU
    have HOV:Aside (okV q1 ((RM.ev.zip RM.cp).drop (i+1))):=HV2.out.2
    have HBC:Aside (Below g7 V wc):=HBU.out.trans (hcut.mono oM)
    have hcz:=hcut.size
    obtain ⟨gc7,gf7,gz7⟩:=zaa f7c
    obtain ⟨gc5c,gf5c,gz5c⟩:=zaa f5c
    clear hcut fv f7U f5U hoCU hvCU
    go_wp2_with fail
    go_roundg (N-(i+1))
    case measure=>omega
    case rel=>exact ⟨i+1,q1,by simp,oM,oM,HOV,blk_setBlk_same _ _ _ _ gz7,(zae HBC.out nL:Below g7 V _)⟩
   ·have hiI:¬(i:Int)<(N:Int):=oM
    go_wp2_with (go_at_call 6;(refine (zf8 _).mono ?_);rintro e w9 ⟨rfl,hB9⟩)
    go_ret
    exact ⟨rfl,(hbV.out.trans (hBr.out.mono hw7)).trans (hB9.mono (Nat.le_trans hw7 (Nat.le_of_lt (zak f7r))))⟩
end
end Go.Proofs.YtlmbamdkklkliaaGreat
