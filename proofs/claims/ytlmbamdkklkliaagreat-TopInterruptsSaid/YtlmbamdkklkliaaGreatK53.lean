/- Part of the proof that a law holds at every input. No conditions. -/
import Derived.Test.YtlmbamdkklkliaaGreatK52
namespace Go.Proofs.YtlmbamdkklkliaaGreat
set_option linter.unusedVariables false
set_option linter.unusedSimpArgs false
set_option linter.unusedSectionVars false
set_option maxRecDepth 100000
set_option maxHeartbeats 16000000
open Go.Proofs.Tryz
open Lib (hid)
section
open Go.RowKit
theorem topInterrupts_walk (a:Option Addr) (len cap:Nat) (zs:List Int) (w:World) (wl:IsRow .i64 w a len cap zs) :
  Calls prog 3 #[.slice a len cap] w fun e w'=>e=.returned (.bool true)/\Below w.heap.size w w':=by
 by_cases hl:250<len
 ·have hlI:(250:Int)<(len:Int):=oM
  go_enter func3,ntmps3
  go_wp2_with (go_at_call 6;(refine (zf8 _).mono ?_);rintro e w1 ⟨rfl,hB1⟩)
  go_ret
  exact ⟨rfl,hB1⟩
 ·have hlI : ¬ (250 : Int) < (len : Int) := oM
  have MD:Aside (∀ w1,Below w.heap.size w w1->Calls prog 7 #[.slice a len cap,.int .i64 120] w1 (Made 120 w1)):=fun w1 hB=>by
   obtain ⟨r0,r1⟩:=zj0 wl
   refine zl9 ⟨a,len,cap⟩ (zs.take len) w1 r0 (fun j hj=>?_) (by rw [<- r0];omega) 120 oM
   obtain ⟨g,off,e1,e2,e3⟩:=r1 j hj
   exact ⟨g,off,e1,Nat.lt_of_lt_of_le e2 hB.size,(zbx hB e2 _).trans e3⟩
  clear wl
  go_enter func3,ntmps3
  go_upto_region 4 with (go_at_call 7;(refine (MD.out _ bL).mono ?_);rintro e w2 ⟨B,L,M,q,X,rfl,hBO,hX,hXl,hXb,hb2⟩)
  have hBO3:BoardOk (w2.alloc (.cells B.cells 27)) B L M:=hBO.thru ((Below.refl _ w2).alloc nL _)
  have hX3:Row (w2.alloc (.cells B.cells 27)) 0 (w2.alloc (.cells B.cells 27)).heap.size 5 1 encB q X:=(hX.thru ((Below.refl _ w2).alloc nL _) nL).hi_mono sI
  have RN:=hid (zoc _ hBO3 hX3 hXb oM)
  clear hBO hX hBO3 hX3 hXb
  go_upto_region 5 with (go_at_call 8;(refine RN.out.mono ?_);intro e w3 hran;obtain ⟨rn,l,E,gs,ms,ou,rfl,hl1,hl2,hl3,Rtr,Rev,REv,Rcp,hsys,Rmem,htr,hb3⟩:=hran)
  have hKP:zgx (zee B L M l):=zxi B L M l
  obtain ⟨RM,hRM⟩:∃ r,zee B L M l=r:=⟨_,rfl⟩
  rw [hRM] at Rtr REv Rcp hKP
  have hbw3:Aside (Below w.heap.size w w3):=hb2.trans ((((Below.refl _ w2).alloc nL _).trans (hb3.mono sI)).mono hb2.size)
  clear hl1 hl2 hl3 Rtr hsys Rmem htr hRM hb3 hb2 RN
  refine wpNm (fun W hW=>?_)
  have f50:blk W w3.heap.size=some (.cells rn.cells 54):=by rw [hW];exact zab _ _ _ rfl
  have hb3W:Below w3.heap.size w3 W:=by rw [hW];exact (Below.refl _ w3).alloc nL _
  obtain ⟨g5,hg5⟩:∃ g,g=w3.heap.size:=⟨_,rfl⟩
  rw [<- hg5] at f50 ⊢
  have f5:=f50
  obtain ⟨N,hN⟩:∃ N,E.length=N:=⟨_,rfl⟩
  have hnE:rn.events.n=N:=Rev.len.trans hN
  have hevN:RM.ev.length=N:=REv.len.symm.trans hN
  have hcpN:RM.cp.length=N:=hKP.len.symm.trans hevN
  have hnC:rn.cpus.n=N:=Rcp.len.trans hcpN
  obtain ⟨pE,hpE⟩:∃ pE,rn.events.p=pE:=⟨_,rfl⟩
  obtain ⟨pC,hpC⟩:∃ pC,rn.cpus.p=pC:=⟨_,rfl⟩
  have hNb:N<=9223372036854775807:=by
   by_cases h0:0<E.length
   ·obtain ⟨_,_,_,_,_,_,_,k1,k2,_⟩:=Rev.at h0
    unfold maxLen at k2
    omega
   ·omega
  have RE:Aside (Row W 0 W.heap.size 63 18 SEvent.cells rn.events E):=(Rev.thru hb3W nL).hi_mono hb3W.size
  have RC:Aside (Row W 0 W.heap.size 41 28 SCPU.cells rn.cpus RM.cp):=(Rcp.thru hb3W nL).hi_mono hb3W.size
  have hbW:Aside (Below w.heap.size w W):=hbw3.out.trans (hb3W.mono hbw3.out.size)
  have HN:Aside (E.length=N/\RM.ev.length=N/\RM.cp.length=N):=⟨hN,hevN,hcpN⟩
  have HEV:Aside (∀ (j:Nat) (hj:j<E.length) (hl:j<RM.ev.length),E[j] = { (RM.ev[j]).e with bytes:=(E[j]).bytes }):=REv.get
  have HK:Aside (okI none (RM.ev.zip RM.cp)):=hKP.ok
  clear hW hb3W hg5 f50 hN hevN hcpN Rev Rcp REv hKP hbw3
  obtain ⟨gc5,gf5,gz5⟩:=zaa f5
  go_wp2_with fail
  go_loopg [7,40] N (fun kx s7 s40 wr=>∃ (i:Nat) (t:Int) (p:Option ECP),s40=.int .i64 i/\s7=.int .i64 t/\i<=N/\N-i<=kx/\Aside ((t = -1/\p=none)\/∃ l:Nat,t=l/\l<i/\∃ hz:l<(RM.ev.zip RM.cp).length,p=some (RM.ev.zip RM.cp)[l])/\Aside (okI p ((RM.ev.zip RM.cp).drop i))/\Aside (Below W.heap.size W wr))
  case atStart=>exact ⟨0,-1,none,rfl,rfl,oM,oM,.inl ⟨rfl,rfl⟩,HK,Below.refl _ _⟩
  case round=>
   obtain ⟨i,t,p,rfl,rfl,hi,hix,hp,hok,hBr⟩:=hrel
   have f5r:blk wr g5=some (.cells rn.cells 54):=(hBr.out.block g5 gz5).trans f5
   by_cases hlt:i<N
   ·have hiI : (i : Int) < (N : Int) := oM
    have hZ:i<(RM.ev.zip RM.cp).length:=by rw [List.length_zip,HN.out.2.1,HN.out.2.2];omega
    obtain ⟨gE,hpE2,_,hgE,hgEw,hoE,hvE⟩:=(RE.out.thru hBr.out nL).elem (fun _=>rfl) i (by rw [HN.out.1];exact hlt)
    obtain rfl:pE=some ⟨gE,0,none⟩:=hpE.symm.trans hpE2
    clear hpE2
    obtain ⟨x,hx⟩:∃ x,E[i]'(by rw [HN.out.1];exact hlt)=x:=⟨_,rfl⟩
    rw [hx] at hvE
    have HX:Aside (x.kind=(RM.ev[i]'(by rw [HN.out.2.1];exact hlt)).e.kind/\x.source=(RM.ev[i]'(by rw [HN.out.2.1];exact hlt)).e.source):=by
     have:=HEV.out i (by rw [HN.out.1];exact hlt) (by rw [HN.out.2.1];exact hlt)
     rw [hx] at this
     rw [this]
     exact ⟨rfl,rfl⟩
    obtain ⟨y,HY⟩:∃ y:ECP,Aside ((RM.ev.zip RM.cp).drop i=y::(RM.ev.zip RM.cp).drop (i+1)/\y=(RM.ev.zip RM.cp)[i]/\y.1.e.kind=x.kind/\y.1.e.source=x.source):=⟨_,List.drop_eq_getElem_cons hZ,rfl,by rw [List.getElem_zip];exact HX.out.1.symm,by rw [List.getElem_zip];exact HX.out.2.symm⟩
    have HOK:Aside (okI p (y::(RM.ev.zip RM.cp).drop (i+1))):=by rw [<- HY.out.1];exact hok.out
    clear hx
    go_upto_block 1 with fail
    go_cut [7] (fun s7 wx=>∃ (t':Int) (p':Option ECP),s7=.int .i64 t'/\Aside ((t' = -1/\p'=none)\/∃ l:Nat,t'=l/\l<i+1/\∃ hz:l<(RM.ev.zip RM.cp).length,p'=some (RM.ev.zip RM.cp)[l])/\Aside (okI p' ((RM.ev.zip RM.cp).drop (i+1)))/\Aside (Below W.heap.size W wx))
    case first=>
     go_upto_region 11 with fail
     refine wpNm (fun U hU=>?_)
     have fv:blk U wr.heap.size=some (.cells x.cells 63):=by rw [hU];exact sM
     have hbU:Below wr.heap.size wr U:=by rw [hU];exact bL
     have HBU:Aside (Below W.heap.size W U):=hBr.out.trans (hbU.mono hBr.out.size)
     have f5U:blk U g5=some (.cells rn.cells 54):=(HBU.out.block g5 gz5).trans f5
     have hzU:=HBU.out.size
     obtain ⟨gcv,gfv,gzv⟩:=zaa fv
     obtain ⟨gcr,gfr,gzr⟩:=zaa f5U
     clear hU hbU hoE hvE f5r
     by_cases h5:x.kind=5
     ·have h5b:(x.kind==5)=true:=beq_iff_eq.2 h5
      have HO:Aside (okI p ((RM.ev.zip RM.cp).drop (i+1))):=by
       have:=HOK.out
       unfold okI at this
       rwa [if_pos (by rw [HY.out.2.2.1];exact h5)] at this
      clear h5
      go_wp2_with fail
      go_meet
      exact ⟨t,p,rfl,hp.out.imp id (fun ⟨l,e1,e2,e3⟩=>⟨l,e1,oM,e3⟩),HO,HBU⟩
     ·have h5b : (x.kind == 5) = false := beq_eq_false_iff_ne.2 h5
      have HO:Aside ((∀ p1,p=some p1->zvy p1 y.1)/\okI (some y) ((RM.ev.zip RM.cp).drop (i+1))):=by
       have:=HOK.out
       unfold okI at this
       rwa [if_neg (by rw [HY.out.2.2.1];exact h5)] at this
      have HP:Aside (((i:Int) = -1/\some y=none)\/∃ l:Nat,(i:Int)=l/\l<i+1/\∃ hz:l<(RM.ev.zip RM.cp).length,some y=some (RM.ev.zip RM.cp)[l]):=.inr ⟨i,rfl,oM,hZ,by rw [HY.out.2.1]⟩
      have HO2:Aside (okI (some y) ((RM.ev.zip RM.cp).drop (i+1))):=HO.out.2
      rcases hp.out with ⟨rfl,hpn⟩|⟨l,rfl,hli,hlz,hpl⟩
      ·have HPN:=hid hpn
       clear hpn
       go_wp2_with fail
       go_meet
       exact ⟨i,some y,rfl,HP,HO2,HBU⟩
      ·have HL:Aside ((i:Int)=(i:Int)):=rfl
       have hlN:l<N:=oM
       have hlI:(l:Int)<(N:Int):=oM
       obtain ⟨gE',hpE3,_,hgE',_,hoZ,hvZ⟩:=(RE.out.thru HBU.out nL).elem (fun _=>rfl) l (by rw [HN.out.1];exact hlN)
       obtain rfl:gE=gE':=by have:=hpE.symm.trans hpE3;simpa using this
       obtain ⟨gC,hpC3,_,hgC,_,hoC,hvC⟩:=(RC.out.thru HBU.out nL).elem (fun _=>rfl) l (by rw [HN.out.2.2];exact hlN)
       obtain rfl:pC=some ⟨gC,0,none⟩:=hpC.symm.trans hpC3
       obtain ⟨z,hz⟩:∃ z,E[l]'(by rw [HN.out.1];exact hlN)=z:=⟨_,rfl⟩
       obtain ⟨c,hc⟩:∃ c,RM.cp[l]'(by rw [HN.out.2.2];exact hlN)=c:=⟨_,rfl⟩
       rw [hz] at hvZ
       rw [hc] at hvC
       have HS:Aside (ziq z=true->x.kind≠4->x.source=zc5 c z.lines\/(zc5 c z.lines=0/\c.halted=true)):=by
        have h1:=HO.out.1 _ hpl
        have h2:=HEV.out l (by rw [HN.out.1];exact hlN) (by rw [HN.out.2.1];exact hlN)
        rw [hz] at h2
        rw [List.getElem_zip,hc] at h1
        unfold zvy at h1
        rw [HY.out.2.2.1,HY.out.2.2.2] at h1
        rw [h2]
        exact h1
       clear hpE3 hpC3 hz hc hpl hlz
       have ezU:okO 18 (blk U gE) (l * 18)=true:=hoZ
       have vzU:valO 18 (blk U gE) (l * 18)=.agg z.cells:=hvZ
       have hgEU:gE<U.heap.size:=oM
       have hgCU:gC<U.heap.size:=oM
       have hg5U:g5<U.heap.size:=gzr
       clear hoZ hvZ
       cases hcz:ziq z with
       | false=>
        go_wp2_with (go_at_call 9;(refine (zgq z _).mono ?_);rintro e w4 ⟨rfl,hB4⟩;have fv4:blk w4 wr.heap.size=some (.cells x.cells 63):=(hB4.block _ gzv).trans fv;obtain ⟨gc4,gf4,gz4⟩:=zaa fv4)
        go_meet
        exact ⟨i,some y,rfl,HP,HO2,HBU.out.trans (hB4.mono hzU)⟩
       | true=>
        by_cases h4:x.kind=4
        ·have h4b:(x.kind==4)=true:=beq_iff_eq.2 h4
         clear h4 h5
         go_wp2_with (go_at_call 9;(refine (zgq z _).mono ?_);rintro e w4 ⟨rfl,hB4⟩;have fv4:blk w4 wr.heap.size=some (.cells x.cells 63):=(hB4.block _ gzv).trans fv;obtain ⟨gc4,gf4,gz4⟩:=zaa fv4)
         go_meet
         exact ⟨i,some y,rfl,HP,HO2,HBU.out.trans (hB4.mono hzU)⟩
        ·have h4b:(x.kind==4)=false:=beq_eq_false_iff_ne.2 h4
         have HS2:Aside (x.source=zc5 c z.lines\/(zc5 c z.lines=0/\c.halted=true)):=HS.out hcz h4
         go_upto_region 13 with (go_at_call 9;(refine (zgq z _).mono ?_);rintro e w4 ⟨rfl,hB4⟩;have fv4:blk w4 wr.heap.size=some (.cells x.cells 63):=(hB4.block _ gzv).trans fv;obtain ⟨gc4,gf4,gz4⟩:=zaa fv4)
         have HB4:Aside (Below U.heap.size U w4):=hB4
         have hz4:=hB4.size
         have hge4:blk w4 gE=blk U gE:=hB4.block _ hgEU
         have hgc4:blk w4 gC=blk U gC:=hB4.block _ hgCU
         have f54:blk w4 g5=some (.cells rn.cells 54):=(hB4.block _ hg5U).trans f5U
         have q0:∀ d os ix,(Go.Sort.grow (redrawn w4 d) os).cell? ⟨g5,ix,none⟩=(rn.cells)[ix]? := fun d os ix=>(zaa (((below_regrown w4 d os).block _ oM).trans f54)).1 ix
         have hbC:∀ d os,blk (Go.Sort.grow (redrawn w4 d) os) gC=blk U gC:=fun d os=>((below_regrown w4 d os).block _ oM).trans hgc4
         have hbE:∀ d os,blk (Go.Sort.grow (redrawn w4 d) os) gE=blk U gE:=fun d os=>((below_regrown w4 d os).block _ oM).trans hge4
         have q1:∀ d os,okO 28 (blk (Go.Sort.grow (redrawn w4 d) os) gC) (l * 28)=true:=fun d os=>by rw [hbC];exact hoC
         have q2:∀ d os,valO 28 (blk (Go.Sort.grow (redrawn w4 d) os) gC) (l * 28)=.agg c.cells:=fun d os=>by rw [hbC];exact hvC
         have q3:∀ d os,okO 9 (blk (Go.Sort.grow (redrawn w4 d) os) gE) (l * 18+3)=true:=fun d os=>by rw [hbE];exact zyt ezU oM
         have q4:∀ d os,valO 9 (blk (Go.Sort.grow (redrawn w4 d) os) gE) (l * 18+3)=.agg z.lines.cells:=fun d os=>by rw [hbE];exact zuy ezU vzU oM
         clear hbC hbE hge4
         refine zad 12 kR kR ?_
         simp only [tkd]
         repeat (quiet_step ((go_at_call 10;exact Calls.regrown_of (zid _ _ _))))
         refine wpQuiet_nil ?_
         intro wq hwq
         have hBq:Below w4.heap.size w4 wq:=by obtain ⟨p,rfl⟩:=hwq;exact below_regrown _ _ _
         clear hwq q0 q1 q2 q3 q4
         have fvq:blk wq wr.heap.size=some (.cells x.cells 63):=(hBq.block _ gz4).trans fv4
         have f5q:blk wq g5=some (.cells rn.cells 54):=(hBq.block _ oM).trans f54
         have cq:wq.cell? ⟨gC,l * 28+19,none⟩=some (.bool c.halted):=by
          rw [za2,show blk wq gC=blk U gC from (hBq.block _ oM).trans hgc4]
          exact zkr hoC hvC oM
         have HBX:Aside (Below W.heap.size W wq):=HBU.out.trans ((HB4.out.trans (hBq.mono hz4)).mono hzU)
         obtain ⟨gcq,gfq,gzq⟩:=zaa fvq
         obtain ⟨gcs,gfs,gzs⟩:=zaa f5q
         clear gcv gfv gcr gfr gc4 gf4 fv4 f54 fv f5U fvq f5q hgc4 hoC hvC ezU vzU hB4 hBq h5 h4 hcz
         obtain ⟨pk,hpk⟩:∃ pk,zc5 c z.lines=pk:=⟨_,rfl⟩
         rw [hpk]
         have HS3:Aside (x.source=pk\/(pk=0/\c.halted=true)):=by rw [<- hpk];exact HS2.out
         clear hpk
         by_cases hse:x.source=pk
         ·subst hse
          have hsb:(x.source != x.source)=false:=by simp
          go_wp2_with fail
          all_goals
           go_meet
           exact ⟨i,some y,rfl,HP,HO2,HBX⟩
         ·have hsb:(x.source==pk)=false:=beq_eq_false_iff_ne.2 hse
          obtain ⟨rfl,hh⟩:=HS3.out.resolve_left hse
          rw [hh] at cq
          have hsn:(x.source != 0)=true:=bne_iff_ne.2 hse
          clear hh
          go_wp2_with fail
          all_goals
           go_meet
           exact ⟨i,some y,rfl,HP,HO2,HBX⟩
    obtain ⟨t',p',rfl,hp',hok',hBx⟩:=hcut
    go_wp2_with fail
    go_roundg (N-(i+1))
    case measure=>omega
    case rel=>exact ⟨i+1,t',p',by simp,rfl,oM,oM,hp',hok',hBx⟩
   ·have hiI:¬(i:Int)<(N:Int):=oM
    go_wp2_with (go_at_call 6;(refine (zf8 _).mono ?_);rintro e w9 ⟨rfl,hB9⟩)
    go_ret
    exact ⟨rfl,(hbW.out.trans (hBr.out.mono hbW.out.size)).trans (hB9.mono (Nat.le_trans hbW.out.size hBr.out.size))⟩
end
end Go.Proofs.YtlmbamdkklkliaaGreat
