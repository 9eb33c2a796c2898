/- Part of the proof that a law holds at every input. No conditions. -/
import Derived.Deep.DeepCutAuto
import Derived.Test.YtlmbamdkklkliaaGreatK52
namespace Go.Proofs.YtlmbamdkklkliaaGreat
set_option linter.unusedVariables false
set_option linter.unusedSimpArgs false
set_option linter.unusedSectionVars false
set_option maxRecDepth 100000
set_option maxHeartbeats 16000000
open Go.Proofs.Tryz
open Lib (hid)
open Go.IntWalk (iteOmega)
section
open Go.RowKit
def z3k (B:SBoard) (L:List SRegion) (t:Mach) (i:SInput) (w:World) (e:Ending) (w':World):Prop:=
 ∃ gs ms ou:Sl,e=.returned (.tuple #[.agg (slS (clkM B L t i).s gs ms ou).cells,.agg (zh3 B L t i).cells])/\Row w' 0 w'.heap.size 5 1 encB gs (clkM B L t i).g/\Row w' 0 w'.heap.size 61 2 SCell.cells ms (clkM B L t i).m/\Row w' 0 w'.heap.size 110 2 SOutput.cells ou (clkM B L t i).o/\Below w.heap.size w w'
theorem zv4 {V:World} {lo mb:Nat} {B:SBoard} {L:List SRegion} {t:Mach} {gs ms ou:Sl} {k n:Nat} (hm:blk V mb=some (.cells (⟨slS t.s gs ms ou,B⟩:SMachine).cells 91)) (hlo:lo<=mb) (hR:Row V 0 V.heap.size 82 4 SRegion.cells B.regions L) (hL:L.length<=16) (hg:Row V 0 V.heap.size 5 1 encB gs t.g) (hc:Row V 0 V.heap.size 61 2 SCell.cells ms t.m) (ho:Row V lo V.heap.size 110 2 SOutput.cells ou t.o) (hok:t.Ok k n) (hn:n<=100000) (hk:k<=100000) (i:SInput) (hi:okIn i) :
  Calls prog 23 #[.pointer (some ⟨mb,0,none⟩),.agg i.cells] V fun e w1=>∃ gs' ms' ou':Sl,e=.returned (.agg (slX (momM B L t i) gs).cells)/\blk w1 mb=some (.cells (⟨slS (clkM B L t i).s gs' ms' ou',B⟩:SMachine).cells 91)/\Row w1 0 w1.heap.size 5 1 encB gs' (clkM B L t i).g/\Row w1 0 w1.heap.size 61 2 SCell.cells ms' (clkM B L t i).m/\Row w1 lo w1.heap.size 110 2 SOutput.cells ou' (clkM B L t i).o/\Kept lo mb [110] V w1:=by
 obtain ⟨h1,h2,h3,h4⟩:=hi
 have hq:=hok.core
 have hm':blk V mb=some (.cells (catX (⟨slS t.s gs ms ou,B⟩:SMachine).cells #[]) 91):=by rw [zqj];exact hm
 refine (zxu (⟨slS t.s gs ms ou,B⟩:SMachine) #[] 91 mb i V hm' hR oM nL hc hok.m (by have:=hok.ml;omega) nL ho (by have:=hok.o;omega) hlo dC hg (by have:=hq.len;omega) hq.bytes hq.regs hq.cyc.data hq.cyc.at_ hok.pic hok.dma (by have:=hok.waited;exact ⟨this.1,Int.le_trans this.2 oM⟩) ⟨h1,h2⟩ ⟨h3,h4⟩).mono ?_
 rintro e w1 ⟨gs',ms',ou',rfl,k1,k2,k3,k4,hkp⟩
 have e0:(⟨slS t.s gs ms ou,t.g,t.m,t.o⟩:Mach)=slM t gs ms ou:=rfl
 rw [e0] at k1 k2 k3 k4 ⊢
 rw [show (⟨slS t.s gs ms ou,B⟩:SMachine).board=B from rfl] at *
 have e1:(⟨({ (clkM B L (slM t gs ms ou) i).s with core := { (clkM B L (slM t gs ms ou) i).s.core with got:=gs' },memory:=ms',outs:=ou' }:SSystem),B⟩:SMachine)=⟨slS (clkM B L t i).s gs' ms' ou',B⟩:=by
  rw [<- zx5 B L t i gs ms ou gs' ms' ou']
  rfl
 rw [zx8] at k2
 rw [zx7] at k3
 rw [zx6] at k4
 refine ⟨gs',ms',ou',by rw [ztg],?_,k2,k3,k4,hkp⟩
 rw [<- e1,<- zqj (SMachine.cells _)]
 exact k1
theorem zup {w:World} {B:SBoard} {L:List SRegion} {t:Mach} {gs ms ou:Sl} {k n:Nat} (hR:Row w 0 w.heap.size 82 4 SRegion.cells B.regions L) (hL:L.length<=16) (hg:Row w 0 w.heap.size 5 1 encB gs t.g) (hm:Row w 0 w.heap.size 61 2 SCell.cells ms t.m) (ho:Row w 0 w.heap.size 110 2 SOutput.cells ou t.o) (hok:t.Ok k n) (hn:n<=100000) (hk:k<=100000) (i:SInput) (hi:okIn i) :
  Calls prog 14 #[.agg B.cells,.agg (slS t.s gs ms ou).cells,.agg i.cells] w (z3k B L t i w):=by
 have HOK:Aside (t.Ok k n):=hok
 have HI:Aside (okIn i):=hi
 have hGl:t.g.length<=100000:=Nat.le_trans hok.core.len hn
 have hMl:t.m.length<=300000:=by have:=hok.ml;omega
 have hOl:t.o.length<=100000:=Nat.le_trans hok.o hn
 clear hok hi
 go_enter func14,ntmps14
 go_upto_region 1 with fail
 refine wpNm (fun W hW=>?_)
 have fs3:blk W w.heap.size=some (.cells B.cells 27):=by rw [hW];exact sM
 have fs4:blk W (w.heap.size+1)=some (.cells (slS t.s gs ms ou).cells 52):=by rw [hW];exact sM
 have fs5:blk W (w.heap.size+1+1)=some (.cells i.cells 74):=by rw [hW];exact sM
 have fs6:blk W (w.heap.size+1+1+1)=some (.cells SSystem.zero.cells 52):=by rw [hW];exact sM
 have fs7:blk W (w.heap.size+1+1+1+1)=some (.cells SPins.zero.cells 76):=by rw [hW];exact sM
 have hb0:Below w.heap.size w W:=by rw [hW];exact bL
 have HBR:Aside (Row W 0 W.heap.size 82 4 SRegion.cells B.regions L):=(hR.thru hb0 nL).hi_mono hb0.size
 have HG:Aside (Row W 0 W.heap.size 5 1 encB gs t.g):=(hg.thru hb0 nL).hi_mono hb0.size
 have HM:Aside (Row W 0 W.heap.size 61 2 SCell.cells ms t.m):=(hm.thru hb0 nL).hi_mono hb0.size
 have HO:Aside (Row W 0 W.heap.size 110 2 SOutput.cells ou t.o):=(ho.thru hb0 nL).hi_mono hb0.size
 have HBW:Aside (Below w.heap.size w W):=hb0
 clear hW hb0 hR hg hm ho
 have gz3:=zak fs3
 have gz4:=zak fs4
 have gz5:=zak fs5
 have gz6:=zak fs6
 have gz7:=zak fs7
 refine zde 12 kR kR kR (fun j v w2=>match j with|0=>v=.pointer (some ⟨w.heap.size+1,0,none⟩)|1=>v=.pointer (some ⟨w.heap.size+1,29,none⟩)|2=>v=.slice gs.p gs.n gs.c|3=>∃ q:Sl,v=.slice q.p q.n q.c/\Row w2 W.heap.size w2.heap.size 5 1 encB q t.g|4=>v=.pointer (some ⟨w.heap.size+1,36,none⟩)|5=>v=.slice ms.p ms.n ms.c|6=>∃ q:Sl,v=.slice q.p q.n q.c/\Row w2 W.heap.size w2.heap.size 61 2 SCell.cells q t.m|7=>v=.pointer (some ⟨w.heap.size+1,61,none⟩)|8=>v=.slice ou.p ou.n ou.c|9=>∃ q:Sl,v=.slice q.p q.n q.c/\Row w2 W.heap.size w2.heap.size 110 2 SOutput.cells q t.o|10=>v=.pointer (some ⟨w.heap.size+1,0,none⟩)|11=>v=.pointer (some ⟨w.heap.size+1,29,none⟩)|_=>True) (fun f w2=>Below W.heap.size W w2) ?_ ?_ ?_ ?_
 ·exact (Below.refl _ W).drew
 ·exact fun f w2 h=>h
 ·intro i o f a' w2 hi hio hfr hG3 hG2 hV K hK
  have hc:i=0\/i=1\/i=2\/i=3\/i=4\/i=5\/i=6\/i=7\/i=8\/i=9\/i=10\/i=11:=oM
  rcases hc with rfl|rfl|rfl|rfl|rfl|rfl|rfl|rfl|rfl|rfl|rfl|rfl
  ·obtain rfl:=Option.some.inj hio
   have e0:a'.tmps[4]?.getD undef=.pointer (some ⟨w.heap.size+1,0,none⟩):=zax (hfr 4 kR)
   exact zas (w2:=w2) (by simp [execOp,go_sem,↓iteOmega, *]) (hK _ _ rfl hG2 fun _ _ h=>h)
  ·obtain rfl:=Option.some.inj hio
   have e0:a'.tmps[10]?.getD undef=.pointer (some ⟨w.heap.size+1,0,none⟩):=zax (hV 0 10 kR)
   exact zas (w2:=w2) (by simp [execOp,go_sem,↓iteOmega, *]) (hK _ _ rfl hG2 fun _ _ h=>h)
  ·obtain rfl:=Option.some.inj hio
   have e0:a'.tmps[11]?.getD undef=.pointer (some ⟨w.heap.size+1,29,none⟩):=zax (hV 1 11 kR)
   have f4:=(hG2.block _ gz4).trans fs4
   have k1:(slS t.s gs ms ou).core.got=gs:=rfl
   have k2:(slS t.s gs ms ou).memory=ms:=rfl
   have k3:(slS t.s gs ms ou).outs=ou:=rfl
   obtain ⟨gc4,gf4,gz4'⟩:=zaa f4
   exact zas (w2:=w2) (by simp [execOp,go_sem,↓iteOmega, *]) (hK _ _ rfl hG2 fun _ _ h=>h)
  ·obtain rfl:=Option.some.inj hio
   have e0:a'.tmps[12]?.getD undef=.slice gs.p gs.n gs.c:=zax (hV 2 12 kR)
   exact zct (w2:=w2) (by simp [execOp,go_sem,↓iteOmega, *]) ((cloneB_any w2 (HG.out.thru hG2 nL) oM).mono fun e w3 ⟨q,hx,hrow,hb⟩=>⟨_,hx,hK _ _ ⟨q,rfl,hrow.lo_mono hG2.size⟩ (hG2.trans (hb.mono hG2.size)) (fun j u h=>match j,h with|0,h=>h|1,h=>h|2,h=>h|3,h=>(fun ⟨q,h1,h2⟩=>⟨q,h1,(h2.thru hb nL).hi_mono hb.size⟩) h|4,h=>h|5,h=>h|6,h=>(fun ⟨q,h1,h2⟩=>⟨q,h1,(h2.thru hb nL).hi_mono hb.size⟩) h|7,h=>h|8,h=>h|9,h=>(fun ⟨q,h1,h2⟩=>⟨q,h1,(h2.thru hb nL).hi_mono hb.size⟩) h|10,h=>h|11,h=>h|_+12,h=>h)⟩)
  ·obtain rfl:=Option.some.inj hio
   have e0:a'.tmps[4]?.getD undef=.pointer (some ⟨w.heap.size+1,0,none⟩):=zax (hfr 4 kR)
   exact zas (w2:=w2) (by simp [execOp,go_sem,↓iteOmega, *]) (hK _ _ rfl hG2 fun _ _ h=>h)
  ·obtain rfl:=Option.some.inj hio
   have e0:a'.tmps[14]?.getD undef=.pointer (some ⟨w.heap.size+1,36,none⟩):=zax (hV 4 14 kR)
   have f4:=(hG2.block _ gz4).trans fs4
   have k1:(slS t.s gs ms ou).core.got=gs:=rfl
   have k2:(slS t.s gs ms ou).memory=ms:=rfl
   have k3:(slS t.s gs ms ou).outs=ou:=rfl
   obtain ⟨gc4,gf4,gz4'⟩:=zaa f4
   exact zas (w2:=w2) (by simp [execOp,go_sem,↓iteOmega, *]) (hK _ _ rfl hG2 fun _ _ h=>h)
  ·obtain rfl:=Option.some.inj hio
   have e0:a'.tmps[15]?.getD undef=.slice ms.p ms.n ms.c:=zax (hV 5 15 kR)
   exact zct (w2:=w2) (by simp [execOp,go_sem,↓iteOmega, *]) ((zhn w2 (HM.out.thru hG2 nL) oM).mono fun e w3 ⟨q,hx,hrow,hb⟩=>⟨_,hx,hK _ _ ⟨q,rfl,hrow.lo_mono hG2.size⟩ (hG2.trans (hb.mono hG2.size)) (fun j u h=>match j,h with|0,h=>h|1,h=>h|2,h=>h|3,h=>(fun ⟨q,h1,h2⟩=>⟨q,h1,(h2.thru hb nL).hi_mono hb.size⟩) h|4,h=>h|5,h=>h|6,h=>(fun ⟨q,h1,h2⟩=>⟨q,h1,(h2.thru hb nL).hi_mono hb.size⟩) h|7,h=>h|8,h=>h|9,h=>(fun ⟨q,h1,h2⟩=>⟨q,h1,(h2.thru hb nL).hi_mono hb.size⟩) h|10,h=>h|11,h=>h|_+12,h=>h)⟩)
  ·obtain rfl:=Option.some.inj hio
   have e0:a'.tmps[4]?.getD undef=.pointer (some ⟨w.heap.size+1,0,none⟩):=zax (hfr 4 kR)
   exact zas (w2:=w2) (by simp [execOp,go_sem,↓iteOmega, *]) (hK _ _ rfl hG2 fun _ _ h=>h)
  ·obtain rfl:=Option.some.inj hio
   have e0:a'.tmps[17]?.getD undef=.pointer (some ⟨w.heap.size+1,61,none⟩):=zax (hV 7 17 kR)
   have f4:=(hG2.block _ gz4).trans fs4
   have k1:(slS t.s gs ms ou).core.got=gs:=rfl
   have k2:(slS t.s gs ms ou).memory=ms:=rfl
   have k3:(slS t.s gs ms ou).outs=ou:=rfl
   obtain ⟨gc4,gf4,gz4'⟩:=zaa f4
   exact zas (w2:=w2) (by simp [execOp,go_sem,↓iteOmega, *]) (hK _ _ rfl hG2 fun _ _ h=>h)
  ·obtain rfl:=Option.some.inj hio
   have e0:a'.tmps[18]?.getD undef=.slice ou.p ou.n ou.c:=zax (hV 8 18 kR)
   exact zct (w2:=w2) (by simp [execOp,go_sem,↓iteOmega, *]) ((zry w2 (HO.out.thru hG2 nL) oM).mono fun e w3 ⟨q,hx,hrow,hb⟩=>⟨_,hx,hK _ _ ⟨q,rfl,hrow.lo_mono hG2.size⟩ (hG2.trans (hb.mono hG2.size)) (fun j u h=>match j,h with|0,h=>h|1,h=>h|2,h=>h|3,h=>(fun ⟨q,h1,h2⟩=>⟨q,h1,(h2.thru hb nL).hi_mono hb.size⟩) h|4,h=>h|5,h=>h|6,h=>(fun ⟨q,h1,h2⟩=>⟨q,h1,(h2.thru hb nL).hi_mono hb.size⟩) h|7,h=>h|8,h=>h|9,h=>(fun ⟨q,h1,h2⟩=>⟨q,h1,(h2.thru hb nL).hi_mono hb.size⟩) h|10,h=>h|11,h=>h|_+12,h=>h)⟩)
  ·obtain rfl:=Option.some.inj hio
   have e0:a'.tmps[4]?.getD undef=.pointer (some ⟨w.heap.size+1,0,none⟩):=zax (hfr 4 kR)
   exact zas (w2:=w2) (by simp [execOp,go_sem,↓iteOmega, *]) (hK _ _ rfl hG2 fun _ _ h=>h)
  ·obtain rfl:=Option.some.inj hio
   have e0:a'.tmps[20]?.getD undef=.pointer (some ⟨w.heap.size+1,0,none⟩):=zax (hV 10 20 kR)
   exact zas (w2:=w2) (by simp [execOp,go_sem,↓iteOmega, *]) (hK _ _ rfl hG2 fun _ _ h=>h)
 ·intro vs w2 hG2 hV2
  simp only [tkd,zeq]
  have v0:vs 0=.pointer (some ⟨w.heap.size+1,0,none⟩):=hV2 0 oM
  have v1:vs 1=.pointer (some ⟨w.heap.size+1,29,none⟩):=hV2 1 oM
  have v2:vs 2=.slice gs.p gs.n gs.c:=hV2 2 oM
  obtain ⟨qg,v3,hqg⟩:∃ q:Sl,vs 3=.slice q.p q.n q.c/\Row w2 W.heap.size w2.heap.size 5 1 encB q t.g:=hV2 3 oM
  have v4:vs 4=.pointer (some ⟨w.heap.size+1,36,none⟩):=hV2 4 oM
  have v5:vs 5=.slice ms.p ms.n ms.c:=hV2 5 oM
  obtain ⟨qm,v6,hqm⟩:∃ q:Sl,vs 6=.slice q.p q.n q.c/\Row w2 W.heap.size w2.heap.size 61 2 SCell.cells q t.m:=hV2 6 oM
  have v7:vs 7=.pointer (some ⟨w.heap.size+1,61,none⟩):=hV2 7 oM
  have v8:vs 8=.slice ou.p ou.n ou.c:=hV2 8 oM
  obtain ⟨qo,v9,hqo⟩:∃ q:Sl,vs 9=.slice q.p q.n q.c/\Row w2 W.heap.size w2.heap.size 110 2 SOutput.cells q t.o:=hV2 9 oM
  have v10:vs 10=.pointer (some ⟨w.heap.size+1,0,none⟩):=hV2 10 oM
  have v11:vs 11=.pointer (some ⟨w.heap.size+1,29,none⟩):=hV2 11 oM
  simp only [v0,v1,v2,v3,v4,v5,v6,v7,v8,v9,v10,v11]
  clear hV2 v0 v1 v2 v3 v4 v5 v6 v7 v8 v9 v10 v11
  simp only [Act.put,List.setIfInBounds_toArray,List.set_cons_succ,List.set_cons_zero]
  have hz2:=hG2.size
  have f3:blk w2 w.heap.size=some (.cells B.cells 27):=(hG2.block _ gz3).trans fs3
  have f4:blk w2 (w.heap.size+1)=some (.cells (slS t.s gs ms ou).cells 52):=(hG2.block _ gz4).trans fs4
  have f5:blk w2 (w.heap.size+1+1)=some (.cells i.cells 74):=(hG2.block _ gz5).trans fs5
  have f6:blk w2 (w.heap.size+1+1+1)=some (.cells SSystem.zero.cells 52):=(hG2.block _ gz6).trans fs6
  have f7:blk w2 (w.heap.size+1+1+1+1)=some (.cells SPins.zero.cells 76):=(hG2.block _ gz7).trans fs7
  have hBr:=HBR.out.thru hG2 nL
  have hbw:=HBW.out.trans (hG2.mono HBW.out.size)
  obtain ⟨gc4,gf4,gz4'⟩:=zaa f4
  go_upto_region 2 with fail
  refine wpNm (fun U hU=>?_)
  have u4:blk U (w.heap.size+1)=some (.cells (slS t.s qg qm qo).cells 52):=by rw [hU];exact blk_setBlk_same _ _ _ _ gz4'
  have hUB:∀ b,b≠w.heap.size+1->blk U b=blk w2 b:=fun b hb=>by rw [hU];exact blk_setBlk_other _ _ _ _ _ hb
  have hUz:U.heap.size=w2.heap.size:=by rw [hU];exact size_setBlk _ _ _ _
  have u3:=(hUB _ oM).trans f3
  have u5:=(hUB _ oM).trans f5
  have u6:=(hUB _ oM).trans f6
  have u7:=(hUB _ oM).trans f7
  have hbU:Below w.heap.size w U:=by rw [hU];exact bL
  have rg:Row U W.heap.size U.heap.size 5 1 encB qg t.g:=by rw [hU];exact Row.hi_mono (Row.set hqg f4 dC) (by rw [size_setBlk];exact Nat.le_refl _)
  have rm:Row U W.heap.size U.heap.size 61 2 SCell.cells qm t.m:=by rw [hU];exact Row.hi_mono (Row.set hqm f4 dC) (by rw [size_setBlk];exact Nat.le_refl _)
  have ro:Row U W.heap.size U.heap.size 110 2 SOutput.cells qo t.o:=by rw [hU];exact Row.hi_mono (Row.set hqo f4 dC) (by rw [size_setBlk];exact Nat.le_refl _)
  have rr:Row U 0 W.heap.size 82 4 SRegion.cells B.regions L:=by rw [hU];exact Row.set hBr f4 dC
  clear hU hUB f3 f4 f5 f6 f7 gc4 gf4 gz4' hqg hqm hqo hBr hbw
  obtain ⟨gc4,gf4,gz4b⟩:=zaa u4
  obtain ⟨gc3,gf3,gz3b⟩:=zaa u3
  obtain ⟨gc5,gf5,gz5b⟩:=zaa u5
  go_upto_region 3 with fail
  refine wpNm (fun V hV=>?_)
  have vm:blk V U.heap.size=some (.cells (⟨(slS t.s qg qm qo),B⟩:SMachine).cells 91):=by rw [hV];exact zab _ _ _ rfl
  have hUV:Below U.heap.size U V:=by rw [hV];exact (Below.refl _ U).alloc nL _
  have hloU:W.heap.size<=U.heap.size:=oM
  have hVz:V.heap.size=U.heap.size+1:=by rw [hV];simp
  have MC:=hid (zv4 vm hloU ((rr.thru hUV oM).hi_mono oM) hL ((rg.thru hUV nL).lo_mono (Nat.zero_le _) |>.hi_mono oM) ((rm.thru hUV nL).lo_mono (Nat.zero_le _) |>.hi_mono oM) ((ro.thru hUV nL).hi_mono oM) HOK.out hn hk i HI.out)
  have v5:blk V (w.heap.size+1+1)=_:=(hUV.block _ gz5b).trans u5
  have v6:blk V (w.heap.size+1+1+1)=_:=(hUV.block _ (zak u6)).trans u6
  have v7:blk V (w.heap.size+1+1+1+1)=_:=(hUV.block _ (zak u7)).trans u7
  have hbV:Below w.heap.size w V:=hbU.trans (hUV.mono hbU.size)
  obtain ⟨mb,hmb⟩:∃ m,m=U.heap.size:=⟨_,rfl⟩
  rw [<- hUz]
  rw [<- hmb] at vm MC ⊢
  have hloM:W.heap.size<=mb:=oM
  have i10:okO 10 (blk V (w.heap.size+1+1)) 0=true:=by rw [v5];exact sM
  have i11:valO 10 (blk V (w.heap.size+1+1)) 0=.agg i.cells:=by rw [v5];rfl
  clear hV hUV hmb u3 u4 u5 u6 u7 rg rm ro rr gc3 gf3 gz3b gc4 gf4 gz4b gc5 gf5 gz5b hbU
  have gz5b:=zak v5
  have v5h:=hid v5
  clear v5
  go_upto_region 4 with (go_at_call 23;(with_reducible refine MC.out.mono ?_);rintro e w3 ⟨g3,m3,o3,rfl,f8,rg3,rm3,ro3,hk3⟩)
  refine wpNm (fun Y hY=>?_)
  have fx:blk Y w3.heap.size=some (.cells (slX (momM B L t i) qg).cells 96):=by rw [hY];exact sM
  have hY3:Below w3.heap.size w3 Y:=by rw [hY];exact bL
  have y8:=(hY3.block _ (zak f8)).trans f8
  have y6:blk Y (w.heap.size+1+1+1)=some (.cells SSystem.zero.cells 52):=(hY3.block _ (Nat.lt_of_lt_of_le (zak v6) hk3.size)).trans ((hk3.below.block _ gz6).trans v6)
  have y7:blk Y (w.heap.size+1+1+1+1)=some (.cells SPins.zero.cells 76):=(hY3.block _ (Nat.lt_of_lt_of_le (zak v7) hk3.size)).trans ((hk3.below.block _ gz7).trans v7)
  have rgY:=(rg3.thru hY3 nL).hi_mono hY3.size
  have rmY:=(rm3.thru hY3 nL).hi_mono hY3.size
  have roY:=(ro3.thru hY3 nL).hi_mono hY3.size
  have hbY:Below w.heap.size w Y:=hbV.trans ((hk3.below.mono HBW.out.size).trans (hY3.mono (Nat.le_trans hbV.size hk3.size)))
  have hk3z:W.heap.size<=w3.heap.size/\w.heap.size+1+1+1+1<w3.heap.size:=⟨Nat.le_trans oM hk3.size,Nat.lt_of_lt_of_le (zak v7) hk3.size⟩
  clear hY hY3 f8 rg3 rm3 ro3 hk3 v5h v6 v7 gz5b i10 i11 hbV MC vm
  obtain ⟨gc8,gf8,gz8b⟩:=zaa y8
  obtain ⟨gc6,gf6,gz6b⟩:=zaa y6
  obtain ⟨gc7,gf7,gz7b⟩:=zaa y7
  obtain ⟨gcx,gfx,gzx⟩:=zaa fx
  have hme:mb≠w.heap.size+1+1+1:=oM
  have hxe:w3.heap.size≠w.heap.size+1+1+1:=by have:=hk3z;omega
  have HRD0:Aside (Row Y 0 Y.heap.size 5 1 encB g3 (clkM B L t i).g/\Row Y 0 Y.heap.size 61 2 SCell.cells m3 (clkM B L t i).m/\Row Y 0 Y.heap.size 110 2 SOutput.cells o3 (clkM B L t i).o/\Below w.heap.size w Y):=⟨rgY,rmY,roY.lo_mono (Nat.zero_le _),hbY⟩
  obtain ⟨S9,hS9⟩:∃ s,s=slS (clkM B L t i).s g3 m3 o3:=⟨_,rfl⟩
  rw [<- hS9] at y8
  obtain ⟨X9,hX9⟩:∃ s,s=slX (momM B L t i) qg:=⟨_,rfl⟩
  rw [<- hX9] at fx
  have HS9:=hid hS9
  have HX9:=hid hX9
  have y6':∃ z:SSystem,blk Y (w.heap.size+1+1+1)=some (.cells z.cells 52):=⟨_,y6⟩
  obtain ⟨g6,hg6⟩:∃ g,g=w.heap.size+1+1+1:=⟨_,rfl⟩
  obtain ⟨g7,hg7⟩:∃ g,g=w.heap.size+1+1+1+1:=⟨_,rfl⟩
  obtain ⟨gx,hgx⟩:∃ g,g=w3.heap.size:=⟨_,rfl⟩
  rw [<- hg6] at y6' hme hxe
  rw [<- hg7] at y7
  rw [<- hgx] at fx hxe
  have h76:g7≠g6:=oM
  have hw6:w.heap.size<=g6/\w.heap.size<=g7:=oM
  have hz8:=zak y8
  have hzx:=zak fx
  have hz7:=zak y7
  clear gc6 gf6 gz6b gc7 gf7 gz7b gcx gfx gzx gc8 gf8 gz8b y6 rgY rmY roY hbY hS9 hX9
  rw [<- hg7,<- hg6,<- hgx]
  have HG67:=hid (And.intro hg6 (And.intro hg7 hgx))
  clear hg6 hg7 hgx
  refine zde 7 kR kR kR (fun j v w2=>match j with|0=>v=.pointer (some ⟨mb,0,none⟩)|1=>v=.pointer (some ⟨mb,0,none⟩)|2=>v=.pointer (some ⟨mb,0,none⟩)|3=>v=.agg S9.cells|4=>v=.pointer (some ⟨gx,49,none⟩)|5=>v=.agg X9.pins.cells|6=>blk w2 g6=some (.cells S9.cells 52)|_=>True) (fun f w2=>blk w2 mb=some (.cells (⟨S9,B⟩:SMachine).cells 91)/\blk w2 gx=some (.cells X9.cells 96)/\blk w2 g7=some (.cells SPins.zero.cells 76)/\(∃ z:SSystem,blk w2 g6=some (.cells z.cells 52))/\Aside (Row w2 0 w2.heap.size 5 1 encB g3 (clkM B L t i).g/\Row w2 0 w2.heap.size 61 2 SCell.cells m3 (clkM B L t i).m/\Row w2 0 w2.heap.size 110 2 SOutput.cells o3 (clkM B L t i).o/\Below w.heap.size w w2)) ?_ ?_ ?_ ?_
  ·exact ⟨y8,fx,y7,y6',⟨HRD0.out.1.thru ((Below.refl _ Y).drew) nL,HRD0.out.2.1.thru ((Below.refl _ Y).drew) nL,HRD0.out.2.2.1.thru ((Below.refl _ Y).drew) nL,HRD0.out.2.2.2.drew⟩⟩
  ·exact fun f w2 h=>h
  ·intro i o f a' w2 hi hio hfr hG3 hG2 hV K hK
   have hc:i=0\/i=1\/i=2\/i=3\/i=4\/i=5\/i=6:=oM
   rcases hc with rfl|rfl|rfl|rfl|rfl|rfl|rfl
   ·obtain rfl:=Option.some.inj hio
    have e0:a'.tmps[8]?.getD undef=.pointer (some ⟨mb,0,none⟩):=zax (hfr 8 kR)
    exact zas (w2:=w2) (by simp [execOp,go_sem,↓iteOmega, *]) (hK _ _ rfl hG2 fun _ _ h=>h)
   ·obtain rfl:=Option.some.inj hio
    have e0:a'.tmps[31]?.getD undef=.pointer (some ⟨mb,0,none⟩):=zax (hV 0 31 kR)
    exact zas (w2:=w2) (by simp [execOp,go_sem,↓iteOmega, *]) (hK _ _ rfl hG2 fun _ _ h=>h)
   ·obtain rfl:=Option.some.inj hio
    have e0:a'.tmps[32]?.getD undef=.pointer (some ⟨mb,0,none⟩):=zax (hV 1 32 kR)
    exact zas (w2:=w2) (by simp [execOp,go_sem,↓iteOmega, *]) (hK _ _ rfl hG2 fun _ _ h=>h)
   ·obtain rfl:=Option.some.inj hio
    have e0:a'.tmps[33]?.getD undef=.pointer (some ⟨mb,0,none⟩):=zax (hV 2 33 kR)
    obtain ⟨hm2,hx2,h72,⟨z,h62⟩,h82⟩:=id hG2
    exact zas (w2:=w2) (by simp [execOp,go_sem,↓iteOmega, *]) (hK _ _ rfl hG2 fun _ _ h=>h)
   ·obtain rfl:=Option.some.inj hio
    have e0:a'.tmps[9]?.getD undef=.pointer (some ⟨gx,0,none⟩):=zax (hfr 9 kR)
    exact zas (w2:=w2) (by simp [execOp,go_sem,↓iteOmega, *]) (hK _ _ rfl hG2 fun _ _ h=>h)
   ·obtain rfl:=Option.some.inj hio
    have e0:a'.tmps[35]?.getD undef=.pointer (some ⟨gx,49,none⟩):=zax (hV 4 35 kR)
    obtain ⟨hm2,hx2,h72,⟨z,h62⟩,h82⟩:=id hG2
    exact zas (w2:=w2) (by simp [execOp,go_sem,↓iteOmega, *]) (hK _ _ rfl hG2 fun _ _ h=>h)
   ·obtain rfl:=Option.some.inj hio
    have e1:a'.eval (.tmp 6)=.pointer (some ⟨g6,0,none⟩):=hfr 6 kR
    have e0:a'.eval (.tmp 34)=.agg S9.cells:=hV 3 34 kR
    obtain ⟨hm2,hx2,h72,⟨z,h62⟩,h82⟩:=id hG2
    rw [SSystem.store,e1,e0,zok,zqw,h62,SSystem.oks_whole,if_pos rfl,SSystem.st_whole]
    exact (hK undef _ (blk_setBlk_same _ _ _ _ (zak h62)) ⟨(blk_setBlk_other _ _ _ _ _ hme).trans hm2,(blk_setBlk_other _ _ _ _ _ hxe).trans hx2,(blk_setBlk_other _ _ _ _ _ h76).trans h72,⟨_,blk_setBlk_same _ _ _ _ (zak h62)⟩,(⟨(h82.out.1.set h62 dC).hi_mono (by rw [size_setBlk];exact Nat.le_refl _),(h82.out.2.1.set h62 dC).hi_mono (by rw [size_setBlk];exact Nat.le_refl _),(h82.out.2.2.1.set h62 dC).hi_mono (by rw [size_setBlk];exact Nat.le_refl _),zae h82.out.2.2.2 hw6.1⟩)⟩ (fun j u h=>match j,h with|0,h=>h|1,h=>h|2,h=>h|3,h=>h|4,h=>h|5,h=>h|6,h=>blk_setBlk_same _ _ _ _ (zak h62)|_+7,h=>h))
  ·intro vs w2 hG2 hV2
   simp only [tkd,zeq]
   obtain ⟨hm2,hx2,h72,⟨z,h62⟩,h82⟩:=hG2
   have v0:vs 0=.pointer (some ⟨mb,0,none⟩):=hV2 0 oM
   have v1:vs 1=.pointer (some ⟨mb,0,none⟩):=hV2 1 oM
   have v2:vs 2=.pointer (some ⟨mb,0,none⟩):=hV2 2 oM
   have v3:vs 3=.agg S9.cells:=hV2 3 oM
   have v4:vs 4=.pointer (some ⟨gx,49,none⟩):=hV2 4 oM
   have v5:vs 5=.agg X9.pins.cells:=hV2 5 oM
   have v6:blk w2 g6=some (.cells S9.cells 52):=hV2 6 oM
   simp only [v0,v1,v2,v3,v4,v5]
   clear hV2 v0 v1 v2 v3 v4 v5
   simp only [Act.put,List.setIfInBounds_toArray,List.set_cons_succ,List.set_cons_zero]
   obtain ⟨gc7,gf7,gz7b⟩:=zaa h72
   go_wp2_with fail
   have hz6:blk (zai w2 g7 X9.pins.cells 76) g6=some (.cells S9.cells 52):=(blk_setBlk_other _ _ _ _ _ (Ne.symm h76)).trans v6
   have hz7:blk (zai w2 g7 X9.pins.cells 76) g7=some (.cells X9.pins.cells 76):=blk_setBlk_same _ _ _ _ (zak h72)
   refine zbl (n:=62) (n':=17) (v:=.agg S9.cells) (u:=.agg X9.pins.cells) rfl kR kR kR kR rfl ?_ ?_ rfl ?_ ?_ rfl ?_
   all_goals (first|(simp [go_sem,↓iteOmega, *];done)|skip)
   refine ⟨g3,m3,o3,by rw [HS9.out,HX9.out];rfl,(h82.out.1.set h72 dC).hi_mono (by rw [size_setBlk];exact Nat.le_refl _),(h82.out.2.1.set h72 dC).hi_mono (by rw [size_setBlk];exact Nat.le_refl _),(h82.out.2.2.1.set h72 dC).hi_mono (by rw [size_setBlk];exact Nat.le_refl _),zae h82.out.2.2.2 hw6.2⟩
end
section
open Go.RowKit
theorem zmy (k:Int) (h:zem k=true):zd1 k=false/\(k==8||k==9)=false:=by
 unfold zem at h
 simp only [Bool.or_eq_true,beq_iff_eq] at h
 unfold zd1
 rcases h with (h|h)|h<;>subst h<;>exact ⟨rfl,rfl⟩
structure PinLaw (c:Int) (s:SPState):Prop where
 one:(zfj c s).wr=true->(zfj c s).rd=false/\(zfj c s).dbin=false/\(zfj c s).inta=false/\(zfj c s).hlda=false/\(zfj c s).float=false
 addr:s.state<=7->(zfj c s).addr=s.cycle.at_
 kind:(zfj c s).wr=true->zem s.cycle.kind=true
 third:s.state=3->zem s.cycle.kind=true->(zfj c s).wr=true
theorem zyq (c:Int) (s:SPState) (h0:1<=s.state) (h1:s.state<=10):PinLaw c s:=by
 have hk:=zmy s.cycle.kind
 have hz:SPins.zero.rd=false/\SPins.zero.dbin=false/\SPins.zero.inta=false/\SPins.zero.hlda=false/\SPins.zero.float=false/\SPins.zero.wr=false:=⟨rfl,rfl,rfl,rfl,rfl,rfl⟩
 obtain ⟨z1,z2,z3,z4,z5,z6⟩:=hz
 have hst:s.state=1\/s.state=2\/s.state=3\/s.state=4\/s.state=5\/s.state=6\/s.state=7\/s.state=8\/s.state=9\/s.state=10:=oM
 by_cases hc:c=2
 ·rcases hst with h|h|h|h|h|h|h|h|h|h<;>cases hw:zem s.cycle.kind<;>cases hr:zd1 s.cycle.kind <;>
   (constructor<;>simp_all [zfj,za6,za4,za3,za5,zaz,pinL,zdk,zdj,zdi,zdm,zh5,zl7])<;>(try (split<;>rfl))
 ·rcases hst with h|h|h|h|h|h|h|h|h|h<;>cases hw:zem s.cycle.kind<;>cases hr:zd1 s.cycle.kind <;>
   (constructor<;>simp_all [zfj,za6,za4,za3,za5,zaz,pinE,ze8,ze3,zfe,zfl,zfk,zh5,zl7])<;>(try (split<;>rfl))
theorem zm6 (B:SBoard) (L:List SRegion) (t:Mach) (i:SInput):PinLaw t.s.core.cpu.chip { state:=if i.reset=true then 10 else zaj t.s.core,cycle:=t.s.core.cycle,data:=(busM B L t.s t.m i).2,pc:=t.s.core.cpu.regs.pc,inte:=t.s.core.cpu.ie,sod:=t.s.core.cpu.sod }:=by
 have hb:=zg2 t.s.core
 refine zyq _ _ ?_ ?_
 ·show 1<=(if i.reset=true then (10:Int) else zaj t.s.core)
  split<;>omega
 ·show (if i.reset=true then (10:Int) else zaj t.s.core)<=10
  split<;>omega
theorem zyy (B:SBoard) (L:List SRegion) (t:Mach) (i:SInput) (h:(zh3 B L t i).wr=false) (hh:(zh3 B L t i).hlda=false):(clkM B L t i).m=t.m:=by
 have hp:=zm6 B L t i
 have h3:zk0 B L t i=false:=by unfold zk0;rw [hh];rfl
 have h2:(zc2 t.s i&&zem t.s.core.cycle.kind)=false:=by
  cases ha:zc2 t.s i with
  | false=>rfl
  | true=>
   cases hw:zem t.s.core.cycle.kind with
   | false=>rfl
   | true=>
    unfold zc2 at ha
    simp only [Bool.and_eq_true,Bool.not_eq_true',beq_iff_eq] at ha
    have e:=hp.third (by show (if i.reset=true then (10:Int) else zaj t.s.core)=3;rw [if_neg (by rw [ha.1];simp)];exact ha.2) hw
    have e2:(zh3 B L t i).wr=true:=e
    rw [h] at e2
    cases e2
 have e2:(clk2 B L t i).m=t.m:=by
  unfold clk2
  dsimp only
  rw [h2,if_neg sI]
  rfl
 have e3:(clk3 B L t i).m=t.m:=by
  unfold clk3
  dsimp only
  rw [h3,if_neg sI]
  exact e2
 unfold clkM
 dsimp only
 split
 ·exact e3
 ·exact e3
end
section
open Go.RowKit
attribute [local irreducible] Region.wanted yielded
theorem zsn {lo hi lo2 hi2:Nat} {s t:Sl} {A:List SCell} (w:World) (h:Row w lo hi 61 2 SCell.cells s A) (h2:Row w lo2 hi2 61 2 SCell.cells t A) (hhi:hi<=w.heap.size) (hhi2:hi2<=w.heap.size) (hL:A.length<=1000000) :
  Calls prog 16 #[.slice s.p s.n s.c,.slice t.p t.n t.c] w fun e w'=>e=.returned (.bool true)/\Below w.heap.size w w':=by
 have hn:=h.len
 have hn2:=h2.len
 obtain ⟨p,n,c⟩:=s
 obtain ⟨p2,n2,c2⟩:=t
 dsimp only at hn hn2
 subst hn
 subst hn2
 have H:Aside (Row w lo hi 61 2 SCell.cells ⟨p,A.length,c⟩ A):=h
 have H2:Aside (Row w lo2 hi2 61 2 SCell.cells ⟨p2,A.length,c2⟩ A):=h2
 clear h h2
 go_enter func16,ntmps16
 go_wp2_with fail
 go_loopg [13] A.length (fun kx s13 wr=>∃ k:Nat,s13=.int .i64 k/\k<=A.length/\A.length-k<=kx/\Aside (Below w.heap.size w wr))
 case atStart=>exact ⟨0,rfl,oM,oM,Below.refl _ _⟩
 case round=>
  obtain ⟨k,rfl,hk,hkx,hB⟩:=hrel
  by_cases hlt:k<A.length
  ·obtain ⟨g,hp,hg1,hg2,hg3,ho,hv⟩:=(H.out.thru hB.out hhi).elem (fun _=>rfl) k hlt
   obtain ⟨g',hp',_,_,hg4,ho2,hv2⟩:=(H2.out.thru hB.out hhi2).elem (fun _=>rfl) k hlt
   dsimp only at hp hp'
   subst hp
   subst hp'
   obtain ⟨x,hr⟩:∃ r,A[k]=r:=⟨_,rfl⟩
   rw [hr] at hv hv2
   clear hr
   have q0:∀ d os,okO 2 (blk (Go.Sort.grow (redrawn wr d) os) g) (k * 2)=true/\valO 2 (blk (Go.Sort.grow (redrawn wr d) os) g) (k * 2)=.agg x.cells:=fun d os=>by
    rw [show blk (Go.Sort.grow (redrawn wr d) os) g=blk wr g from (below_regrown wr d os).block _ hg3];exact ⟨ho,hv⟩
   have q1:∀ d os,okO 2 (blk (Go.Sort.grow (redrawn wr d) os) g') (k * 2)=true/\valO 2 (blk (Go.Sort.grow (redrawn wr d) os) g') (k * 2)=.agg x.cells:=fun d os=>by
    rw [show blk (Go.Sort.grow (redrawn wr d) os) g'=blk wr g' from (below_regrown wr d os).block _ hg4];exact ⟨ho2,hv2⟩
   have q0a:=fun d os=>(q0 d os).1
   have q0b:=fun d os=>(q0 d os).2
   have q1a:=fun d os=>(q1 d os).1
   have q1b:=fun d os=>(q1 d os).2
   clear q0 q1 ho hv ho2 hv2
   go_upto_region 6 with fail
   refine zad 8 kR kR ?_
   simp only [tkd]
   repeat (quiet_step (fail))
   refine wpQuiet_nil ?_
   intro wq hwq
   have hBq:Below wr.heap.size wr wq:=by obtain ⟨p,rfl⟩:=hwq;exact below_regrown _ _ _
   clear hwq q0a q0b q1a q1b
   go_wp2_with fail
   go_roundg (A.length-(k+1))
   case measure=>omega
   case rel=>exact ⟨k+1,by simp,oM,oM,zaf hBq hB.out hB.out.size⟩
  ·go_wp2_with fail
   go_ret
   exact ⟨rfl,hB.out⟩
end
section
open Go.RowKit
theorem zkv {b:Prop} [Decidable b] {x y:SPins} {n:Int} (hx:x.state=n) (hy:y.state=n):(if b then x else y).state=n:=by
 split<;>assumption
theorem zs2 (c:Int) (s:SPState):(zfj c s).state=s.state:=by
 have o0:(za6 c s).state=s.state:=rfl
 have o1:(za4 c s).state=s.state:=zkv o0 o0
 have o2:(za3 c s).state=s.state:=zkv o1 o1
 have o3:(za5 c s).state=s.state:=zkv o2 o2
 have o4:(zaz c s).state=s.state:=zkv o3 o3
 have l0:(zdk (zaz c s) s).state=s.state:=o4
 have l1:(zdj (zaz c s) s).state=s.state:=zkv l0 l0
 have l2:(zdi (zaz c s) s).state=s.state:=zkv l1 l1
 have l3:(zdm (zaz c s) s).state=s.state:=zkv l2 l2
 have e0:(ze8 (zaz c s) s).state=s.state:=o4
 have e1:(ze3 (zaz c s) s).state=s.state:=zkv e0 e0
 have e2:(zfe (zaz c s) s).state=s.state:=zkv e1 e1
 exact zkv l3 e2
structure BusLaw (p:SPins) (c:SCycle):Prop where
 one:p.wr=true->p.rd=false/\p.dbin=false/\p.inta=false/\p.hlda=false/\p.float=false
 kind:p.wr=true->zem c.kind=true
 addr:p.state<=7->p.addr=c.at_
theorem z01 (B:SBoard) (L:List SRegion) (t:Mach) (i:SInput):BusLaw (zh3 B L t i) t.s.core.cycle:=by
 have h:=zm6 B L t i
 exact ⟨h.one,h.kind,fun hs=>h.addr (by have e:=zs2 t.s.core.cpu.chip { state:=if i.reset=true then 10 else zaj t.s.core,cycle:=t.s.core.cycle,data:=(busM B L t.s t.m i).2,pc:=t.s.core.cpu.regs.pc,inte:=t.s.core.cpu.ie,sod:=t.s.core.cpu.sod };rw [<- e];exact hs)⟩
theorem zwe {w:World} {b:Nat} {A:Array Value} {t:TypeId}:w.grownBy (zai w b A t) (some b):=
 ⟨rfl,rfl,rfl,by rw [size_setBlk];exact Nat.le_refl _,fun k _ hn=>blk_setBlk_other _ _ _ _ _ (fun e=>hn (by rw [e]))⟩
theorem topBuses_walk (a:Option Addr) (len cap:Nat) (zs:List Int) (w:World) (wl:IsRow .i64 w a len cap zs) :
  Calls prog 5 #[.slice a len cap] w fun e w'=>e=.returned (.bool true)/\Below w.heap.size w w':=by
 by_cases hl:250<len
 ·have hlI:(250:Int)<(len:Int):=oM
  go_enter func5,ntmps5
  go_wp2_with (go_at_call 6;(refine (zf8 _).mono ?_);rintro e w1 ⟨rfl,hB1⟩)
  go_ret
  exact ⟨rfl,hB1⟩
 ·have hlI : ¬ (250 : Int) < (len : Int) := oM
  have MD:Aside (∀ w1,Below w.heap.size w w1->Calls prog 7 #[.slice a len cap,.int .i64 80] w1 (Made 80 w1)):=fun w1 hB=>by
   obtain ⟨r0,r1⟩:=zj0 wl
   refine zl9 ⟨a,len,cap⟩ (zs.take len) w1 r0 (fun j hj=>?_) (by rw [<- r0];omega) 80 oM
   obtain ⟨g,off,e1,e2,e3⟩:=r1 j hj
   exact ⟨g,off,e1,Nat.lt_of_lt_of_le e2 hB.size,(zbx hB e2 _).trans e3⟩
  clear wl
  go_enter func5,ntmps5
  go_upto_region 4 with (go_at_call 7;(refine (MD.out _ bL).mono ?_);rintro e w2 ⟨B,L,M,q,X,rfl,hBO,hX,hXl,hXb,hb2⟩)
  have hBO3:BoardOk (w2.alloc (.cells B.cells 27)) B L M:=hBO.thru ((Below.refl _ w2).alloc nL _)
  have hX3:Row (w2.alloc (.cells B.cells 27)) 0 (w2.alloc (.cells B.cells 27)).heap.size 5 1 encB q X:=(hX.thru ((Below.refl _ w2).alloc nL _) nL).hi_mono sI
  have f33:blk (w2.alloc (.cells B.cells 27)) w2.heap.size=some (.cells B.cells 27):=zab _ _ _ rfl
  have hbA:Below w.heap.size w (w2.alloc (.cells B.cells 27)):=hb2.trans (((Below.refl _ w2).alloc nL _).mono hb2.size)
  have NW:=hid (zxt _ hBO3)
  have HBA:Aside (BoardOk (w2.alloc (.cells B.cells 27)) B L M):=hBO3
  have HX:Aside (Row (w2.alloc (.cells B.cells 27)) 0 (w2.alloc (.cells B.cells 27)).heap.size 5 1 encB q X/\(∀ y ∈ X,0<=y/\y<=255)/\X.length<=320):=⟨hX3,hXb,oM⟩
  clear hBO hX hBO3 hX3 hXb hXl
  go_upto_region 5 with (go_at_call 12;(refine NW.out.mono ?_);intro e w3 hnw;obtain ⟨ms0,rfl,hrow,hB3⟩:=hnw;obtain ⟨sys,hsys⟩:∃ y,({ newS B with memory:=ms0 }:SSystem)=y:=⟨_,rfl⟩;rw [hsys])
  refine wpNm (fun W hW=>?_)
  have f5:blk W w3.heap.size=some (.cells sys.cells 52):=by rw [hW];exact sM
  have hb3W:Below w3.heap.size w3 W:=by rw [hW];exact bL
  have f3:blk W w2.heap.size=some (.cells B.cells 27):=(hb3W.block _ (Nat.lt_of_lt_of_le (zak f33) hB3.size)).trans ((hB3.block _ (zak f33)).trans f33)
  obtain ⟨g5,hg5⟩:∃ g,g=w3.heap.size:=⟨_,rfl⟩
  obtain ⟨g3,hg3⟩:∃ g,g=w2.heap.size:=⟨_,rfl⟩
  have h35:g3<g5:=by have:=zak f33;have:=hB3.size;omega
  have hAW:Below (w2.alloc (.cells B.cells 27)).heap.size (w2.alloc (.cells B.cells 27)) W:=hB3.trans (hb3W.mono hB3.size)
  have hbW:Below w.heap.size w W:=hbA.trans (hAW.mono hbA.size)
  have hw5:w.heap.size<=g5/\w.heap.size<=W.heap.size:=⟨by have:=hB3.size;have:=hbA.size;omega,hbW.size⟩
  have HBW:Aside (BoardOk W B L M/\Below w.heap.size w W):=⟨HBA.out.thru hAW,hbW⟩
  have HMS:Aside (Row W 0 W.heap.size 61 2 SCell.cells ms0 M):=((hrow.thru hb3W nL).lo_mono (Nat.zero_le _)).hi_mono hb3W.size
  have DC:Aside (∀ w1,Below W.heap.size W w1->Calls prog 13 #[.slice q.p q.n q.c] w1 (zpj X w1)):=fun w1 hB=>zgv w1 (((HX.out.1.thru hAW nL).hi_mono hAW.size).thru hB nL) HX.out.2.1 (by have:=HX.out.2.2;omega) hB.size
  rw [<- hg5,<- hg3]
  rw [<- hg5] at f5
  rw [<- hg3] at f3
  have HSY:=hid hsys
  have HF3:=hid f3
  have HF5:=hid f5
  have gz5:=zak f5
  clear hW hb3W hB3 hAW hbW hg5 hg3 hsys hrow f33 hbA hb2 NW HBA f3 f5 MD
  go_wp2_with (go_at_call 13;(refine (DC.out _ (Below.refl _ _)).mono ?_);intro e w4 hdc;obtain ⟨⟨pi,ni,ci⟩,l,rfl,hri,hll,hlok,hlz,hB4⟩:=hdc;have hni:=hri.len;dsimp only at hni hri ⊢;subst hni;have HLL:Aside (l.length=X.length / 4/\∀ i ∈ l,okIn i):=⟨hll,hlok⟩;clear hll hlok hlz)
  have f5:blk w4 g5=some (.cells (slS (newR B M).t.s ⟨none,0,0⟩ ms0 ⟨none,0,0⟩).cells 52):=by
   have e0:slS (newR B M).t.s ⟨none,0,0⟩ ms0 ⟨none,0,0⟩=sys:=by rw [<- HSY.out];rfl
   rw [e0]
   exact (hB4.block _ gz5).trans HF5.out
  have f3:blk w4 g3=some (.cells B.cells 27):=(hB4.block _ (Nat.lt_trans h35 gz5)).trans HF3.out
  have HL:Aside (∀ i ∈ l,okIn i):=HLL.out.2
  have hl80:l.length<=100:=by have:=HX.out.2.2;have:=HLL.out.1;omega
  have HB4:Aside (BoardOk w4 B L M/\Below w.heap.size w w4):=⟨HBW.out.1.thru hB4,HBW.out.2.trans (hB4.mono hw5.2)⟩
  have HMS4:Aside (Row w4 0 w4.heap.size 61 2 SCell.cells ms0 M):=(HMS.out.thru hB4 nL).hi_mono hB4.size
  have HRI:Aside (Row w4 0 w4.heap.size 74 10 SInput.cells ⟨pi,l.length,ci⟩ l):=hri.lo_mono (Nat.zero_le _)
  have h4z:=hB4.size
  clear hri hB4
  go_loopg [31] l.length (fun kx s31 wr=>∃ (k:Nat) (t:Mach) (gs ms ou:Sl),s31=.int .i64 k/\k<=l.length/\l.length-k<=kx/\blk wr g5=some (.cells (slS t.s gs ms ou).cells 52)/\Aside (t.Ok M.length k)/\Aside (Row wr 0 wr.heap.size 5 1 encB gs t.g/\Row wr 0 wr.heap.size 61 2 SCell.cells ms t.m/\Row wr 0 wr.heap.size 110 2 SOutput.cells ou t.o)/\Aside (w4.grownBy wr (some g5)))
  case atStart=>exact ⟨0,(newR B M).t,⟨none,0,0⟩,ms0,⟨none,0,0⟩,rfl,oM,oM,f5,zom B M HB4.out.1.mem,⟨Row.nil _ _ _ _ _ _,HMS4.out,Row.nil _ _ _ _ _ _⟩,zcr (Below.refl _ _)⟩
  case round=>
   obtain ⟨k,t,gs,ms,ou,rfl,hk,hkx,n5,hok,hrs,hG⟩:=hrel
   have hzr:=hG.out.size
   by_cases hlt:k<l.length
   ·have hltI:(k:Int)<(l.length:Int):=oM
    obtain ⟨g,hp,hg1,hg2,hg3,ho,hv⟩:=(rowGrown HRI.out f5 dC hG.out).elem (fun _=>rfl) k hlt
    dsimp only at hp
    subst hp
    obtain ⟨i,hi⟩:∃ i,l[k]=i:=⟨_,rfl⟩
    have hio:okIn i:=by rw [<- hi];exact HL.out _ (List.getElem_mem hlt)
    have HIO:=hid hio
    rw [hi] at hv
    have hgz5:=zak n5
    obtain ⟨gc5,gf5,_⟩:=zaa n5
    clear hi hio
    go_upto_block 1 with fail
    go_upto_region 11 with fail
    refine wpNm (fun V hV=>?_)
    have v8:blk V wr.heap.size=some (.cells i.cells 74):=by rw [hV];exact sM
    have v9:blk V (wr.heap.size+1)=some (.cells (slC t.s.core gs).cells 45):=by rw [hV,show slC t.s.core gs=(slS t.s gs ms ou).core from rfl];exact sM
    have hbV:Below wr.heap.size wr V:=by rw [hV];exact bL
    have v5:blk V g5=some (.cells (slS t.s gs ms ou).cells 52):=(hbV.block _ hgz5).trans n5
    have v3:blk V g3=some (.cells B.cells 27):=(hbV.block _ oM).trans (zcg hG.out f3 oM)
    have hrr:∀ {α:Type} {e m:Nat} {enc:α->Array Value} {q:Sl} {A:List α},Row wr 0 wr.heap.size e m enc q A->Row V 0 V.heap.size e m enc q A:=fun h=>(h.thru hbV nL).hi_mono hbV.size
    have CK:=hid (zup (hrr (rowGrown HB4.out.1.regs f5 dC hG.out)) HB4.out.1.few (hrr hrs.out.1) (hrr hrs.out.2.1) (hrr hrs.out.2.2) hok.out oM HB4.out.1.len i HIO.out)
    have HMV:Aside (Row V 0 V.heap.size 61 2 SCell.cells ms t.m):=hrr hrs.out.2.1
    have HML2:Aside (t.m.length<=1000000):=by have:=hok.out.ml;have:=HB4.out.1.len;exact (by omega:t.m.length<=1000000)
    have i10:okO 10 (blk V wr.heap.size) 0=true:=by rw [v8];exact sM
    have i11:valO 10 (blk V wr.heap.size) 0=.agg i.cells:=by rw [v8];rfl
    have HBV:Aside (Below wr.heap.size wr V):=hbV
    have gz8:=zak v8
    have gz9:=zak v9
    have hg5V:=zak v5
    have hg3V:=zak v3
    clear hV hbV hrr v8 gc5 gf5 ho hv n5
    go_upto_region 12 with (go_at_call 14;(with_reducible refine CK.out.mono ?_);rintro e w5 ⟨g',m',o',rfl,rg,rm,ro,hb5⟩)
    refine wpNm (fun U hU=>?_)
    obtain ⟨p,hp⟩:∃ p,zh3 B L t i=p:=⟨_,rfl⟩
    obtain ⟨S1,hS1⟩:∃ y,slS (clkM B L t i).s g' m' o'=y:=⟨_,rfl⟩
    have hS1m:S1.memory=m':=by rw [<- hS1];rfl
    rw [hp,hS1] at hU
    rw [hp,hS1]
    have f10:blk U w5.heap.size=some (.cells S1.cells 52):=by rw [hU];exact sM
    have f11:blk U (w5.heap.size+1)=some (.cells p.cells 76):=by rw [hU];exact sM
    have hbU5:Below w5.heap.size w5 U:=by rw [hU];exact bL
    have HRU:Aside (Row U 0 U.heap.size 5 1 encB g' (clkM B L t i).g/\Row U 0 U.heap.size 61 2 SCell.cells m' (clkM B L t i).m/\Row U 0 U.heap.size 110 2 SOutput.cells o' (clkM B L t i).o):=⟨(rg.thru hbU5 nL).hi_mono hbU5.size,(rm.thru hbU5 nL).hi_mono hbU5.size,(ro.thru hbU5 nL).hi_mono hbU5.size⟩
    have hbU:Below V.heap.size V U:=hb5.trans (hbU5.mono hb5.size)
    have HMU:Aside (Row U 0 U.heap.size 61 2 SCell.cells ms t.m):=(HMV.out.thru hbU nL).hi_mono hbU.size
    have HBU:Aside (Below V.heap.size V U):=hbU
    have HBL:=z01 B L t i
    have HML:Aside (p.wr=false->p.hlda=false->(clkM B L t i).m=t.m):=fun h1 h2=>zyy B L t i (by rw [hp];exact h1) (by rw [hp];exact h2)
    rw [hp] at HBL
    obtain ⟨C,hC⟩:∃ c,slC t.s.core gs=c:=⟨_,rfl⟩
    have hCc:t.s.core.cycle=C.cycle:=by rw [<- hC];rfl
    rw [hCc] at HBL
    obtain ⟨S0,hS0⟩:∃ y,slS t.s gs ms ou=y:=⟨_,rfl⟩
    have hS0m:S0.memory=ms:=by rw [<- hS0];rfl
    rw [hC] at v9
    rw [hS0] at v5
    have u9:blk U (wr.heap.size+1)=some (.cells C.cells 45):=(hbU.block _ gz9).trans v9
    have u5:blk U g5=some (.cells S0.cells 52):=(hbU.block _ hg5V).trans v5
    have HS1:=hid hS1
    obtain ⟨h1,h2,h3⟩:=HBL
    have SA:Aside (p.wr=false->p.hlda=false->Calls prog 16 #[.slice m'.p m'.n m'.c,.slice ms.p ms.n ms.c] U fun e w'=>e=.returned (.bool true)/\Below U.heap.size U w'):=fun e1 e2=>zsn U (HRU.out.2.1) (by rw [HML.out e1 e2];exact HMU.out) nL nL (by rw [HML.out e1 e2];exact HML2.out)
    clear hU hp hS1 hbU5 rg rm ro hbU hb5 hC hCc hS0 v9 v5 v3 CK i10 i11
    obtain ⟨gc5,gf5,gz5U⟩:=zaa u5
    obtain ⟨gc9,gf9,gz9U⟩:=zaa u9
    obtain ⟨gc10,gf10,gz10U⟩:=zaa f10
    obtain ⟨gc11,gf11,gz11U⟩:=zaa f11
    go_cut [89] (fun s89 wx=>s89=.bool false/\U=wx)
    case first=>
     cases hw:p.wr with
     | true=>
      obtain ⟨r1,r2,r3,r4,r5⟩:=h1 hw
      have r6:=h2 hw
      by_cases hs:p.state<=7
      ·have ha:=h3 hs
       clear h1 h2 h3
       go_wp2_with with_reducible refine Cpv (zff _ _) ?_
       go_meet
       exact ⟨rfl,rfl⟩
      ·clear h1 h2 h3
       go_wp2_with with_reducible refine Cpv (zff _ _) ?_
       go_meet
       exact ⟨rfl,rfl⟩
     | false=>
      by_cases hs:p.state<=7
      ·have ha:=h3 hs
       clear h1 h2 h3
       go_wp2_with with_reducible refine Cpv (zff _ _) ?_
       go_meet
       exact ⟨rfl,rfl⟩
      ·clear h1 h2 h3
       go_wp2_with with_reducible refine Cpv (zff _ _) ?_
       go_meet
       exact ⟨rfl,rfl⟩
    obtain ⟨rfl,rfl⟩:=hcut
    clear h1 h2 h3
    go_upto_region 14 with fail
    go_cut [105] (fun s105 wx=>s105=.bool false/\Below U.heap.size U wx)
    case first=>
     cases hw:p.wr with
     | true=>
      go_wp2_with fail
      go_meet
      exact ⟨rfl,Below.refl _ _⟩
     | false=>
      cases hh:p.hlda with
      | true=>
       go_wp2_with fail
       go_meet
       exact ⟨rfl,Below.refl _ _⟩
      | false=>
       have SA2:=hid (SA.out hw hh)
       clear SA
       go_wp2_with (go_at_call 16;(with_reducible refine SA2.out.mono ?_);rintro e w6 ⟨rfl,hB6⟩)
       go_meet
       exact ⟨rfl,hB6⟩
    obtain ⟨rfl,hBc⟩:=hcut
    have c5:blk wc g5=some (.cells S0.cells 52):=(hBc.block _ gz5U).trans u5
    have c10:blk wc w5.heap.size=some (.cells S1.cells 52):=(hBc.block _ gz10U).trans f10
    have HWC:Aside (Below wr.heap.size wr wc):=HBV.out.trans ((HBU.out.trans (hBc.mono HBU.out.size)).mono HBV.out.size)
    have HRC:Aside (Row wc 0 wc.heap.size 5 1 encB g' (clkM B L t i).g/\Row wc 0 wc.heap.size 61 2 SCell.cells m' (clkM B L t i).m/\Row wc 0 wc.heap.size 110 2 SOutput.cells o' (clkM B L t i).o):=⟨(HRU.out.1.thru hBc nL).hi_mono hBc.size,(HRU.out.2.1.thru hBc nL).hi_mono hBc.size,(HRU.out.2.2.thru hBc nL).hi_mono hBc.size⟩
    clear hBc gc5 gf5 gz5U gc9 gf9 gz9U gc10 gf10 gz10U gc11 gf11 gz11U u5 u9 f10 f11 SA
    obtain ⟨gc5,gf5,gz5c⟩:=zaa c5
    obtain ⟨gc10,gf10,gz10c⟩:=zaa c10
    go_wp2_with fail
    go_roundg (l.length-(k+1))
    case measure=>omega
    case rel=>
     obtain ⟨q1,q2,q3,q4⟩:=HIO.out
     refine ⟨k+1,clkM B L t i,g',m',o',by simp,oM,oM,?_,zpc B L t i M.length k hok.out ⟨⟨q1,q2⟩,⟨q3,q4⟩⟩ oM,⟨(HRC.out.1.set c5 dC).hi_mono (by rw [size_setBlk];exact Nat.le_refl _),(HRC.out.2.1.set c5 dC).hi_mono (by rw [size_setBlk];exact Nat.le_refl _),(HRC.out.2.2.set c5 dC).hi_mono (by rw [size_setBlk];exact Nat.le_refl _)⟩,za8 hG.out (za8 (zcr HWC.out) zwe)⟩
     rw [HS1.out]
     exact blk_setBlk_same _ _ _ _ gz5c
   ·have hltI:¬(k:Int)<(l.length:Int):=oM
    go_wp2_with (go_at_call 6;(refine (zf8 _).mono ?_);rintro e w9 ⟨rfl,hB9⟩)
    go_ret
    exact ⟨rfl,(HB4.out.2.trans (zhe hG.out hw5.1 HB4.out.2.size)).trans (hB9.mono (Nat.le_trans HB4.out.2.size hzr))⟩
end
end Go.Proofs.YtlmbamdkklkliaaGreat
