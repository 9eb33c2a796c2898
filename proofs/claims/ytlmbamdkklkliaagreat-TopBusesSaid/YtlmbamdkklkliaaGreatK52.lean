/- Part of the proof that a law holds at every input. No conditions. -/
import Derived.Deep.CutBlock
import Derived.Deep.RegionHeld3
import Derived.Deep.RegionWith
import Derived.Lib.QuietBelow
import Derived.RegionTactic
import Derived.Test.YtlmbamdkklkliaaGreatK48
import Derived.Test.YtlmbamdkklkliaaGreatK49
import Derived.Test.YtlmbamdkklkliaaGreatK50
import Derived.Test.YtlmbamdkklkliaaGreatK51
namespace Go.Proofs.YtlmbamdkklkliaaGreat
set_option linter.unusedVariables false
set_option linter.unusedSimpArgs false
set_option linter.unusedSectionVars false
set_option maxRecDepth 100000
set_option maxHeartbeats 16000000
open Go.Proofs.Tryz
open Lib (hid)
open Go.IntWalk (iteOmega)
section
open Go.RowKit
@[go_sem ↓] theorem SMoment.run_build (ρ:Operand->Value) (dst:Option Tmp) (parts:Array (Nat × Operand)) (ty:TypeId) (pos:String) (aft:Array Edge) (gd:Option (Nat × Bool)) (w:World) (h:(SMoment.fill SMoment.zero (parts.toList.map fun p=>(p.1,ρ p.2))).isSome=true) :
  (execOp ρ ⟨dst,.build 96 parts,ty,pos,aft,gd⟩).run prog w=.ok (.value (.agg ((SMoment.fill SMoment.zero (parts.toList.map fun p=>(p.1,ρ p.2))).getD #[]))) w:=zfv (fields:=zcm prog 96) (places:=SMoment.places) (fun w=>SMoment.zeroValue w) kR (fun w=>kR) ρ dst parts ty pos aft gd w h
section
variable {m:SMachine} {X:Array Value} {T mb ib:Nat} {i:SInput} {W w':World} {s':SSystem}
def zmo (m:SMachine) (X:Array Value) (T mb ib:Nat) (i:SInput) (w':World):Prop:=
 (∃ s',blk w' mb=some (.cells (catX ({ m with sys:=s' }:SMachine).cells X) T)/\s'.core=m.sys.core)/\blk w' ib=some (.cells i.cells 74)
theorem z2a (h0:blk W mb=some (.cells (catX m.cells X) T)) (h1:blk W ib=some (.cells i.cells 74)):zmo m X T mb ib i W.drew:=⟨⟨m.sys,h0,rfl⟩,h1⟩
theorem k_a0 (o:Obj) (h0:blk W mb=some (.cells (catX m.cells X) T)) (h1:blk W ib=some (.cells i.cells 74)):zmo m X T mb ib i (W.alloc o).drew:=
 ⟨⟨m.sys,(blk_alloc_past _ _ _ (zak h0)).trans h0,rfl⟩,(blk_alloc_past _ _ _ (zak h1)).trans h1⟩
theorem zxy (hm:blk w' mb=some (.cells (catX ({ m with sys:=s' }:SMachine).cells X) T)) (hs:s'.core=m.sys.core) (hk:W.drew.grownBy w' (some mb)) (h1:blk W ib=some (.cells i.cells 74)) (hn:ib≠mb):zmo m X T mb ib i w':=
 ⟨⟨s',hm,hs⟩,(hk.block ib (zak h1) (fun e=>hn (by cases e;rfl))).trans h1⟩
theorem k_calla {o:Obj} (hm:blk w' mb=some (.cells (catX ({ m with sys:=s' }:SMachine).cells X) T)) (hs:s'.core=m.sys.core) (hk:(W.alloc o).drew.grownBy w' (some mb)) (h1:blk W ib=some (.cells i.cells 74)) (hn:ib≠mb):zmo m X T mb ib i w':=
 ⟨⟨s',hm,hs⟩,(hk.block ib (by have:=zak h1;simp;omega) (fun e=>hn (by cases e;rfl))).trans ((blk_alloc_past _ _ _ (zak h1)).trans h1)⟩
theorem k_new {o:Obj} (hk:(W.alloc o).drew.grownBy w' (some mb)) (hn:mb≠W.heap.size):blk w' W.heap.size=some o:=(hk.block W.heap.size sI (fun e=>hn (by cases e;rfl))).trans (zab _ _ _ rfl)
theorem k_g1 {p:Option Nat} (hk:W.drew.grownBy w' p):W.grownBy w' p:=⟨hk.os,hk.tape,hk.output,hk.size,hk.block⟩
theorem k_g2 {o:Obj} {p:Option Nat} (hk:(W.alloc o).drew.grownBy w' p):W.grownBy w' p:=⟨hk.os,hk.tape,hk.output,by have:=hk.size;simp at this;omega,fun k h1 h2=>(hk.block k sO h2).trans (blk_alloc_past _ _ _ h1)⟩
theorem z2b (o:Obj) (h:zmo m X T mb ib i w'):zmo m X T mb ib i (w'.alloc o):=by
 obtain ⟨⟨s',h1,h2⟩,h3⟩:=h
 exact ⟨⟨s',(blk_alloc_past _ _ _ (zak h1)).trans h1,h2⟩,(blk_alloc_past _ _ _ (zak h3)).trans h3⟩
theorem k_set {b:Nat} {A:Array Value} {t:TypeId} (h:zmo m X T mb ib i w') (h1:mb≠b) (h2:ib≠b):zmo m X T mb ib i (zai w' b A t):=by
 obtain ⟨⟨s',h3,h4⟩,h5⟩:=h
 exact ⟨⟨s',(blk_setBlk_other _ _ _ _ _ h1).trans h3,h4⟩,(blk_setBlk_other _ _ _ _ _ h2).trans h5⟩
theorem k_S (h:zmo m X T mb ib i w'):(okO 36 (blk w' mb) 0=true/\valO 36 (blk w' mb) 0=.agg m.sys.core.cells)/\okO 10 (blk w' ib) 0=true/\valO 10 (blk w' ib) 0=.agg i.cells:=by
 obtain ⟨⟨s',h3,h4⟩,h5⟩:=h
 rw [h3,h5,<- h4]
 refine ⟨⟨?_,?_⟩,?_,?_⟩<;>simp [go_sem]
end
structure CkAt (ts:List TypeId) (w:World) (lo mb T:Nat) (X:Array Value) (i:SInput) (m:SMachine) (x:SMoment) (xb cb:Nat) (cy:SCycle) (wx:World):Prop where
 m:blk wx mb=some (.cells (catX m.cells X) T)
 i:blk wx w.heap.size=some (.cells i.cells 74)
 z:blk wx (w.heap.size+1)=some (.cells SMoment.zero.cells 96)
 x:blk wx xb=some (.cells x.cells 96)
 c:blk wx cb=some (.cells cy.cells 43)
 lt:w.heap.size+1<xb/\xb<cb/\cb<wx.heap.size
 kept:Kept lo mb ts w wx
theorem CkAt.thru {ts:List TypeId} {w wx w2:World} {lo mb T xb cb:Nat} {X:Array Value} {i:SInput} {m:SMachine} {x:SMoment} {cy:SCycle} (h:CkAt ts w lo mb T X i m x xb cb cy wx) (hB:Below wx.heap.size wx w2) (hlo:lo<=wx.heap.size):CkAt ts w lo mb T X i m x xb cb cy w2:=
 ⟨(hB.block _ (zak h.m)).trans h.m,(hB.block _ (zak h.i)).trans h.i,(hB.block _ (zak h.z)).trans h.z,(hB.block _ (zak h.x)).trans h.x,(hB.block _ (zak h.c)).trans h.c,⟨h.lt.1,h.lt.2.1,Nat.lt_of_lt_of_le h.lt.2.2 hB.size⟩,Kept.then hB h.kept hlo⟩
theorem CkAt.read {ts:List TypeId} {w wx w2:World} {lo mb T xb cb:Nat} {X:Array Value} {i:SInput} {m m2:SMachine} {x:SMoment} {cy:SCycle} (h:CkAt ts w lo mb T X i m x xb cb cy wx) (hk:wx.grownBy w2 (some mb)) (hm:blk w2 mb=some (.cells (catX m2.cells X) T)) (hlt:mb<w.heap.size) (hlo:lo<=mb):CkAt ts w lo mb T X i m2 x xb cb cy w2:=
 have hn:∀ b,mb<b->some b≠some mb:=fun b hb e=>by cases e;omega
 ⟨hm,(hk.block _ (zak h.i) (hn _ hlt)).trans h.i,(hk.block _ (zak h.z) (hn _ oM)).trans h.z,(hk.block _ (zak h.x) (hn _ (by have:=h.lt;omega))).trans h.x,(hk.block _ (zak h.c) (hn _ (by have:=h.lt;omega))).trans h.c,⟨h.lt.1,h.lt.2.1,Nat.lt_of_lt_of_le h.lt.2.2 hk.size⟩,h.kept.trans (Kept.of_grown hk hlo (by have:=h.kept.size;omega))⟩
theorem CkAt.setX {ts:List TypeId} {w wx:World} {lo mb T xb cb:Nat} {X:Array Value} {i:SInput} {m:SMachine} {x x2:SMoment} {cy:SCycle} (h:CkAt ts w lo mb T X i m x xb cb cy wx) (hlt:mb<w.heap.size) (hlo:lo<=mb):CkAt ts w lo mb T X i m x2 xb cb cy (zai wx xb x2.cells 96):=
 have hl:=h.lt
 ⟨(blk_setBlk_other _ _ _ _ _ oM).trans h.m,(blk_setBlk_other _ _ _ _ _ oM).trans h.i,(blk_setBlk_other _ _ _ _ _ oM).trans h.z,blk_setBlk_same _ _ _ _ (zak h.x),(blk_setBlk_other _ _ _ _ _ oM).trans h.c,⟨hl.1,hl.2.1,by rw [size_setBlk];exact hl.2.2⟩,Kept.set h.kept oM oM⟩
theorem CkAt.setM {ts:List TypeId} {w wx:World} {lo mb T xb cb:Nat} {X:Array Value} {i:SInput} {m m2:SMachine} {x:SMoment} {cy:SCycle} (h:CkAt ts w lo mb T X i m x xb cb cy wx) (hlt:mb<w.heap.size) (hlo:lo<=mb):CkAt ts w lo mb T X i m2 x xb cb cy (zai wx mb (catX m2.cells X) T):=
 have hl:=h.lt
 ⟨blk_setBlk_same _ _ _ _ (zak h.m),(blk_setBlk_other _ _ _ _ _ oM).trans h.i,(blk_setBlk_other _ _ _ _ _ oM).trans h.z,(blk_setBlk_other _ _ _ _ _ oM).trans h.x,(blk_setBlk_other _ _ _ _ _ oM).trans h.c,⟨hl.1,hl.2.1,by rw [size_setBlk];exact hl.2.2⟩,Kept.setM h.kept hlo⟩
theorem CkAt.go {ts:List TypeId} {w wx w2:World} {lo mb T xb cb:Nat} {X:Array Value} {i:SInput} {m m2:SMachine} {x:SMoment} {cy:SCycle} (h:CkAt ts w lo mb T X i m x xb cb cy wx) (hk:Kept lo mb [110] wx w2) (hm:blk w2 mb=some (.cells (catX m2.cells X) T)) (hlt:mb<w.heap.size) (hs:∀ t,t ∈ ts->t ∈ [110]):CkAt [110] w lo mb T X i m2 x xb cb cy w2:=
 have hl:=h.lt
 ⟨hm,hk.kept _ _ _ oM dC h.i,hk.kept _ _ _ oM dC h.z,hk.kept _ _ _ oM dC h.x,hk.kept _ _ _ oM dC h.c,⟨hl.1,hl.2.1,Nat.lt_of_lt_of_le hl.2.2 hk.size⟩,(h.kept.more hs).trans hk⟩
def z3j (lo mb T:Nat) (X:Array Value) (m:SMachine) (L:List SRegion) (G:List Int) (M:List SCell) (O:List SOutput) (i:SInput) (w:World) (e:Ending) (w':World):Prop:=
 ∃ gs ms ou:Sl,e=.returned (.agg (momM m.board L ⟨m.sys,G,M,O⟩ i).cells) /\
  blk w' mb=some (.cells (catX ({ m with sys:=({ (clkM m.board L ⟨m.sys,G,M,O⟩ i).s with core := { (clkM m.board L ⟨m.sys,G,M,O⟩ i).s.core with got:=gs },memory:=ms,outs:=ou }:SSystem) }:SMachine).cells X) T) /\
  Row w' 0 w'.heap.size 5 1 encB gs (clkM m.board L ⟨m.sys,G,M,O⟩ i).g/\Row w' 0 w'.heap.size 61 2 SCell.cells ms (clkM m.board L ⟨m.sys,G,M,O⟩ i).m/\Row w' lo w'.heap.size 110 2 SOutput.cells ou (clkM m.board L ⟨m.sys,G,M,O⟩ i).o/\Kept lo mb [110] w w'
theorem zxu (m:SMachine) (X:Array Value) (T mb:Nat) (i:SInput) (w:World) (hm:blk w mb=some (.cells (catX m.cells X) T)) {lo hi:Nat} {L:List SRegion} (hreg:Row w lo hi 82 4 SRegion.cells m.board.regions L) (hL:L.length<=1000000) (hhi:hi<=w.heap.size) {hi2:Nat} {M:List SCell} (hmem:Row w 0 hi2 61 2 SCell.cells m.sys.memory M) (hM:MemOk M) (hML:M.length<=700000) (hhi2:hi2<=w.heap.size) {lo3:Nat} {O:List SOutput} (hout:Row w lo3 w.heap.size 110 2 SOutput.cells m.sys.outs O) (hO:O.length<=900000) (hlo3:lo3<=mb) (hT:T≠82/\T≠61/\T≠110/\T≠5) {G:List Int} (hgot:Row w 0 w.heap.size 5 1 encB m.sys.core.got G) (hG:G.length<=900000) (hgb:∀ y ∈ G,0<=y/\y<=255) (hr:m.sys.core.cpu.regs.Ok) (hcd:0<=m.sys.core.cycle.data/\m.sys.core.cycle.data<=255) (hca:0<=m.sys.core.cycle.at_/\m.sys.core.cycle.at_<=65535) (hpk:m.sys.pic.Ok) (hdk:m.sys.dma.Ok) (hwt:0<=m.sys.waited/\m.sys.waited<=1000000) (hir:0<=i.requests/\i.requests<=255) (hip:0<=i.port/\i.port<=255) :
  Calls prog 23 #[.pointer (some ⟨mb,0,none⟩),.agg i.cells] w (z3j lo3 mb T X m L G M O i w):=by
 have hlt:=zak hm
 have hq:=hpk.isr
 have hd:=hdk.at_
 have hdv:=hdk.value
 have HBO:=hid (zmn m.board L m.sys M i hM hpk hdk hip hir)
 have HPK:=hid hpk
 have HDK:=hid hdk
 obtain ⟨s1,hs1⟩:∃ s,zfx m.board m.sys i=s:=⟨_,rfl⟩
 obtain ⟨l1,hl1⟩:∃ l,zcv m.board L m.sys i=l:=⟨_,rfl⟩
 have hls:s1.core=m.sys.core:=by rw [<- hs1];rfl
 have hlq:0<=s1.pic.isr/\s1.pic.isr<=255:=by rw [<- hs1];show 0<=(zgj m.board m.sys i).isr/\(zgj m.board m.sys i).isr<=255;unfold zgj;split<;>exact hq
 have hld:s1.dma=m.sys.dma:=by rw [<- hs1];rfl
 have hlm:s1.memory=m.sys.memory/\s1.outs=m.sys.outs:=by rw [<- hs1];exact ⟨rfl,rfl⟩
 have HS1N:=hid hs1
 have HL1N:=hid hl1
 have HLS:=hid hls
 have HLQ:=hid hlq
 have HLD:=hid hld
 have HLM:=hid hlm
 have LI:Aside (∀ w1,blk w1 mb=some (.cells (catX m.cells X) T)->Below w.heap.size w w1->Calls prog 49 #[.pointer (some ⟨mb,0,none⟩),.agg i.cells] w1 fun e w'=>e=.returned (.agg l1.cells)/\blk w' mb=some (.cells (catX ({ m with sys:=s1 }:SMachine).cells X) T)/\w1.grownBy w' (some mb)):=fun w1 hb hB=>by rw [<- hs1,<- hl1];exact zth m X T mb i w1 hb (hreg.thru hB hhi) hL (Nat.le_trans hhi hB.size) hT.1 hq.1 hq.2 hwt
 have HM0:=hid hm
 obtain ⟨gcm,gfm,gzm⟩:=zaa hm
 clear hs1 hl1 hls hlq hld hlm
 have HRG:=hid hreg
 have HMEM:=hid hmem
 have HOUT:=hid hout
 have HGOT:=hid hgot
 have HHI:Aside (hi<=w.heap.size/\hi2<=w.heap.size/\L.length<=1000000):=⟨hhi,hhi2,hL⟩
 have HMM:Aside (MemOk M/\M.length<=700000/\O.length<=900000):=⟨hM,hML,hO⟩
 have HT:=hid hT
 have HBD:Aside (G.length<=900000/\(∀ y ∈ G,0<=y/\y<=255)/\m.sys.core.cpu.regs.Ok/\(0<=m.sys.core.cycle.data/\m.sys.core.cycle.data<=255)/\(0<=m.sys.core.cycle.at_/\m.sys.core.cycle.at_<=65535)/\(0<=m.sys.dma.at_/\m.sys.dma.at_<=65535)/\(0<=m.sys.dma.value/\m.sys.dma.value<=255)/\(0<=i.port/\i.port<=255)):=⟨hG,hgb,hr,hcd,hca,hd,hdv,hip⟩
 clear hreg hmem hout hgot hhi hhi2 hL hM hML hO hT hG hgb hr hcd hca hd hdv hip hq hwt hpk hdk hir
 go_enter func23,ntmps23
 go_upto_region 1 with fail
 refine wpNm (fun W hW=>?_)
 have f0:blk W mb=some (.cells (catX m.cells X) T):=by rw [hW];exact sM
 have f1:blk W w.heap.size=some (.cells i.cells 74):=by rw [hW];exact sM
 have f2:blk W (w.heap.size+1)=some (.cells SMoment.zero.cells 96):=by rw [hW];exact sM
 have fz:mb<w.heap.size/\mb<W.heap.size/\w.heap.size+1<W.heap.size:=by rw [hW];(try simp only [szs] at *);omega
 have fB:Below w.heap.size w W:=by rw [hW];exact bL
 have BW:=hid fB
 have FSz:Aside (w.heap.size<=W.heap.size):=fB.size
 clear hW gcm gfm gzm hm fB
 go_cut [5] (fun s5 wx=>∃ xb,s5=.pointer (some ⟨xb,0,none⟩)/\w.heap.size+1<xb/\blk wx xb=some (.cells ({ SMoment.zero with lines:=l1,before:=m.sys.core }:SMoment).cells 96)/\blk wx mb=some (.cells (catX ({ m with sys:=s1 }:SMachine).cells X) T)/\W.grownBy wx (some mb))
 case first=>
  obtain ⟨gc0,gf0,gz0⟩:=zaa f0
  obtain ⟨gc1,gf1,gz1⟩:=zaa f1
  have F0:=hid f0
  have F1:=hid f1
  have HB:mb<W.heap.size:=fz.2.1
  have HN1:w.heap.size≠mb:=oM
  have HS1:mb≠W.heap.size:=oM
  have HS2:w.heap.size≠W.heap.size:=oM
  clear f0 f1 f2 gc0 gf0 gz0 gc1 gf1 gz1
  go_region_held3 ((fun w'=>(okO 36 (blk w' mb) 0=true/\valO 36 (blk w' mb) 0=.agg m.sys.core.cells)/\okO 10 (blk w' w.heap.size) 0=true/\valO 10 (blk w' w.heap.size) 0=.agg i.cells)) (first|exact k_S (z2a F0.out F1.out)|exact k_S (k_a0 _ F0.out F1.out)|exact k_S (zxy aS HLS.out aS F1.out HN1)|exact k_S (k_calla aS HLS.out aS F1.out HN1)|exact k_S (z2b _ (zxy aS HLS.out aS F1.out HN1))|exact k_S (k_set (k_calla aS HLS.out aS F1.out HN1) HS1 HS2)) (first|(go_at_call 49;(refine (LI.out _ (by first|exact F0.out|exact (blk_alloc_past _ _ _ HB).trans F0.out) (by first|exact BW.out.drew|exact ((BW.out.alloc FSz.out _).drew))).mono ?_);rintro e w' ⟨rfl,hmb,hkb⟩;first|(have hka:=k_new hkb HS1;have hkz:=zak hka)|skip))
  ·go_wp2_with fail
   go_meet
   case rel=>
    have hz:=hkb.size
    exact ⟨_,rfl,(by simp at hz;omega),zab _ _ _ rfl,(blk_alloc_past _ _ _ (zak hmb)).trans hmb,zdc _ (k_g1 hkb)⟩
  ·go_wp2_with fail
   go_meet
   case rel=>
    exact ⟨_,rfl,oM,blk_setBlk_same _ _ _ _ hkz,(blk_setBlk_other _ _ _ _ _ HS1).trans hmb,zfu (k_g2 hkb) nL⟩
 obtain ⟨xb,rfl,hxb,gx,gm,hkW⟩:=hcut
 have KW:Aside (Kept lo3 mb [] w wc):=(Kept.of_below BW.out oM).trans (Kept.of_grown hkW hlo3 oM)
 have g1:blk wc w.heap.size=some (.cells i.cells 74):=(hkW.block _ oM (fun e=>by simp at e;omega)).trans f1
 have g2:blk wc (w.heap.size+1)=some (.cells SMoment.zero.cells 96):=(hkW.block _ oM (fun e=>by simp at e;omega)).trans f2
 have gz:mb<w.heap.size/\w.heap.size+1<xb/\xb<wc.heap.size:=⟨fz.1,hxb,zak gx⟩
 clear f0 f1 f2 fz hkW hxb
 obtain ⟨gcm,gfm,gzm⟩:=zaa gm
 obtain ⟨gci,gfi,gzi⟩:=zaa g1
 go_upto_region 3 with fail
 refine wpNm (fun V hV=>?_)
 have e0:CkAt [] w lo3 mb T X i { m with sys:=s1 } { SMoment.zero with lines:=l1,before:=m.sys.core } xb wc.heap.size m.sys.core.cycle V:=by
  rw [hV]
  refine ⟨?_,?_,?_,?_,?_,⟨gz.2.1,gz.2.2,by simp⟩,KW.out.alloc _ oM⟩
  ·exact (blk_alloc_past _ _ _ (zak gm)).trans gm
  ·exact (blk_alloc_past _ _ _ (zak g1)).trans g1
  ·exact (blk_alloc_past _ _ _ (zak g2)).trans g2
  ·exact (blk_alloc_past _ _ _ (zak gx)).trans gx
  ·rw [<- HLS.out];exact zab _ _ _ rfl
 obtain ⟨cb,hcb⟩:∃ cb,wc.heap.size=cb:=⟨_,rfl⟩
 rw [hcb] at e0 ⊢
 have hzV:lo3<=V.heap.size:=Nat.le_trans hlo3 (Nat.le_trans (Nat.le_of_lt gz.1) e0.kept.size)
 have hls:=HLS.out
 obtain ⟨act,hact⟩:∃ a,(!i.reset&&zaj m.sys.core==3)=a:=⟨_,rfl⟩
 have HACT:=hid hact
 clear hV gm g1 g2 gx gcm gfm gzm gci gfi gzi hcb
 go_cut [7] (fun s7 wx=>s7=.bool act/\CkAt [] w lo3 mb T X i { m with sys:=s1 } { SMoment.zero with lines:=l1,before:=m.sys.core } xb cb m.sys.core.cycle wx)
 case first=>
  obtain ⟨gcm,gfm,gzm⟩:=zaa e0.m
  obtain ⟨gci,gfi,gzi⟩:=zaa e0.i
  have gm:=e0.m
  have gi:=e0.i
  have E0:=hid e0
  clear e0
  cases hrs:i.reset
  ·rw [hrs,Bool.not_false,Bool.true_and] at hact
   go_wp2_with (first|(go_at_call 50;with_reducible refine Cbv (zbe _ _) ?_;intro w' hB hb1 hb2 hb3 hs;(try simp only [szs] at hs hb1 hb2 hb3)))
   go_meet
   case rel=>exact ⟨by rw [<- hact],E0.out.thru hB hzV⟩
  ·rw [hrs,Bool.not_true,Bool.false_and] at hact
   subst hact
   go_wp2_with fail
   go_meet
   case rel=>exact ⟨rfl,E0.out⟩
 obtain ⟨rfl,e1⟩:=hcut
 clear e0 hact hzV
 obtain ⟨b1,hb1⟩:∃ b,(busM m.board L m.sys M i).1=b:=⟨_,rfl⟩
 obtain ⟨d1,hd1⟩:∃ d,(busM m.board L m.sys M i).2=d:=⟨_,rfl⟩
 obtain ⟨rk,hrk⟩:∃ r,zd1 m.sys.core.cycle.kind=r:=⟨_,rfl⟩
 have HB1N:=hid hb1
 have HD1N:=hid hd1
 have HRK:=hid hrk
 obtain ⟨v1,hv1⟩:∃ v,(act&&rk)=v:=⟨_,rfl⟩
 have HV1N:=hid hv1
 have EB:busM m.board L m.sys M i=if v1=true then zdp m.board L s1 M i else (s1,0):=by unfold busM zc2;rw [HACT.out,hrk,HS1N.out,hv1]
 go_upto_region 4 with fail
 go_cut [40] (fun s40 wx=>s40=.bool v1/\CkAt [] w lo3 mb T X i { m with sys:=s1 } { SMoment.zero with lines:=l1,before:=m.sys.core } xb cb m.sys.core.cycle wx)
 case first=>
  obtain ⟨gcc,gfc,gzc⟩:=zaa e1.c
  have E1:=hid e1
  clear e1 hb1 hd1 EB
  cases act
  ·rw [Bool.false_and] at hv1
   subst hv1
   go_wp2_with fail
   go_meet
   case rel=>exact ⟨rfl,E1.out⟩
  ·rw [Bool.true_and] at hv1
   subst hv1
   go_wp2_with (first|with_reducible refine Cpv (zd9 _ _) ?_)
   go_meet
   case rel=>exact ⟨rfl,E1.out⟩
 clear e1
 obtain ⟨rfl,e1⟩:=hcut
 clear hrk hv1
 go_upto_if 40 with fail
 go_cut [] (fun wx=>CkAt [] w lo3 mb T X i { m with sys:=b1 } { SMoment.zero with lines:=l1,before:=m.sys.core,data:=d1 } xb cb m.sys.core.cycle wx)
 case first=>
  obtain ⟨gcm,gfm,gzm⟩:=zaa e1.m
  obtain ⟨gci,gfi,gzi⟩:=zaa e1.i
  obtain ⟨gcc,gfc,gzc⟩:=zaa e1.c
  obtain ⟨gcx,gfx,gzx⟩:=zaa e1.x
  have gi:=e1.i
  have gx:=e1.x
  have E1:=hid e1
  have KR:Aside (∀ W',Kept lo3 mb [] w W'->Row W' lo hi 82 4 SRegion.cells m.board.regions L):=fun W' hk=>HRG.out.kept hk HM0.out HT.out.1 sI
  have KM:Aside (∀ W',Kept lo3 mb [] w W'->Row W' 0 hi2 61 2 SCell.cells s1.memory M):=fun W' hk=>by rw [HLM.out.1];exact HMEM.out.kept hk HM0.out HT.out.2.1 sI
  have RDC:Aside (∀ W',CkAt [] w lo3 mb T X i { m with sys:=s1 } { SMoment.zero with lines:=l1,before:=m.sys.core } xb cb m.sys.core.cycle W'->Calls prog 52 #[.pointer (some ⟨mb,0,none⟩),.agg i.cells] W' fun e w'=>e=.returned (.int .u8 (zdp m.board L s1 M i).2)/\blk w' mb=some (.cells (catX ({ m with sys:=(zdp m.board L s1 M i).1 }:SMachine).cells X) T)/\W'.grownBy w' (some mb)):=fun W' h=>zvd { m with sys:=s1 } X T mb i W' h.m (KR.out _ h.kept) HHI.out.2.2 (Nat.le_trans HHI.out.1 h.kept.size) (KM.out _ h.kept) (by have:=HMM.out.2.1;omega) (Nat.le_trans HHI.out.2.1 h.kept.size) HLQ.out.1 HLQ.out.2 (by rw [HLD.out];exact HBD.out.2.2.2.2.2.1.1) (by rw [HLD.out];exact HBD.out.2.2.2.2.2.1.2)
  clear e1
  cases v1
  ·rw [if_neg sI] at EB
   rw [EB] at hb1 hd1
   subst hb1
   subst hd1
   go_wp2_with fail
   go_meet
   case rel=>exact E1.out
  ·rw [if_pos rfl] at EB
   rw [EB] at hb1 hd1
   go_wp2_with (go_at_call 52;(refine (RDC.out _ E1.out).mono ?_);rw [hb1,hd1];rintro e w' ⟨rfl,hmb,hkb⟩;have hx2:blk w' xb=some (.cells ({ SMoment.zero with lines:=l1,before:=m.sys.core }:SMoment).cells 96):=(hkb.block _ gzx (fun e=>by simp at e;omega)).trans gx;obtain ⟨gcx2,gfx2,gzx2⟩:=zaa hx2)
   go_meet
   case rel=>
    have e2:=E1.out.read hkb hmb oM hlo3
    exact e2.setX hlt hlo3
 clear e1
 have e1:=hcut
 have HDB:Aside (0<=d1/\d1<=255):=by
  have e:0<=d1/\d1<=255:=by rw [<- HD1N.out];exact HBO.out.2.1
  exact e
 have HBE:Aside (b1 = { m.sys with pic:=b1.pic,waited:=zf1 m.sys }/\b1.pic.Ok):=by
  have e:b1 = { m.sys with pic:=b1.pic,waited:=zf1 m.sys }/\b1.pic.Ok:=by rw [<- HB1N.out];exact ⟨HBO.out.2.2,HBO.out.1⟩
  exact e
 have HBC:Aside (b1.core=m.sys.core):=by
  have e:b1.core=m.sys.core:=by rw [HBE.out.1]
  exact e
 have hbc:=HBC.out
 go_upto_region 6 with fail
 go_cut [] (fun wx=>∃ gs:Sl,CkAt [] w lo3 mb T X i { m with sys := { b1 with core := { clkC m.sys.core G l1 d1 with got:=gs } } } { SMoment.zero with lines:=l1,before:=m.sys.core,data:=d1,pins:=clkP m.sys.core l1 d1 } xb cb m.sys.core.cycle wx/\Row wx w.heap.size wx.heap.size 5 1 encB gs (clkG m.sys.core G l1 d1))
 case first=>
  obtain ⟨gcm,gfm,gzm⟩:=zaa e1.m
  obtain ⟨gcx,gfx,gzx⟩:=zaa e1.x
  have gm:=e1.m
  have gx:=e1.x
  have E1:=hid e1
  have CK:Aside (∀ W',Below wc.heap.size wc W'->Calls prog 53 #[.agg m.sys.core.cells,.agg l1.cells,.int .u8 d1] W' (zmp m.sys.core G l1 d1 W')):=fun W' hB=>z0w _ G l1 d1 W' ((HGOT.out.kept (Kept.then hB E1.out.kept (by have:=E1.out.kept.size;omega)) HM0.out HT.out.2.2.2 sI).hi_mono (by have:=E1.out.kept.size;have:=hB.size;omega)) HBD.out.1 HBD.out.2.1 HBD.out.2.2.1 HDB.out HBD.out.2.2.2.1 HBD.out.2.2.2.2.1
  have gz:=e1.lt
  have gB:∀ W',Below wc.heap.size wc W'->mb<W'.heap.size/\xb<W'.heap.size:=fun W' h=>⟨Nat.lt_of_lt_of_le gzm h.size,Nat.lt_of_lt_of_le gzx h.size⟩
  have GB:=hid gB
  have hne1:xb≠mb:=oM
  have hne2:mb≠xb:=oM
  have hlx:mb<xb:=oM
  clear e1 gB
  have q0:∀ d os,blk (Go.Sort.grow (redrawn wc d) os) mb=some (.cells (catX ({ m with sys:=b1 }:SMachine).cells X) T):=fun d os=>((below_regrown wc d os).block _ oM).trans aS
  have qc0:∀ d os ix,(Go.Sort.grow (redrawn wc d) os).cell? ⟨mb,ix,none⟩=((catX ({ m with sys:=b1 }:SMachine).cells X))[ix]? := fun d os ix=>(zaa (q0 d os)).1 ix
  have q1:∀ d os,blk (Go.Sort.grow (redrawn wc d) os) xb=some (.cells ({ SMoment.zero with lines:=l1,before:=m.sys.core,data:=d1 }:SMoment).cells 96):=fun d os=>((below_regrown wc d os).block _ oM).trans aS
  have qc1:∀ d os ix,(Go.Sort.grow (redrawn wc d) os).cell? ⟨xb,ix,none⟩=(({ SMoment.zero with lines:=l1,before:=m.sys.core,data:=d1 }:SMoment).cells)[ix]? := fun d os ix=>(zaa (q1 d os)).1 ix
  refine zhp 10 (fun k=>k==0||k==1||k==2||k==3||k==4||k==6||k==8) (fun k=>k==12||k==13) kR kR (fun _ _ _ d _ h=>by cases d<;>exact h) ?_
  simp only [tkd]
  repeat (first|(refine zb2 rfl (by rfl) ?_;apply Exists.intro;refine ⟨fun w=>?_,?_⟩;(go_simp;first|done|with_reducible rfl))|(refine zcp rfl (fun K hK=>?_);go_simp;first|(refine hK _ ?_;clear hK K)|(apply Exists.intro;refine ⟨fun _=>?_,hK _ ?_⟩;fail;clear hK K)))
  refine zda ?_
  intro wq hwq
  have hBq:Below wc.heap.size wc wq:=by obtain ⟨p,rfl⟩:=hwq;exact below_regrown _ _ _
  clear hwq q0 qc0 q1 qc1
  have gmq:blk wq mb=some (.cells (catX ({ m with sys:=b1 }:SMachine).cells X) T):=(hBq.block mb gzm).trans gm
  have gxq:blk wq xb=some (.cells ({ SMoment.zero with lines:=l1,before:=m.sys.core,data:=d1 }:SMoment).cells 96):=(hBq.block xb gzx).trans gx
  have gzmq:=zak gmq
  have gzxq:=zak gxq
  clear gcm gfm gzm gcx gfx gzx gm gx
  repeat (first|(refine zsb (by rfl) (by rfl) ?_;apply Exists.intro;refine ⟨fun w=>?_,?_⟩;(go_simp;first|done|with_reducible rfl))|(refine zms (by rfl) (by rfl) (fun K hK=>?_);go_simp;refine hK _ _ ?_;clear hK K)|(refine zms (by rfl) (by rfl) (fun K hK=>?_);go_simp;(go_at_call 53;(refine (CK.out _ hBq).mono ?_);rintro e w' ⟨gs,rfl,hrow,hB⟩;obtain ⟨c2,hc2⟩:∃ c2,({ clkC m.sys.core G l1 d1 with got:=gs }:SCore)=c2:=⟨_,rfl⟩;have HC2:=hid hc2;obtain ⟨p2,hp2⟩:∃ p2,clkP m.sys.core l1 d1=p2:=⟨_,rfl⟩;have HP2:=hid hp2;rw [hc2,hp2];clear hc2 hp2;have gm2:blk w' mb=some (.cells (catX ({ m with sys:=b1 }:SMachine).cells X) T):=(hB.block mb gzmq).trans gmq;have gx2:blk w' xb=some (.cells ({ SMoment.zero with lines:=l1,before:=m.sys.core,data:=d1 }:SMoment).cells 96):=(hB.block xb gzxq).trans gxq;have hz2:=hB.size;obtain ⟨gcm2,gfm2,gzm2⟩:=zaa gm2;obtain ⟨gcx2,gfx2,gzx2⟩:=zaa gx2);(try go_simp);refine hK _ _ ?_;clear hK K))
  refine zuw ?_
  go_wp2_with fail
  go_meet
  case rel=>
   have hq:=(E1.out.thru hBq (by have:=E1.out.kept.size;omega)).thru hB (by have:=E1.out.kept.size;have:=hBq.size;omega)
   refine ⟨gs,?_,?_⟩
   ·rw [HC2.out,HP2.out]
    exact (hq.setM hlt hlo3).setX hlt hlo3
   ·refine Row.lo_mono (Row.hi_mono (Row.set (Row.set hrow gm2 HT.out.2.2.2) ((blk_setBlk_other _ _ _ _ _ hne1).trans gx2) dC) (by rw [size_setBlk,size_setBlk];exact Nat.le_refl _)) (by have:=E1.out.kept.size;have:=hBq.size;omega)
 clear e1
 obtain ⟨gs,e1,hrg0⟩:=hcut
 obtain ⟨G2,hG2⟩:∃ u,clkG m.sys.core G l1 d1=u:=⟨_,rfl⟩
 rw [hG2] at hrg0
 have HG2:=hid hG2
 have hrg:Row wc 0 wc.heap.size 5 1 encB gs G2:=hrg0.lo_mono (Nat.zero_le _)
 clear hrg0 hbc hG2
 have HBF:Aside (b1.memory=m.sys.memory/\b1.outs=m.sys.outs/\b1.dma=m.sys.dma/\(0<=b1.pic.isr/\b1.pic.isr<=255)):=by
  have e:b1.memory=m.sys.memory/\b1.outs=m.sys.outs/\b1.dma=m.sys.dma/\(0<=b1.pic.isr/\b1.pic.isr<=255):=⟨by rw [HBE.out.1],by rw [HBE.out.1],by rw [HBE.out.1],HBE.out.2.isr⟩
  exact e
 obtain ⟨u1,hu1⟩:∃ u,({ b1 with core := { clkC m.sys.core G l1 d1 with got:=gs } }:SSystem)=u:=⟨_,rfl⟩
 obtain ⟨x1,hx1⟩:∃ x,({ SMoment.zero with lines:=l1,before:=m.sys.core,data:=d1,pins:=clkP m.sys.core l1 d1 }:SMoment)=x:=⟨_,rfl⟩
 rw [hu1,hx1] at e1
 have HU1:=hid hu1
 have HX1:=hid hx1
 have HUF:Aside (u1.memory=m.sys.memory/\u1.outs=m.sys.outs/\u1.dma=m.sys.dma/\(0<=u1.pic.isr/\u1.pic.isr<=255)):=by
  have e:u1.memory=m.sys.memory/\u1.outs=m.sys.outs/\u1.dma=m.sys.dma/\(0<=u1.pic.isr/\u1.pic.isr<=255):=by rw [<- hu1];exact HBF.out
  exact e
 clear hu1 hx1
 obtain ⟨wk,hwk⟩:∃ r,zem m.sys.core.cycle.kind=r:=⟨_,rfl⟩
 have HWK:=hid hwk
 obtain ⟨v2,hv2⟩:∃ v,(act&&wk)=v:=⟨_,rfl⟩
 have HV2N:=hid hv2
 go_upto_region 7 with fail
 go_cut [68] (fun s68 wx=>s68=.bool v2/\CkAt [] w lo3 mb T X i { m with sys:=u1 } x1 xb cb m.sys.core.cycle wx/\Row wx 0 wx.heap.size 5 1 encB gs G2)
 case first=>
  obtain ⟨gcc,gfc,gzc⟩:=zaa e1.c
  have E1:=hid e1
  have HRG2:=hid hrg
  clear e1 hrg
  cases act
  ·rw [Bool.false_and] at hv2
   subst hv2
   go_wp2_with fail
   go_meet
   case rel=>exact ⟨rfl,E1.out,HRG2.out⟩
  ·rw [Bool.true_and] at hv2
   subst hv2
   go_wp2_with (first|with_reducible refine Cpv (zff _ _) ?_)
   go_meet
   case rel=>exact ⟨rfl,E1.out,HRG2.out⟩
 clear e1 hrg
 obtain ⟨rfl,e1,hrg⟩:=hcut
 clear hwk hv2
 go_upto_if 68 with fail
 obtain ⟨u2,hu2⟩:∃ u,(if v2=true then zc0 m.board u1 m.sys.core.cycle else u1)=u:=⟨_,rfl⟩
 obtain ⟨M2,hM2⟩:∃ u,(if v2=true then zdq L M m.sys.core.cycle else M)=u:=⟨_,rfl⟩
 obtain ⟨O2,hO2⟩:∃ u,(if v2=true then zf3 O m.sys.core.cycle else O)=u:=⟨_,rfl⟩
 have HU2:=hid hu2
 have HM2:=hid hM2
 have HO2:=hid hO2
 go_cut [] (fun wx=>∃ ms ou:Sl,CkAt [110] w lo3 mb T X i { m with sys := { u2 with memory:=ms,outs:=ou } } x1 xb cb m.sys.core.cycle wx/\Row wx 0 wx.heap.size 61 2 SCell.cells ms M2/\Row wx lo3 wx.heap.size 110 2 SOutput.cells ou O2/\Row wx 0 wx.heap.size 5 1 encB gs G2)
 case first=>
  have hK:=e1.kept
  have kr:Row wc lo hi 82 4 SRegion.cells m.board.regions L:=HRG.out.kept hK HM0.out HT.out.1 sI
  have km:Row wc 0 hi2 61 2 SCell.cells u1.memory M:=by rw [HUF.out.1];exact HMEM.out.kept hK HM0.out HT.out.2.1 sI
  have ko:Row wc lo3 wc.heap.size 110 2 SOutput.cells u1.outs O:=by rw [HUF.out.2.1];exact (HOUT.out.kept hK HM0.out HT.out.2.2.1 sI).hi_mono hK.size
  have KM2:=hid km
  have KO2:=hid ko
  have WRC:Aside (Calls prog 54 #[.pointer (some ⟨mb,0,none⟩),.agg m.sys.core.cycle.cells] wc (zuu lo3 mb T X { m with sys:=u1 } L M O m.sys.core.cycle wc)):=zr7 { m with sys:=u1 } X T mb m.sys.core.cycle wc e1.m kr HHI.out.2.2 (Nat.le_trans HHI.out.1 hK.size) km HMM.out.1.isMem (by have:=HMM.out.2.1;omega) (Nat.le_trans HHI.out.2.1 hK.size) ko HMM.out.2.2 hlo3 ⟨HT.out.1,HT.out.2.1,HT.out.2.2.1⟩ HBD.out.2.2.2.2.1 HBD.out.2.2.2.1 HUF.out.2.2.2.1 HUF.out.2.2.2.2
  obtain ⟨gcc,gfc,gzc⟩:=zaa e1.c
  have E1:=hid e1
  have gc:=e1.c
  have HI2:Aside (hi2<=wc.heap.size):=Nat.le_trans HHI.out.2.1 hK.size
  have HRG2:=hid hrg
  have E1M:Aside (blk wc mb=some (.cells (catX ({ m with sys:=u1 }:SMachine).cells X) T)):=e1.m
  clear e1 hK kr km ko hrg
  cases v2
  ·rw [if_neg sI] at hu2 hM2 hO2
   subst hu2
   subst hM2
   subst hO2
   go_wp2_with fail
   go_meet
   case rel=>exact ⟨u1.memory,u1.outs,E1.out.go Kept.refl E1.out.m hlt sI,KM2.out.hi_mono HI2.out,KO2.out,HRG2.out⟩
  ·rw [if_pos rfl] at hu2 hM2 hO2
   go_wp2_with (go_at_call 54;(refine WRC.out.mono ?_);intro e w' hw;obtain ⟨rfl,ms,ou,hmb,hr1,hr2,hk⟩:=hw)
   go_meet
   case rel=>
    rw [<- hM2,<- hO2,<- hu2]
    exact ⟨ms,ou,E1.out.go hk hmb hlt sI,hr1,hr2,(HRG2.out.kept hk E1M.out HT.out.2.2.2 dC).hi_mono hk.size⟩
 clear e1 hu2 hM2 hO2 hrg
 obtain ⟨ms,ou,e1,hrm,hro,hrg⟩:=hcut
 obtain ⟨hl,hhl⟩:∃ v,x1.pins.hlda=v:=⟨_,rfl⟩
 obtain ⟨rq,hrq⟩:∃ v,zg6 u2.dma=v:=⟨_,rfl⟩
 obtain ⟨v3,hv3⟩:∃ v,(hl&&rq)=v:=⟨_,rfl⟩
 have HHL:=hid hhl
 have HRQ:=hid hrq
 have HV3:=hid hv3
 have HRM:=hid hrm
 have HRO:=hid hro
 have HRG2:=hid hrg
 clear hrm hro hrg
 go_upto_region 9 with fail
 go_cut [82] (fun s82 wx=>s82=.bool v3/\CkAt [110] w lo3 mb T X i { m with sys := { u2 with memory:=ms,outs:=ou } } x1 xb cb m.sys.core.cycle wx/\Row wx 0 wx.heap.size 61 2 SCell.cells ms M2/\Row wx lo3 wx.heap.size 110 2 SOutput.cells ou O2/\Row wx 0 wx.heap.size 5 1 encB gs G2)
 case first=>
  obtain ⟨gcm,gfm,gzm⟩:=zaa e1.m
  obtain ⟨gcx,gfx,gzx⟩:=zaa e1.x
  have gm:=e1.m
  have hzl:lo3<=wc.heap.size:=by have:=e1.kept.size;omega
  have E1:=hid e1
  clear e1
  cases hl
  ·rw [Bool.false_and] at hv3
   subst hv3
   go_wp2_with fail
   go_meet
   case rel=>exact ⟨rfl,E1.out,HRM.out,HRO.out,HRG2.out⟩
  ·rw [Bool.true_and] at hv3
   subst hv3
   go_wp2_with (first|(go_at_call 55;with_reducible refine Cbv (zgi _ _) ?_;intro w' hB hb1 hb2 hb3 hs;(try simp only [szs] at hs hb1 hb2 hb3)))
   go_meet
   case rel=>exact ⟨rfl,E1.out.thru hB hzl,(HRM.out.thru hB nL).hi_mono hB.size,(HRO.out.thru hB nL).hi_mono hB.size,(HRG2.out.thru hB nL).hi_mono hB.size⟩
 clear e1
 obtain ⟨rfl,e1,hrm,hro,hrg⟩:=hcut
 clear hhl hrq hv3
 obtain ⟨td,htd⟩:∃ v,(zbj u2.dma).1=v:=⟨_,rfl⟩
 obtain ⟨tc,htc⟩:∃ v,(zbj u2.dma).2.1=v:=⟨_,rfl⟩
 obtain ⟨tw,htw⟩:∃ v,(zbj u2.dma).2.2=v:=⟨_,rfl⟩
 have HTD:=hid htd
 have HTC:=hid htc
 have HTW:=hid htw
 obtain ⟨u3,hu3⟩:∃ u,(if v3=true then { u2 with dma:=td } else u2)=u:=⟨_,rfl⟩
 obtain ⟨M3,hM3⟩:∃ u,(if v3=true then zen L M2 tc.at_ tc.val else M2)=u:=⟨_,rfl⟩
 obtain ⟨x3,hx3⟩:∃ u,(if v3=true then ({ x1 with cell:=tc,wrote:=tw }:SMoment) else x1)=u:=⟨_,rfl⟩
 have HU3:=hid hu3
 have HM3:=hid hM3
 have HX3:=hid hx3
 have HM2O:Aside (isMem M2=true/\M2.length<=800000):=by
  have e:isMem M2=true/\M2.length<=800000:=by
   rw [<- HM2.out]
   have h1:=HMM.out.1
   have h2:=HMM.out.2.1
   split
   ·unfold zdq
    split
    ·exact ⟨h1.isMem,oM⟩
    ·exact ⟨(zjr L h1 _ _ HBD.out.2.2.2.2.1 HBD.out.2.2.2.1).isMem,by have:=zit L M m.sys.core.cycle.at_ m.sys.core.cycle.data;omega⟩
   ·exact ⟨h1.isMem,oM⟩
  exact e
 have TR:∀ w0,Calls prog 56 #[.agg u2.dma.cells] w0 fun e w'=>e=.returned (.tuple #[.agg td.cells,.agg tc.cells,.bool tw])/\Below w0.heap.size w0 w':=fun w0=>by rw [<- htd,<- htc,<- htw];exact zmv _ _
 have TRH:=hid TR
 clear TR htd htc htw
 go_upto_if 82 with fail
 go_cut [] (fun wx=>∃ ms3:Sl,CkAt [110] w lo3 mb T X i { m with sys := { u3 with memory:=ms3,outs:=ou } } x3 xb cb m.sys.core.cycle wx/\Row wx 0 wx.heap.size 61 2 SCell.cells ms3 M3/\Row wx lo3 wx.heap.size 110 2 SOutput.cells ou O2/\Row wx 0 wx.heap.size 5 1 encB gs G2)
 case first=>
  obtain ⟨gcm,gfm,gzm⟩:=zaa e1.m
  obtain ⟨gcx,gfx,gzx⟩:=zaa e1.x
  have gm:=e1.m
  have gx:=e1.x
  have gl:=e1.lt
  have hne1:xb≠mb:=oM
  have hne2:mb≠xb:=oM
  have hlx:mb<xb:=oM
  have hzl:lo3<=wc.heap.size:=by have:=e1.kept.size;omega
  have E1:=hid e1
  have HRM2:=hid hrm
  have HRO2:=hid hro
  have HRG3:=hid hrg
  clear e1 hrm hro hrg
  cases v3
  ·rw [if_neg sI] at hu3 hM3 hx3
   subst hu3
   subst hM3
   subst hx3
   go_wp2_with fail
   go_meet
   case rel=>exact ⟨ms,E1.out,HRM2.out,HRO2.out,HRG3.out⟩
  ·rw [if_pos rfl] at hu3 hM3 hx3
   have HU3B:=hid hu3
   have HM3B:=hid hM3
   have HX3B:=hid hx3
   clear hu3 hM3 hx3
   go_upto_region 11 with (go_at_call 56;(refine (TRH.out _).mono ?_);rintro e w' ⟨rfl,hB⟩;have gm2:blk w' mb=some (.cells (catX ({ m with sys := { u2 with memory:=ms,outs:=ou } }:SMachine).cells X) T):=(hB.block mb gzm).trans gm;have gx2:blk w' xb=some (.cells x1.cells 96):=(hB.block xb gzx).trans gx;obtain ⟨gcm2,gfm2,gzm2⟩:=zaa gm2;obtain ⟨gcx2,gfx2,gzx2⟩:=zaa gx2)
   refine wpNm (fun V hV=>?_)
   have eV:CkAt [110] w lo3 mb T X i { m with sys := { u2 with memory:=ms,outs:=ou,dma:=td } } { x1 with cell:=tc,wrote:=tw } xb cb m.sys.core.cycle V:=by
    rw [hV]
    exact CkAt.setX (x2:=({ x1 with cell:=tc,wrote:=tw }:SMoment)) (CkAt.setM (m2:=({ m with sys := { u2 with memory:=ms,outs:=ou,dma:=td } }:SMachine)) (E1.out.thru hB hzl) hlt hlo3) hlt hlo3
   have hgx:blk (zai w' mb (catX ({ m with sys := { u2 with memory:=ms,outs:=ou,dma:=td } }:SMachine).cells X) T) xb=some (.cells x1.cells 96):=(blk_setBlk_other _ _ _ _ _ hne1).trans gx2
   have rM:Row V 0 V.heap.size 61 2 SCell.cells ms M2:=by
    rw [hV]
    exact Row.hi_mono (Row.set (Row.set (HRM2.out.thru hB nL) gm2 HT.out.2.1) hgx dC) (by rw [size_setBlk,size_setBlk];exact hB.size)
   have rO:Row V lo3 V.heap.size 110 2 SOutput.cells ou O2:=by
    rw [hV]
    exact Row.hi_mono (Row.set (Row.set (HRO2.out.thru hB nL) gm2 HT.out.2.2.1) hgx dC) (by rw [size_setBlk,size_setBlk];exact hB.size)
   have rG:Row V 0 V.heap.size 5 1 encB gs G2:=by
    rw [hV]
    exact Row.hi_mono (Row.set (Row.set (HRG3.out.thru hB nL) gm2 HT.out.2.2.2) hgx dC) (by rw [size_setBlk,size_setBlk];exact hB.size)
   have kr:Row V lo hi 82 4 SRegion.cells m.board.regions L:=HRG.out.kept eV.kept HM0.out HT.out.1 dC
   have hsV:=eV.kept.size
   have WR:Aside (∀ w1,Below V.heap.size V w1->Calls prog 57 #[.slice m.board.regions.p m.board.regions.n m.board.regions.c,.slice ms.p ms.n ms.c,.int .u16 tc.at_,.int .u8 tc.val] w1 (zge w1.heap.size (zen L M2 tc.at_ tc.val) w1)):=fun w1 h=>zk4 _ _ w1 (kr.thru h (Nat.le_trans HHI.out.1 hsV)) HHI.out.2.2 (Nat.le_trans (Nat.le_trans HHI.out.1 hsV) h.size) (rM.thru h nL) HM2O.out.1 HM2O.out.2 h.size
   have ROV:=hid rO
   have RGV:=hid rG
   have EV:=hid eV
   have g0:=eV.m
   have g1:=eV.x
   have hzV:lo3<=V.heap.size:=oM
   have hmV:=zak g0
   have hxV:=zak g1
   clear hV eV rM rO rG kr hgx gm2 gx2 gcm2 gfm2 gzm2 gcx2 gfx2 gzx2 gcm gfm gzm gcx gfx gzx gm gx hB
   have q0:∀ d os,blk (Go.Sort.grow (redrawn V d) os) mb=some (.cells (catX ({ m with sys := { u2 with memory:=ms,outs:=ou,dma:=td } }:SMachine).cells X) T):=fun d os=>((below_regrown V d os).block _ oM).trans aS
   have qc0:∀ d os ix,(Go.Sort.grow (redrawn V d) os).cell? ⟨mb,ix,none⟩=((catX ({ m with sys := { u2 with memory:=ms,outs:=ou,dma:=td } }:SMachine).cells X))[ix]? := fun d os ix=>(zaa (q0 d os)).1 ix
   have q1:∀ d os,blk (Go.Sort.grow (redrawn V d) os) xb=some (.cells ({ x1 with cell:=tc,wrote:=tw }:SMoment).cells 96):=fun d os=>((below_regrown V d os).block _ oM).trans aS
   have qc1:∀ d os ix,(Go.Sort.grow (redrawn V d) os).cell? ⟨xb,ix,none⟩=(({ x1 with cell:=tc,wrote:=tw }:SMoment).cells)[ix]? := fun d os ix=>(zaa (q1 d os)).1 ix
   refine zat 17 (fun k=>k==0||k==1||k==2||k==3||k==4||k==6||k==7||k==8||k==9||k==11||k==12||k==14||k==15) kR kR (fun _ _ _ d _ h=>by cases d<;>exact h) ?_
   simp only [tkd]
   repeat (first|(refine zb2 rfl (by rfl) ?_;apply Exists.intro;refine ⟨fun w=>?_,?_⟩;(go_simp;first|done|with_reducible rfl))|(refine zcp rfl (fun K hK=>?_);go_simp;first|(refine hK _ ?_;clear hK K)|(apply Exists.intro;refine ⟨fun _=>?_,hK _ ?_⟩;fail;clear hK K)))
   refine zda ?_
   intro wq hwq
   have hBq:Below V.heap.size V wq:=by obtain ⟨p,rfl⟩:=hwq;exact below_regrown _ _ _
   clear hwq q0 qc0 q1 qc1
   have gmq:blk wq mb=some (.cells (catX ({ m with sys := { u2 with memory:=ms,outs:=ou,dma:=td } }:SMachine).cells X) T):=(hBq.block mb hmV).trans g0
   have eQ:=EV.out.thru hBq hzV
   have HBQ:=hid hBq
   have EQ:=hid eQ
   have hszq:=hBq.size
   clear g0 g1 eQ hBq
   go_wp2_with (go_at_call 57;(refine (WR.out _ HBQ.out).mono ?_);intro e w3 hrm;obtain ⟨s4,rfl,hrow,hB⟩:=hrm;have gm3:blk w3 mb=some (.cells (catX ({ m with sys := { u2 with memory:=ms,outs:=ou,dma:=td } }:SMachine).cells X) T):=(hB.block mb (zak gmq)).trans gmq;obtain ⟨gcm3,gfm3,gzm3⟩:=zaa gm3)
   go_meet
   case rel=>
    have e3:=(EQ.out.thru hB oM).setM (m2:=({ m with sys := { u2 with memory:=s4,outs:=ou,dma:=td } }:SMachine)) hlt hlo3
    rw [<- HU3B.out,<- HM3B.out,<- HX3B.out]
    exact ⟨s4,e3,(Row.hi_mono (Row.set hrow gm3 HT.out.2.1) (by rw [size_setBlk];exact Nat.le_refl _)).lo_mono (Nat.zero_le _),Row.hi_mono (Row.set ((ROV.out.thru HBQ.out nL).thru hB hszq) gm3 HT.out.2.2.1) (by rw [size_setBlk];exact Nat.le_trans hszq hB.size),Row.hi_mono (Row.set ((RGV.out.thru HBQ.out nL).thru hB hszq) gm3 HT.out.2.2.2) (by rw [size_setBlk];exact Nat.le_trans hszq hB.size)⟩
 clear e1 hrm hro hrg hu3 hM3 hx3
 obtain ⟨ms3,e1,hrm,hro,hrg⟩:=hcut
 obtain ⟨irs,hirs⟩:∃ v,i.reset=v:=⟨_,rfl⟩
 have HIRS:=hid hirs
 obtain ⟨u4,hu4⟩:∃ u,(if irs=true then { u3 with dma := { u3.dma with left:=0 },pic := { u3.pic with step:=0 } } else u3)=u:=⟨_,rfl⟩
 have HU4:=hid hu4
 obtain ⟨gci,gfi,gzi⟩:=zaa e1.i
 have E1:=hid e1
 have HRM3:=hid hrm
 have HRO3:=hid hro
 have HRG3:=hid hrg
 clear hrm hro hrg
 go_upto_if 121 with fail
 go_cut [] (fun wx=>CkAt [110] w lo3 mb T X i { m with sys := { u4 with memory:=ms3,outs:=ou } } x3 xb cb m.sys.core.cycle wx/\Row wx 0 wx.heap.size 61 2 SCell.cells ms3 M3/\Row wx lo3 wx.heap.size 110 2 SOutput.cells ou O2/\Row wx 0 wx.heap.size 5 1 encB gs G2)
 case first=>
  have gm:=e1.m
  obtain ⟨gcm,gfm,gzm⟩:=zaa e1.m
  clear e1
  cases irs
  ·rw [if_neg sI] at hu4
   subst hu4
   go_wp2_with fail
   go_meet
   case rel=>exact ⟨E1.out,HRM3.out,HRO3.out,HRG3.out⟩
  ·rw [if_pos rfl] at hu4
   go_wp2_with fail
   go_meet
   case rel=>
    rw [<- hu4]
    refine ⟨?_,?_,?_,?_⟩
    ·have e2:=E1.out.setM (m2:=({ m with sys := { u3 with dma := { u3.dma with left:=0 },pic := { u3.pic with step:=0 },memory:=ms3,outs:=ou } }:SMachine)) hlt hlo3
     first|exact e2|(simpa [go_sem,↓iteOmega] using e2)
    ·first|exact Row.hi_mono (Row.set HRM3.out gm HT.out.2.1) (by rw [size_setBlk];exact Nat.le_refl _)|(simp only [setBlk_setBlk];exact Row.hi_mono (Row.set HRM3.out gm HT.out.2.1) (by rw [size_setBlk];exact Nat.le_refl _))
    ·first|exact Row.hi_mono (Row.set HRO3.out gm HT.out.2.2.1) (by rw [size_setBlk];exact Nat.le_refl _)|(simp only [setBlk_setBlk];exact Row.hi_mono (Row.set HRO3.out gm HT.out.2.2.1) (by rw [size_setBlk];exact Nat.le_refl _))
    ·first|exact Row.hi_mono (Row.set HRG3.out gm HT.out.2.2.2) (by rw [size_setBlk];exact Nat.le_refl _)|(simp only [setBlk_setBlk];exact Row.hi_mono (Row.set HRG3.out gm HT.out.2.2.2) (by rw [size_setBlk];exact Nat.le_refl _))
 clear e1 hu4 hirs gci gfi gzi
 obtain ⟨e1,hrm,hro,hrg⟩:=hcut
 have EQ:=z2p (gs:=gs) (u4:=u4) (v2:=v2) (v3:=v3) HL1N.out HB1N.out HD1N.out HACT.out (by rw [HWK.out];exact HV2N.out) HU1.out HX1.out HU2.out HM2.out HO2.out (by rw [HHL.out,HRQ.out];exact HV3.out) HTD.out HTC.out HTW.out HU3.out HM3.out HX3.out (by rw [HIRS.out];exact HU4.out) HG2.out
 have HEQ:=hid EQ
 have E2:=hid e1
 have HRM4:=hid hrm
 have HRO4:=hid hro
 have HRG4:=hid hrg
 obtain ⟨gcx,gfx,gzx⟩:=zaa e1.x
 obtain ⟨gcz,gfz,gzz⟩:=zaa e1.z
 have gx:=e1.x
 have gz:=e1.z
 clear EQ e1 hrm hro hrg
 go_upto_region 14 with fail
 clear gcx gfx gcz gfz
 go_cut [] (fun wx=>wx=zai wc (w.heap.size+1) x3.cells 96)
 case first=>
  go_wp2_with fail
  go_meet
  case rel=>exact rfl
 subst hcut
 refine ‹∀ (a:Act) (w_1:World),Code.wp prog Code.ret _ a w_1->_› _ _ ?_
 refine wp_ret ?_
 refine SMoment.ret x3 rfl rfl (blk_setBlk_same _ _ _ _ gzz) rfl ⟨gs,ms3,ou,?_,?_,?_,?_,?_,?_⟩
 ·rw [HEQ.out.1]
 ·rw [HEQ.out.2.2.2.2];exact (blk_setBlk_other _ _ _ _ _ oM).trans E2.out.m
 ·rw [HEQ.out.2.1];exact Row.hi_mono (Row.set HRG4.out gz dC) (by rw [size_setBlk];exact Nat.le_refl _)
 ·rw [HEQ.out.2.2.1];exact Row.hi_mono (Row.set HRM4.out gz dC) (by rw [size_setBlk];exact Nat.le_refl _)
 ·rw [HEQ.out.2.2.2.1];exact Row.hi_mono (Row.set HRO4.out gz dC) (by rw [size_setBlk];exact Nat.le_refl _)
 ·exact Kept.set E2.out.kept oM oM
end
section
open Go.RowKit
structure RunIs (wr:World) (lo rb:Nat) (B:SBoard) (L:List SRegion) (k n:Nat) (q:RecM) (r:SRecorder) (I:List SItem) (gs ms ou:Sl):Prop where
 tell:RecAt wr lo rb r q I
 mach:r.machine=⟨slS q.t.s gs ms ou,B⟩
 got:Row wr 0 wr.heap.size 5 1 encB gs q.t.g
 mem:Row wr 0 wr.heap.size 61 2 SCell.cells ms q.t.m
 outs:Row wr lo wr.heap.size 110 2 SOutput.cells ou q.t.o
 ok:q.t.Ok k n
 len:q.tr.length=n/\q.ev.length<=3 * n/\q.cp.length<=3 * n/\I.length<=n
 ne:0<I.length\/q.t.s.core.next=1
 regs:Row wr 0 wr.heap.size 82 4 SRegion.cells B.regions L
 few:L.length<=16
structure RunMid (w1:World) (lo rb:Nat) (B:SBoard) (L:List SRegion) (q:RecM) (i:SInput) (r:SRecorder) (I:List SItem) (gs gs' ms ou:Sl):Prop where
 tell:RecAt w1 lo rb r q I
 mach:r.machine=⟨slS (clkM B L q.t i).s gs' ms ou,B⟩
 old:Row w1 0 w1.heap.size 5 1 encB gs q.t.g
 got:Row w1 0 w1.heap.size 5 1 encB gs' (clkM B L q.t i).g
 mem:Row w1 0 w1.heap.size 61 2 SCell.cells ms (clkM B L q.t i).m
 outs:Row w1 lo w1.heap.size 110 2 SOutput.cells ou (clkM B L q.t i).o
 regs:Row w1 0 w1.heap.size 82 4 SRegion.cells B.regions L
theorem RecAt.mach {w w':World} {lo rb:Nat} {r:SRecorder} {q:RecM} {I:List SItem} {m:SMachine} (h:RecAt w lo rb r q I) (hk:Kept lo rb [110] w w') (hm:blk w' rb=some (.cells ({ r with machine:=m }:SRecorder).cells 93)):RecAt w' lo rb { r with machine:=m } q I:=by
 obtain ⟨E,e1,e2⟩:=h.ev
 exact ⟨hm,(h.tr.kept hk h.m dC dC).hi_mono hk.size,(h.it.kept hk h.m dC dC).hi_mono hk.size,⟨E,(e1.kept hk h.m dC dC).hi_mono hk.size,e2.kept hk h.m dC dC⟩,(h.cp.kept hk h.m dC dC).hi_mono hk.size,h.last⟩
section
variable (B:SBoard) (L:List SRegion) (t:Mach) (i:SInput)
include B L t i
theorem zx5 (a b c a' b' c':Sl):slS (clkM B L (slM t a b c) i).s a' b' c'=slS (clkM B L t i).s a' b' c':=congrArg Mach.s (zml B L t i a b c a' b' c')
theorem zx8 (a b c:Sl):(clkM B L (slM t a b c) i).g=(clkM B L t i).g:=by
 have e:=congrArg (fun u:Mach=>u.g) (zml B L t i a b c a b c)
 exact e
theorem zx7 (a b c:Sl):(clkM B L (slM t a b c) i).m=(clkM B L t i).m:=by
 have e:=congrArg (fun u:Mach=>u.m) (zml B L t i a b c a b c)
 exact e
theorem zx6 (a b c:Sl):(clkM B L (slM t a b c) i).o=(clkM B L t i).o:=by
 have e:=congrArg (fun u:Mach=>u.o) (zml B L t i a b c a b c)
 exact e
end
theorem zuo {wr:World} {lo rb:Nat} {B:SBoard} {L:List SRegion} {k n:Nat} {q:RecM} {r:SRecorder} {I:List SItem} {gs ms ou:Sl} (h:RunIs wr lo rb B L k n q r I gs ms ou) (hlo:lo<=rb) (hn:n<=100000) (hk:k<=100000) (i:SInput) (hi:okIn i) :
  Calls prog 23 #[.pointer (some ⟨rb,0,none⟩),.agg i.cells] wr fun e w1=>∃ (r1:SRecorder) (gs' ms' ou':Sl),e=.returned (.agg (slX (momM B L q.t i) gs).cells)/\RunMid w1 lo rb B L q i r1 I gs gs' ms' ou'/\Kept lo rb [110] wr w1:=by
 obtain ⟨h1,h2,h3,h4⟩:=hi
 have hok:=h.ok
 have hc:=hok.core
 have hm:blk wr rb=some (.cells (catX (⟨slS q.t.s gs ms ou,B⟩:SMachine).cells (zva r)) 93):=by
  rw [SRecorder.cat,<- h.mach]
  exact h.tell.m
 refine (zxu (⟨slS q.t.s gs ms ou,B⟩:SMachine) (zva r) 93 rb i wr hm h.regs (by have:=h.few;omega) nL h.mem hok.m (by have:=hok.ml;omega) nL h.outs (by have:=hok.o;omega) hlo dC h.got (by have:=hc.len;omega) hc.bytes hc.regs hc.cyc.data hc.cyc.at_ hok.pic hok.dma (by have:=hok.waited;exact ⟨this.1,Int.le_trans this.2 oM⟩) ⟨h1,h2⟩ ⟨h3,h4⟩).mono ?_
 rintro e w1 ⟨gs',ms',ou',rfl,k1,k2,k3,k4,hkp⟩
 have e0:(⟨slS q.t.s gs ms ou,q.t.g,q.t.m,q.t.o⟩:Mach)=slM q.t gs ms ou:=rfl
 rw [e0] at k1 k2 k3 k4 ⊢
 rw [show (⟨slS q.t.s gs ms ou,B⟩:SMachine).board=B from rfl] at *
 have e1:(⟨({ (clkM B L (slM q.t gs ms ou) i).s with core := { (clkM B L (slM q.t gs ms ou) i).s.core with got:=gs' },memory:=ms',outs:=ou' }:SSystem),B⟩:SMachine)=⟨slS (clkM B L q.t i).s gs' ms' ou',B⟩:=by
  rw [<- zx5 B L q.t i gs ms ou gs' ms' ou']
  rfl
 have k1':blk w1 rb=some (.cells ({ r with machine:=⟨slS (clkM B L q.t i).s gs' ms' ou',B⟩ }:SRecorder).cells 93):=by
  rw [<- SRecorder.cat,<- e1]
  exact k1
 rw [zx8] at k2
 rw [zx7] at k3
 rw [zx6] at k4
 refine ⟨_,gs',ms',ou',by rw [ztg],⟨h.tell.mach hkp k1',rfl,(h.got.kept hkp h.tell.m dC dC).hi_mono hkp.size,k2,k3,k4,(h.regs.kept hkp h.tell.m dC dC).hi_mono hkp.size⟩,hkp⟩
end
section
open Go.RowKit
theorem zyu (q:RecM) (t:Mach) (x:SMoment) (G:List Int) (now:SCPU):zgl { q with t:=t } x G now = { zgl q x G now with t:=t }:=by
 unfold zgl dmaR zgf zgw cutR endR addE
 dsimp only
 repeat' split
 all_goals rfl
theorem ztc (q:RecM) (x:SMoment) (G:List Int) (now:SCPU):(zgl q x G now).tr.length=q.tr.length+1/\(zgl q x G now).ev.length<=q.ev.length+3/\(zgl q x G now).cp.length<=q.cp.length+3:=by
 unfold zgl dmaR zgf zgw cutR endR addE
 dsimp only
 repeat' split
 all_goals simp
theorem zgg (B:SBoard) (L:List SRegion) (q:RecM) (i:SInput):zjh B L q i = { zgl q (momM B L q.t i) q.t.g (clkM B L q.t i).s.core.cpu with t:=clkM B L q.t i }:=zyu q _ _ _ _
theorem ztb {w0 w1:World} {lo rb:Nat} {B:SBoard} {L:List SRegion} {k n:Nat} {q:RecM} {r0 r:SRecorder} {I:List SItem} {gs0 ms0 ou0 gs gs' ms ou:Sl} (h0:RunIs w0 lo rb B L k n q r0 I gs0 ms0 ou0) {i:SInput} (h:RunMid w1 lo rb B L q i r I gs gs' ms ou) (hlo:lo<=rb) (hn:n<=100000) (hi:okIn i) :
  Calls prog 22 #[.pointer (some ⟨rb,0,none⟩),.agg (slX (momM B L q.t i) gs).cells] w1 fun e w2=>e=.returned (.tuple #[])/\∃ (r2:SRecorder) (I2:List SItem),RunIs w2 lo rb B L k (n+1) (zjh B L q i) r2 I2 gs' ms ou/\Kept lo rb [76,154,63,41] w1 w2:=by
 have hok:=h0.ok
 have hc:=hok.core
 obtain ⟨l1,l2,l3,l4⟩:=h0.len
 have hio:i.Ok:=⟨⟨hi.1,hi.2.1⟩,hi.2.2⟩
 have hb:=zmn B L q.t.s q.t.m i hok.m hok.pic hok.dma hio.port hio.requests
 have hs:(slX (momM B L q.t i) gs).pins.state=if i.reset=true then 10 else zaj q.t.s.core:=zh2 B L q.t i
 have hsb:=zg2 q.t.s.core
 have hgot:(slX (momM B L q.t i) gs).before.got=gs:=rfl
 refine (zvz h.tell hlo (slX (momM B L q.t i) gs) (G:=q.t.g) h.old (by have:=hc.len;omega) hc.bytes hc.regs hb.2.1 hc.cyc.data oM oM oM oM (by rw [hs];split<;>omega) (by
  rw [hs]
  intro a1 a2
  rcases h0.ne with hl|hl
  ·exact hl
  ·have:zaj q.t.s.core=1:=by unfold zaj;split<;>omega
   rw [this] at a1 a2
   split at a1<;>split at a2<;>omega)).mono ?_
 rintro e w2 ⟨rfl,r2,I2,hm,ha,i1,i2,hk⟩
 rw [zv0,h.mach] at ha
 have hl:=ztc q (momM B L q.t i) q.t.g (clkM B L q.t i).s.core.cpu
 refine ⟨rfl,r2,I2,⟨?_,hm.trans ?_,?_,?_,?_,?_,?_,.inl i1,(h.regs.kept hk h.tell.m dC dC).hi_mono hk.size,h0.few⟩,hk⟩
 ·rw [zgg];exact ha.model _
 ·rw [h.mach,zgg]
 ·rw [zgg];exact (h.got.kept hk h.tell.m dC dC).hi_mono hk.size
 ·rw [zgg];exact (h.mem.kept hk h.tell.m dC dC).hi_mono hk.size
 ·rw [zgg];exact (h.outs.kept hk h.tell.m dC dC).hi_mono hk.size
 ·rw [zgg];exact zpc B L q.t i k n hok hio oM
 ·rw [zgg];dsimp only;omega
end
section
open Go.RowKit
def Ran (B:SBoard) (L:List SRegion) (M:List SCell) (X:List Int) (w:World) (e:Ending) (w':World):Prop:=
 ∃ (rn:SRun) (l:List SInput) (E:List SEvent) (gs ms ou:Sl),e=.returned (.tuple #[.agg rn.cells,.int .i64 0])/\l.length=X.length / 4/\(∀ i ∈ l,okIn i)/\((∀ b ∈ X,b=0)->l=List.replicate (X.length / 4) idleIn) /\
  Row w' 0 w'.heap.size 76 17 SPins.cells rn.trace (zee B L M l).tr/\Row w' 0 w'.heap.size 63 18 SEvent.cells rn.events E/\EvOk w' E (zee B L M l).ev/\Row w' 0 w'.heap.size 41 28 SCPU.cells rn.cpus (zee B L M l).cp /\
  rn.system=slS (zee B L M l).t.s gs ms ou/\Row w' 0 w'.heap.size 61 2 SCell.cells ms (zee B L M l).t.m/\(zee B L M l).tr.length=X.length / 4/\Below w.heap.size w w'
theorem RunIs.thru {wr w':World} {lo rb:Nat} {B:SBoard} {L:List SRegion} {k n:Nat} {q:RecM} {r:SRecorder} {I:List SItem} {gs ms ou:Sl} (h:RunIs wr lo rb B L k n q r I gs ms ou) (hB:Below wr.heap.size wr w') (hlo:lo<=rb):RunIs w' lo rb B L k n q r I gs ms ou:=
 ⟨h.tell.thru hB hlo,h.mach,(h.got.thru hB nL).hi_mono hB.size,(h.mem.thru hB nL).hi_mono hB.size,(h.outs.thru hB nL).hi_mono hB.size,h.ok,h.len,h.ne,(h.regs.thru hB nL).hi_mono hB.size,h.few⟩
theorem zso (B:SBoard) (L:List SRegion) (q:RecM) (l:List SInput) (k:Nat) (h:k<l.length):runM B L q (l.take (k+1))=zjh B L (runM B L q (l.take k)) l[k]:=by
 unfold runM
 rw [<- List.take_append_getElem h,List.foldl_append]
 rfl
theorem zoc {B:SBoard} {L:List SRegion} {M:List SCell} {X:List Int} {s:Sl} (w:World) (h:BoardOk w B L M) (hx:Row w 0 w.heap.size 5 1 encB s X) (hxb:∀ y ∈ X,0<=y/\y<=255) (hX:X.length<=40000) :
  Calls prog 8 #[.agg B.cells,.slice s.p s.n s.c] w (Ran B L M X w):=by
 have H:=hid h
 have HX:Aside (Row w 0 w.heap.size 5 1 encB s X/\(∀ y ∈ X,0<=y/\y<=255)/\X.length<=40000):=⟨hx,hxb,hX⟩
 have NW:Aside (∀ w1,Below w.heap.size w w1->Calls prog 12 #[.agg B.cells] w1 (z3i B M w1)):=fun w1 hB=>zxt w1 (h.thru hB)
 have DC:Aside (∀ w1,Below w.heap.size w w1->Calls prog 13 #[.slice s.p s.n s.c] w1 (zpj X w1)):=fun w1 hB=>zgv w1 (hx.thru hB nL) hxb oM hB.size
 clear h hx hxb hX
 go_enter func8,ntmps8
 go_upto_region 5 with (go_at_call 12;(refine (NW.out _ bL).mono ?_);intro e w2 hnw;obtain ⟨ms,rfl,hrow,hB2⟩:=hnw;have hz2:=hB2.size;(try simp only [szs] at hz2);obtain ⟨sys,hsys⟩:∃ y,({ newS B with memory:=ms }:SSystem)=y:=⟨_,rfl⟩;rw [hsys];have f2:blk w2 w.heap.size=some (.cells B.cells 27):=(hB2.block _ (by (try simp only [szs]);omega)).trans (by first|exact (blk_alloc_past _ _ _ sI).trans (zab _ _ _ rfl)|(simp [go_sem,↓iteOmega, *]));have f3:blk w2 (w.heap.size+1)=some (.cells SRun.zero.cells 54):=(hB2.block _ (by (try simp only [szs]);omega)).trans (by first|exact zab _ _ _ sI|(simp [go_sem,↓iteOmega, *]));obtain ⟨gc2,gf2,gz2⟩:=zaa f2)
 refine wpNm (fun W hW=>?_)
 have f0:blk W (w2.heap.size+1)=some (.cells ({ SRecorder.zero with machine:=⟨sys,B⟩,last:=sys.core.cpu }:SRecorder).cells 93):=by rw [hW];exact sM
 have f1:blk W (w.heap.size+1)=some (.cells SRun.zero.cells 54):=by rw [hW];exact sM
 have hBW:Below w2.heap.size w2 W:=by rw [hW];exact bL
 obtain ⟨rb,hrb⟩:∃ rb,w2.heap.size+1=rb:=⟨_,rfl⟩
 obtain ⟨lo,hlo0⟩:∃ lo,w.heap.size=lo:=⟨_,rfl⟩
 have hlo:lo<=rb:=oM
 obtain ⟨r0,hr0⟩:∃ r0,({ SRecorder.zero with machine:=⟨sys,B⟩,last:=sys.core.cpu }:SRecorder)=r0:=⟨_,rfl⟩
 have hB2':Below w.heap.size w w2:=(((Below.refl _ w).alloc nL _).alloc sI _).trans (hB2.mono sO)
 have hBw:Below w.heap.size w W:=zaf hBW hB2' oM
 have hms:Row W 0 W.heap.size 61 2 SCell.cells ms M:=((hrow.thru hBW nL).hi_mono hBW.size).lo_mono (Nat.zero_le _)
 rw [hrb] at f0 ⊢
 rw [hr0] at f0
 have hRI:RunIs W lo rb B L M.length 0 (newR B M) r0 [] ⟨none,0,0⟩ ms ⟨none,0,0⟩:=by
  have hb:=H.out.thru hBw
  refine ⟨⟨f0,?_,?_,⟨[],?_,EvOk.nil⟩,?_,?_⟩,?_,Row.nil _ _ _ _ _ _,hms,Row.nil _ _ _ _ _ _,zom B M hb.mem,⟨rfl,by simp [newR],by simp [newR],Nat.le_refl _⟩,.inr rfl,hb.regs,hb.few⟩
  ·rw [<- hr0];exact Row.nil _ _ _ _ _ _
  ·rw [<- hr0];exact Row.nil _ _ _ _ _ _
  ·rw [<- hr0];exact Row.nil _ _ _ _ _ _
  ·rw [<- hr0];exact Row.nil _ _ _ _ _ _
  ·rw [<- hr0,<- hsys];rfl
  ·rw [<- hr0,<- hsys];rfl
 have RI:=hid hRI
 have BW:=hid hBw
 have F1:=hid f1
 have hsz:w.heap.size+1<rb/\rb<W.heap.size/\w.heap.size<=W.heap.size:=⟨oM,zak f0,hBw.size⟩
 have HSZ:=hid hsz
 have HLO:Aside (w.heap.size=lo):=hlo0
 clear hW hBW hB2 hB2' hBw hms hRI hsys hr0 f2 f3 gc2 gf2 gz2 hrow hrb hz2 hlo0
 have LIM:Aside (X.length<=40000/\M.length<=100000/\L.length<=16):=⟨HX.out.2.2,H.out.len,H.out.few⟩
 go_wp2_with (go_at_call 13;(refine (DC.out _ BW.out).mono ?_);intro e w3 hdc;obtain ⟨⟨pi,ni,ci⟩,l,rfl,hri,hll,hlok,hlz,hB3⟩:=hdc;have hni:=hri.len;dsimp only at hni hri ⊢;subst hni;have HLL:Aside (l.length=X.length / 4/\(∀ i ∈ l,okIn i)/\((∀ b ∈ X,b=0)->l=List.replicate (X.length / 4) idleIn)):=⟨hll,hlok,hlz⟩;clear hll hlok hlz)
 have R3:Aside (RunIs w3 lo rb B L M.length 0 (newR B M) r0 [] ⟨none,0,0⟩ ms ⟨none,0,0⟩):=RI.out.thru hB3 hlo
 have G3:Aside (blk w3 (w.heap.size+1)=some (.cells SRun.zero.cells 54)):=(hB3.block _ (zak F1.out)).trans F1.out
 have B3:Aside (Below w.heap.size w w3):=zaf hB3 BW.out HSZ.out.2.2
 have HRI:Aside (Row w3 0 w3.heap.size 74 10 SInput.cells ⟨pi,l.length,ci⟩ l):=hri.lo_mono (Nat.zero_le _)
 have hll4:l.length<=40000:=by have:=LIM.out.1;have:=HLL.out.1;omega
 clear hri hB3 f0 f1
 go_loopg [31] l.length (fun kx s31 wr=>∃ (k:Nat) (r:SRecorder) (I:List SItem) (gs ms ou:Sl),s31=.int .i64 k/\k<=l.length/\l.length-k<=kx/\Aside (RunIs wr lo rb B L M.length k (runM B L (newR B M) (l.take k)) r I gs ms ou)/\Aside (Kept lo rb [76,154,63,41,110] w3 wr))
 case atStart=>exact ⟨0,r0,[],_,ms,_,rfl,oM,oM,R3.out,Kept.refl⟩
 case round=>
  obtain ⟨k,r,I,gs,ms,ou,rfl,hk,hkx,hR,hkp⟩:=hrel
  have n0:=hR.out.tell.m
  obtain ⟨gcm,gfm,gzm⟩:=zaa n0
  by_cases hlt:k<l.length
  ·have HRW:Aside (Row wr 0 wr.heap.size 74 10 SInput.cells ⟨pi,l.length,ci⟩ l):=(HRI.out.kept hkp.out R3.out.tell.m dC dC).hi_mono hkp.out.size
   obtain ⟨g,hp,hg1,hg2,hg3,ho,hv⟩:=HRW.out.elem (fun _=>rfl) k hlt
   dsimp only at hp
   subst hp
   obtain ⟨i,hi⟩:∃ i,l[k]=i:=⟨_,rfl⟩
   have hio:okIn i:=by rw [<- hi];exact HLL.out.2.1 _ (List.getElem_mem hlt)
   have HI:Aside (∃ h:k<l.length,l[k]=i):=⟨hlt,hi⟩
   rw [hi] at hv
   clear hi
   go_upto_region 8 with fail
   refine wpNm (fun V hV=>?_)
   have fi:blk V wr.heap.size=some (.cells i.cells 74):=by rw [hV];exact sM
   have hBV:Below wr.heap.size wr V:=by rw [hV];exact bL
   have hVz:wr.heap.size<V.heap.size:=zak fi
   have v0:blk V rb=some (.cells r.cells 93):=(hBV.block _ gzm).trans n0
   have FI:=hid fi
   have BV:=hid hBV
   have HIO:=hid hio
   have hne:wr.heap.size≠rb:=oM
   have CK:Aside (∀ w1,Below V.heap.size V w1->Calls prog 23 #[.pointer (some ⟨rb,0,none⟩),.agg i.cells] w1 fun e w4=>∃ (r1:SRecorder) (gs' ms' ou':Sl),e=.returned (.agg (slX (momM B L (runM B L (newR B M) (l.take k)).t i) gs).cells)/\RunMid w4 lo rb B L (runM B L (newR B M) (l.take k)) i r1 I gs gs' ms' ou'/\Kept lo rb [110] w1 w4):=fun w1 hB=>zuo ((hR.out.thru BV.out hlo).thru hB hlo) hlo oM (by have:=LIM.out.2.1;omega) i HIO.out
   have NT:Aside (∀ w4 r1 gs' ms' ou',RunMid w4 lo rb B L (runM B L (newR B M) (l.take k)) i r1 I gs gs' ms' ou'->Calls prog 22 #[.pointer (some ⟨rb,0,none⟩),.agg (slX (momM B L (runM B L (newR B M) (l.take k)).t i) gs).cells] w4 fun e w2=>e=.returned (.tuple #[])/\∃ (r2:SRecorder) (I2:List SItem),RunIs w2 lo rb B L M.length (k+1) (zjh B L (runM B L (newR B M) (l.take k)) i) r2 I2 gs' ms' ou'/\Kept lo rb [76,154,63,41] w4 w2):=fun w4 r1 gs' ms' ou' hm=>ztb hR.out hm hlo oM HIO.out
   clear hV hBV hio ho hv gcm gfm n0 hg1 hg2 hg3
   obtain ⟨gcm,gfm,gzV⟩:=zaa v0
   obtain ⟨gci,gfi,gzi⟩:=zaa fi
   go_region_with (first|(go_at_call 23;(refine (CK.out _ bL).mono ?_);rintro e w4 ⟨r1,gs',ms',ou',rfl,hmid,hk4⟩)|(go_at_call 22;(refine (NT.out _ _ _ _ _ hmid).mono ?_);rintro e w5 ⟨rfl,r2,I2,hrun2,hk5⟩))
   have hk4':Kept lo rb [110] V w4:=⟨⟨hk4.below.os,hk4.below.tape,hk4.below.output,hk4.below.size,hk4.below.block⟩,hk4.kept⟩
   replace hk5:Kept lo rb [76,154,63,41,110] V w5:=(hk4'.more sI).trans (hk5.more sI)
   go_wp2_with fail
   go_roundg (l.length-(k+1))
   case measure=>omega
   case rel=>
    refine ⟨k+1,r2,I2,gs',ms',ou',by simp,oM,oM,?_,?_⟩
    ·have e:runM B L (newR B M) (l.take (k+1))=zjh B L (runM B L (newR B M) (l.take k)) i:=by
      obtain ⟨h1,h2⟩:=HI.out
      rw [<- h2];exact zso B L (newR B M) l k h1
     rw [e]
     exact hrun2
    ·exact (hkp.out.trans (Kept.of_below BV.out oM)).trans hk5
  ·have hke:k=l.length:=oM
   subst hke
   obtain ⟨q,hq⟩:∃ q,runM B L (newR B M) l=q:=⟨_,rfl⟩
   have hR2:RunIs wr lo rb B L M.length l.length q r I gs ms ou:=by rw [<- hq,<- List.take_length (l:=l)];simpa using hR.out
   have HQ:Aside (zee B L M l=zew q):=by
    have e:zee B L M l=zew q:=by unfold zee;rw [hq]
    exact e
   have hfn:Calls prog 24 #[.pointer (some ⟨rb,0,none⟩)] wr (Told lo rb r (zew q) I wr):=by
    have h1:=hR2.ok.core.len
    obtain ⟨l1,l2,l3,l4⟩:=hR2.len
    exact zrn hR2.tell hlo oM oM (G:=q.t.g) (by rw [hR2.mach];exact hR2.got) oM (by rw [hR2.mach];rfl) rfl
   have FN:=hid hfn
   have RR:=hid hR2
   have w1f:blk wr (w.heap.size+1)=some (.cells SRun.zero.cells 54):=hkp.out.kept _ _ _ (by have:=HSZ.out.1;omega) dC G3.out
   have hne:w.heap.size+1≠rb:=by have:=HSZ.out.1;omega
   clear hR2 hfn hq n0
   go_upto_region 11 with (go_at_call 24;(refine FN.out.mono ?_);rintro e w6 ⟨rfl,r3,e1,e2,e3⟩)
   have m6:=e2.m
   have n6:blk w6 (w.heap.size+1)=some (.cells SRun.zero.cells 54):=e3.kept _ _ _ hne dC w1f
   have E1:=hid e1
   have E2:=hid e2
   have E3:=hid e3
   clear e1 e2 e3 w1f gcm gfm gzm
   obtain ⟨gcm,gfm,gzm⟩:=zaa m6
   obtain ⟨gcn,gfn,gzn⟩:=zaa n6
   go_wp2_with fail
   obtain ⟨rn,hrn⟩:∃ rn,({ r3.run with system:=r3.machine.sys }:SRun)=rn:=⟨_,rfl⟩
   obtain ⟨r4,hr4⟩:∃ r4,({ r3 with run:=rn }:SRecorder)=r4:=⟨_,rfl⟩
   have k1:Kept lo rb [54] w6 (zai (zai w6 rb r4.cells 93) (w.heap.size+1) rn.cells 54):=Kept.setT (Kept.setM Kept.refl hlo) ((blk_setBlk_other _ _ _ _ _ hne).trans n6) sI (by have:=HLO.out;omega)
   have kb:blk (zai (zai w6 rb r4.cells 93) (w.heap.size+1) rn.cells 54) (w.heap.size+1)=some (.cells rn.cells 54):=blk_setBlk_same _ _ _ _ (by rw [size_setBlk];exact gzn)
   rw [hrn,hr4]
   have hft:(zew q).t=q.t/\(zew q).tr=q.tr:=by unfold zew;split<;>exact ⟨rfl,rfl⟩
   obtain ⟨E,v1,v2⟩:=E2.out.ev
   have hrs:rn.trace=r3.run.trace/\rn.events=r3.run.events/\rn.cpus=r3.run.cpus/\rn.system=r3.machine.sys:=by rw [<- hrn];exact ⟨rfl,rfl,rfl,rfl⟩
   have hbz:Below w.heap.size w w6:=by
    have h1:Below lo w3 w6:=(hkp.out.below.trans E3.out.below)
    rw [<- HLO.out] at h1
    exact B3.out.trans h1
   refine za1 (n:=66) (v:=.agg rn.cells) (u:=.int .i64 0) rfl kR kR rfl rfl ((congrArg (fun o=>okO 66 o 0) kb).trans (SRun.okl_whole _ _ _)) ((congrArg (fun o=>valO 66 o 0) kb).trans (SRun.ld_whole _ _ _)) rfl ⟨rn,l,E,gs,ms,ou,rfl,HLL.out.1,HLL.out.2.1,HLL.out.2.2,?_,?_,?_,?_,?_,?_,?_,?_⟩
   ·rw [HQ.out,hrs.1];exact ((E2.out.tr.kept k1 m6 dC dC).hi_mono k1.size).lo_mono (Nat.zero_le _)
   ·rw [hrs.2.1];exact ((v1.kept k1 m6 dC dC).hi_mono k1.size).lo_mono (Nat.zero_le _)
   ·rw [HQ.out];exact v2.kept k1 m6 dC dC
   ·rw [HQ.out,hrs.2.2.1];exact ((E2.out.cp.kept k1 m6 dC dC).hi_mono k1.size).lo_mono (Nat.zero_le _)
   ·rw [HQ.out,hft.1,hrs.2.2.2,E1.out,RR.out.mach]
   ·rw [HQ.out,hft.1]
    have h2:=(RR.out.mem.kept E3.out RR.out.tell.m dC dC).hi_mono E3.out.size
    exact (h2.kept k1 m6 dC dC).hi_mono k1.size
   ·rw [HQ.out,hft.2,RR.out.len.1,HLL.out.1]
   ·have h3:=k1.below
    rw [<- HLO.out] at h3
    exact hbz.trans h3
end
section
open Go.RowKit
theorem Row.lit {α:Type} {w:World} {lo g k:Nat} {e:TypeId} {enc:α->Array Value} (M:List α) (C:Array Value) (hb:blk w g=some (.cells C e)) (hk:∀ x,(enc x).size=k) (hC:C.toList=encL enc M) (hm:M.length<=maxLen) (hlo:lo<=g):Row w lo (g+1) e k enc ⟨some ⟨g,0,none⟩,M.length,M.length⟩ M:=by
 have hl:=zcc (enc:=enc) (L:=M) hk
 have hs:C.size=M.length * k:=by rw [<- hl,<- hC];simp
 refine ⟨⟨hl,.inr ⟨g,M.length,C,rfl,hlo,hb,Nat.le_refl _,hm,hs,?_⟩⟩,fun g' hg=>?_⟩
 ·rw [hC,<- hl,List.take_length]
 ·simp only [Value.ownBlock,Option.some.injEq] at hg
  omega
theorem load8 (w1:World) (g:Nat) (hb:blk w1 g=some (.cells #[.int .u8 62,.int .u8 5,.int .u8 198,.int .u8 7,.int .u8 50,.int .u8 16,.int .u8 0,.int .u8 118] 5)):Calls prog 17 #[.int .u16 0,.slice (some ⟨g,0,none⟩) 8 8] w1 (zft 61 2 SCell.cells (znc 0 [62,5,198,7,50,16,0,118]) w1):=by
 have hr:Row w1 0 (g+1) 5 1 encB ⟨some ⟨g,0,none⟩,8,8⟩ [62,5,198,7,50,16,0,118]:=Row.lit (lo:=0) (enc:=encB) (k:=1) [62,5,198,7,50,16,0,118] _ hb (fun _=>rfl) rfl (by show (8:Nat)<=maxLen;unfold maxLen;omega) (Nat.zero_le _)
 exact zi2 (s:=⟨some ⟨g,0,none⟩,8,8⟩) (B:=[62,5,198,7,50,16,0,118]) 0 w1 hr (by intro y hy;simp only [List.mem_cons,List.not_mem_nil,or_false] at hy;omega) (by show (8:Nat)<=10000;omega) (by have:=zak hb;omega)
theorem zv6:znc 0 [62,5,198,7,50,16,0,118]=zjc:=kR
def zhg:Array Value:=(List.replicate 160 (Value.int .u8 0)).toArray
theorem z1k (n:Nat):List.replicate n (Value.int .u8 0)=encL encB (List.replicate n 0):=by
 induction n with
 | zero=>rfl
 | succ n ih=>rw [List.replicate_succ,List.replicate_succ,ze5,<- ih];rfl
@[go_sem] theorem make160 (w:World):(Instr.makeSlice 28 (.int .i64 160) (.int .i64 160)).run prog w=.ok (.slice (some ⟨w.heap.size,0,none⟩) 160 160) (w.alloc (.cells zhg 5)):=by
 obtain ⟨i,z,hi,hz,hsz,hby,hzc⟩:=zgn.info
 have hc:madeCells z.cells (160 * i.size)=zhg:=by
  have e1:(prog.info? 5).bind (fun i=>i.zero.map fun z=>madeCells z.cells (160 * i.size))=some zhg:=kR
  rw [hi] at e1
  simp only [Option.bind_some,hz,Option.map_some,Option.some.injEq] at e1
  exact e1
 have e2:=run_make (P:=prog) w 28 5 i z zgn.und hi hz .i64 .i64 160 160 oM oM oM oM
 rw [show ((160:Int).toNat)=160 from rfl,hc] at e2
 exact e2
theorem zn9 {w':World} {b:Nat} {B:SBoard} (h:blk w' b=some (.cells B.cells 27)):okO 7 (blk w' b) 0=true/\valO 7 (blk w' b) 0=.agg B.cells:=by
 rw [h]
 constructor<;>simp [go_sem]
theorem zf8 (w:World):Calls prog 6 #[] w fun e w'=>e=.returned (.bool true)/\Below w.heap.size w w':=by
 go_enter func6,ntmps6
 go_upto_region 2 with (go_at_call 17;(refine (load8 _ _ (zab _ _ _ sI)).mono ?_);rw [zv6];intro e w1 hcl;obtain ⟨ms,rfl,hrow,hB1⟩:=hcl;have hz1:=hB1.size;(try simp only [World.size_alloc] at hz1))
 refine wpNm (fun W hW=>?_)
 obtain ⟨rs,hrs⟩:∃ rs:Sl,rs=⟨some ⟨w.heap.size,0,none⟩,1,1⟩:=⟨_,rfl⟩
 have fb:blk W w1.heap.size=some (.cells (zhu rs ms).cells 27):=by rw [hW,hrs];exact zab _ _ _ rfl
 have hBW:Below w1.heap.size w1 W:=by rw [hW];exact bL
 have fr:blk w1 w.heap.size=some (.cells (SRegion.mk 0 65535 true 0).cells 82):=(hB1.block _ sO).trans ((blk_alloc_past _ _ _ sI).trans (zab _ _ _ rfl))
 have hbo:BoardOk W (zhu rs ms) zlf zjc:=by
  refine ⟨.inr rfl,?_,?_,dC,dC,⟨(by show (0:Int)<=0;omega),(by show (0:Int)<=100;omega)⟩,zv7,dC⟩
  ·have h1:Row w1 0 (w.heap.size+1) 82 4 SRegion.cells ⟨some ⟨w.heap.size,0,none⟩,1,1⟩ [SRegion.mk 0 65535 true 0]:=Row.one _ fr (fun _=>rfl) (Nat.zero_le _)
   rw [<- hrs] at h1
   exact (h1.thru hBW oM).hi_mono (by have:=hBW.size;omega)
  ·exact ((hrow.thru hBW nL).hi_mono hBW.size).lo_mono (Nat.zero_le _)
 have BW:Aside (Below w.heap.size w W):=(((Below.refl _ w).alloc nL _).alloc sI _).trans ((hB1.mono sO).trans (hBW.mono oM))
 have BO:=hid hbo
 have FB:=hid fb
 have gzb:=zak fb
 clear hW hrs hBW fr hbo hrow hB1
 obtain ⟨gcb,gfb,_⟩:=zaa fb
 have RN:Aside (∀ w2 g,Below W.heap.size W w2->blk w2 g=some (.cells zhg 5)->Calls prog 8 #[.agg (zhu rs ms).cells,.slice (some ⟨g,0,none⟩) 160 160] w2 (Ran (zhu rs ms) zlf zjc (List.replicate 160 0) w2)):=fun w2 g hB hb=>by
  have hr:Row w2 0 (g+1) 5 1 encB ⟨some ⟨g,0,none⟩,160,160⟩ (List.replicate 160 0):=by
   have h1:=Row.lit (lo:=0) (enc:=encB) (k:=1) (List.replicate 160 0) zhg hb (fun _=>rfl) (by unfold zhg;rw [List.toList_toArray];exact z1k 160) (by rw [List.length_replicate];unfold maxLen;omega) (Nat.zero_le _)
   rw [List.length_replicate] at h1
   exact h1
  exact zoc (s:=⟨some ⟨g,0,none⟩,160,160⟩) w2 (BO.out.thru hB) (hr.hi_mono (by have:=zak hb;omega)) (fun y hy=>by rw [List.eq_of_mem_replicate hy];omega) (by rw [List.length_replicate];omega)
 have RN2:Aside (∀ w2 e w4,Ran (zhu rs ms) zlf zjc (List.replicate 160 0) w2 e w4->∃ (rn:SRun) (ms':Sl) (M':List SCell),e=.returned (.tuple #[.agg rn.cells,.int .i64 0])/\rn.trace.n=40/\rn.system.core.cpu.halted=true/\rn.system.core.cpu.regs.a=12/\rn.system.memory=ms'/\Row w4 0 w4.heap.size 61 2 SCell.cells ms' M'/\M'.length<=100000/\getC M' 16=12/\Below w2.heap.size w2 w4):=fun w2 e w4 hran=>by
  obtain ⟨rn,l,E,gs,ms',ou,rfl,h1,h2,h3,h4,h5,h6,h7,h8,h9,h10,hB4⟩:=hran
  have hl:l=List.replicate 40 idleIn:=by
   have e1:=h3 (fun b hb=>List.eq_of_mem_replicate hb)
   rw [List.length_replicate] at e1
   exact e1
  rw [List.length_replicate] at h10
  subst hl
  obtain ⟨q,hq,k1,k2,k3,k4⟩:=zza rs ms
  rw [hq] at h4 h8 h9 h10
  clear hq h3 h5 h6 h7 h1 h2
  refine ⟨rn,ms',q.t.m,rfl,?_,?_,?_,?_,h9,k4,k3,hB4⟩
  ·rw [h4.len,h10]
  ·rw [h8];exact k1
  ·rw [h8];exact k2
  ·rw [h8];rfl
 go_cut [2,3] (fun s2 s3 wx=>∃ (b:Nat) (rn:SRun) (ms':Sl) (M':List SCell),s2=.pointer (some ⟨b,0,none⟩)/\s3=.int .i64 0/\blk wx b=some (.cells rn.cells 54)/\rn.trace.n=40/\rn.system.core.cpu.halted=true/\rn.system.core.cpu.regs.a=12/\rn.system.memory=ms'/\Row wx 0 wx.heap.size 61 2 SCell.cells ms' M'/\M'.length<=100000/\getC M' 16=12/\Below W.heap.size W wx)
 case first=>
  go_region_held3 ((fun w'=>okO 7 (blk w' w1.heap.size) 0=true/\valO 7 (blk w' w1.heap.size) 0=.agg (zhu rs ms).cells)) (first|exact zn9 fb|exact zn9 m4|exact zn9 ((blk_alloc_past _ _ _ gzb).trans FB.out)|exact zn9 ((blk_alloc_past _ _ _ (zak m4)).trans m4)|exact zn9 ((blk_alloc_past _ _ _ sO).trans ((blk_alloc_past _ _ _ gzb).trans FB.out))|exact zn9 ((blk_setBlk_other _ _ _ _ _ oM).trans m4)|exact zn9 ((blk_setBlk_other _ _ _ _ _ oM).trans ((blk_alloc_past _ _ _ (zak m4)).trans m4))) (first|(go_at_call 8;(refine (RN.out _ _ bL (by first|exact zab _ _ _ rfl|exact (blk_alloc_past _ _ _ sI).trans (zab _ _ _ rfl)|exact zab _ _ _ sI)).mono ?_);intro e w4 hran;obtain ⟨rn,ms',M',rfl,q1,q2,q3,q4,q5,q6,q7,hB4⟩:=RN2.out _ _ _ hran;have HQQ:Aside (rn.trace.n=40/\rn.system.core.cpu.halted=true/\rn.system.core.cpu.regs.a=12/\rn.system.memory=ms'/\Row w4 0 w4.heap.size 61 2 SCell.cells ms' M'/\M'.length<=100000/\getC M' 16=12):=⟨q1,q2,q3,q4,q5,q6,q7⟩;clear q1 q2 q3 q4 q5 q6 q7 hran;have m4:blk w4 w1.heap.size=some (.cells (zhu rs ms).cells 27):=(hB4.block _ sO).trans (by first|exact (blk_alloc_past _ _ _ gzb).trans FB.out|exact (blk_alloc_past _ _ _ sO).trans ((blk_alloc_past _ _ _ gzb).trans FB.out));have hz4:=hB4.size;(try simp only [szs] at hz4);first|(have k3:blk w4 (W.heap.size+1)=some (.cells SRun.zero.cells 54):=(hB4.block _ (by first|(simp;done)|(simp;omega))).trans (zab _ _ _ (by first|(simp;done)|(simp;omega)));have k3z:=zak k3)|(have k3:blk w4 W.heap.size=some (.cells SRun.zero.cells 54):=(hB4.block _ (by first|(simp;done)|(simp;omega))).trans ((blk_alloc_past _ _ _ (by first|(simp;done)|(simp;omega))).trans (zab _ _ _ rfl));have k3z:=zak k3)|skip))
  all_goals
   go_wp2_with fail
  all_goals
   go_meet
  ·obtain ⟨q1,q2,q3,q4,q5,q6,q7⟩:=HQQ.out
   exact ⟨_,rn,ms',M',rfl,rfl,zab _ _ _ rfl,q1,q2,q3,q4,(q5.thru ((Below.refl _ w4).alloc nL _) nL).hi_mono sI,q6,q7,bL⟩
  ·obtain ⟨q1,q2,q3,q4,q5,q6,q7⟩:=HQQ.out
   exact ⟨_,rn,ms',M',rfl,rfl,blk_setBlk_same _ _ _ _ k3z,q1,q2,q3,q4,(Row.set q5 k3 dC).hi_mono (by rw [size_setBlk];exact Nat.le_refl _),q6,q7,bL⟩
  ·obtain ⟨q1,q2,q3,q4,q5,q6,q7⟩:=HQQ.out
   exact ⟨_,rn,ms',M',rfl,rfl,blk_setBlk_same _ _ _ _ k3z,q1,q2,q3,q4,(Row.set q5 k3 dC).hi_mono (by rw [size_setBlk];exact Nat.le_refl _),q6,q7,bL⟩
 obtain ⟨b,rn,ms',M',rfl,rfl,kb,q1,q2,q3,q4,q5,q6,q7,hB⟩:=hcut
 subst q4
 have GT:Aside (Calls prog 18 #[.slice rn.system.memory.p rn.system.memory.n rn.system.memory.c,.int .u16 16] wc fun e w'=>e=.returned (.int .u8 12)/\wc=w'):=by
  have e:=ztx 16 wc q5 oM
  rw [q7] at e
  exact e
 have HBF:Aside (Below w.heap.size w wc):=zaf hB BW.out BW.out.size
 clear q5 q6 q7 hB
 obtain ⟨gcn,gfn,gzn⟩:=zaa kb
 go_wp2_with (go_at_call 18;(refine GT.out.mono ?_);rintro e w5 ⟨rfl,rfl⟩)
 go_ret
 exact ⟨rfl,HBF.out⟩
end
section
open Go.RowKit
theorem zkr {k off j:Nat} {b:Option Obj} {A:Array Value} (ho:okO k b off=true) (hv:valO k b off=.agg A) (hj:j<k):zgd b (off+j)=A[j]? := by
 cases b with
 | none=>simp [okO] at ho
 | some o=>
  cases o with
  | cells C t fr=>
   simp only [okO,decide_eq_true_eq] at ho
   simp only [valO,Value.agg.injEq] at hv
   subst hv
   simp only [zgd]
   rw [Array.getElem?_extract,if_pos oM]
  | _=>simp [okO] at ho
theorem zyt {k m o off:Nat} {b:Option Obj} (ho:okO k b off=true) (hm:o+m<=k):okO m b (off+o)=true:=by
 cases b with
 | none=>simp [okO] at ho
 | some x=>
  cases x with
  | cells C t fr=>
   simp only [okO,decide_eq_true_eq] at ho ⊢
   omega
  | _=>simp [okO] at ho
theorem zuy {k m o off:Nat} {b:Option Obj} {A:Array Value} (ho:okO k b off=true) (hv:valO k b off=.agg A) (hm:o+m<=k):valO m b (off+o)=.agg (A.extract o (o+m)):=by
 cases b with
 | none=>simp [okO] at ho
 | some x=>
  cases x with
  | cells C t fr=>
   simp only [okO,decide_eq_true_eq] at ho
   simp only [valO,Value.agg.injEq] at hv ⊢
   subst hv
   apply Array.ext_getElem?
   intro i
   rw [Array.getElem?_extract,Array.getElem?_extract,Array.getElem?_extract]
   simp only [Array.size_extract]
   by_cases hi:i<m
   ·rw [if_pos oM,if_pos oM,if_pos oM]
    congr 1
    omega
   ·rw [if_neg oM,if_neg oM]
  | _=>simp [okO] at ho
theorem EvOk.get {w:World} {E:List SEvent} {L:List MEv} (h:EvOk w E L):∀ (j:Nat) (hj:j<E.length) (hl:j<L.length),E[j] = { (L[j]).e with bytes:=(E[j]).bytes }:=by
 induction h with
 | nil=>intro j hj;simp at hj
 | cons h1 h2 h3 ih=>
  intro j hj hl
  cases j with
  | zero=>exact h1
  | succ j=>exact ih j (by simpa using hj) (by simpa using hl)
theorem EvOk.row {w:World} {E:List SEvent} {L:List MEv} (h:EvOk w E L):∀ (j:Nat) (hj:j<E.length) (hl:j<L.length),Row w 0 w.heap.size 5 1 encB (E[j]).bytes (L[j]).b:=by
 induction h with
 | nil=>intro j hj;simp at hj
 | cons h1 h2 h3 ih=>
  intro j hj hl
  cases j with
  | zero=>exact h2
  | succ j=>exact ih j (by simpa using hj) (by simpa using hl)
theorem zj0 {w:World} {a:Option Addr} {len cap:Nat} {zs:List Int} (h:IsRow .i64 w a len cap zs):len=(zs.take len).length/\∀ j (hj:j<(zs.take len).length),∃ g off,a=some ⟨g,off,none⟩/\g<w.heap.size/\w.cell? ⟨g,off+j,none⟩=some (.int .i64 (zs.take len)[j]):=by
 rcases h with ⟨rfl,rfl,rfl,rfl⟩|⟨x,rfl,h2,h3,h4,h5,h6⟩
 ·exact ⟨rfl,fun j hj=>by simp at hj⟩
 ·refine ⟨by rw [List.length_take];omega,fun j hj=>?_⟩
  rw [List.length_take] at hj
  obtain ⟨g,off,sp⟩:=x
  have hc:=h5 j oM
  have hsp:sp=none:=by simpa [Addr.add] using World.cell?_spot (h5 0 oM)
  subst hsp
  have hadd:(⟨g,off,none⟩:Addr).add j=⟨g,off+j,none⟩:=by unfold Addr.add;split<;>simp_all
  rw [hadd] at hc
  refine ⟨g,off,rfl,World.block_lt_of_cell? w _ hc,?_⟩
  rw [hc,List.getElem_take]
  congr 2
  rw [List.getD_eq_getElem?_getD,List.getElem?_eq_getElem oM,Option.getD_some]
end
end Go.Proofs.YtlmbamdkklkliaaGreat
