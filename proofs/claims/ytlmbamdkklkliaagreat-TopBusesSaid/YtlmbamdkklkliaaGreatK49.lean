/- Part of the proof that a law holds at every input. No conditions. -/
import Derived.Deep.RegionWith
import Derived.RegionTactic
import Derived.Test.YtlmbamdkklkliaaGreatK46
namespace Go.Proofs.YtlmbamdkklkliaaGreat
set_option linter.unusedVariables false
set_option linter.unusedSimpArgs false
set_option linter.unusedSectionVars false
set_option maxRecDepth 100000
set_option maxHeartbeats 16000000
open Go.Proofs.Tryz
open Lib (hid)
open Go.IntWalk (iteOmega)
section
open Go.RowKit
def LnAt (w:World) (mb T:Nat) (X:Array Value) (i:SInput) (m:SMachine) (l:SLines) (wx:World):Prop:=
 blk wx mb=some (.cells (catX m.cells X) T)/\blk wx w.heap.size=some (.cells i.cells 74)/\blk wx (w.heap.size+1)=some (.cells SLines.zero.cells 59)/\blk wx (w.heap.size+1+1)=some (.cells l.cells 59)/\(mb<w.heap.size/\w.heap.size+1+1<wx.heap.size)/\w.grownBy wx (some mb)
theorem zph {w w':World} (h:Below w.drew.heap.size w.drew w'):Below w.heap.size w w':=⟨h.os,h.tape,h.output,h.size,h.block⟩
theorem zth (m:SMachine) (X:Array Value) (T mb:Nat) (i:SInput) (w:World) (hm:blk w mb=some (.cells (catX m.cells X) T)) {lo hi:Nat} {L:List SRegion} (hreg:Row w lo hi 82 4 SRegion.cells m.board.regions L) (hL:L.length<=1000000) (hhi:hi<=w.heap.size) (hT:T≠82) (h0:0<=m.sys.pic.isr) (h1:m.sys.pic.isr<=255) (hwt:0<=m.sys.waited/\m.sys.waited<=1000000) :
  Calls prog 49 #[.pointer (some ⟨mb,0,none⟩),.agg i.cells] w fun e w'=>e=.returned (.agg (zcv m.board L m.sys i).cells)/\blk w' mb=some (.cells (catX ({ m with sys:=zfx m.board m.sys i }:SMachine).cells X) T)/\w.grownBy w' (some mb):=by
 have HR:Aside (∀ W',w.grownBy W' (some mb)->Row W' lo hi 82 4 SRegion.cells m.board.regions L):=fun W' hk=>hreg.keepT fun g cur hlo hh hg=>hk.block g oM (fun e=>by cases e;rw [hm] at hg;simp only [Option.some.injEq,Obj.cells.injEq] at hg;exact hT hg.2.1)
 have HN:Aside (0<=m.sys.pic.isr/\m.sys.pic.isr<=255):=⟨h0,h1⟩
 have HHI:Aside (hi<=w.heap.size/\L.length<=1000000):=⟨hhi,hL⟩
 have HWT:Aside (0<=m.sys.waited/\m.sys.waited<=1000000):=hwt
 obtain ⟨gcm,gfm,gzm⟩:=zaa hm
 clear hreg hL hhi hT h0 h1 hwt
 go_enter func49,ntmps49
 go_upto_if 23 with fail
 refine wpNm (fun W hW=>?_)
 have f0:blk W mb=some (.cells (catX m.cells X) T):=by rw [hW];first|(simp [go_sem,↓iteOmega, *];done)|(simp [go_sem,↓iteOmega, *]<;>rfl)
 have f1:blk W w.heap.size=some (.cells i.cells 74):=by rw [hW];exact sM
 have f2:blk W (w.heap.size+1)=some (.cells SLines.zero.cells 59):=by rw [hW];exact sM
 have f3:blk W (w.heap.size+1+1)=some (.cells ({ SLines.zero with reset:=i.reset,sid:=i.sid,trap:=i.trap,r75:=i.r75,r65:=i.r65,r55:=i.r55 }:SLines).cells 59):=by rw [hW];first|(simp [go_sem,↓iteOmega, *];done)|(simp [go_sem,↓iteOmega, *]<;>rfl)
 have fz:mb<w.heap.size/\w.heap.size+1+1<W.heap.size:=by rw [hW];(try simp only [szs] at *);omega
 have fk:w.grownBy W (some mb):=by rw [hW];(repeat' (first|(with_reducible exact zec)|(with_reducible assumption)|(with_reducible refine zeb ?_)|(with_reducible refine zfu ?_ ?_)|(with_reducible refine zdc _ ?_)|(with_reducible refine zed ?_)|(with_reducible refine zdl _ ?_)|(with_reducible refine zd2 ‹_› ?_)|((try simp only [szs] at *);omega)))
 clear hW gcm gfm gzm hm
 obtain ⟨gc0,gf0,gz0⟩:=zaa f0
 obtain ⟨gc1,gf1,gz1⟩:=zaa f1
 obtain ⟨gc3,gf3,gz3⟩:=zaa f3
 obtain ⟨p1,hp1⟩:∃ p,zgj m.board m.sys i=p:=⟨_,rfl⟩
 obtain ⟨v1,hv1⟩:∃ v,(if m.board.jam=true then bits .and .u8 i.requests 1==1 else intC (zi8 m.sys.pic i.requests))=v:=⟨_,rfl⟩
 have HP1:=hid hp1
 have HV1:=hid hv1
 go_cut [] (fun wx=>LnAt w mb T X i ({ m with sys := { m.sys with pic:=p1 } }:SMachine) ({ ({ SLines.zero with reset:=i.reset,sid:=i.sid,trap:=i.trap,r75:=i.r75,r65:=i.r65,r55:=i.r55 }:SLines) with intr:=v1 }) wx)
 case first=>
  unfold zgj at hp1
  cases hj:m.board.jam
  ·rw [hj] at hp1 hv1
   simp only [Bool.false_eq_true,if_false] at hp1 hv1
   have hq0:0<=p1.isr:=by rw [<- hp1];exact HN.out.1
   have hq1:p1.isr<=255:=by rw [<- hp1];exact HN.out.2
   have RA:∀ w0,Calls prog 78 #[.agg m.sys.pic.cells,.int .u8 i.requests] w0 fun e w'=>e=.returned (.agg p1.cells)/\Below w0.heap.size w0 w':=fun w0=>by rw [<- hp1];exact zq2 _ _ _
   have RB:=hid RA
   rw [hp1] at hv1
   clear RA hp1
   go_upto_region 4 with fail
   have q0:∀ d os,blk (Go.Sort.grow (redrawn W d) os) mb=some (.cells (catX m.cells X) T):=fun d os=>((below_regrown W d os).block _ oM).trans aS
   have qc0:∀ d os ix,(Go.Sort.grow (redrawn W d) os).cell? ⟨mb,ix,none⟩=((catX m.cells X))[ix]? := fun d os ix=>(zaa (q0 d os)).1 ix
   have q1:∀ d os,blk (Go.Sort.grow (redrawn W d) os) w.heap.size=some (.cells i.cells 74):=fun d os=>((below_regrown W d os).block _ oM).trans aS
   have qc1:∀ d os ix,(Go.Sort.grow (redrawn W d) os).cell? ⟨w.heap.size,ix,none⟩=(i.cells)[ix]? := fun d os ix=>(zaa (q1 d os)).1 ix
   refine zad 9 kR kR ?_
   simp only [tkd]
   repeat (quiet_step (first|(go_at_call 78;exact Calls.regrown_of (RB.out _))))
   refine wpQuiet_nil ?_
   intro wq hwq
   have hBq:Below W.heap.size W wq:=by obtain ⟨p,rfl⟩:=hwq;exact below_regrown _ _ _
   clear hwq q0 qc0 q1 qc1
   have g0:blk wq mb=some (.cells (catX m.cells X) T):=(hBq.block _ oM).trans f0
   have g1:blk wq w.heap.size=some (.cells i.cells 74):=(hBq.block _ oM).trans f1
   have g2:blk wq (w.heap.size+1)=some (.cells SLines.zero.cells 59):=(hBq.block _ oM).trans f2
   have g3:blk wq (w.heap.size+1+1)=some (.cells ({ SLines.zero with reset:=i.reset,sid:=i.sid,trap:=i.trap,r75:=i.r75,r65:=i.r65,r55:=i.r55 }:SLines).cells 59):=(hBq.block _ oM).trans f3
   have gk:=zd2 hBq fk
   have gz:mb<w.heap.size/\w.heap.size+1+1<wq.heap.size:=⟨fz.1,Nat.lt_of_lt_of_le fz.2 hBq.size⟩
   clear hBq f0 f1 f2 f3 fk fz gc0 gf0 gz0 gc1 gf1 gz1 gc3 gf3 gz3
   obtain ⟨gc0,gf0,gz0⟩:=zaa g0
   obtain ⟨gc1,gf1,gz1⟩:=zaa g1
   obtain ⟨gc3,gf3,gz3⟩:=zaa g3
   go_upto_region 5 with fail
   refine wpNm (fun W2 hW=>?_)
   have k0:blk W2 mb=some (.cells (catX ({ m with sys := { m.sys with pic:=p1 } }:SMachine).cells X) T):=by rw [hW];first|(simp [go_sem,↓iteOmega, *];done)|(simp [go_sem,↓iteOmega, *]<;>rfl)
   have k1:blk W2 w.heap.size=some (.cells i.cells 74):=by rw [hW];exact sM
   have k2:blk W2 (w.heap.size+1)=some (.cells SLines.zero.cells 59):=by rw [hW];exact sM
   have k3:blk W2 (w.heap.size+1+1)=some (.cells ({ SLines.zero with reset:=i.reset,sid:=i.sid,trap:=i.trap,r75:=i.r75,r65:=i.r65,r55:=i.r55 }:SLines).cells 59):=by rw [hW];first|(simp [go_sem,↓iteOmega, *];done)|(simp [go_sem,↓iteOmega, *]<;>rfl)
   have kz:mb<w.heap.size/\w.heap.size+1+1<W2.heap.size:=by rw [hW];(try simp only [szs] at *);omega
   have kk:w.grownBy W2 (some mb):=by rw [hW];(repeat' (first|(with_reducible exact zec)|(with_reducible assumption)|(with_reducible refine zeb ?_)|(with_reducible refine zfu ?_ ?_)|(with_reducible refine zdc _ ?_)|(with_reducible refine zed ?_)|(with_reducible refine zdl _ ?_)|(with_reducible refine zd2 ‹_› ?_)|((try simp only [szs] at *);omega)))
   clear hW g0 g1 g2 g3 gk gz gc0 gf0 gz0 gc1 gf1 gz1 gc3 gf3 gz3
   obtain ⟨gc0,gf0,gz0⟩:=zaa k0
   obtain ⟨gc1,gf1,gz1⟩:=zaa k1
   obtain ⟨gc3,gf3,gz3⟩:=zaa k3
   go_wp2_with (first|(go_at_call 79;with_reducible refine Cbv (zwd _ _ hq0 hq1) ?_;intro w' hB hb1 hb2 hb3 hs;(try simp only [szs] at hs hb1 hb2 hb3)))
   go_meet
   case rel=>
    refine ⟨?_,?_,?_,?_,?_,?_⟩
    ·first|(simp [go_sem,↓iteOmega, *];done)|(simp [go_sem,↓iteOmega, *]<;>rfl)
    ·first|(simp [go_sem,↓iteOmega, *];done)|(simp [go_sem,↓iteOmega, *]<;>rfl)
    ·first|(simp [go_sem,↓iteOmega, *];done)|(simp [go_sem,↓iteOmega, *]<;>rfl)
    ·first|(simp [go_sem,↓iteOmega, *];done)|(simp [go_sem,↓iteOmega, *]<;>rfl)
    ·(try simp only [szs] at *);omega
    ·(repeat' (first|(with_reducible exact zec)|(with_reducible assumption)|(with_reducible refine zeb ?_)|(with_reducible refine zfu ?_ ?_)|(with_reducible refine zdc _ ?_)|(with_reducible refine zed ?_)|(with_reducible refine zdl _ ?_)|(with_reducible refine zd2 ‹_› ?_)|((try simp only [szs] at *);omega)))
  ·rw [hj] at hp1 hv1
   simp only [if_true] at hp1 hv1
   subst hp1
   go_wp2_with fail
   go_meet
   case rel=>
    refine ⟨?_,?_,?_,?_,?_,?_⟩
    ·first|(simp [go_sem,↓iteOmega, *];done)|(simp [go_sem,↓iteOmega, *]<;>rfl)
    ·first|(simp [go_sem,↓iteOmega, *];done)|(simp [go_sem,↓iteOmega, *]<;>rfl)
    ·first|(simp [go_sem,↓iteOmega, *];done)|(simp [go_sem,↓iteOmega, *]<;>rfl)
    ·first|(simp [go_sem,↓iteOmega, *];done)|(simp [go_sem,↓iteOmega, *]<;>rfl)
    ·(try simp only [szs] at *);omega
    ·(repeat' (first|(with_reducible exact zec)|(with_reducible assumption)|(with_reducible refine zeb ?_)|(with_reducible refine zfu ?_ ?_)|(with_reducible refine zdc _ ?_)|(with_reducible refine zed ?_)|(with_reducible refine zdl _ ?_)|(with_reducible refine zd2 ‹_› ?_)|((try simp only [szs] at *);omega)))
 clear f0 f1 f2 f3 fz fk gc0 gf0 gz0 gc1 gf1 gz1 gc3 gf3 gz3 hp1 hv1
 obtain ⟨f0,f1,f2,f3,fz,fk⟩:=hcut
 obtain ⟨gc0,gf0,gz0⟩:=zaa f0
 obtain ⟨gc1,gf1,gz1⟩:=zaa f1
 obtain ⟨gc3,gf3,gz3⟩:=zaa f3
 obtain ⟨b1,hbv⟩:∃ v,(i.hold||zg6 m.sys.dma)=v:=⟨_,rfl⟩
 have HB1:=hid hbv
 go_upto_region 6 with fail
 go_cut [] (fun wx=>LnAt w mb T X i ({ m with sys := { m.sys with pic:=p1 } }:SMachine) ({ ({ SLines.zero with reset:=i.reset,sid:=i.sid,trap:=i.trap,r75:=i.r75,r65:=i.r65,r55:=i.r55 }:SLines) with intr:=v1,hold:=b1 }) wx)
 case first=>
  cases hh:i.hold
  ·rw [hh,Bool.false_or] at hbv
   go_wp2_with (first|(go_at_call 55;with_reducible refine Cbv (zgi _ _) ?_;intro w' hB hb1 hb2 hb3 hs;(try simp only [szs] at hs hb1 hb2 hb3)))
   go_meet
   case rel=>
    refine ⟨?_,?_,?_,?_,?_,?_⟩
    ·first|(simp [go_sem,↓iteOmega, *];done)|(simp [go_sem,↓iteOmega, *]<;>rfl)
    ·first|(simp [go_sem,↓iteOmega, *];done)|(simp [go_sem,↓iteOmega, *]<;>rfl)
    ·first|(simp [go_sem,↓iteOmega, *];done)|(simp [go_sem,↓iteOmega, *]<;>rfl)
    ·first|(simp [go_sem,↓iteOmega, *];done)|(simp [go_sem,↓iteOmega, *]<;>rfl)
    ·(try simp only [szs] at *);omega
    ·(repeat' (first|(with_reducible exact zec)|(with_reducible assumption)|(with_reducible refine zeb ?_)|(with_reducible refine zfu ?_ ?_)|(with_reducible refine zdc _ ?_)|(with_reducible refine zed ?_)|(with_reducible refine zdl _ ?_)|(with_reducible refine zd2 ‹_› ?_)|((try simp only [szs] at *);omega)))
  ·rw [hh,Bool.true_or] at hbv
   subst hbv
   go_wp2_with fail
   go_meet
   case rel=>
    refine ⟨?_,?_,?_,?_,?_,?_⟩
    ·first|(simp [go_sem,↓iteOmega, *];done)|(simp [go_sem,↓iteOmega, *]<;>rfl)
    ·first|(simp [go_sem,↓iteOmega, *];done)|(simp [go_sem,↓iteOmega, *]<;>rfl)
    ·first|(simp [go_sem,↓iteOmega, *];done)|(simp [go_sem,↓iteOmega, *]<;>rfl)
    ·first|(simp [go_sem,↓iteOmega, *];done)|(simp [go_sem,↓iteOmega, *]<;>rfl)
    ·(try simp only [szs] at *);omega
    ·(repeat' (first|(with_reducible exact zec)|(with_reducible assumption)|(with_reducible refine zeb ?_)|(with_reducible refine zfu ?_ ?_)|(with_reducible refine zdc _ ?_)|(with_reducible refine zed ?_)|(with_reducible refine zdl _ ?_)|(with_reducible refine zd2 ‹_› ?_)|((try simp only [szs] at *);omega)))
 clear f0 f1 f2 f3 fz fk gc0 gf0 gz0 gc1 gf1 gz1 gc3 gf3 gz3 hbv
 obtain ⟨f0,f1,f2,f3,fz,fk⟩:=hcut
 obtain ⟨gc0,gf0,gz0⟩:=zaa f0
 obtain ⟨gc1,gf1,gz1⟩:=zaa f1
 obtain ⟨gc3,gf3,gz3⟩:=zaa f3
 obtain ⟨n1,hn1⟩:∃ v,zf1 m.sys=v:=⟨_,rfl⟩
 have HN1:=hid hn1
 go_upto_if 65 with fail
 go_cut [] (fun wx=>LnAt w mb T X i ({ m with sys := { m.sys with pic:=p1,waited:=n1 } }:SMachine) ({ ({ SLines.zero with reset:=i.reset,sid:=i.sid,trap:=i.trap,r75:=i.r75,r65:=i.r65,r55:=i.r55 }:SLines) with intr:=v1,hold:=b1 }) wx)
 case first=>
  unfold zf1 wrap64 at hn1
  have hw:=HWT.out
  cases hx:(m.sys.core.next==7)
  ·have hx':¬(m.sys.core.next=7):=beq_eq_false_iff_ne.1 hx
   rw [if_neg hx'] at hn1
   subst hn1
   clear hx'
   go_wp2_with fail
   go_meet
   case rel=>
    refine ⟨?_,?_,?_,?_,?_,?_⟩
    ·first|(simp [go_sem,↓iteOmega, *];done)|(simp [go_sem,↓iteOmega, *]<;>rfl)
    ·first|(simp [go_sem,↓iteOmega, *];done)|(simp [go_sem,↓iteOmega, *]<;>rfl)
    ·first|(simp [go_sem,↓iteOmega, *];done)|(simp [go_sem,↓iteOmega, *]<;>rfl)
    ·first|(simp [go_sem,↓iteOmega, *];done)|(simp [go_sem,↓iteOmega, *]<;>rfl)
    ·(try simp only [szs] at *);omega
    ·(repeat' (first|(with_reducible exact zec)|(with_reducible assumption)|(with_reducible refine zeb ?_)|(with_reducible refine zfu ?_ ?_)|(with_reducible refine zdc _ ?_)|(with_reducible refine zed ?_)|(with_reducible refine zdl _ ?_)|(with_reducible refine zd2 ‹_› ?_)|((try simp only [szs] at *);omega)))
  ·have hx':m.sys.core.next=7:=beq_iff_eq.1 hx
   rw [if_pos hx'] at hn1
   have e1:IntKind.i64.wrap (m.sys.waited+1)=n1:=by rw [IntKind.wrap_i64,<- hn1]
   have e2:n1=m.sys.waited+1:=oM
   subst e2
   clear hx' hn1
   go_wp2_with fail
   go_meet
   case rel=>
    refine ⟨?_,?_,?_,?_,?_,?_⟩
    ·first|(simp [go_sem,↓iteOmega, *];done)|(simp [go_sem,↓iteOmega, *]<;>rfl)
    ·first|(simp [go_sem,↓iteOmega, *];done)|(simp [go_sem,↓iteOmega, *]<;>rfl)
    ·first|(simp [go_sem,↓iteOmega, *];done)|(simp [go_sem,↓iteOmega, *]<;>rfl)
    ·first|(simp [go_sem,↓iteOmega, *];done)|(simp [go_sem,↓iteOmega, *]<;>rfl)
    ·(try simp only [szs] at *);omega
    ·(repeat' (first|(with_reducible exact zec)|(with_reducible assumption)|(with_reducible refine zeb ?_)|(with_reducible refine zfu ?_ ?_)|(with_reducible refine zdc _ ?_)|(with_reducible refine zed ?_)|(with_reducible refine zdl _ ?_)|(with_reducible refine zd2 ‹_› ?_)|((try simp only [szs] at *);omega)))
 clear f0 f1 f2 f3 fz fk gc0 gf0 gz0 gc1 gf1 gz1 gc3 gf3 gz3 hn1
 obtain ⟨f0,f1,f2,f3,fz,fk⟩:=hcut
 obtain ⟨gc0,gf0,gz0⟩:=zaa f0
 obtain ⟨gc1,gf1,gz1⟩:=zaa f1
 obtain ⟨gc3,gf3,gz3⟩:=zaa f3
 obtain ⟨nd,hnd⟩:∃ v,zrc m.board L m.sys.core.cycle=v:=⟨_,rfl⟩
 have HND:=hid hnd
 have ED:zcv m.board L m.sys i=({ ({ SLines.zero with reset:=i.reset,sid:=i.sid,trap:=i.trap,r75:=i.r75,r65:=i.r65,r55:=i.r55 }:SLines) with intr:=v1,hold:=b1,ready:=i.ready&&decide (nd<=n1) }:SLines):=by
  unfold zcv
  rw [HN1.out,HND.out,HV1.out,HB1.out]
 have ES:zfx m.board m.sys i = { m.sys with pic:=p1,waited:=n1 }:=by unfold zfx;rw [HP1.out,HN1.out]
 have NE:∀ w0,blk w0 mb=some (.cells (catX ({ m with sys := { m.sys with pic:=p1,waited:=n1 } }:SMachine).cells X) T)->w.grownBy w0 (some mb)->Calls prog 80 #[.pointer (some ⟨mb,0,none⟩)] w0 fun e w'=>e=.returned (.int .i64 nd)/\Below w0.heap.size w0 w':=fun w0 hb hk=>by
  rw [<- HND.out]
  exact zv2 ({ m with sys := { m.sys with pic:=p1,waited:=n1 } }:SMachine) X T mb w0 hb (HR.out w0 hk) HHI.out.2 (Nat.le_trans HHI.out.1 hk.size)
 have NB:=hid NE
 have EDH:=hid ED
 have ESH:=hid ES
 clear ED ES NE hnd
 cases hrd:i.ready
 ·go_upto_region 10 with fail
  go_region
  all_goals go_wp2_with fail
  all_goals
   refine SLines.ret (zcv m.board L m.sys i) rfl rfl ?_ rfl ⟨rfl,?_,?_⟩
   ·rw [EDH.out];first|(simp [go_sem,↓iteOmega, *];done)|(simp [go_sem,↓iteOmega, *]<;>rfl)
   ·rw [ESH.out];exact sM
   ·(repeat' (first|(with_reducible exact zec)|(with_reducible assumption)|(with_reducible refine zeb ?_)|(with_reducible refine zfu ?_ ?_)|(with_reducible refine zdc _ ?_)|(with_reducible refine zed ?_)|(with_reducible refine zdl _ ?_)|(with_reducible refine zd2 ‹_› ?_)|((try simp only [szs] at *);omega)))
 ·go_upto_region 10 with fail
  go_region_with (first|(go_at_call 80;(refine (NB.out _ (by simp [go_sem, *]) (by (repeat' (first|(with_reducible exact zec)|(with_reducible assumption)|(with_reducible refine zeb ?_)|(with_reducible refine zfu ?_ ?_)|(with_reducible refine zdc _ ?_)|(with_reducible refine zed ?_)|(with_reducible refine zdl _ ?_)|(with_reducible refine zd2 ‹_› ?_)|((try simp only [szs] at *);omega))))).mono ?_);rintro e w' ⟨rfl,hB⟩;replace hB:=zph hB;obtain ⟨hb1,hb2,hb3⟩:=zdn hB;have hs:=hB.size;(try simp only [szs] at hs hb1 hb2 hb3)))
  all_goals go_wp2_with fail
  all_goals
   refine SLines.ret (zcv m.board L m.sys i) rfl rfl ?_ rfl ⟨rfl,?_,?_⟩
   ·rw [EDH.out];first|(simp [go_sem,↓iteOmega, *];done)|(simp [go_sem,↓iteOmega, *]<;>rfl)
   ·rw [ESH.out];exact sM
   ·(repeat' (first|(with_reducible exact zec)|(with_reducible assumption)|(with_reducible refine zeb ?_)|(with_reducible refine zfu ?_ ?_)|(with_reducible refine zdc _ ?_)|(with_reducible refine zed ?_)|(with_reducible refine zdl _ ?_)|(with_reducible refine zd2 ‹_› ?_)|((try simp only [szs] at *);omega)))
end
end Go.Proofs.YtlmbamdkklkliaaGreat
