/- Part of the proof that a law holds at every input. No conditions. -/
import Derived.Deep.AppendLies
import Derived.Deep.DeepCutAuto
import Derived.Deep.RegionHeld3
import Derived.Deep.RegionLaw
import Derived.Deep.RegionWith
import Derived.Lib.Hide
import Derived.Lib.QuietBelow
import Derived.RegionTactic
import Derived.Test.YtlmbamdkklkliaaGreatK34
namespace Go.Proofs.YtlmbamdkklkliaaGreat
set_option linter.unusedVariables false
set_option linter.unusedSimpArgs false
set_option linter.unusedSectionVars false
set_option maxRecDepth 100000
set_option maxHeartbeats 16000000
open Go.Proofs.Tryz
open Lib (hid)
open Go.IntWalk (iteOmega)
section
open Go.RowKit
def z1e (lo rb:Nat) (r:SRecorder) (E:List SEvent) (C:List SCPU) (e:SEvent) (c:SCPU) (w:World) (en:Ending) (w':World):Prop:=
 en=.returned (.tuple #[])/\∃ ev cp:Sl,blk w' rb=some (.cells ({ r with last:=c,run := { r.run with events:=ev,cpus:=cp } }:SRecorder).cells 93)/\Row w' lo w'.heap.size 63 18 SEvent.cells ev (E++[e])/\Row w' lo w'.heap.size 41 28 SCPU.cells cp (C++[c])/\Kept lo rb [63,41] w w'
theorem zuf (r:SRecorder) (rb:Nat) (e:SEvent) (c:SCPU) (w:World) {lo:Nat} {E:List SEvent} {C:List SCPU} (hm:blk w rb=some (.cells r.cells 93)) (he:Row w lo w.heap.size 63 18 SEvent.cells r.run.events E) (hc:Row w lo w.heap.size 41 28 SCPU.cells r.run.cpus C) (hE:E.length<=900000) (hC:C.length<=900000) (hlo:lo<=rb) :
  Calls prog 48 #[.pointer (some ⟨rb,0,none⟩),.agg e.cells,.agg c.cells] w (z1e lo rb r E C e c w):=by
 have hlt:=zak hm
 have HM0:=hid hm
 have HE:=hid he
 have HC:=hid hc
 clear he hc
 obtain ⟨gcm,gfm,gzm⟩:=zaa hm
 go_enter func48,ntmps48
 go_upto_region 2 with fail
 refine wpNm (fun W hW=>?_)
 have f0:blk W rb=some (.cells ({ r with last:=c }:SRecorder).cells 93):=by rw [hW];exact sM
 have f1:blk W w.heap.size=some (.cells e.cells 63):=by rw [hW];exact sM
 have f2:blk W (w.heap.size+1)=some (.cells c.cells 41):=by rw [hW];exact sM
 have fz:rb<w.heap.size/\rb<W.heap.size/\w.heap.size+1<W.heap.size:=by rw [hW];(try simp only [szs] at *);omega
 have fK:Kept lo rb [] w W:=by rw [hW];(repeat' (first|(with_reducible exact Kept.refl)|(with_reducible refine Kept.setM ?_ hlo)|(with_reducible refine Kept.set ?_ ?_ ?_)|(with_reducible refine Kept.alloc _ ?_ ?_)|(with_reducible refine Kept.drew ?_)|(with_reducible refine Kept.drewN _ ?_)|((try simp only [szs]);omega)))
 have re:Row W lo W.heap.size 63 18 SEvent.cells r.run.events E:=(HE.out.kept fK HM0.out dC sI).hi_mono fK.size
 have rc:Row W lo W.heap.size 41 28 SCPU.cells r.run.cpus C:=(HC.out.kept fK HM0.out dC sI).hi_mono fK.size
 have RE:=hid re
 have RC:=hid rc
 have FK:=hid fK
 have F0:=hid f0
 clear hW gcm gfm gzm hm fK re rc
 obtain ⟨gcm,gfm,gzm⟩:=zaa f0
 obtain ⟨gc1,gf1,gz1⟩:=zaa f1
 go_cut [] (fun wx=>∃ ou:Sl,blk wx rb=some (.cells ({ r with last:=c,run := { r.run with events:=ou } }:SRecorder).cells 93)/\blk wx (w.heap.size+1)=some (.cells c.cells 41)/\Row wx lo wx.heap.size 63 18 SEvent.cells ou (E++[e])/\Kept lo rb [63] W wx)
 case first=>
  go_region_law ((refine zbr rfl _ _ 33 (by rfl) ((RE.out.thru ((Below.refl _ W).drew) nL).thru ((Below.refl _ W.drew).alloc nL _) nL) (fun _=>rfl) SEvent.one oM SEvent.info (by rfl) [(e:SEvent)] W.heap.size (e:SEvent).cells 63 1 1 (by rfl) (zab _ _ _ rfl) (by simp [encL]) rfl oM oM sO ?_;intro s' w2 hrow hgr;have hat:=hgr.kept rb _ _ dC ((blk_alloc_past _ rb _ (zak F0.out)).trans F0.out);have hkf2:=hgr.kept (w.heap.size+1) _ _ dC ((blk_alloc_past _ _ _ (zak f2)).trans f2);obtain ⟨hcl1,hfr1,hlt1⟩:=zaa hat))
  all_goals go_wp2_with fail
  all_goals
   go_meet
   refine ⟨s',?_,?_,?_,?_⟩
   ·first|(simp [go_sem,↓iteOmega, *];done)|(simp [go_sem,↓iteOmega, *]<;>rfl)
   ·exact (blk_setBlk_other _ _ _ _ _ (by have:=zak f2;omega)).trans hkf2
   ·exact Row.hi_mono (Row.set hrow hat dC) (by rw [size_setBlk];exact Nat.le_refl _)
   ·exact Kept.setM ((Kept.alloc _ (Kept.drew Kept.refl) sO).trans (Kept.of_grew hgr sI)) hlo
 obtain ⟨ev,g0,g2,re2,hk1⟩:=hcut
 have rc2:Row wc lo wc.heap.size 41 28 SCPU.cells r.run.cpus C:=(RC.out.kept hk1 F0.out dC dC).hi_mono hk1.size
 have RE2:=hid re2
 have RC2:=hid rc2
 have HK1:=hid hk1
 have gz:w.heap.size+1<wc.heap.size:=zak g2
 clear gcm gfm gzm gc1 gf1 gz1 f0 f1 f2 re2 rc2 hk1
 have G0:=hid g0
 obtain ⟨gcm,gfm,gzm⟩:=zaa g0
 obtain ⟨gc2,gf2,gz2⟩:=zaa g2
 go_upto_region 3 with fail
 go_region_law ((refine zbr rfl _ _ 34 (by rfl) ((RC2.out.thru ((Below.refl _ wc).drew) nL).thru ((Below.refl _ wc.drew).alloc nL _) nL) (fun _=>rfl) SCPU.one oM SCPU.info (by rfl) [(c:SCPU)] wc.heap.size (c:SCPU).cells 41 1 1 (by rfl) (zab _ _ _ rfl) (by simp [encL]) rfl oM oM sO ?_;intro s' w2 hrow hgr;have hat:=hgr.kept rb _ _ dC ((blk_alloc_past _ rb _ (zak G0.out)).trans G0.out);obtain ⟨hcl1,hfr1,hlt1⟩:=zaa hat))
 all_goals go_wp2_with fail
 all_goals
  go_end0
  have k0:blk (zai w2 rb ({ r with last:=c,run := { r.run with events:=ev,cpus:=s' } }:SRecorder).cells 93) rb=some (.cells ({ r with last:=c,run := { r.run with events:=ev,cpus:=s' } }:SRecorder).cells 93):=blk_setBlk_same _ _ _ _ hlt1
  have rw2:Row (zai w2 rb ({ r with last:=c,run := { r.run with events:=ev,cpus:=s' } }:SRecorder).cells 93) lo (zai w2 rb ({ r with last:=c,run := { r.run with events:=ev,cpus:=s' } }:SRecorder).cells 93).heap.size 41 28 SCPU.cells s' (C++[c]):=Row.hi_mono (Row.set hrow hat dC) (by rw [size_setBlk];exact Nat.le_refl _)
  have hk2:Kept lo rb [41] wc (zai w2 rb ({ r with last:=c,run := { r.run with events:=ev,cpus:=s' } }:SRecorder).cells 93):=Kept.setM ((Kept.alloc _ (Kept.drew Kept.refl) sO).trans (Kept.of_grew hgr sI)) hlo
  have hW2:∀ A:Array Value,A=({ r with last:=c,run := { r.run with events:=ev,cpus:=s' } }:SRecorder).cells->zai w2 rb A 93=zai w2 rb ({ r with last:=c,run := { r.run with events:=ev,cpus:=s' } }:SRecorder).cells 93:=fun A h=>by rw [h]
  have re3:=RE2.out.kept hk2 G0.out dC dC
  exact ⟨rfl,ev,s',k0,re3.hi_mono hk2.size,rw2,((FK.out.more sI).trans (HK1.out.more sI)).trans (hk2.more sI)⟩
end
section
open Go.RowKit
theorem zks {w w':World} (h:Below w.drew.heap.size w.drew w'):Below w.heap.size w w':=⟨h.os,h.tape,h.output,h.size,h.block⟩
inductive EvOk (w:World):List SEvent->List MEv->Prop
 | nil:EvOk w [] []
 | cons {e:SEvent} {m:MEv} {E:List SEvent} {L:List MEv} (he:e = { m.e with bytes:=e.bytes }) (hb:Row w 0 w.heap.size 5 1 encB e.bytes m.b) (h:EvOk w E L):EvOk w (e::E) (m::L)
theorem EvOk.app {w:World} {E:List SEvent} {L:List MEv} (h:EvOk w E L) (e:SEvent) (m:MEv) (he:e = { m.e with bytes:=e.bytes }) (hb:Row w 0 w.heap.size 5 1 encB e.bytes m.b):EvOk w (E++[e]) (L++[m]):=by
 induction h with
 | nil=>exact EvOk.cons he hb EvOk.nil
 | cons h1 h2 _ ih=>exact EvOk.cons h1 h2 ih
theorem EvOk.kept {lo mb:Nat} {ts:List TypeId} {w w':World} {E:List SEvent} {L:List MEv} {A:Array Value} {T:TypeId} (h:EvOk w E L) (hk:Kept lo mb ts w w') (hm:blk w mb=some (.cells A T)) (hT:T≠5) (ht:5 ∉ ts):EvOk w' E L:=by
 induction h with
 | nil=>exact EvOk.nil
 | cons h1 h2 _ ih=>exact EvOk.cons h1 ((h2.kept hk hm hT ht).hi_mono hk.size) ih
theorem EvOk.len {w:World} {E:List SEvent} {L:List MEv} (h:EvOk w E L):E.length=L.length:=by
 induction h with
 | nil=>rfl
 | cons _ _ _ ih=>simp [ih]
structure RecAt (w:World) (lo rb:Nat) (r:SRecorder) (q:RecM) (I:List SItem):Prop where
 m:blk w rb=some (.cells r.cells 93)
 tr:Row w lo w.heap.size 76 17 SPins.cells r.run.trace q.tr
 it:Row w lo w.heap.size 154 9 SItem.cells r.run.items I
 ev:∃ E,Row w lo w.heap.size 63 18 SEvent.cells r.run.events E/\EvOk w E q.ev
 cp:Row w lo w.heap.size 41 28 SCPU.cells r.run.cpus q.cp
 last:r.last=q.last
theorem RecAt.kept {w w':World} {lo rb:Nat} {r:SRecorder} {q:RecM} {I:List SItem} {ts:List TypeId} (h:RecAt w lo rb r q I) (hk:Kept lo rb ts w w') (hm:blk w' rb=some (.cells r.cells 93)) (h1:76 ∉ ts) (h2:154 ∉ ts) (h3:63 ∉ ts) (h4:41 ∉ ts) (h5:5 ∉ ts):RecAt w' lo rb r q I:=by
 obtain ⟨E,e1,e2⟩:=h.ev
 exact ⟨hm,(h.tr.kept hk h.m dC h1).hi_mono hk.size,(h.it.kept hk h.m dC h2).hi_mono hk.size,⟨E,(e1.kept hk h.m dC h3).hi_mono hk.size,e2.kept hk h.m dC h5⟩,(h.cp.kept hk h.m dC h4).hi_mono hk.size,h.last⟩
theorem RecAt.thru {w w':World} {lo rb:Nat} {r:SRecorder} {q:RecM} {I:List SItem} (h:RecAt w lo rb r q I) (hB:Below w.heap.size w w') (hlo:lo<=rb):RecAt w' lo rb r q I:=
 h.kept (Kept.of_below (ts:=[]) hB (by have:=zak h.m;omega)) ((hB.block _ (zak h.m)).trans h.m) sI sI sI sI sI
theorem RecAt.model {w:World} {lo rb:Nat} {r:SRecorder} {q:RecM} {I:List SItem} (t:Mach) (h:RecAt w lo rb r q I):RecAt w lo rb r { q with t:=t } I:=⟨h.m,h.tr,h.it,h.ev,h.cp,h.last⟩
def Told (lo rb:Nat) (r:SRecorder) (q:RecM) (I:List SItem) (w:World) (en:Ending) (w':World):Prop:=
 en=.returned (.tuple #[])/\∃ r':SRecorder,r'.machine=r.machine/\RecAt w' lo rb r' q I/\Kept lo rb [63,41] w w'
theorem zhb {w:World} {lo rb:Nat} {r:SRecorder} {q:RecM} {I:List SItem} (h:RecAt w lo rb r q I) (e:SEvent) (m:MEv) (c:SCPU) (he:e = { m.e with bytes:=e.bytes }) (hb:Row w 0 w.heap.size 5 1 encB e.bytes m.b) (hE:q.ev.length<=900000) (hC:q.cp.length<=900000) (hlo:lo<=rb) :
  Calls prog 48 #[.pointer (some ⟨rb,0,none⟩),.agg e.cells,.agg c.cells] w (Told lo rb r (addE q m c) I w):=by
 obtain ⟨E,e1,e2⟩:=h.ev
 refine (zuf r rb e c w h.m e1 h.cp (by rw [e2.len];exact hE) hC hlo).mono ?_
 rintro en w' ⟨rfl,ev,cp,k0,k1,k2,hk⟩
 refine ⟨rfl,({ r with last:=c,run := { r.run with events:=ev,cpus:=cp } }:SRecorder),rfl,⟨k0,(h.tr.kept hk h.m dC dC).hi_mono hk.size,(h.it.kept hk h.m dC dC).hi_mono hk.size,⟨_,k1,(e2.kept hk h.m dC dC).app e m he ((hb.kept hk h.m dC dC).hi_mono hk.size)⟩,k2,rfl⟩,hk⟩
end
section
open Go.RowKit
theorem zx9 (c:SCore) (G:List Int) (h:c.got.n=G.length):busy c=znt c G:=by unfold busy znt;rw [h]
theorem sfin {w':World} {rb cb:Nat} {c:SCore} {r:SRecorder} {l:SCPU} (hc:blk w' cb=some (.cells c.cells 45)) (hr:blk w' rb=some (.cells r.cells 93)) (hl:r.last=l):(w'.cell? ⟨cb,28,none⟩=some (.int .i64 c.source)/\w'.cell? ⟨cb,29,none⟩=some (.slice c.got.p c.got.n c.got.c))/\okO 28 (blk w' rb) 135=true/\valO 28 (blk w' rb) 135=.agg l.cells:=by
 rw [hr,(zaa hc).1,(zaa hc).1,<- hl]
 refine ⟨⟨?_,?_⟩,?_,?_⟩<;>simp [go_sem]
theorem zrn {w:World} {lo rb:Nat} {r:SRecorder} {q:RecM} {I:List SItem} (h:RecAt w lo rb r q I) (hlo:lo<=rb) (hE:q.ev.length<=900000) (hC:q.cp.length<=900000) {G:List Int} (hg:Row w 0 w.heap.size 5 1 encB r.machine.sys.core.got G) (hG:G.length<=900000) (hq:({ q.t.s.core with got:=r.machine.sys.core.got }:SCore)=r.machine.sys.core) (hqg:q.t.g=G) :
  Calls prog 24 #[.pointer (some ⟨rb,0,none⟩)] w (Told lo rb r (zew q) I w):=by
 have hm:=h.m
 have hlt:=zak hm
 have hn:=hg.len
 have hbz:busy r.machine.sys.core=znt q.t.s.core q.t.g:=by rw [zx9 _ _ hn,hqg,<- hq];rfl
 have hsr:q.t.s.core.source=r.machine.sys.core.source:=by rw [<- hq]
 obtain ⟨b,hb⟩:∃ b,znt q.t.s.core q.t.g=b:=⟨_,rfl⟩
 have EF:zew q=if b=true then addE q ⟨zq6 q.t.s.core,q.t.g⟩ q.last else q:=by unfold zew;rw [hb]
 have HF:=hid EF
 have H:=hid h
 have HG:=hid hg
 have HL:Aside (r.last=q.last):=h.last
 have HSR:=hid hsr
 have HQG:=hid hqg
 rw [hb] at hbz
 obtain ⟨gcm,gfm,gzm⟩:=zaa hm
 clear h hg hn hq hqg hsr hb EF
 go_enter func24,ntmps24
 go_upto_if 10 with (go_at_call 58;(refine (zql _ _).mono ?_);rintro e w1 ⟨rfl,hB1⟩;(try replace hB1:=zks hB1))
 refine wpNm (fun W hW=>?_)
 have hBW:Below w.heap.size w W:=by rw [hW];exact bL
 have f0:blk W rb=some (.cells r.cells 93):=(hBW.block _ hlt).trans hm
 have f1:blk W w.heap.size=some (.cells r.machine.sys.core.cells 45):=by rw [hW];exact (hB1.block _ (by (try simp only [szs]);omega)).trans (by first|exact zab _ _ _ rfl|(simp [go_sem,↓iteOmega, *]))
 have BW:=hid hBW
 have F0:=hid f0
 have F1:=hid f1
 have HW:Aside (RecAt W lo rb r q I):=H.out.thru hBW hlo
 have HGW:Aside (Row W 0 W.heap.size 5 1 encB r.machine.sys.core.got G):=(HG.out.thru hBW nL).hi_mono hBW.size
 have CL:Aside (∀ w1,Below W.heap.size W w1->Calls prog 33 #[.slice r.machine.sys.core.got.p r.machine.sys.core.got.n r.machine.sys.core.got.c] w1 (zft 5 1 encB G w1)):=fun w1 hB=>cloneB_any w1 (HGW.out.thru hB nL) oM
 have EV:Aside (∀ (s1:Sl) w1,Below W.heap.size W w1->Row w1 0 w1.heap.size 5 1 encB s1 G->Calls prog 48 #[.pointer (some ⟨rb,0,none⟩),.agg ({ SEvent.zero with kind:=7,source:=r.machine.sys.core.source,bytes:=s1 }:SEvent).cells,.agg r.last.cells] w1 (Told lo rb r (addE q ⟨zq6 q.t.s.core,q.t.g⟩ q.last) I w1)):=fun s1 w1 hB hr=>by
  rw [HL.out]
  exact zhb (HW.out.thru hB hlo) _ ⟨zq6 q.t.s.core,q.t.g⟩ _ (by unfold zq6;rw [HSR.out]) (by rw [HQG.out];exact hr) hE hC hlo
 have hWz:=hBW.size
 clear hW hBW hB1 gcm gfm gzm
 obtain ⟨gcm,gfm,gzm⟩:=zaa f0
 obtain ⟨gc1,gf1,gz1⟩:=zaa f1
 cases b
 ·go_wp2_with fail
  go_end0
  exact ⟨rfl,r,rfl,by rw [HF.out,if_neg sI];exact HW.out,Kept.of_below BW.out oM⟩
 ·go_upto_region 2 with fail
  go_region_held3 ((fun w'=>(w'.cell? ⟨w.heap.size,28,none⟩=some (.int .i64 r.machine.sys.core.source)/\w'.cell? ⟨w.heap.size,29,none⟩=some (.slice r.machine.sys.core.got.p r.machine.sys.core.got.n r.machine.sys.core.got.c))/\okO 28 (blk w' rb) 135=true/\valO 28 (blk w' rb) 135=.agg r.last.cells)) (first|exact sfin f1 f0 rfl|exact sfin ((hB2.block _ gz1).trans F1.out) f3 rfl|exact sfin (e3.kept _ _ _ oM dC ((hB2.block _ gz1).trans F1.out)) e2.m (by rw [e2.last,HL.out];rfl)) (first|(go_at_call 33;(refine (CL.out _ bL).mono ?_);intro e w2 hcl;obtain ⟨s1,rfl,hrow,hB2⟩:=hcl;replace hrow:=hrow.lo_mono (Nat.zero_le _);replace hB2:=zks hB2;have f3:blk w2 rb=some (.cells r.cells 93):=(hB2.block _ gzm).trans F0.out;obtain ⟨gc3,gf3,gz3⟩:=zaa f3)|(go_at_call 48;(refine (EV.out _ _ bL aS).mono ?_);rintro e w3 ⟨rfl,r',e1,e2,e3⟩))
  all_goals go_end0
  all_goals exact ⟨rfl,r',e1,by rw [HF.out];exact e2,((Kept.of_below BW.out oM).trans (Kept.of_below hB2 oM)).trans e3⟩
end
section
open Go.RowKit
theorem sres {w':World} {xb cb:Nat} {c:SCore} {x:SMoment} (hc:blk w' cb=some (.cells c.cells 45)) (hx:blk w' xb=some (.cells x.cells 96)):(w'.cell? ⟨cb,28,none⟩=some (.int .i64 c.source)/\w'.cell? ⟨cb,29,none⟩=some (.slice c.got.p c.got.n c.got.c))/\okO 9 (blk w' xb) 0=true/\valO 9 (blk w' xb) 0=.agg x.lines.cells:=by
 rw [hx,(zaa hc).1,(zaa hc).1]
 refine ⟨⟨?_,?_⟩,?_,?_⟩<;>simp [go_sem]
theorem zsq {w:World} {lo rb:Nat} {r:SRecorder} {q:RecM} {I:List SItem} (h:RecAt w lo rb r q I) (hlo:lo<=rb) (hE:q.ev.length<=890000) (hC:q.cp.length<=890000) (x:SMoment) {G:List Int} (hg:Row w 0 w.heap.size 5 1 encB x.before.got G) (hG:G.length<=900000) :
  Calls prog 46 #[.pointer (some ⟨rb,0,none⟩),.agg x.cells] w (Told lo rb r (zgw q x G r.machine.sys.core.cpu) I w):=by
 have hm:=h.m
 have hlt:=zak hm
 have hbz:busy x.before=znt x.before G:=zx9 _ _ hg.len
 obtain ⟨b,hb⟩:∃ b,znt x.before G=b:=⟨_,rfl⟩
 have EF:cutR q x G=if b=true then addE q ⟨cutE x,G⟩ q.last else q:=by unfold cutR;rw [hb]
 have HF:=hid EF
 have H:=hid h
 have HG:=hid hg
 have HL:Aside (r.last=q.last):=h.last
 rw [hb] at hbz
 obtain ⟨gcm,gfm,gzm⟩:=zaa hm
 clear h hg hb EF
 go_enter func46,ntmps46
 go_upto_if 9 with (go_at_call 58;(refine (zql _ _).mono ?_);rintro e w1 ⟨rfl,hB1⟩;(try replace hB1:=zks hB1))
 refine wpNm (fun W hW=>?_)
 have hBW:Below w.heap.size w W:=by rw [hW];exact bL
 have f0:blk W rb=some (.cells r.cells 93):=(hBW.block _ hlt).trans hm
 have fx:blk W w.heap.size=some (.cells x.cells 96):=by rw [hW];exact (hB1.block _ (by (try simp only [szs]);omega)).trans (by first|exact (blk_alloc_past _ _ _ sI).trans (zab _ _ _ rfl)|(simp [go_sem,↓iteOmega, *]))
 have f1:blk W (w.heap.size+1)=some (.cells x.before.cells 45):=by rw [hW];exact (hB1.block _ (by (try simp only [szs]);omega)).trans (by first|exact zab _ _ _ sI|(simp [go_sem,↓iteOmega, *]))
 have BW:=hid hBW
 have F0:=hid f0
 have F1:=hid f1
 have FX:=hid fx
 have HW:Aside (RecAt W lo rb r q I):=H.out.thru hBW hlo
 have HGW:Aside (Row W 0 W.heap.size 5 1 encB x.before.got G):=(HG.out.thru hBW nL).hi_mono hBW.size
 have CL:Aside (∀ w1,Below W.heap.size W w1->Calls prog 33 #[.slice x.before.got.p x.before.got.n x.before.got.c] w1 (zft 5 1 encB G w1)):=fun w1 hB=>cloneB_any w1 (HGW.out.thru hB nL) oM
 have hWz:=hBW.size
 clear hW hBW hB1 gcm gfm gzm
 obtain ⟨gcm,gfm,gzm⟩:=zaa f0
 obtain ⟨gc1,gf1,gz1⟩:=zaa f1
 obtain ⟨gcx,gfx,gzx⟩:=zaa fx
 go_cut [] (fun wx=>∃ r':SRecorder,r'.machine=r.machine/\RecAt wx lo rb r' (cutR q x G) I/\blk wx w.heap.size=some (.cells x.cells 96)/\blk wx (w.heap.size+1)=some (.cells x.before.cells 45)/\Kept lo rb [63,41] w wx)
 case first=>
  cases b
  ·go_wp2_with fail
   go_meet
   exact ⟨r,rfl,by rw [HF.out,if_neg sI];exact HW.out,FX.out,F1.out,Kept.of_below BW.out oM⟩
  ·go_upto_region 3 with fail
   go_cut [5] (fun s5 wx=>∃ (eb:Nat) (s1:Sl),s5=.pointer (some ⟨eb,0,none⟩)/\blk wx eb=some (.cells ({ SEvent.zero with kind:=6,source:=x.before.source,bytes:=s1,lines:=x.lines }:SEvent).cells 63)/\Row wx 0 wx.heap.size 5 1 encB s1 G/\Below W.heap.size W wx)
   case first=>
    go_region_held3 ((fun w'=>(w'.cell? ⟨w.heap.size+1,28,none⟩=some (.int .i64 x.before.source)/\w'.cell? ⟨w.heap.size+1,29,none⟩=some (.slice x.before.got.p x.before.got.n x.before.got.c))/\okO 9 (blk w' w.heap.size) 0=true/\valO 9 (blk w' w.heap.size) 0=.agg x.lines.cells)) (first|exact sres f1 fx|exact sres k1 k2|exact sres ((blk_alloc_past _ _ _ gz1).trans F1.out) ((blk_alloc_past _ _ _ gzx).trans FX.out)|exact sres ((blk_alloc_past _ _ _ (zak k1)).trans k1) ((blk_alloc_past _ _ _ (zak k2)).trans k2)|exact sres ((blk_setBlk_other _ _ _ _ _ oM).trans k1) ((blk_setBlk_other _ _ _ _ _ oM).trans k2)|exact sres ((blk_setBlk_other _ _ _ _ _ oM).trans ((blk_alloc_past _ _ _ (zak k1)).trans k1)) ((blk_setBlk_other _ _ _ _ _ oM).trans ((blk_alloc_past _ _ _ (zak k2)).trans k2))) (first|(go_at_call 33;(refine (CL.out _ bL).mono ?_);intro e w2 hcl;obtain ⟨s1,rfl,hrow,hB2⟩:=hcl;replace hrow:=hrow.lo_mono (Nat.zero_le _);have k1:=(hB2.block (w.heap.size+1) (by (try simp only [szs]);omega)).trans (by first|exact F1.out|exact (blk_alloc_past _ _ _ gz1).trans F1.out);have k1:blk w2 (w.heap.size+1)=some (.cells x.before.cells 45):=k1;have k2:=(hB2.block w.heap.size (by (try simp only [szs]);omega)).trans (by first|exact FX.out|exact (blk_alloc_past _ _ _ gzx).trans FX.out);have k2:blk w2 w.heap.size=some (.cells x.cells 96):=k2;have hs2:=hB2.size;(try simp only [szs] at hs2);first|(have k3:blk w2 W.heap.size=some (.cells SEvent.zero.cells 63):=(hB2.block W.heap.size sI).trans (zab _ _ _ rfl);have k3z:=zak k3)|skip))
    ·go_wp2_with fail
     go_meet
     exact ⟨_,s1,rfl,zab _ _ _ rfl,(hrow.thru ((Below.refl _ w2).alloc nL _) nL).hi_mono sI,(zks hB2).alloc oM _⟩
    ·go_wp2_with fail
     go_meet
     exact ⟨_,s1,rfl,blk_setBlk_same _ _ _ _ k3z,(Row.set hrow k3 dC).hi_mono (by rw [size_setBlk];exact Nat.le_refl _),zae ((((Below.refl _ W).drew).alloc nL _).trans (hB2.mono sI)) nL⟩
   obtain ⟨eb,s1,rfl,ke,hrow,hB⟩:=hcut
   have n0:blk wc rb=some (.cells r.cells 93):=(hB.block _ gzm).trans F0.out
   have n1:blk wc (w.heap.size+1)=some (.cells x.before.cells 45):=(hB.block _ gz1).trans F1.out
   have nx:blk wc w.heap.size=some (.cells x.cells 96):=(hB.block _ gzx).trans FX.out
   have NX:Aside (blk wc w.heap.size=some (.cells x.cells 96)/\blk wc (w.heap.size+1)=some (.cells x.before.cells 45)):=⟨nx,n1⟩
   have RW2:Aside (RecAt wc lo rb r q I):=HW.out.thru hB hlo
   have KW2:Aside (Kept lo rb [] w wc/\Row wc 0 wc.heap.size 5 1 encB s1 G):=⟨(Kept.of_below BW.out oM).trans (Kept.of_below hB oM),hrow⟩
   have hsz:=hB.size
   clear gcm gfm gzm gc1 gf1 gz1 gcx gfx gzx hB hrow f0 f1 fx
   have gze:=zak ke
   have gz0:=zak n0
   have gz1:=zak n1
   go_upto_region 4 with fail
   have q0:∀ d os,blk (Go.Sort.grow (redrawn wc d) os) eb=some (.cells ({ SEvent.zero with kind:=6,source:=x.before.source,bytes:=s1,lines:=x.lines }:SEvent).cells 63):=fun d os=>((below_regrown wc d os).block _ oM).trans aS
   have qc0:∀ d os ix,(Go.Sort.grow (redrawn wc d) os).cell? ⟨eb,ix,none⟩=(({ SEvent.zero with kind:=6,source:=x.before.source,bytes:=s1,lines:=x.lines }:SEvent).cells)[ix]? := fun d os ix=>(zaa (q0 d os)).1 ix
   have q1:∀ d os,blk (Go.Sort.grow (redrawn wc d) os) (w.heap.size+1)=some (.cells x.before.cells 45):=fun d os=>((below_regrown wc d os).block _ oM).trans aS
   have qc1:∀ d os ix,(Go.Sort.grow (redrawn wc d) os).cell? ⟨(w.heap.size+1),ix,none⟩=(x.before.cells)[ix]? := fun d os ix=>(zaa (q1 d os)).1 ix
   have q2:∀ d os,blk (Go.Sort.grow (redrawn wc d) os) rb=some (.cells r.cells 93):=fun d os=>((below_regrown wc d os).block _ oM).trans aS
   have qc2:∀ d os ix,(Go.Sort.grow (redrawn wc d) os).cell? ⟨rb,ix,none⟩=(r.cells)[ix]? := fun d os ix=>(zaa (q2 d os)).1 ix
   refine zad 9 kR kR ?_
   simp only [tkd]
   repeat (quiet_step (first|(go_at_call 47;exact Calls.regrown_of (zfo _ _ _))))
   refine wpQuiet_nil ?_
   intro wq hwq
   have hBq:Below wc.heap.size wc wq:=by obtain ⟨p,rfl⟩:=hwq;exact below_regrown _ _ _
   clear hwq q0 qc0 q1 qc1 q2 qc2
   have EVQ:Aside (Calls prog 48 #[.pointer (some ⟨rb,0,none⟩),.agg (latched ({ SEvent.zero with kind:=6,source:=x.before.source,bytes:=s1,lines:=x.lines }:SEvent) x.before.cpu).cells,.agg r.last.cells] wq (Told lo rb r (addE q ⟨cutE x,G⟩ q.last) I wq)):=by
    rw [HL.out]
    exact zhb (RW2.out.thru hBq hlo) _ ⟨cutE x,G⟩ _ rfl ((KW2.out.2.thru hBq nL).hi_mono hBq.size) oM oM hlo
   have HBQ:=hid hBq
   clear hBq ke n0 n1 nx
   go_wp2_with (go_at_call 48;(refine EVQ.out.mono ?_);rintro e w3 ⟨rfl,r',e1,e2,e3⟩)
   go_meet
   have k1:Kept lo rb [63,41] wc w3:=(Kept.of_below HBQ.out oM).trans e3
   exact ⟨r',e1,by rw [HF.out];exact e2,k1.kept _ _ _ oM dC NX.out.1,k1.kept _ _ _ oM dC NX.out.2,(KW2.out.1.more sI).trans k1⟩
 obtain ⟨r',e1,ra,nx,n1,hk⟩:=hcut
 have n0:=ra.m
 have E1:=hid e1
 have RA:=hid ra
 have HK:=hid hk
 have hel:(cutR q x G).ev.length<=900000/\(cutR q x G).cp.length<=900000:=by
  unfold cutR;split
  ·unfold addE;simp;omega
  ·omega
 have HEL:=hid hel
 have hsz:=hk.size
 clear e1 ra hk hel gcm gfm gzm gc1 gf1 gz1 gcx gfx gzx f0 f1 fx
 have gz0:=zak n0
 have gz1:=zak n1
 have gzx:=zak nx
 go_upto_region 5 with fail
 have q0:∀ d os,blk (Go.Sort.grow (redrawn wc d) os) w.heap.size=some (.cells x.cells 96):=fun d os=>((below_regrown wc d os).block _ oM).trans aS
 have qc0:∀ d os ix,(Go.Sort.grow (redrawn wc d) os).cell? ⟨w.heap.size,ix,none⟩=(x.cells)[ix]? := fun d os ix=>(zaa (q0 d os)).1 ix
 have q1:∀ d os,blk (Go.Sort.grow (redrawn wc d) os) (w.heap.size+1)=some (.cells x.before.cells 45):=fun d os=>((below_regrown wc d os).block _ oM).trans aS
 have qc1:∀ d os ix,(Go.Sort.grow (redrawn wc d) os).cell? ⟨(w.heap.size+1),ix,none⟩=(x.before.cells)[ix]? := fun d os ix=>(zaa (q1 d os)).1 ix
 have q2:∀ d os,blk (Go.Sort.grow (redrawn wc d) os) rb=some (.cells r'.cells 93):=fun d os=>((below_regrown wc d os).block _ oM).trans aS
 have qc2:∀ d os ix,(Go.Sort.grow (redrawn wc d) os).cell? ⟨rb,ix,none⟩=(r'.cells)[ix]? := fun d os ix=>(zaa (q2 d os)).1 ix
 refine zad 14 kR kR ?_
 simp only [tkd]
 repeat (quiet_step (first|(go_at_call 47;exact Calls.regrown_of (zfo _ _ _))))
 refine wpQuiet_nil ?_
 intro wq hwq
 have hBq:Below wc.heap.size wc wq:=by obtain ⟨p,rfl⟩:=hwq;exact below_regrown _ _ _
 clear hwq q0 qc0 q1 qc1 q2 qc2
 have EVQ:Aside (Calls prog 48 #[.pointer (some ⟨rb,0,none⟩),.agg (latched ({ SEvent.zero with kind:=4,lines:=x.lines }:SEvent) x.before.cpu).cells,.agg r'.machine.sys.core.cpu.cells] wq (Told lo rb r' (addE (cutR q x G) ⟨zj1 x,[]⟩ r.machine.sys.core.cpu) I wq)):=by
  rw [E1.out]
  exact zhb (RA.out.thru hBq hlo) _ ⟨zj1 x,[]⟩ _ rfl (Row.nil _ _ _ _ _ _) HEL.out.1 HEL.out.2 hlo
 have HBQ:=hid hBq
 clear hBq n0 n1 nx
 go_wp2_with (go_at_call 48;(refine EVQ.out.mono ?_);rintro e w3 ⟨rfl,r2,e1,e2,e3⟩)
 go_end0
 exact ⟨rfl,r2,e1.trans E1.out,e2,HK.out.trans ((Kept.of_below HBQ.out oM).trans e3)⟩
end
section
open Go.RowKit
def zjg (lo rb:Nat) (r:SRecorder) (I:List SItem) (w:World) (en:Ending) (w':World):Prop:=
 en=.returned (.tuple #[])/\∃ (it:Sl) (I':List SItem),blk w' rb=some (.cells ({ r with run := { r.run with items:=it } }:SRecorder).cells 93)/\Row w' lo w'.heap.size 154 9 SItem.cells it I'/\0<I'.length/\I'.length<=I.length+1/\Kept lo rb [154] w w'
theorem Kept.setT {lo mb b':Nat} {ts:List TypeId} {w w':World} {A0 A:Array Value} {t':TypeId} (h:Kept lo mb ts w w') (hb:blk w' b'=some (.cells A0 t')) (ht:t' ∈ ts) (hlo:lo<=b'):Kept lo mb ts w (zai w' b' A t'):=
 ⟨zae h.below hlo,fun b C t hn hnt hk=>by
  have hk':=h.kept b C t hn hnt hk
  rw [blk_setBlk_other _ _ _ _ _ (fun e=>by subst e;rw [hb] at hk';simp only [Option.some.injEq,Obj.cells.injEq] at hk';exact hnt (hk'.2.1 ▸ ht))]
  exact hk'⟩
end
section
open Go.RowKit
theorem z1d (c:SCore) (G:List Int) (l:SLines) (d:Int) (sx:Sl):({ advX c G l d sx with got:=⟨none,0,0⟩ }:SChange)=advX c G l d ⟨none,0,0⟩/\((advX c G l d sx).ended=true->(advX c G l d sx).got=sx):=by
 have he:∀ (c1:SCore) (G1:List Int) (x1:SChange),x1.got=⟨none,0,0⟩->x1.ended=false->({ endX c1 G1 l x1 sx with got:=⟨none,0,0⟩ }:SChange)=endX c1 G1 l x1 ⟨none,0,0⟩/\((endX c1 G1 l x1 sx).ended=true->(endX c1 G1 l x1 sx).got=sx):=by
  intro c1 G1 x1 h1 h2
  unfold endX
  split
  ·refine ⟨?_,fun h=>by rw [h2] at h;cases h⟩
   rw [<- h1]
  ·exact ⟨rfl,fun _=>rfl⟩
 unfold advX
 dsimp only
 repeat' split
 all_goals first
  | exact he _ _ _ rfl rfl
  | exact ⟨rfl,fun h=>by cases h⟩
theorem RecAt.trace {w w':World} {lo rb:Nat} {r:SRecorder} {q:RecM} {I:List SItem} {ou:Sl} {t:List SPins} (h:RecAt w lo rb r q I) (hk:Kept lo rb [76] w w') (hm:blk w' rb=some (.cells ({ r with run := { r.run with trace:=ou } }:SRecorder).cells 93)) (ht:Row w' lo w'.heap.size 76 17 SPins.cells ou t):RecAt w' lo rb ({ r with run := { r.run with trace:=ou } }:SRecorder) { q with tr:=t } I:=by
 obtain ⟨E,e1,e2⟩:=h.ev
 exact ⟨hm,ht,(h.it.kept hk h.m dC dC).hi_mono hk.size,⟨E,(e1.kept hk h.m dC dC).hi_mono hk.size,e2.kept hk h.m dC dC⟩,(h.cp.kept hk h.m dC dC).hi_mono hk.size,h.last⟩
theorem RecAt.items {w w':World} {lo rb:Nat} {r:SRecorder} {q:RecM} {I I':List SItem} {ou:Sl} (h:RecAt w lo rb r q I) (hk:Kept lo rb [154] w w') (hm:blk w' rb=some (.cells ({ r with run := { r.run with items:=ou } }:SRecorder).cells 93)) (ht:Row w' lo w'.heap.size 154 9 SItem.cells ou I'):RecAt w' lo rb ({ r with run := { r.run with items:=ou } }:SRecorder) q I':=by
 obtain ⟨E,e1,e2⟩:=h.ev
 exact ⟨hm,(h.tr.kept hk h.m dC dC).hi_mono hk.size,ht,⟨E,(e1.kept hk h.m dC dC).hi_mono hk.size,e2.kept hk h.m dC dC⟩,(h.cp.kept hk h.m dC dC).hi_mono hk.size,h.last⟩
def Noted (lo rb:Nat) (r:SRecorder) (q:RecM) (I:List SItem) (w:World) (en:Ending) (w':World):Prop:=
 en=.returned (.tuple #[])/\∃ (r':SRecorder) (I':List SItem),r'.machine=r.machine/\RecAt w' lo rb r' q I'/\0<I'.length/\I'.length<=I.length+1/\Kept lo rb [76,154,63,41] w w'
structure NoteAt (w:World) (lo rb:Nat) (r:SRecorder) (x:SMoment) (G Gx:List Int) (xb cb:Nat) (ch:SChange) (sx:Sl) (wx:World) (r1:SRecorder) (q1:RecM) (I1:List SItem):Prop where
 mach:r1.machine=r.machine
 tell:RecAt wx lo rb r1 q1 I1
 bx:blk wx xb=some (.cells x.cells 96)
 bc:blk wx cb=some (.cells ch.cells 121)
 row:Row wx 0 wx.heap.size 5 1 encB sx Gx
 got:Row wx 0 wx.heap.size 5 1 encB x.before.got G
 kept:Kept lo rb [76,154,63,41] w wx
section
variable {w wx w2:World} {lo rb:Nat} {r:SRecorder} {x:SMoment} {G Gx:List Int} {xb cb:Nat} {ch:SChange} {sx:Sl} {r1 r2:SRecorder} {q1 q2:RecM} {I1 I2:List SItem} {ts:List TypeId}
section
variable (h:NoteAt w lo rb r x G Gx xb cb ch sx wx r1 q1 I1)
include h
theorem NoteAt.step (hk:Kept lo rb ts wx w2) (hts:∀ t,t ∈ ts->t ∈ [76,154,63,41]) (hr:RecAt w2 lo rb r2 q2 I2) (hm:r2.machine=r1.machine) (h1:xb≠rb) (h2:cb≠rb):NoteAt w lo rb r x G Gx xb cb ch sx w2 r2 q2 I2:=
 have n:∀ t,t ∉ [76,154,63,41]->t ∉ ts:=fun t ht h=>ht (hts t h)
 ⟨hm.trans h.mach,hr,hk.kept _ _ _ h1 (n _ dC) h.bx,hk.kept _ _ _ h2 (n _ dC) h.bc,(h.row.kept hk h.tell.m dC (n _ dC)).hi_mono hk.size,(h.got.kept hk h.tell.m dC (n _ dC)).hi_mono hk.size,h.kept.trans (hk.more hts)⟩
theorem NoteAt.thru (hB:Below wx.heap.size wx w2) (hlo:lo<=rb) (h1:xb≠rb) (h2:cb≠rb):NoteAt w lo rb r x G Gx xb cb ch sx w2 r1 q1 I1:=
 h.step (ts:=[]) (Kept.of_below hB (by have:=zak h.tell.m;omega)) sI (h.tell.thru hB hlo) rfl h1 h2
theorem NoteAt.setCh {ch':SChange} {sx':Sl} {Gx':List Int} (hr:Row wx 0 wx.heap.size 5 1 encB sx' Gx') (h1:xb≠cb) (h2:cb≠rb) (hw:w.heap.size<=cb) (hlo:lo<=rb) (hlo2:lo<=cb):NoteAt w lo rb r x G Gx' xb cb ch' sx' (zai wx cb ch'.cells 121) r1 q1 I1:=
 have hk:Kept lo rb [121] wx (zai wx cb ch'.cells 121):=Kept.setT Kept.refl h.bc sI hlo2
 ⟨h.mach,h.tell.kept hk ((blk_setBlk_other _ _ _ _ _ (fun e=>h2 e.symm)).trans h.tell.m) dC dC dC dC dC,(blk_setBlk_other _ _ _ _ _ h1).trans h.bx,blk_setBlk_same _ _ _ _ (zak h.bc),(Row.set hr h.bc dC).hi_mono (by rw [size_setBlk];exact Nat.le_refl _),(Row.set h.got h.bc dC).hi_mono (by rw [size_setBlk];exact Nat.le_refl _),Kept.set h.kept hlo2 hw⟩
end
end
theorem zsi (q:RecM) (x:SMoment) (G:List Int) (now:SCPU):(zgf q x G now).ev.length<=q.ev.length+2/\(zgf q x G now).cp.length<=q.cp.length+2:=by
 unfold zgf zgw cutR endR addE
 repeat' split
 all_goals simp
end
section
open Go.RowKit
theorem zto (r:SRecorder) (rb:Nat) (x:SMoment) (cy:SCycle) (w:World) {lo:Nat} {I:List SItem} (hm:blk w rb=some (.cells r.cells 93)) (hit:Row w lo w.heap.size 154 9 SItem.cells r.run.items I) (hI:I.length<=900000) (hlo:lo<=rb) (hst:x.pins.state=7) (hne:0<I.length) :
  Calls prog 45 #[.pointer (some ⟨rb,0,none⟩),.agg x.cells,.agg cy.cells] w (zjg lo rb r I w):=by
 have hlt:=zak hm
 have HM0:=hid hm
 have HIT:=hid hit
 have hn:=hit.len
 clear hit
 obtain ⟨gcm,gfm,gzm⟩:=zaa hm
 go_enter func45,ntmps45
 go_upto_region 1 with fail
 refine wpNm (fun W hW=>?_)
 have f0:blk W rb=some (.cells r.cells 93):=by rw [hW];exact sM
 have f1:blk W w.heap.size=some (.cells x.cells 96):=by rw [hW];exact sM
 have f2:blk W (w.heap.size+1)=some (.cells cy.cells 43):=by rw [hW];exact sM
 have fK:Kept lo rb [] w W:=by rw [hW];(repeat' (first|(with_reducible exact Kept.refl)|(with_reducible refine Kept.setM ?_ hlo)|(with_reducible refine Kept.set ?_ ?_ ?_)|(with_reducible refine Kept.alloc _ ?_ ?_)|(with_reducible refine Kept.drew ?_)|(with_reducible refine Kept.drewN _ ?_)|((try simp only [szs]);omega)))
 have ri:Row W lo W.heap.size 154 9 SItem.cells r.run.items I:=(HIT.out.kept fK HM0.out dC sI).hi_mono fK.size
 have RI:=hid ri
 have FK:=hid fK
 have F0:=hid f0
 have F2:=hid f2
 clear hW gcm gfm gzm hm fK ri
 obtain ⟨gc1,gf1,gz1⟩:=zaa f1
 have gz0:=zak f0
 have gz2:=zak f2
 go_cut [6,7] (fun s6 s7 wx=>∃ pb cb,s6=.pointer (some ⟨pb,0,none⟩)/\s7=.pointer (some ⟨cb,0,none⟩)/\W.heap.size<=pb/\W.heap.size<=cb/\blk wx pb=some (.cells x.pins.cells 76)/\blk wx cb=some (.cells x.before.cpu.cells 41)/\Below W.heap.size W wx)
 case first=>
  go_region
  all_goals
   go_wp2_with fail
  all_goals
   go_meet
   refine ⟨_,_,rfl,rfl,?_,?_,?_,?_,?_⟩
   ·simp
   ·simp
   ·simp [go_sem,↓iteOmega, *]
   ·simp [go_sem,↓iteOmega, *]
   ·exact bL
 obtain ⟨pb,cb,rfl,rfl,hpb,hcb,kp,kc,hB⟩:=hcut
 have k0:blk wc rb=some (.cells r.cells 93):=(hB.block _ gz0).trans f0
 have k2:blk wc (w.heap.size+1)=some (.cells cy.cells 43):=(hB.block _ gz2).trans f2
 have FK2:Aside (Kept lo rb [] w wc):=FK.out.trans (Kept.of_below hB (by have:=FK.out.size;omega))
 have ri:Row wc lo wc.heap.size 154 9 SItem.cells r.run.items I:=(RI.out.thru hB nL).hi_mono hB.size
 have RI3:=hid ri
 have K0:=hid k0
 clear f0 f1 f2 gc1 gf1 gz1 gz0 gz2 hB ri
 obtain ⟨gcm,gfm,gzm⟩:=zaa k0
 obtain ⟨gc2,gf2,gz2⟩:=zaa k2
 obtain ⟨gcp,gfp,gzp⟩:=zaa kp
 obtain ⟨gcc,gfc,gzc⟩:=zaa kc
 obtain ⟨j,hj⟩:∃ j,I.length=j+1:=⟨I.length-1,oM⟩
 have hn1:r.run.items.n=j+1:=oM
 have hjI:j<I.length:=oM
 have hjb:j<900000:=oM
 obtain ⟨l,hl⟩:∃ l,I[j]=l:=⟨_,rfl⟩
 obtain ⟨g,cur,hp1,hg1,hg2,hg3,hgb,hgc,hgm,hgs,hgt⟩:=RI3.out.at oM
 obtain ⟨g',hp',_,_,_,hce⟩:=RI3.out.fld (fun _=>rfl) j hjI
 rw [hp1] at hp'
 obtain rfl:g=g':=by injection hp' with e;injection e
 rw [hl] at hce
 have hrb:g≠rb:=fun e=>by rw [e,k0] at hgb;simp only [Option.some.injEq,Obj.cells.injEq] at hgb;exact absurd hgb.2.1 dC
 have hcy:g≠w.heap.size+1:=fun e=>by rw [e,k2] at hgb;simp only [Option.some.injEq,Obj.cells.injEq] at hgb;exact absurd hgb.2.1 dC
 have hcW:∀ o,o<9->cur[j * 9+o]? = l.cells[o]? := fun o ho=>by rw [<- (zaa hgb).1];exact hce o ho
 have c5:cur[j * 9+5]? = some (.int .i64 l.waits):=hcW 5 oM
 have c6:cur[j * 9+6]? = some (.int .i64 l.n):=hcW 6 oM
 have gsz:j * 9+8<cur.size:=(Array.getElem?_eq_some_iff.1 (hcW 8 oM)).1
 have HJ:Aside (j<I.length/\lo<=g/\g≠rb):=⟨hjI,hg1,hrb⟩
 have HL:Aside (∃ h:j<I.length,I[j]=l):=⟨hjI,hl⟩
 have HGB:=hid hgb
 obtain ⟨gcg,gfg,gzg⟩:=zaa hgb
 clear hgc hgm hgs hgt hg1 hg2 hg3 hl hjI hj hce hcW hn
 go_wp2_with fail
 go_end0
 obtain ⟨hJ,hL⟩:=HL.out
 have hr:=Row.put RI3.out (fun _=>rfl) hp1 HGB.out j hJ 5 oM (.int .i64 (wrap64 (l.waits+1))) { l with waits:=wrap64 (l.waits+1) } (by rw [hL];rfl)
 exact ⟨rfl,r.run.items,_,(blk_setBlk_other _ _ _ _ _ (fun e=>HJ.out.2.2 e.symm)).trans K0.out,hr.hi_mono (by rw [size_setBlk];exact Nat.le_refl _),by have:=HJ.out.1;simp;omega,by simp,Kept.setT (FK2.out.more sI) HGB.out sI HJ.out.2.1⟩
end
section
open Go.RowKit
theorem z1m (a b c e:Value):∀ (off:Nat) (l:List Value),off+4<=l.length->l.take off++[a,b,c,e]++l.drop (off+4)=(((l.set off a).set (off+1) b).set (off+2) c).set (off+3) e
 | 0,l,h=>by
  match l,h with
  | _::_::_::_::r,_=>rfl
 | off+1,[],h=>by simp at h
 | off+1,x::l,h=>by
  have:=z1m a b c e off l (by simp at h;omega)
  simp only [List.take_succ_cons,List.cons_append,show off+1+4=(off+4)+1 by omega,List.drop_succ_cons,List.set_cons_succ,show off+1+1=(off+1)+1 by omega,show off+1+2=(off+2)+1 by omega,show off+1+3=(off+3)+1 by omega]
  rw [<- this]
theorem zyh (C:Array Value) (off:Nat) (a b c e:Value) (h:off+4<=C.size):zep C off #[a,b,c,e]=(((C.setIfInBounds off a).setIfInBounds (off+1) b).setIfInBounds (off+2) c).setIfInBounds (off+3) e:=by
 apply Array.toList_inj.1
 unfold zep
 simp only [Array.toList_setIfInBounds]
 exact z1m a b c e off C.toList (by simpa using h)
theorem Row.cyc {w:World} {lo hi g:Nat} {s:Sl} {L:List SItem} {cur:Array Value} (h:Row w lo hi 154 9 SItem.cells s L) (hg:s.p=some ⟨g,0,none⟩) (hb:blk w g=some (.cells cur 154)) (j:Nat) (hj:j<L.length) (hs:j * 9+8<cur.size) (cy:SCycle) (l:SItem) (hl:l = { L[j] with cycle:=cy }) :
  Row (zai w g (zep cur (j * 9+1) cy.cells) 154) lo hi 154 9 SItem.cells s (L.set j l):=by
 have hlt:=zak hb
 have p1:=Row.put h (fun _=>rfl) hg hb j hj 1 oM (.int .i64 cy.kind) { L[j] with cycle := { L[j].cycle with kind:=cy.kind } } rfl
 have p2:=Row.put p1 (fun _=>rfl) hg (blk_setBlk_same _ _ _ _ hlt) j (by simpa using hj) 2 oM (.int .u16 cy.at_) { L[j] with cycle := { L[j].cycle with kind:=cy.kind,at_:=cy.at_ } } (by simp only [List.getElem_set_self];rfl)
 have p3:=Row.put p2 (fun _=>rfl) hg (blk_setBlk_same _ _ _ _ (by rw [size_setBlk];exact hlt)) j (by simpa using hj) 3 oM (.int .u8 cy.data) { L[j] with cycle := { L[j].cycle with kind:=cy.kind,at_:=cy.at_,data:=cy.data } } (by simp only [List.getElem_set_self];rfl)
 have p4:=Row.put p3 (fun _=>rfl) hg (blk_setBlk_same _ _ _ _ (by rw [size_setBlk,size_setBlk];exact hlt)) j (by simpa using hj) 4 oM (.int .i64 cy.states) l (by simp only [List.getElem_set_self];rw [hl];rfl)
 simp only [setBlk_setBlk,List.set_set] at p4
 rw [show zep cur (j * 9+1) cy.cells=(((cur.setIfInBounds (j * 9+1) (.int .i64 cy.kind)).setIfInBounds (j * 9+2) (.int .u16 cy.at_)).setIfInBounds (j * 9+3) (.int .u8 cy.data)).setIfInBounds (j * 9+4) (.int .i64 cy.states) from zyh cur (j * 9+1) _ _ _ _ oM]
 exact p4
theorem z2c (r:SRecorder) (rb:Nat) (x:SMoment) (cy:SCycle) (w:World) {lo:Nat} {I:List SItem} (hm:blk w rb=some (.cells r.cells 93)) (hit:Row w lo w.heap.size 154 9 SItem.cells r.run.items I) (hI:I.length<=900000) (hlo:lo<=rb) (hst:x.pins.state=2\/x.pins.state=3\/x.pins.state=4\/x.pins.state=5\/x.pins.state=6) (hne:0<I.length) :
  Calls prog 45 #[.pointer (some ⟨rb,0,none⟩),.agg x.cells,.agg cy.cells] w (zjg lo rb r I w):=by
 have hlt:=zak hm
 have HM0:=hid hm
 have HIT:=hid hit
 have hn:=hit.len
 clear hit
 obtain ⟨gcm,gfm,gzm⟩:=zaa hm
 go_enter func45,ntmps45
 go_upto_region 1 with fail
 refine wpNm (fun W hW=>?_)
 have f0:blk W rb=some (.cells r.cells 93):=by rw [hW];exact sM
 have f1:blk W w.heap.size=some (.cells x.cells 96):=by rw [hW];exact sM
 have f2:blk W (w.heap.size+1)=some (.cells cy.cells 43):=by rw [hW];exact sM
 have fK:Kept lo rb [] w W:=by rw [hW];(repeat' (first|(with_reducible exact Kept.refl)|(with_reducible refine Kept.setM ?_ hlo)|(with_reducible refine Kept.set ?_ ?_ ?_)|(with_reducible refine Kept.alloc _ ?_ ?_)|(with_reducible refine Kept.drew ?_)|(with_reducible refine Kept.drewN _ ?_)|((try simp only [szs]);omega)))
 have ri:Row W lo W.heap.size 154 9 SItem.cells r.run.items I:=(HIT.out.kept fK HM0.out dC sI).hi_mono fK.size
 have RI:=hid ri
 have FK:=hid fK
 have F0:=hid f0
 have F2:=hid f2
 clear hW gcm gfm gzm hm fK ri
 obtain ⟨gc1,gf1,gz1⟩:=zaa f1
 have gz0:=zak f0
 have gz2:=zak f2
 go_cut [6,7] (fun s6 s7 wx=>∃ pb cb,s6=.pointer (some ⟨pb,0,none⟩)/\s7=.pointer (some ⟨cb,0,none⟩)/\W.heap.size<=pb/\W.heap.size<=cb/\blk wx pb=some (.cells x.pins.cells 76)/\blk wx cb=some (.cells x.before.cpu.cells 41)/\Below W.heap.size W wx)
 case first=>
  go_region
  all_goals
   go_wp2_with fail
  all_goals
   go_meet
   refine ⟨_,_,rfl,rfl,?_,?_,?_,?_,?_⟩
   ·simp
   ·simp
   ·simp [go_sem,↓iteOmega, *]
   ·simp [go_sem,↓iteOmega, *]
   ·exact bL
 obtain ⟨pb,cb,rfl,rfl,hpb,hcb,kp,kc,hB⟩:=hcut
 have k0:blk wc rb=some (.cells r.cells 93):=(hB.block _ gz0).trans f0
 have k2:blk wc (w.heap.size+1)=some (.cells cy.cells 43):=(hB.block _ gz2).trans f2
 have FK2:Aside (Kept lo rb [] w wc):=FK.out.trans (Kept.of_below hB (by have:=FK.out.size;omega))
 have ri:Row wc lo wc.heap.size 154 9 SItem.cells r.run.items I:=(RI.out.thru hB nL).hi_mono hB.size
 have RI3:=hid ri
 have K0:=hid k0
 clear f0 f1 f2 gc1 gf1 gz1 gz0 gz2 hB ri
 obtain ⟨gcm,gfm,gzm⟩:=zaa k0
 obtain ⟨gc2,gf2,gz2⟩:=zaa k2
 obtain ⟨gcp,gfp,gzp⟩:=zaa kp
 obtain ⟨gcc,gfc,gzc⟩:=zaa kc
 obtain ⟨j,hj⟩:∃ j,I.length=j+1:=⟨I.length-1,oM⟩
 have hn1:r.run.items.n=j+1:=oM
 have hjI:j<I.length:=oM
 have hjb:j<900000:=oM
 obtain ⟨l,hl⟩:∃ l,I[j]=l:=⟨_,rfl⟩
 obtain ⟨g,cur,hp1,hg1,hg2,hg3,hgb,hgc,hgm,hgs,hgt⟩:=RI3.out.at oM
 obtain ⟨g',hp',_,_,_,hce⟩:=RI3.out.fld (fun _=>rfl) j hjI
 rw [hp1] at hp'
 obtain rfl:g=g':=by injection hp' with e;injection e
 rw [hl] at hce
 have hrb:g≠rb:=fun e=>by rw [e,k0] at hgb;simp only [Option.some.injEq,Obj.cells.injEq] at hgb;exact absurd hgb.2.1 dC
 have hcy:g≠w.heap.size+1:=fun e=>by rw [e,k2] at hgb;simp only [Option.some.injEq,Obj.cells.injEq] at hgb;exact absurd hgb.2.1 dC
 have hcW:∀ o,o<9->cur[j * 9+o]? = l.cells[o]? := fun o ho=>by rw [<- (zaa hgb).1];exact hce o ho
 have c5:cur[j * 9+5]? = some (.int .i64 l.waits):=hcW 5 oM
 have c6:cur[j * 9+6]? = some (.int .i64 l.n):=hcW 6 oM
 have gsz:j * 9+8<cur.size:=(Array.getElem?_eq_some_iff.1 (hcW 8 oM)).1
 have HJ:Aside (j<I.length/\lo<=g/\g≠rb):=⟨hjI,hg1,hrb⟩
 have HL:Aside (∃ h:j<I.length,I[j]=l):=⟨hjI,hl⟩
 have HGB:=hid hgb
 obtain ⟨gcg,gfg,gzg⟩:=zaa hgb
 clear hgc hgm hgs hgt hg1 hg2 hg3 hl hjI hj hce hcW hn
 have hok:∀ C:Array Value,j * 9+8<C.size->okS 4 (some (.cells C 154 (0,0))) (j * 9+1) cy.cells=true:=fun C h=>by
  have h1:=SCycle.one cy
  exact decide_eq_true ⟨SCycle.size cy,by rw [SCycle.size];omega,h1⟩
 have HOK:=hid hok
 clear hok
 obtain h|h|h|h|h:=hst
 all_goals
  go_upto_region 13 with fail
  go_cut [] (fun wx=>blk wx rb=some (.cells r.cells 93)/\blk wx (w.heap.size+1)=some (.cells cy.cells 43)/\blk wx g=some (.cells (cur.setIfInBounds (j * 9+6) (.int .i64 x.pins.state)) 154)/\Row wx lo wx.heap.size 154 9 SItem.cells r.run.items (I.set j { l with n:=x.pins.state })/\Kept lo rb [154] w wx)
  case first=>
   have k2':=k2
   have HGz:=gz2
   go_region
   all_goals
    go_wp2_with fail
   all_goals
    go_meet
    obtain ⟨hJ,hL⟩:=HL.out
    have hr:=Row.put ((RI3.out.thru ((Below.refl _ wc).drew) nL)) (fun _=>rfl) hp1 (show blk wc.drew g=_ from HGB.out) j hJ 6 oM (.int .i64 x.pins.state) { l with n:=x.pins.state } (by rw [hL];rfl)
    rw [h] at hr ⊢
    exact ⟨(blk_setBlk_other _ _ _ _ _ (fun e=>hrb e.symm)).trans K0.out,(blk_setBlk_other _ _ _ _ _ (fun e=>hcy e.symm)).trans k2',blk_setBlk_same _ _ _ _ gzg,hr.hi_mono (by exact Nat.le_of_eq (size_setBlk _ _ _ _).symm),Kept.setT ((FK2.out.more sI).drew) HGB.out sI HJ.out.2.1⟩
  obtain ⟨m0,m2,mg,rq,hkq⟩:=hcut
  have M0:=hid m0
  have MG:=hid mg
  have RQ:=hid rq
  have HKQ:=hid hkq
  clear gcm gfm gzm gc2 gf2 gz2 gcp gfp gzp gcc gfc gzc gcg gfg gzg k0 k2 kp kc hpb hcb rq hkq c5 c6
  obtain ⟨gcm,gfm,gzm⟩:=zaa m0
  obtain ⟨gcg,gfg,gzg⟩:=zaa mg
  obtain ⟨gc2,gf2,gz2⟩:=zaa m2
  have gok:=HOK.out (cur.setIfInBounds (j * 9+6) (.int .i64 x.pins.state)) (by simpa using gsz)
  rw [h] at gok
  go_upto_region 14 with fail
  have hjj:((j:Nat):Int)<(j:Int)+1:=oM
  have q0:∀ d os,blk (Go.Sort.grow (redrawn wc d) os) rb=some (.cells r.cells 93):=fun d os=>((below_regrown wc d os).block _ oM).trans aS
  have qc0:∀ d os ix,(Go.Sort.grow (redrawn wc d) os).cell? ⟨rb,ix,none⟩=(r.cells)[ix]? := fun d os ix=>(zaa (q0 d os)).1 ix
  have q1:∀ d os,blk (Go.Sort.grow (redrawn wc d) os) (w.heap.size+1)=some (.cells cy.cells 43):=fun d os=>((below_regrown wc d os).block _ oM).trans aS
  have qc1:∀ d os ix,(Go.Sort.grow (redrawn wc d) os).cell? ⟨(w.heap.size+1),ix,none⟩=(cy.cells)[ix]? := fun d os ix=>(zaa (q1 d os)).1 ix
  refine zad 9 kR kR ?_
  simp only [tkd]
  repeat (quiet_step (fail))
  refine wpQuiet_nil ?_
  intro wq hwq
  have hBq:Below wc.heap.size wc wq:=by obtain ⟨p,rfl⟩:=hwq;exact below_regrown _ _ _
  clear hwq q0 qc0 q1 qc1
  have n0:blk wq rb=some (.cells r.cells 93):=(hBq.block _ gzm).trans m0
  have ng:=(hBq.block _ gzg).trans mg
  have ng:blk wq g=some (.cells (cur.setIfInBounds (j * 9+6) (.int .i64 x.pins.state)) 154):=ng
  clear gcm gfm gzm gc2 gf2 gz2 gcg gfg m0 m2 mg
  go_wp2_with fail
  go_end0
  obtain ⟨hJ,hL⟩:=HL.out
  have hr:=Row.cyc (RQ.out.thru hBq nL) hp1 ng j (by simpa using hJ) (by simpa using gsz) cy { l with n:=x.pins.state,cycle:=cy } (by rw [List.getElem_set_self])
  rw [h] at hr ng
  have hKQ:Kept lo rb [154] w wq:=HKQ.out.trans (Kept.of_below hBq (by have:=HKQ.out.size;have:=FK2.out.size;omega))
  exact ⟨rfl,r.run.items,_,(blk_setBlk_other _ _ _ _ _ (fun e=>hrb e.symm)).trans n0,hr.hi_mono (by exact Nat.le_trans hBq.size (Nat.le_of_eq (size_setBlk _ _ _ _).symm)),by have:=HJ.out.1;simp;omega,by simp,Kept.setT hKQ ng sI HJ.out.2.1⟩
end
section
open Go.RowKit
theorem zsp (r:SRecorder) (rb:Nat) (x:SItem) (w:World) {lo:Nat} {I:List SItem} (hm:blk w rb=some (.cells r.cells 93)) (hit:Row w lo w.heap.size 154 9 SItem.cells r.run.items I) (hI:I.length<=900000) (hlo:lo<=rb) :
  Calls prog 77 #[.pointer (some ⟨rb,0,none⟩),.agg x.cells] w (zjg lo rb r I w):=by
 have hlt:=zak hm
 have HM0:=hid hm
 have HIT:=hid hit
 have hn:=hit.len
 obtain ⟨gcm,gfm,gzm⟩:=zaa hm
 by_cases h0:I.length=0
 ·have hn1:r.run.items.n=0:=oM
  clear hit
  go_enter func77,ntmps77
  go_upto_region 6 with fail
  refine wpNm (fun W hW=>?_)
  have f0:blk W rb=some (.cells r.cells 93):=by rw [hW];exact sM
  have f1:blk W w.heap.size=some (.cells x.cells 154):=by rw [hW];exact sM
  have fK:Kept lo rb [] w W:=by rw [hW];(repeat' (first|(with_reducible exact Kept.refl)|(with_reducible refine Kept.setM ?_ hlo)|(with_reducible refine Kept.set ?_ ?_ ?_)|(with_reducible refine Kept.alloc _ ?_ ?_)|(with_reducible refine Kept.drew ?_)|(with_reducible refine Kept.drewN _ ?_)|((try simp only [szs]);omega)))
  have ri:Row W lo W.heap.size 154 9 SItem.cells r.run.items I:=(HIT.out.kept fK HM0.out dC sI).hi_mono fK.size
  have RI:=hid ri
  have FK:=hid fK
  have F0:=hid f0
  clear hW gcm gfm gzm hm fK ri hn1 hn
  obtain ⟨gcm,gfm,gzm⟩:=zaa f0
  obtain ⟨gc1,gf1,gz1⟩:=zaa f1
  go_region_law ((refine zbr rfl _ _ 32 (by rfl) ((RI.out.thru ((Below.refl _ W).drew) nL).thru ((Below.refl _ W.drew).alloc nL _) nL) (fun _=>rfl) SItem.one oM SItem.info (by rfl) [(x:SItem)] W.heap.size (x:SItem).cells 154 1 1 (by rfl) (zab _ _ _ rfl) (by simp [encL]) rfl oM oM sO ?_;intro s' w2 hrow hgr;have hat:=hgr.kept rb _ _ dC ((blk_alloc_past _ rb _ (zak F0.out)).trans F0.out);obtain ⟨hcl1,hfr1,hlt1⟩:=zaa hat))
  all_goals go_wp2_with fail
  all_goals
   go_end0
   have k0:blk (zai w2 rb ({ r with run := { r.run with items:=s' } }:SRecorder).cells 93) rb=some (.cells ({ r with run := { r.run with items:=s' } }:SRecorder).cells 93):=blk_setBlk_same _ _ _ _ hlt1
   have rw2:Row (zai w2 rb ({ r with run := { r.run with items:=s' } }:SRecorder).cells 93) lo (zai w2 rb ({ r with run := { r.run with items:=s' } }:SRecorder).cells 93).heap.size 154 9 SItem.cells s' (I++[x]):=Row.hi_mono (Row.set hrow hat dC) (by rw [size_setBlk];exact Nat.le_refl _)
   have hk2:Kept lo rb [154] W (zai w2 rb ({ r with run := { r.run with items:=s' } }:SRecorder).cells 93):=Kept.setM ((Kept.alloc _ (Kept.drew Kept.refl) sO).trans (Kept.of_grew hgr sI)) hlo
   have hW2:∀ A:Array Value,A=({ r with run := { r.run with items:=s' } }:SRecorder).cells->zai w2 rb A 93=zai w2 rb ({ r with run := { r.run with items:=s' } }:SRecorder).cells 93:=fun A h=>by rw [h]
   exact ⟨rfl,s',I++[x],k0,rw2,by simp,by simp,(FK.out.more sI).trans hk2⟩
 ·obtain ⟨j,hj⟩:∃ j,I.length=j+1:=⟨I.length-1,oM⟩
  have hn1:r.run.items.n=j+1:=oM
  have hjI:j<I.length:=oM
  obtain ⟨l,hl⟩:∃ l,I[j]=l:=⟨_,rfl⟩
  obtain ⟨g,cur,hp1,hg1,hg2,hg3,hgb,hgc,hgm,hgs,hgt⟩:=hit.at oM
  obtain ⟨g',hp',_,_,_,hce⟩:=hit.fld (fun _=>rfl) j hjI
  rw [hp1] at hp'
  obtain rfl:g=g':=by injection hp' with e;injection e
  rw [hl] at hce
  have hrb:g≠rb:=fun e=>by rw [e,hm] at hgb;simp only [Option.some.injEq,Obj.cells.injEq] at hgb;exact absurd hgb.2.1 dC
  clear hit
  go_enter func77,ntmps77
  go_upto_region 4 with fail
  refine wpNm (fun W hW=>?_)
  have f0:blk W rb=some (.cells r.cells 93):=by rw [hW];exact sM
  have f1:blk W w.heap.size=some (.cells x.cells 154):=by rw [hW];exact sM
  have f2:blk W g=some (.cells cur 154):=by rw [hW];exact sM
  have fK:Kept lo rb [] w W:=by rw [hW];(repeat' (first|(with_reducible exact Kept.refl)|(with_reducible refine Kept.setM ?_ hlo)|(with_reducible refine Kept.set ?_ ?_ ?_)|(with_reducible refine Kept.alloc _ ?_ ?_)|(with_reducible refine Kept.drew ?_)|(with_reducible refine Kept.drewN _ ?_)|((try simp only [szs]);omega)))
  have ri:Row W lo W.heap.size 154 9 SItem.cells r.run.items I:=(HIT.out.kept fK HM0.out dC sI).hi_mono fK.size
  have hcW:∀ o,o<9->W.cell? ⟨g,j * 9+o,none⟩=l.cells[o]? := fun o ho=>by rw [(zaa f2).1,<- (zaa hgb).1];exact hce o ho
  have RI:=hid ri
  have FK:=hid fK
  have F0:=hid f0
  have F2:=hid f2
  have c0:cur[j * 9]? = some (.int .i64 l.kind):=by rw [<- (zaa f2).1];exact hcW 0 oM
  have c6:cur[j * 9+6]? = some (.int .i64 l.n):=by rw [<- (zaa f2).1];exact hcW 6 oM
  have c7:cur[j * 9+7]? = some (.bool l.inte):=by rw [<- (zaa f2).1];exact hcW 7 oM
  have c8:cur[j * 9+8]? = some (.bool l.sod):=by rw [<- (zaa f2).1];exact hcW 8 oM
  have HJ:Aside (j<I.length/\lo<=g/\g≠rb):=⟨hjI,hg1,hrb⟩
  have HL:Aside (∃ h:j<I.length,I[j]=l):=⟨hjI,hl⟩
  clear hW gcm gfm gzm hm fK ri hcW hce hgb hgc hgm hgs hgt hg1 hg2 hlt hn hl hjI hj h0
  obtain ⟨gcm,gfm,gzm⟩:=zaa f0
  obtain ⟨gc1,gf1,gz1⟩:=zaa f1
  have hgz:=zak f2
  go_cut [46] (fun s46 wx=>∃ v:Bool,s46=.bool v/\Below W.heap.size W wx)
  case first=>
   cases h1:(l.kind==x.kind)
   ·have q0:∀ d os,blk (Go.Sort.grow (redrawn W d) os) g=some (.cells cur 154):=fun d os=>((below_regrown W d os).block _ oM).trans aS
    have qc0:∀ d os ix,(Go.Sort.grow (redrawn W d) os).cell? ⟨g,ix,none⟩=(cur)[ix]? := fun d os ix=>(zaa (q0 d os)).1 ix
    have q1:∀ d os,blk (Go.Sort.grow (redrawn W d) os) w.heap.size=some (.cells x.cells 154):=fun d os=>((below_regrown W d os).block _ oM).trans aS
    have qc1:∀ d os ix,(Go.Sort.grow (redrawn W d) os).cell? ⟨w.heap.size,ix,none⟩=(x.cells)[ix]? := fun d os ix=>(zaa (q1 d os)).1 ix
    refine zad 24 kR kR ?_
    simp only [tkd]
    repeat (quiet_step (fail))
    refine wpQuiet_nil ?_
    intro wq hwq
    have hBq:Below W.heap.size W wq:=by obtain ⟨p,rfl⟩:=hwq;exact below_regrown _ _ _
    clear hwq q0 qc0 q1 qc1
    go_wp2_with fail
    go_meet
    case rel=>exact ⟨_,rfl,hBq⟩
   ·cases h2:(l.inte==x.inte)
    ·have q0:∀ d os,blk (Go.Sort.grow (redrawn W d) os) g=some (.cells cur 154):=fun d os=>((below_regrown W d os).block _ oM).trans aS
     have qc0:∀ d os ix,(Go.Sort.grow (redrawn W d) os).cell? ⟨g,ix,none⟩=(cur)[ix]? := fun d os ix=>(zaa (q0 d os)).1 ix
     have q1:∀ d os,blk (Go.Sort.grow (redrawn W d) os) w.heap.size=some (.cells x.cells 154):=fun d os=>((below_regrown W d os).block _ oM).trans aS
     have qc1:∀ d os ix,(Go.Sort.grow (redrawn W d) os).cell? ⟨w.heap.size,ix,none⟩=(x.cells)[ix]? := fun d os ix=>(zaa (q1 d os)).1 ix
     refine zad 24 kR kR ?_
     simp only [tkd]
     repeat (quiet_step (fail))
     refine wpQuiet_nil ?_
     intro wq hwq
     have hBq:Below W.heap.size W wq:=by obtain ⟨p,rfl⟩:=hwq;exact below_regrown _ _ _
     clear hwq q0 qc0 q1 qc1
     go_wp2_with fail
     go_meet
     case rel=>exact ⟨_,rfl,hBq⟩
    ·have q0:∀ d os,blk (Go.Sort.grow (redrawn W d) os) g=some (.cells cur 154):=fun d os=>((below_regrown W d os).block _ oM).trans aS
     have qc0:∀ d os ix,(Go.Sort.grow (redrawn W d) os).cell? ⟨g,ix,none⟩=(cur)[ix]? := fun d os ix=>(zaa (q0 d os)).1 ix
     have q1:∀ d os,blk (Go.Sort.grow (redrawn W d) os) w.heap.size=some (.cells x.cells 154):=fun d os=>((below_regrown W d os).block _ oM).trans aS
     have qc1:∀ d os ix,(Go.Sort.grow (redrawn W d) os).cell? ⟨w.heap.size,ix,none⟩=(x.cells)[ix]? := fun d os ix=>(zaa (q1 d os)).1 ix
     refine zad 24 kR kR ?_
     simp only [tkd]
     repeat (quiet_step (fail))
     refine wpQuiet_nil ?_
     intro wq hwq
     have hBq:Below W.heap.size W wq:=by obtain ⟨p,rfl⟩:=hwq;exact below_regrown _ _ _
     clear hwq q0 qc0 q1 qc1
     go_wp2_with fail
     go_meet
     case rel=>exact ⟨_,rfl,hBq⟩
  obtain ⟨v,rfl,hB⟩:=hcut
  have k0:blk wc rb=some (.cells r.cells 93):=(hB.block _ gzm).trans f0
  have k1:blk wc w.heap.size=some (.cells x.cells 154):=(hB.block _ gz1).trans f1
  have k2:blk wc g=some (.cells cur 154):=(hB.block _ hgz).trans f2
  have FK2:Aside (Kept lo rb [] w wc):=FK.out.trans (Kept.of_below hB (by have:=FK.out.size;omega))
  have ri:Row wc lo wc.heap.size 154 9 SItem.cells r.run.items I:=(RI.out.thru hB nL).hi_mono hB.size
  have RI3:=hid ri
  have K0:=hid k0
  clear f0 f1 f2 gcm gfm gzm gc1 gf1 gz1 hgz hB ri
  obtain ⟨gcm,gfm,gzm⟩:=zaa k0
  obtain ⟨gc1,gf1,gz1⟩:=zaa k1
  obtain ⟨gc2,gf2,gz2⟩:=zaa k2
  cases v
  ·clear hp1 hn1
   go_upto_region 6 with fail
   go_region_law ((refine zbr rfl _ _ 32 (by rfl) ((RI3.out.thru ((Below.refl _ wc).drew) nL).thru ((Below.refl _ wc.drew).alloc nL _) nL) (fun _=>rfl) SItem.one oM SItem.info (by rfl) [(x:SItem)] wc.heap.size (x:SItem).cells 154 1 1 (by rfl) (zab _ _ _ rfl) (by simp [encL]) rfl oM oM sO ?_;intro s' w2 hrow hgr;have hat:=hgr.kept rb _ _ dC ((blk_alloc_past _ rb _ (zak K0.out)).trans K0.out);obtain ⟨hcl1,hfr1,hlt1⟩:=zaa hat))
   all_goals go_wp2_with fail
   all_goals
    go_end0
    have k0:blk (zai w2 rb ({ r with run := { r.run with items:=s' } }:SRecorder).cells 93) rb=some (.cells ({ r with run := { r.run with items:=s' } }:SRecorder).cells 93):=blk_setBlk_same _ _ _ _ hlt1
    have rw2:Row (zai w2 rb ({ r with run := { r.run with items:=s' } }:SRecorder).cells 93) lo (zai w2 rb ({ r with run := { r.run with items:=s' } }:SRecorder).cells 93).heap.size 154 9 SItem.cells s' (I++[x]):=Row.hi_mono (Row.set hrow hat dC) (by rw [size_setBlk];exact Nat.le_refl _)
    have hk2:Kept lo rb [154] wc (zai w2 rb ({ r with run := { r.run with items:=s' } }:SRecorder).cells 93):=Kept.setM ((Kept.alloc _ (Kept.drew Kept.refl) sO).trans (Kept.of_grew hgr sI)) hlo
    have hW2:∀ A:Array Value,A=({ r with run := { r.run with items:=s' } }:SRecorder).cells->zai w2 rb A 93=zai w2 rb ({ r with run := { r.run with items:=s' } }:SRecorder).cells 93:=fun A h=>by rw [h]
    exact ⟨rfl,s',I++[x],k0,rw2,by simp,by simp,(FK2.out.more sI).trans hk2⟩
  ·go_wp2_with fail
   go_end0
   obtain ⟨hJ,hL⟩:=HL.out
   have hr:=Row.put RI3.out (fun _=>rfl) hp1 k2 j hJ 6 oM (.int .i64 (wrap64 (l.n+1))) { l with n:=wrap64 (l.n+1) } (by rw [hL];rfl)
   exact ⟨rfl,r.run.items,_,(blk_setBlk_other _ _ _ _ _ (fun e=>HJ.out.2.2 e.symm)).trans K0.out,hr.hi_mono (by rw [size_setBlk];exact Nat.le_refl _),by have:=HJ.out.1;simp;omega,by simp,Kept.setT (FK2.out.more sI) k2 sI HJ.out.2.1⟩
end
section
open Go.RowKit
theorem ztp (r:SRecorder) (rb:Nat) (x:SMoment) (cy:SCycle) (w:World) {lo:Nat} {I:List SItem} (hm:blk w rb=some (.cells r.cells 93)) (hit:Row w lo w.heap.size 154 9 SItem.cells r.run.items I) (hI:I.length<=900000) (hlo:lo<=rb) (hst:x.pins.state=8\/x.pins.state=9\/x.pins.state=10) :
  Calls prog 45 #[.pointer (some ⟨rb,0,none⟩),.agg x.cells,.agg cy.cells] w (zjg lo rb r I w):=by
 have hlt:=zak hm
 have HM0:=hid hm
 have HIT:=hid hit
 have hn:=hit.len
 clear hit
 obtain ⟨gcm,gfm,gzm⟩:=zaa hm
 go_enter func45,ntmps45
 go_upto_region 1 with fail
 refine wpNm (fun W hW=>?_)
 have f0:blk W rb=some (.cells r.cells 93):=by rw [hW];exact sM
 have f1:blk W w.heap.size=some (.cells x.cells 96):=by rw [hW];exact sM
 have f2:blk W (w.heap.size+1)=some (.cells cy.cells 43):=by rw [hW];exact sM
 have fK:Kept lo rb [] w W:=by rw [hW];(repeat' (first|(with_reducible exact Kept.refl)|(with_reducible refine Kept.setM ?_ hlo)|(with_reducible refine Kept.set ?_ ?_ ?_)|(with_reducible refine Kept.alloc _ ?_ ?_)|(with_reducible refine Kept.drew ?_)|(with_reducible refine Kept.drewN _ ?_)|((try simp only [szs]);omega)))
 have ri:Row W lo W.heap.size 154 9 SItem.cells r.run.items I:=(HIT.out.kept fK HM0.out dC sI).hi_mono fK.size
 have RI:=hid ri
 have FK:=hid fK
 have F0:=hid f0
 have F2:=hid f2
 clear hW gcm gfm gzm hm fK ri
 obtain ⟨gc1,gf1,gz1⟩:=zaa f1
 have gz0:=zak f0
 have gz2:=zak f2
 go_cut [6,7] (fun s6 s7 wx=>∃ pb cb,s6=.pointer (some ⟨pb,0,none⟩)/\s7=.pointer (some ⟨cb,0,none⟩)/\W.heap.size<=pb/\W.heap.size<=cb/\blk wx pb=some (.cells x.pins.cells 76)/\blk wx cb=some (.cells x.before.cpu.cells 41)/\Below W.heap.size W wx)
 case first=>
  go_region
  all_goals
   go_wp2_with fail
  all_goals
   go_meet
   refine ⟨_,_,rfl,rfl,?_,?_,?_,?_,?_⟩
   ·simp
   ·simp
   ·simp [go_sem,↓iteOmega, *]
   ·simp [go_sem,↓iteOmega, *]
   ·exact bL
 obtain ⟨pb,cb,rfl,rfl,hpb,hcb,kp,kc,hB⟩:=hcut
 have k0:blk wc rb=some (.cells r.cells 93):=(hB.block _ gz0).trans f0
 have k2:blk wc (w.heap.size+1)=some (.cells cy.cells 43):=(hB.block _ gz2).trans f2
 have FK2:Aside (Kept lo rb [] w wc):=FK.out.trans (Kept.of_below hB (by have:=FK.out.size;omega))
 have ri:Row wc lo wc.heap.size 154 9 SItem.cells r.run.items I:=(RI.out.thru hB nL).hi_mono hB.size
 have RI3:=hid ri
 have K0:=hid k0
 clear f0 f1 f2 gc1 gf1 gz1 gz0 gz2 hB ri
 obtain ⟨gcm,gfm,gzm⟩:=zaa k0
 obtain ⟨gc2,gf2,gz2⟩:=zaa k2
 obtain ⟨gcp,gfp,gzp⟩:=zaa kp
 obtain ⟨gcc,gfc,gzc⟩:=zaa kc
 have JN:Aside (∀ (v:SItem) w1,Below wc.heap.size wc w1->Calls prog 77 #[.pointer (some ⟨rb,0,none⟩),.agg v.cells] w1 (zjg lo rb r I w1)):=fun v w1 hB=>zsp r rb v w1 ((hB.block _ gzm).trans K0.out) ((RI3.out.thru hB nL).hi_mono hB.size) hI hlo
 clear gcm gfm gc2 gf2 gz2 k2
 obtain ⟨gcm,gfm,_⟩:=zaa k0
 obtain h|h|h:=hst
 all_goals
  go_wp2_with (go_at_call 77;(refine (JN.out _ _ bL).mono ?_);rintro e w2 ⟨rfl,it,I',h1,h2,h3,h4,h5⟩)
  go_end0
  exact ⟨rfl,it,I',h1,h2,h3,h4,((FK2.out.trans (Kept.of_below bL (by have:=FK2.out.size;omega))).more sI).trans h5⟩
end
end Go.Proofs.YtlmbamdkklkliaaGreat
