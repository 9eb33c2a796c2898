/- Part of the proof that a law holds at every input. No conditions. -/
import Derived.Test.YtlmbamdkklkliaaGreatK38
namespace Go.Proofs.YtlmbamdkklkliaaGreat
set_option linter.unusedVariables false
set_option linter.unusedSimpArgs false
set_option linter.unusedSectionVars false
set_option maxRecDepth 100000
set_option maxHeartbeats 16000000
open Go.Proofs.Tryz
open Lib (hid)
open Go.IntWalk (iteOmega)
section
open Go.RowKit
theorem zv9 (r:SRecorder) (rb:Nat) (x:SMoment) (cy:SCycle) (w:World) {lo:Nat} {I:List SItem} (hm:blk w rb=some (.cells r.cells 93)) (hit:Row w lo w.heap.size 154 9 SItem.cells r.run.items I) (hI:I.length<=900000) (hlo:lo<=rb) (hst:x.pins.state=1) :
  Calls prog 45 #[.pointer (some ⟨rb,0,none⟩),.agg x.cells,.agg cy.cells] w (zjg lo rb r I w):=by
 have hlt:=zak hm
 have HM0:=hid hm
 have HIT:=hid hit
 have hn:=hit.len
 clear hit
 obtain ⟨gcm,gfm,gzm⟩:=zaa hm
 go_enter func45,ntmps45
 go_upto_region 1 with fail
 refine wpNm (fun W hW=>?_)
 have f0:blk W rb=some (.cells r.cells 93):=by rw [hW];exact sM
 have f1:blk W w.heap.size=some (.cells x.cells 96):=by rw [hW];exact sM
 have f2:blk W (w.heap.size+1)=some (.cells cy.cells 43):=by rw [hW];exact sM
 have fK:Kept lo rb [] w W:=by rw [hW];(repeat' (first|(with_reducible exact Kept.refl)|(with_reducible refine Kept.setM ?_ hlo)|(with_reducible refine Kept.set ?_ ?_ ?_)|(with_reducible refine Kept.alloc _ ?_ ?_)|(with_reducible refine Kept.drew ?_)|(with_reducible refine Kept.drewN _ ?_)|((try simp only [szs]);omega)))
 have ri:Row W lo W.heap.size 154 9 SItem.cells r.run.items I:=(HIT.out.kept fK HM0.out dC sI).hi_mono fK.size
 have RI:=hid ri
 have FK:=hid fK
 have F0:=hid f0
 have F2:=hid f2
 clear hW gcm gfm gzm hm fK ri
 obtain ⟨gc1,gf1,gz1⟩:=zaa f1
 have gz0:=zak f0
 have gz2:=zak f2
 go_cut [6,7] (fun s6 s7 wx=>∃ pb cb,s6=.pointer (some ⟨pb,0,none⟩)/\s7=.pointer (some ⟨cb,0,none⟩)/\W.heap.size<=pb/\W.heap.size<=cb/\blk wx pb=some (.cells x.pins.cells 76)/\blk wx cb=some (.cells x.before.cpu.cells 41)/\Below W.heap.size W wx)
 case first=>
  go_region
  all_goals
   go_wp2_with fail
  all_goals
   go_meet
   refine ⟨_,_,rfl,rfl,?_,?_,?_,?_,?_⟩
   ·simp
   ·simp
   ·simp [go_sem,↓iteOmega, *]
   ·simp [go_sem,↓iteOmega, *]
   ·exact bL
 obtain ⟨pb,cb,rfl,rfl,hpb,hcb,kp,kc,hB⟩:=hcut
 have k0:blk wc rb=some (.cells r.cells 93):=(hB.block _ gz0).trans f0
 have k2:blk wc (w.heap.size+1)=some (.cells cy.cells 43):=(hB.block _ gz2).trans f2
 have FK2:Aside (Kept lo rb [] w wc):=FK.out.trans (Kept.of_below hB (by have:=FK.out.size;omega))
 have ri:Row wc lo wc.heap.size 154 9 SItem.cells r.run.items I:=(RI.out.thru hB nL).hi_mono hB.size
 have RI3:=hid ri
 have K0:=hid k0
 clear f0 f1 f2 gc1 gf1 gz1 gz0 gz2 hB ri
 obtain ⟨gcm,gfm,gzm⟩:=zaa k0
 obtain ⟨gc2,gf2,gz2⟩:=zaa k2
 obtain ⟨gcp,gfp,gzp⟩:=zaa kp
 obtain ⟨gcc,gfc,gzc⟩:=zaa kc
 clear hn
 go_upto_region 5 with fail
 go_region_law ((refine zbr rfl _ _ 32 (by rfl) ((RI3.out.thru ((Below.refl _ wc).drew) nL).thru ((Below.refl _ wc.drew).alloc nL _) nL) (fun _=>rfl) SItem.one oM SItem.info (by rfl) [((⟨1,cy,0,1,x.before.cpu.ie,x.before.cpu.sod⟩:SItem):SItem)] wc.heap.size ((⟨1,cy,0,1,x.before.cpu.ie,x.before.cpu.sod⟩:SItem):SItem).cells 154 1 1 (by rfl) (zab _ _ _ rfl) (by simp [encL]) rfl oM oM sO ?_;intro s' w2 hrow hgr;have hat:=hgr.kept rb _ _ dC ((blk_alloc_past _ rb _ (zak K0.out)).trans K0.out);obtain ⟨hcl1,hfr1,hlt1⟩:=zaa hat))
 all_goals go_wp2_with fail
 all_goals
  go_end0
  have k0:blk (zai w2 rb ({ r with run := { r.run with items:=s' } }:SRecorder).cells 93) rb=some (.cells ({ r with run := { r.run with items:=s' } }:SRecorder).cells 93):=blk_setBlk_same _ _ _ _ hlt1
  have rw2:Row (zai w2 rb ({ r with run := { r.run with items:=s' } }:SRecorder).cells 93) lo (zai w2 rb ({ r with run := { r.run with items:=s' } }:SRecorder).cells 93).heap.size 154 9 SItem.cells s' (I++[(⟨1,cy,0,1,x.before.cpu.ie,x.before.cpu.sod⟩:SItem)]):=Row.hi_mono (Row.set hrow hat dC) (by rw [size_setBlk];exact Nat.le_refl _)
  have hk2:Kept lo rb [154] wc (zai w2 rb ({ r with run := { r.run with items:=s' } }:SRecorder).cells 93):=Kept.setM ((Kept.alloc _ (Kept.drew Kept.refl) sO).trans (Kept.of_grew hgr sI)) hlo
  have hW2:∀ A:Array Value,A=({ r with run := { r.run with items:=s' } }:SRecorder).cells->zai w2 rb A 93=zai w2 rb ({ r with run := { r.run with items:=s' } }:SRecorder).cells 93:=fun A h=>by rw [h]
  exact ⟨rfl,s',I++[(⟨1,cy,0,1,x.before.cpu.ie,x.before.cpu.sod⟩:SItem)],k0,rw2,by simp,by simp,(FK2.out.more sI).trans hk2⟩
end
section
open Go.RowKit
theorem zwa (r:SRecorder) (rb:Nat) (x:SMoment) (cy:SCycle) (w:World) {lo:Nat} {I:List SItem} (hm:blk w rb=some (.cells r.cells 93)) (hit:Row w lo w.heap.size 154 9 SItem.cells r.run.items I) (hI:I.length<=900000) (hlo:lo<=rb) (h0:1<=x.pins.state/\x.pins.state<=10) (hne:2<=x.pins.state->x.pins.state<=7->0<I.length) :
  Calls prog 45 #[.pointer (some ⟨rb,0,none⟩),.agg x.cells,.agg cy.cells] w (zjg lo rb r I w):=by
 by_cases h1:x.pins.state=1
 ·exact zv9 r rb x cy w hm hit hI hlo h1
 ·by_cases h7:x.pins.state=7
  ·exact zto r rb x cy w hm hit hI hlo h7 (hne oM oM)
  ·by_cases h6:x.pins.state<=6
   ·exact z2c r rb x cy w hm hit hI hlo oM (hne oM oM)
   ·exact ztp r rb x cy w hm hit hI hlo oM
end
end Go.Proofs.YtlmbamdkklkliaaGreat
