/- Part of the proof that a law holds at every input. No conditions. -/
import Derived.Test.YtlmbamdkklkliaaGreatK34
import Derived.Test.YtlmbamdkklkliaaGreatK47
namespace Go.Proofs.YtlmbamdkklkliaaGreat
set_option linter.unusedVariables false
set_option linter.unusedSimpArgs false
set_option linter.unusedSectionVars false
set_option maxRecDepth 100000
set_option maxHeartbeats 16000000
open Go.Proofs.Tryz
open Lib (hid)
open Go.IntWalk (iteOmega)
section
open Go.RowKit
section
variable (c:SCore) (G:List Int) (l:SLines) (data:Int) (w:World) (hg:Row w 0 w.heap.size 5 1 encB c.got G) (hG:G.length<=900000) (hgb:∀ y ∈ G,0<=y/\y<=255) (hr:c.cpu.regs.Ok) (hd:0<=data/\data<=255) (hcd:0<=c.cycle.data/\c.cycle.data<=255) (hca:0<=c.cycle.at_/\c.cycle.at_<=65535)
include c G l data w hg hG hgb hr hd hcd hca
theorem clk_n (hl:l.reset=false) :
  Calls prog 53 #[.agg c.cells,.agg l.cells,.int .u8 data] w (zmp c G l data w):=by
 obtain ⟨ha0,ha1⟩:=hca
 have HL:=hid hl
 go_enter func53,ntmps53
 go_upto_region 1 with fail
 refine wpNm (fun W hW=>?_)
 have f0:blk W w.heap.size=some (.cells c.cells 45):=by rw [hW];simp [go_sem,↓iteOmega]
 have f1:blk W (w.heap.size+1)=some (.cells l.cells 59):=by rw [hW];simp [go_sem,↓iteOmega]
 have f2:blk W (w.heap.size+1+1)=some (.cells SCore.zero.cells 45):=by rw [hW];simp [go_sem,↓iteOmega]
 have f3:blk W (w.heap.size+1+1+1)=some (.cells SPins.zero.cells 76):=by rw [hW];simp [go_sem,↓iteOmega]
 have fz:w.heap.size+1+1+1<W.heap.size:=by rw [hW];simp
 have fB:Below w.heap.size w W:=by rw [hW];exact bL
 clear hW
 go_cut [8] (fun s8 wx=>∃ pb,s8=.pointer (some ⟨pb,0,none⟩)/\W.heap.size<=pb/\blk wx pb=some (.cells (SPState.mk (zaj c) c.cycle data c.cpu.regs.pc c.cpu.ie c.cpu.sod).cells 167)/\Below W.heap.size W wx)
 case first=>
  have F0:=hid f0
  have FZ:w.heap.size<W.heap.size:=oM
  have mkS:∀ w',(blk w' w.heap.size=some (.cells c.cells 45)/\W.heap.size<=w'.heap.size/\Below W.heap.size W w')->((blk w' w.heap.size=some (.cells c.cells 45)/\W.heap.size<=w'.heap.size/\Below W.heap.size W w')/\w'.cell? ⟨w.heap.size,16,none⟩=some (.int .u16 c.cpu.regs.pc)/\w'.cell? ⟨w.heap.size,17,none⟩=some (.bool c.cpu.ie)/\w'.cell? ⟨w.heap.size,27,none⟩=some (.bool c.cpu.sod)):=fun w' h=>⟨h,(zaa h.1).1 16,(zaa h.1).1 17,(zaa h.1).1 27⟩
  have MK:=hid mkS
  clear f1 f2 f3 fz mkS f0 fB
  go_region_held3 ((fun w'=>(blk w' w.heap.size=some (.cells c.cells 45)/\W.heap.size<=w'.heap.size/\Below W.heap.size W w')/\w'.cell? ⟨w.heap.size,16,none⟩=some (.int .u16 c.cpu.regs.pc)/\w'.cell? ⟨w.heap.size,17,none⟩=some (.bool c.cpu.ie)/\w'.cell? ⟨w.heap.size,27,none⟩=some (.bool c.cpu.sod))) (first|exact MK.out _ (zqa F0.out)|exact MK.out _ (zx0 _ FZ F0.out)|exact MK.out _ (zp8 _ FZ aS F0.out)|exact MK.out _ (ztu _ FZ aS F0.out)|exact MK.out _ (znh _ FZ aS)|exact MK.out _ (zp9 FZ aS aS)) (first|(go_at_call 50;with_reducible refine Cbv (zbe _ _) ?_;intro w' hB hb1 hb2 hb3 hs;(try simp only [szs] at hs hb1 hb2 hb3)))
  all_goals go_wp2_with fail
  all_goals
   go_meet
   case rel=>
    refine ⟨_,rfl,?_,?_,?_⟩
    ·first|exact Nat.le_refl _|exact hs
    ·simp [go_sem,↓iteOmega, *]
    ·exact bL
 obtain ⟨pb,rfl,hpb,hps,hBc⟩:=hcut
 have g0:blk wc w.heap.size=some (.cells c.cells 45):=(hBc.block _ oM).trans f0
 have g1:blk wc (w.heap.size+1)=some (.cells l.cells 59):=(hBc.block _ oM).trans f1
 have g2:blk wc (w.heap.size+1+1)=some (.cells SCore.zero.cells 45):=(hBc.block _ oM).trans f2
 have g3:blk wc (w.heap.size+1+1+1)=some (.cells SPins.zero.cells 76):=(hBc.block _ oM).trans f3
 have gz:w.heap.size+1+1+1<pb/\pb<wc.heap.size:=⟨oM,(zaa hps).2.2⟩
 have gB:Below w.heap.size w wc:=zaf hBc fB fB.size
 clear hBc hpb f0 f1 f2 f3 fz fB
 obtain ⟨gc1,gf1,gz1⟩:=zaa g1
 obtain ⟨gcp,gfp,gzp⟩:=zaa hps
 go_wp2_with (first|(go_at_call 44;(refine (zut c G l data _ ((hg.thru (by first|exact gB|exact gB.drew|assumption) nL).hi_mono (by (try simp only [szs] at *);omega)) hG hgb hr hd hcd).mono ?_);intro e w' had;obtain ⟨s1,sx,rfl,hrow,hrowx,hB⟩:=had;obtain ⟨hb1,hb2,hb3⟩:=zdn hB;have hs:=hB.size;(try simp only [szs] at hs hb1 hb2 hb3)))
 refine wpNm (fun W2 hW=>?_)
 obtain ⟨c1,hc1⟩:∃ c1,({ advC c G l data with got:=s1 }:SCore)=c1:=⟨_,rfl⟩
 obtain ⟨x1,hx1⟩:∃ x1,advX c G l data sx=x1:=⟨_,rfl⟩
 rw [hc1,hx1] at hW
 obtain ⟨nb,hnb⟩:∃ nb,w'.heap.size=nb:=⟨_,rfl⟩
 have k0:blk W2 w.heap.size=some (.cells c.cells 45):=by rw [hW];exact sM
 have k2:blk W2 (w.heap.size+1+1)=some (.cells SCore.zero.cells 45):=by rw [hW];exact sM
 have k3:blk W2 (w.heap.size+1+1+1)=some (.cells SPins.zero.cells 76):=by rw [hW];exact sM
 have kp:blk W2 pb=some (.cells (SPState.mk (zaj c) c.cycle data c.cpu.regs.pc c.cpu.ie c.cpu.sod).cells 167):=by rw [hW];exact sM
 have kn:blk W2 nb=some (.cells c1.cells 45):=by rw [hW];exact sM
 have kz:w.heap.size+1+1+1<pb/\pb<nb/\nb<W2.heap.size:=by rw [hW];(try simp only [szs] at *);omega
 have kB0:Below w'.heap.size w' W2:=by rw [hW];exact bL
 have kB:Below w.heap.size w W2:=zaf kB0 (zaf hB gB gB.size) oM
 have kr:Row W2 w.heap.size W2.heap.size 5 1 encB s1 (advG c G l data):=((hrow.thru kB0 nL).lo_mono oM).hi_mono kB0.size
 have HC:=hid hc1
 rw [hnb]
 clear hW g0 g1 g2 g3 hps gB gc1 gf1 gz1 gz gcp gfp gzp hb1 hb2 hb3 hs hB hrow hrowx kB0 hx1 hc1 hnb
 have q0:∀ d os,blk (Go.Sort.grow (redrawn W2 d) os) w.heap.size=some (.cells c.cells 45):=fun d os=>((below_regrown W2 d os).block _ oM).trans aS
 have q1:∀ d os,blk (Go.Sort.grow (redrawn W2 d) os) pb=some (.cells (SPState.mk (zaj c) c.cycle data c.cpu.regs.pc c.cpu.ie c.cpu.sod).cells 167):=fun d os=>((below_regrown W2 d os).block _ oM).trans aS
 have q2:∀ d os,blk (Go.Sort.grow (redrawn W2 d) os) nb=some (.cells c1.cells 45):=fun d os=>((below_regrown W2 d os).block _ oM).trans aS
 have hcl:∀ d os i,(Go.Sort.grow (redrawn W2 d) os).cell? ⟨w.heap.size,i,none⟩=c.cells[i]? := fun d os i=>(zaa (q0 d os)).1 i
 refine zad 6 kR kR ?_
 simp only [tkd]
 repeat (quiet_step (first|(go_at_call 87;exact Calls.regrown_of (zm7 _ _ _ ha0 ha1))))
 refine wpQuiet_nil ?_
 intro wq hwq
 have hBq:Below W2.heap.size W2 wq:=by obtain ⟨p,rfl⟩:=hwq;exact below_regrown _ _ _
 clear hwq hcl q0 q1 q2
 have l2:blk wq (w.heap.size+1+1)=some (.cells SCore.zero.cells 45):=(hBq.block _ oM).trans k2
 have l3:blk wq (w.heap.size+1+1+1)=some (.cells SPins.zero.cells 76):=(hBq.block _ oM).trans k3
 have lB:Below w.heap.size w wq:=zaf hBq kB kB.size
 have lz:w.heap.size+1+1+1<wq.heap.size:=by have:=hBq.size;omega
 have lr:Row wq w.heap.size wq.heap.size 5 1 encB s1 (advG c G l data):=(kr.thru hBq nL).hi_mono hBq.size
 clear k0 k2 k3 kp kn kz kB hBq kr
 go_wp2_with fail
 have e1:clkC c G l data=advC c G l data:=by unfold clkC;rw [if_neg (by rw [HL.out];simp)]
 have e2:clkG c G l data=advG c G l data:=by unfold clkG;rw [if_neg (by rw [HL.out];simp)]
 have e3:clkP c l data=zfj c.cpu.chip (SPState.mk (zaj c) c.cycle data c.cpu.regs.pc c.cpu.ie c.cpu.sod):=by unfold clkP;rw [if_neg (by rw [HL.out];simp)]
 refine zbl (n:=36) (n':=17) (v:=.agg c1.cells) (u:=.agg (zfj c.cpu.chip (SPState.mk (zaj c) c.cycle data c.cpu.regs.pc c.cpu.ie c.cpu.sod)).cells) rfl kR kR kR kR rfl ?_ ?_ rfl ?_ ?_ rfl ⟨s1,by rw [e1,e3,HC.out],?_,?_⟩
 all_goals first|(simp [go_sem,↓iteOmega, *];done)|exact zae (zae lB oM) oM|skip
 rw [e2]
 refine Row.hi_mono (Row.keepT lr fun g cur hlo hhi hg=>?_) (by simp [size_setBlk])
 have n1:g≠w.heap.size+1+1:=fun e=>by subst e;rw [l2] at hg;simp at hg
 have n2:g≠w.heap.size+1+1+1:=fun e=>by subst e;rw [l3] at hg;simp at hg
 simp [go_sem,↓iteOmega, *]
theorem z0w :
  Calls prog 53 #[.agg c.cells,.agg l.cells,.int .u8 data] w (zmp c G l data w):=by
 cases hl:l.reset
 ·exact clk_n c G l data w hg hG hgb hr hd hcd hca hl
 ·exact clk_r c G l data w hg hG hgb hr hd hcd hca hl
end

end
end Go.Proofs.YtlmbamdkklkliaaGreat
