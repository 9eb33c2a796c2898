/- Part of the proof that a law holds at every input. No conditions. -/
import Derived.Deep.DeepCutAuto
import Derived.Deep.DrawnRows
import Derived.Deep.RegionWith
import Derived.Lib.Hide
import Derived.RegionTactic
import Derived.Test.YtlmbamdkklkliaaGreatK29
import Derived.Test.YtlmbamdkklkliaaGreatK39
namespace Go.Proofs.YtlmbamdkklkliaaGreat
set_option linter.unusedVariables false
set_option linter.unusedSimpArgs false
set_option linter.unusedSectionVars false
set_option maxRecDepth 100000
set_option maxHeartbeats 16000000
open Go.Proofs.Tryz
open Lib (hid)
open Go.IntWalk (iteOmega)
section
open Go.RowKit
attribute [local go_sem ↓] Go.wp_at_zero Go.wp_at_succ
section
variable {w W w':World} {xb:Nat}
theorem zec:w.grownBy w (some xb):=⟨rfl,rfl,rfl,Nat.le_refl _,fun _ _ _=>rfl⟩
theorem zdc (o:Obj) (h:w.grownBy W (some xb)):w.grownBy (W.alloc o) (some xb):=⟨h.os,h.tape,h.output,by have:=h.size;simp;omega,fun k hk hn=>(Below.heap_alloc _ _ _ (Nat.lt_of_lt_of_le hk h.size)).trans (h.block k hk hn)⟩
theorem zed (h:w.grownBy W (some xb)):w.grownBy W.drew (some xb):=⟨h.os,h.tape,h.output,h.size,h.block⟩
theorem zdl (n:Nat) (h:w.grownBy W (some xb)):w.grownBy (W.drewN n) (some xb):=⟨h.os,h.tape,h.output,h.size,h.block⟩
theorem zeb {A:Array Value} {t:TypeId} (h:w.grownBy W (some xb)):w.grownBy (zai W xb A t) (some xb):=⟨h.os,h.tape,h.output,by rw [size_setBlk];exact h.size,fun k hk hn=>(zbw _ _ _ _ _ (fun e=>hn (by rw [e]))).trans (h.block k hk hn)⟩
theorem zfu {b:Nat} {A:Array Value} {t:TypeId} (h:w.grownBy W (some xb)) (hb:w.heap.size<=b):w.grownBy (zai W b A t) (some xb):=⟨h.os,h.tape,h.output,by rw [size_setBlk];exact h.size,fun k hk hn=>(zbw _ _ _ _ _ oM).trans (h.block k hk hn)⟩
theorem zd2 (hB:Below W.heap.size W w') (h:w.grownBy W (some xb)):w.grownBy w' (some xb):=⟨hB.os.trans h.os,hB.tape.trans h.tape,hB.output.trans h.output,Nat.le_trans h.size hB.size,fun k hk hn=>(hB.block k (Nat.lt_of_lt_of_le hk h.size)).trans (h.block k hk hn)⟩
end
section
variable (c:SCore) (G:List Int) (l:SLines) (x:SChange) (xb:Nat) (w:World) (hx:blk w xb=some (.cells x.cells 121)) (hg:Row w 0 w.heap.size 5 1 encB c.got G) (hG:G.length<=1000000) (hgb:∀ y ∈ G,0<=y/\y<=255) (h0:c.cpu.regs.Ok) (hf:(zch c.cpu c.source G l).regs.Ok)
include c G l x xb w hx hg hG hgb h0 hf
theorem zw2 (hm:zb9 c.cpu c.source G=true) :
  Calls prog 73 #[.agg c.cells,.agg l.cells,.pointer (some ⟨xb,0,none⟩)] w fun e w'=>e=.returned (.agg (endM c G l).cells)/\blk w' xb=some (.cells (endX c G l x c.got).cells 121)/\w.grownBy w' (some xb):=by
 obtain ⟨hcx,hfx,hlx⟩:=zaa hx
 have HM:=hid hm
 have e1:endM c G l=zg9 { c with cycle:=zdb c.cpu c.source G }:=by unfold endM;rw [if_pos hm]
 have e2:endX c G l x c.got=x:=by unfold endX;rw [if_pos hm]
 rw [e1,e2]
 clear e1 e2
 go_enter func73,ntmps73
 go_wp2_with (first|(go_at_call 93;(refine (zl8 _ _ c.got G _ ((hg.thru (bL:Below w.heap.size w _) nL).hi_mono (by (try simp only [szs] at *);omega)) hG hgb h0).mono ?_);rintro e w' ⟨rfl,hB⟩;obtain ⟨hb1,hb2,hb3⟩:=zdn hB;have hs:=hB.size;(try simp only [szs] at hs hb1 hb2 hb3))|(go_at_call 74;with_reducible refine Cbv (zki _ _ _) ?_;intro w' hB hb1 hb2 hb3 hs;(try simp only [szs] at hs hb1 hb2 hb3)))
 refine SCore.ret (zg9 { c with cycle:=zdb c.cpu c.source G }) rfl rfl ?_ rfl ⟨rfl,?_,?_⟩
 ·simp [go_sem,↓iteOmega,zg9, *]
 ·simp [go_sem,↓iteOmega, *]
 ·(repeat' (first|(with_reducible exact zec)|(with_reducible assumption)|(with_reducible refine zeb ?_)|(with_reducible refine zfu ?_ ?_)|(with_reducible refine zdc _ ?_)|(with_reducible refine zed ?_)|(with_reducible refine zdl _ ?_)|(with_reducible refine zd2 ‹_› ?_)|((try simp only [szs] at *);omega)))
theorem zw3 (hm:zb9 c.cpu c.source G=false) :
  Calls prog 73 #[.agg c.cells,.agg l.cells,.pointer (some ⟨xb,0,none⟩)] w fun e w'=>e=.returned (.agg (endM c G l).cells)/\blk w' xb=some (.cells (endX c G l x c.got).cells 121)/\w.grownBy w' (some xb):=by
 obtain ⟨hcx,hfx,hlx⟩:=zaa hx
 have HM:=hid hm
 obtain ⟨q,hq⟩:∃ q,zch c.cpu c.source G l=q:=⟨_,rfl⟩
 have e1:endM c G l=zg9 (zgu { c with cpu:=q } (zc5 q l)):=by unfold endM;rw [if_neg (by rw [hm];simp),hq]
 have e2:endX c G l x c.got = { x with ended:=true,cpu:=q,got:=c.got }:=by unfold endX;rw [if_neg (by rw [hm];simp),hq]
 rw [e1,e2]
 rw [hq] at hf
 have HQ:=hid hq
 clear e1 e2 hq
 go_enter func73,ntmps73
 go_wp2_with (first|(go_at_call 93;(refine (zl8 _ _ c.got G _ ((hg.thru (bL:Below w.heap.size w _) nL).hi_mono (by (try simp only [szs] at *);omega)) hG hgb h0).mono ?_);rintro e w' ⟨rfl,hB⟩;obtain ⟨hb1,hb2,hb3⟩:=zdn hB;have hs:=hB.size;(try simp only [szs] at hs hb1 hb2 hb3))|(go_at_call 98;(refine (zox _ _ c.got G l _ ((hg.thru (bL:Below w.heap.size w _) nL).hi_mono (by (try simp only [szs] at *);omega)) hG hgb h0).mono ?_);rw [HQ.out];rintro e w' ⟨rfl,hB⟩;obtain ⟨hb1,hb2,hb3⟩:=zdn hB;have hs:=hB.size;(try simp only [szs] at hs hb1 hb2 hb3)))
 have f0:blk (w'.alloc (.cells q.cells 41)) w.heap.size=some (.cells c.cells 45):=sM
 have f1:blk (w'.alloc (.cells q.cells 41)) (w.heap.size+1)=some (.cells l.cells 59):=sM
 have f2:blk (w'.alloc (.cells q.cells 41)) (w.heap.size+1+1)=some (.cells SCore.zero.cells 45):=sM
 have fx:blk (w'.alloc (.cells q.cells 41)) xb=some (.cells x.cells 121):=sM
 have k5:w.grownBy (w'.alloc (.cells q.cells 41)) (some xb):=by (repeat' (first|(with_reducible exact zec)|(with_reducible assumption)|(with_reducible refine zeb ?_)|(with_reducible refine zfu ?_ ?_)|(with_reducible refine zdc _ ?_)|(with_reducible refine zed ?_)|(with_reducible refine zdl _ ?_)|(with_reducible refine zd2 ‹_› ?_)|((try simp only [szs] at *);omega)))
 have fq:∃ qb,qb=w'.heap.size/\blk (w'.alloc (.cells q.cells 41)) qb=some (.cells q.cells 41)/\w.heap.size+1+1<qb/\qb<(w'.alloc (.cells q.cells 41)).heap.size:=by
  refine ⟨w'.heap.size,rfl,?_,?_,?_⟩
  ·simp [go_sem,↓iteOmega, *]
  ·omega
  ·simp
 obtain ⟨qb,hqb,fq,hq1,hq2⟩:=fq
 rw [<- hqb]
 generalize w'.alloc (.cells q.cells 41)=W5 at f0 f1 f2 fx k5 fq hq2 ⊢
 clear hqb hb1 hb2 hb3 hs hcx hfx hx
 obtain ⟨gc0,gf0,g0⟩:=zaa f0
 obtain ⟨gc1,gf1,g1⟩:=zaa f1
 obtain ⟨gcx,gfx,gx⟩:=zaa fx
 obtain ⟨gcq,gfq,gq⟩:=zaa fq
 go_cut [] (fun wx=>wx=(zai W5 xb (SChange.mk true q c.got x.cycle x.latched).cells 121).drew)
 case first=>
  go_region
  all_goals go_wp2_with fail
  all_goals go_meet
  all_goals (simp [go_sem,↓iteOmega, *])
 rw [hcut]
 clear hcut
 have h0:blk (zai W5 xb (SChange.mk true q c.got x.cycle x.latched).cells 121).drew w.heap.size=some (.cells (c).cells 45):=sM
 have h1:blk (zai W5 xb (SChange.mk true q c.got x.cycle x.latched).cells 121).drew (w.heap.size+1)=some (.cells (l).cells 59):=sM
 have h2:blk (zai W5 xb (SChange.mk true q c.got x.cycle x.latched).cells 121).drew (w.heap.size+1+1)=some (.cells (SCore.zero).cells 45):=sM
 have hx:blk (zai W5 xb (SChange.mk true q c.got x.cycle x.latched).cells 121).drew xb=some (.cells (SChange.mk true q c.got x.cycle x.latched).cells 121):=sM
 have hq:blk (zai W5 xb (SChange.mk true q c.got x.cycle x.latched).cells 121).drew qb=some (.cells (q).cells 41):=sM
 have hz6:w.heap.size+1+1<((zai W5 xb (SChange.mk true q c.got x.cycle x.latched).cells 121).drew).heap.size/\qb<((zai W5 xb (SChange.mk true q c.got x.cycle x.latched).cells 121).drew).heap.size:=by simp only [World.size_drew,size_setBlk];omega
 have k6:w.grownBy ((zai W5 xb (SChange.mk true q c.got x.cycle x.latched).cells 121).drew) (some xb):=by (repeat' (first|(with_reducible exact zec)|(with_reducible assumption)|(with_reducible refine zeb ?_)|(with_reducible refine zfu ?_ ?_)|(with_reducible refine zdc _ ?_)|(with_reducible refine zed ?_)|(with_reducible refine zdl _ ?_)|(with_reducible refine zd2 ‹_› ?_)|((try simp only [szs] at *);omega)))
 generalize (zai W5 xb (SChange.mk true q c.got x.cycle x.latched).cells 121).drew=W6 at h0 h1 h2 hx hq hz6 k6 ⊢
 clear f0 f1 f2 fx fq k5 gc0 gc1 gcx gcq gf0 gf1 gfx gfq g0 g1 gx gq hq2
 obtain ⟨gc_h0,gf_h0,gs_h0⟩:=zaa h0
 obtain ⟨gc_h1,gf_h1,gs_h1⟩:=zaa h1
 obtain ⟨gc_h2,gf_h2,gs_h2⟩:=zaa h2
 obtain ⟨gc_hx,gf_hx,gs_hx⟩:=zaa hx
 obtain ⟨gc_hq,gf_hq,gs_hq⟩:=zaa hq
 go_wp2_with fail
 have j0:blk (zai W6 w.heap.size ({ c with cpu:=q }:SCore).cells 45) w.heap.size=some (.cells (({ c with cpu:=q }:SCore)).cells 45):=sM
 have j1:blk (zai W6 w.heap.size ({ c with cpu:=q }:SCore).cells 45) (w.heap.size+1)=some (.cells (l).cells 59):=sM
 have j2:blk (zai W6 w.heap.size ({ c with cpu:=q }:SCore).cells 45) (w.heap.size+1+1)=some (.cells (SCore.zero).cells 45):=sM
 have jx:blk (zai W6 w.heap.size ({ c with cpu:=q }:SCore).cells 45) xb=some (.cells (SChange.mk true q c.got x.cycle x.latched).cells 121):=sM
 have jq:blk (zai W6 w.heap.size ({ c with cpu:=q }:SCore).cells 45) qb=some (.cells (q).cells 41):=sM
 have jz:w.heap.size+1+1<(zai W6 w.heap.size ({ c with cpu:=q }:SCore).cells 45).heap.size/\qb<(zai W6 w.heap.size ({ c with cpu:=q }:SCore).cells 45).heap.size:=by simp only [size_setBlk];omega
 have jk:w.grownBy (zai W6 w.heap.size ({ c with cpu:=q }:SCore).cells 45) (some xb):=by (repeat' (first|(with_reducible exact zec)|(with_reducible assumption)|(with_reducible refine zeb ?_)|(with_reducible refine zfu ?_ ?_)|(with_reducible refine zdc _ ?_)|(with_reducible refine zed ?_)|(with_reducible refine zdl _ ?_)|(with_reducible refine zd2 ‹_› ?_)|((try simp only [szs] at *);omega)))
 generalize (zai W6 w.heap.size ({ c with cpu:=q }:SCore).cells 45)=W7 at j0 j1 j2 jx jq jz jk ⊢
 clear h1 h2 hx hq hz6 k6 gc_h0 gc_h1 gc_h2 gc_hx gc_hq gf_h0 gf_h1 gf_h2 gf_hx gf_hq gs_h0 gs_h1 gs_h2 gs_hx gs_hq
 have q0:∀ d os,blk (Go.Sort.grow (redrawn W7 d) os) w.heap.size=some (.cells ({ c with cpu:=q }:SCore).cells 45):=fun d os=>((below_regrown W7 d os).block _ oM).trans j0
 have q1:∀ d os,blk (Go.Sort.grow (redrawn W7 d) os) (w.heap.size+1)=some (.cells l.cells 59):=fun d os=>((below_regrown W7 d os).block _ oM).trans j1
 have q2:∀ d os,blk (Go.Sort.grow (redrawn W7 d) os) qb=some (.cells q.cells 41):=fun d os=>((below_regrown W7 d os).block _ oM).trans jq
 refine zad 5 kR kR ?_
 simp only [tkd]
 repeat (quiet_step (first|(go_at_call 10;exact Calls.regrown_of (zid _ _ _))|(go_at_call 75;exact Calls.regrown_of (ziy _ _ _ hf))))
 refine wpQuiet_nil ?_
 intro wq hwq
 have hBq:Below W7.heap.size W7 wq:=by obtain ⟨p,rfl⟩:=hwq;exact below_regrown _ _ _
 clear hwq q0 q1 q2
 have m0:blk wq w.heap.size=some (.cells ({ c with cpu:=q }:SCore).cells 45):=(hBq.block _ oM).trans j0
 have m2:blk wq (w.heap.size+1+1)=some (.cells SCore.zero.cells 45):=(hBq.block _ oM).trans j2
 have mx:blk wq xb=some (.cells (SChange.mk true q c.got x.cycle x.latched).cells 121):=(hBq.block _ oM).trans jx
 have mk:=zd2 hBq jk
 have mz:=hBq.size
 clear hBq j0 j1 j2 jx jq jk
 obtain ⟨gm0,gn0,gz0⟩:=zaa m0
 obtain ⟨gm2,gn2,gz2⟩:=zaa m2
 go_wp2_with (first|(go_at_call 74;with_reducible refine Cbv (zki _ _ _) ?_;intro w' hB hb1 hb2 hb3 hs;(try simp only [szs] at hs hb1 hb2 hb3)))
 refine SCore.ret (zg9 (zgu { c with cpu:=q } (zc5 q l))) rfl rfl ?_ rfl ⟨rfl,?_,?_⟩
 ·simp [go_sem,↓iteOmega,zg9, *]
 ·simp [go_sem,↓iteOmega, *]
 ·(repeat' (first|(with_reducible exact zec)|(with_reducible assumption)|(with_reducible refine zeb ?_)|(with_reducible refine zfu ?_ ?_)|(with_reducible refine zdc _ ?_)|(with_reducible refine zed ?_)|(with_reducible refine zdl _ ?_)|(with_reducible refine zd2 ‹_› ?_)|((try simp only [szs] at *);omega)))
end

end
end Go.Proofs.YtlmbamdkklkliaaGreat
