/- Part of the proof that a law holds at every input. No conditions. -/
import Derived.Test.YtlmbamdkklkliaaGreatK19
namespace Go.Proofs.YtlmbamdkklkliaaGreat
set_option linter.unusedVariables false
set_option linter.unusedSimpArgs false
set_option linter.unusedSectionVars false
set_option maxRecDepth 100000
set_option maxHeartbeats 16000000
open Go.Proofs.Tryz
open Go.IntWalk (iteOmega)
section
open Go.RowKit
theorem zn1:∀ n:Fin 256,bits .and .u8 n.val 7=n.val%8:=by decide +kernel
theorem zjw (n:Int) (h:0<=n) (h2:n<=255):bits .and .u8 n 7=n%8:=by
 obtain ⟨k,rfl⟩:=Int.eq_ofNat_of_zero_le h
 exact zn1 ⟨k,oM⟩
def zds (p:SPIC):Int:=if p.special then bits .andNot .u8 p.isr p.imr else p.isr
def zcx (p:SPIC) (v:Int):SPIC:=
 if v / 32=0 then { p with rotate:=false } else if v / 32=4 then { p with rotate:=true }
 else if v / 32=1\/v / 32=5 then (if zdy (zds p) p.lowest<0 then p else if v / 32=5 then { p with isr:=bits .andNot .u8 p.isr (pw2 (zdy (zds p) p.lowest)),lowest:=zdy (zds p) p.lowest } else { p with isr:=bits .andNot .u8 p.isr (pw2 (zdy (zds p) p.lowest)) })
 else if v / 32=3 then { p with isr:=bits .andNot .u8 p.isr (pw2 (v%8)) } else if v / 32=7 then { p with isr:=bits .andNot .u8 p.isr (pw2 (v%8)),lowest:=v%8 } else if v / 32=6 then { p with lowest:=v%8 } else p
section
variable (p:SPIC) (v:Int) (w:World) (h0:0<=v) (h1:v<=255) (h2:0<=p.isr) (h3:p.isr<=255)
include p v w h0 h1 h2 h3
theorem zrx (hq:v / 32=0\/v / 32=4\/v / 32=6\/v / 32=2) :
  Calls prog 111 #[.agg p.cells,.int .u8 v] w fun e w'=>e=.returned (.agg (zcx p v).cells)/\Below w.heap.size w w':=by
 have hn:bits .and .u8 v 7=v%8:=zjw v h0 h1
 obtain ⟨t,ht⟩:∃ t,zdy (zds p) p.lowest=t:=⟨_,rfl⟩
 obtain ⟨n,hvn⟩:∃ n,v%8=n:=⟨_,rfl⟩
 obtain ⟨g,hvg⟩:∃ g,v / 32=g:=⟨_,rfl⟩
 have hb:=zfg (zds p) p.lowest
 rw [ht] at hb
 have hsp:zds p=if p.special then bits .andNot .u8 p.isr p.imr else p.isr:=rfl
 have hgb:0<=g/\g<=7:=oM
 have hnb:0<=n/\n<=7:=oM
 rw [hvg] at hq
 clear hgb hnb
 rcases hq with rfl|rfl|rfl|rfl
 all_goals (cases hS:p.special)
 all_goals (simp only [hS,if_true,if_false,Bool.false_eq_true] at hsp;rw [hsp] at ht)
 all_goals (try clear hb)
 all_goals
  go_enter func111,ntmps111
  go_wp2_with (first|with_reducible refine Cpv (zc8 _ _ _ (by first|exact h2|exact (zcd _ _ _).1) (by first|exact h3|exact (zcd _ _ _).2)) ?_)
  all_goals (first|go_region|skip)
  all_goals (go_wp2_with (first|with_reducible refine Cpv (zc8 _ _ _ (by first|exact h2|exact (zcd _ _ _).1) (by first|exact h3|exact (zcd _ _ _).2)) ?_))
  all_goals
   refine SPIC.ret (zcx p v) rfl rfl ?_ rfl ⟨rfl,bL⟩
   (try simp only [beq_iff_eq,beq_eq_false_iff_ne,ne_eq,bne_iff_ne,bne_eq_false_iff_eq] at *);first|(simp [go_sem,↓iteOmega,pw2,zcx, *]<;>first|omega|((repeat' split)<;>first|rfl|omega|simp_all))|(exfalso;omega)
theorem zpb (hq:v / 32=1) :
  Calls prog 111 #[.agg p.cells,.int .u8 v] w fun e w'=>e=.returned (.agg (zcx p v).cells)/\Below w.heap.size w w':=by
 have hn:bits .and .u8 v 7=v%8:=zjw v h0 h1
 obtain ⟨t,ht⟩:∃ t,zdy (zds p) p.lowest=t:=⟨_,rfl⟩
 obtain ⟨n,hvn⟩:∃ n,v%8=n:=⟨_,rfl⟩
 obtain ⟨g,hvg⟩:∃ g,v / 32=g:=⟨_,rfl⟩
 have hb:=zfg (zds p) p.lowest
 rw [ht] at hb
 have hsp:zds p=if p.special then bits .andNot .u8 p.isr p.imr else p.isr:=rfl
 have hgb:0<=g/\g<=7:=oM
 have hnb:0<=n/\n<=7:=oM
 rw [hvg] at hq
 subst hq
 have hT:t<0\/t=0\/t=1\/t=2\/t=3\/t=4\/t=5\/t=6\/t=7:=oM
 clear hgb hnb
 rcases hT with htt|rfl|rfl|rfl|rfl|rfl|rfl|rfl|rfl
 all_goals (cases hS:p.special)
 all_goals (simp only [hS,if_true,if_false,Bool.false_eq_true] at hsp;rw [hsp] at ht)
 all_goals (try clear hb)
 all_goals
  go_enter func111,ntmps111
  go_wp2_with (first|with_reducible refine Cpv (zc8 _ _ _ (by first|exact h2|exact (zcd _ _ _).1) (by first|exact h3|exact (zcd _ _ _).2)) ?_)
  all_goals (first|go_region|skip)
  all_goals (go_wp2_with (first|with_reducible refine Cpv (zc8 _ _ _ (by first|exact h2|exact (zcd _ _ _).1) (by first|exact h3|exact (zcd _ _ _).2)) ?_))
  all_goals
   refine SPIC.ret (zcx p v) rfl rfl ?_ rfl ⟨rfl,bL⟩
   (try simp only [beq_iff_eq,beq_eq_false_iff_ne,ne_eq,bne_iff_ne,bne_eq_false_iff_eq] at *);first|(simp [go_sem,↓iteOmega,pw2,zcx, *]<;>first|omega|((repeat' split)<;>first|rfl|omega|simp_all))|(exfalso;omega)
theorem zpa (hq:v / 32=5) :
  Calls prog 111 #[.agg p.cells,.int .u8 v] w fun e w'=>e=.returned (.agg (zcx p v).cells)/\Below w.heap.size w w':=by
 have hn:bits .and .u8 v 7=v%8:=zjw v h0 h1
 obtain ⟨t,ht⟩:∃ t,zdy (zds p) p.lowest=t:=⟨_,rfl⟩
 obtain ⟨n,hvn⟩:∃ n,v%8=n:=⟨_,rfl⟩
 obtain ⟨g,hvg⟩:∃ g,v / 32=g:=⟨_,rfl⟩
 have hb:=zfg (zds p) p.lowest
 rw [ht] at hb
 have hsp:zds p=if p.special then bits .andNot .u8 p.isr p.imr else p.isr:=rfl
 have hgb:0<=g/\g<=7:=oM
 have hnb:0<=n/\n<=7:=oM
 rw [hvg] at hq
 subst hq
 have hT:t<0\/t=0\/t=1\/t=2\/t=3\/t=4\/t=5\/t=6\/t=7:=oM
 clear hgb hnb
 rcases hT with htt|rfl|rfl|rfl|rfl|rfl|rfl|rfl|rfl
 all_goals (cases hS:p.special)
 all_goals (simp only [hS,if_true,if_false,Bool.false_eq_true] at hsp;rw [hsp] at ht)
 all_goals (try clear hb)
 all_goals
  go_enter func111,ntmps111
  go_wp2_with (first|with_reducible refine Cpv (zc8 _ _ _ (by first|exact h2|exact (zcd _ _ _).1) (by first|exact h3|exact (zcd _ _ _).2)) ?_)
  all_goals (first|go_region|skip)
  all_goals (go_wp2_with (first|with_reducible refine Cpv (zc8 _ _ _ (by first|exact h2|exact (zcd _ _ _).1) (by first|exact h3|exact (zcd _ _ _).2)) ?_))
  all_goals
   refine SPIC.ret (zcx p v) rfl rfl ?_ rfl ⟨rfl,bL⟩
   (try simp only [beq_iff_eq,beq_eq_false_iff_ne,ne_eq,bne_iff_ne,bne_eq_false_iff_eq] at *);first|(simp [go_sem,↓iteOmega,pw2,zcx, *]<;>first|omega|((repeat' split)<;>first|rfl|omega|simp_all))|(exfalso;omega)
theorem zo9 (hq:v / 32=3) :
  Calls prog 111 #[.agg p.cells,.int .u8 v] w fun e w'=>e=.returned (.agg (zcx p v).cells)/\Below w.heap.size w w':=by
 have hn:bits .and .u8 v 7=v%8:=zjw v h0 h1
 obtain ⟨t,ht⟩:∃ t,zdy (zds p) p.lowest=t:=⟨_,rfl⟩
 obtain ⟨n,hvn⟩:∃ n,v%8=n:=⟨_,rfl⟩
 obtain ⟨g,hvg⟩:∃ g,v / 32=g:=⟨_,rfl⟩
 have hb:=zfg (zds p) p.lowest
 rw [ht] at hb
 have hsp:zds p=if p.special then bits .andNot .u8 p.isr p.imr else p.isr:=rfl
 have hgb:0<=g/\g<=7:=oM
 have hnb:0<=n/\n<=7:=oM
 rw [hvg] at hq
 subst hq
 have hT:n=0\/n=1\/n=2\/n=3\/n=4\/n=5\/n=6\/n=7:=oM
 clear hgb hnb
 rcases hT with rfl|rfl|rfl|rfl|rfl|rfl|rfl|rfl
 all_goals (cases hS:p.special)
 all_goals (simp only [hS,if_true,if_false,Bool.false_eq_true] at hsp;rw [hsp] at ht)
 all_goals (try clear hb)
 all_goals
  go_enter func111,ntmps111
  go_wp2_with (first|with_reducible refine Cpv (zc8 _ _ _ (by first|exact h2|exact (zcd _ _ _).1) (by first|exact h3|exact (zcd _ _ _).2)) ?_)
  all_goals (first|go_region|skip)
  all_goals (go_wp2_with (first|with_reducible refine Cpv (zc8 _ _ _ (by first|exact h2|exact (zcd _ _ _).1) (by first|exact h3|exact (zcd _ _ _).2)) ?_))
  all_goals
   refine SPIC.ret (zcx p v) rfl rfl ?_ rfl ⟨rfl,bL⟩
   (try simp only [beq_iff_eq,beq_eq_false_iff_ne,ne_eq,bne_iff_ne,bne_eq_false_iff_eq] at *);first|(simp [go_sem,↓iteOmega,pw2,zcx, *]<;>first|omega|((repeat' split)<;>first|rfl|omega|simp_all))|(exfalso;omega)
theorem zo8 (hq:v / 32=7) :
  Calls prog 111 #[.agg p.cells,.int .u8 v] w fun e w'=>e=.returned (.agg (zcx p v).cells)/\Below w.heap.size w w':=by
 have hn:bits .and .u8 v 7=v%8:=zjw v h0 h1
 obtain ⟨t,ht⟩:∃ t,zdy (zds p) p.lowest=t:=⟨_,rfl⟩
 obtain ⟨n,hvn⟩:∃ n,v%8=n:=⟨_,rfl⟩
 obtain ⟨g,hvg⟩:∃ g,v / 32=g:=⟨_,rfl⟩
 have hb:=zfg (zds p) p.lowest
 rw [ht] at hb
 have hsp:zds p=if p.special then bits .andNot .u8 p.isr p.imr else p.isr:=rfl
 have hgb:0<=g/\g<=7:=oM
 have hnb:0<=n/\n<=7:=oM
 rw [hvg] at hq
 subst hq
 have hT:n=0\/n=1\/n=2\/n=3\/n=4\/n=5\/n=6\/n=7:=oM
 clear hgb hnb
 rcases hT with rfl|rfl|rfl|rfl|rfl|rfl|rfl|rfl
 all_goals (cases hS:p.special)
 all_goals (simp only [hS,if_true,if_false,Bool.false_eq_true] at hsp;rw [hsp] at ht)
 all_goals (try clear hb)
 all_goals
  go_enter func111,ntmps111
  go_wp2_with (first|with_reducible refine Cpv (zc8 _ _ _ (by first|exact h2|exact (zcd _ _ _).1) (by first|exact h3|exact (zcd _ _ _).2)) ?_)
  all_goals (first|go_region|skip)
  all_goals (go_wp2_with (first|with_reducible refine Cpv (zc8 _ _ _ (by first|exact h2|exact (zcd _ _ _).1) (by first|exact h3|exact (zcd _ _ _).2)) ?_))
  all_goals
   refine SPIC.ret (zcx p v) rfl rfl ?_ rfl ⟨rfl,bL⟩
   (try simp only [beq_iff_eq,beq_eq_false_iff_ne,ne_eq,bne_iff_ne,bne_eq_false_iff_eq] at *);first|(simp [go_sem,↓iteOmega,pw2,zcx, *]<;>first|omega|((repeat' split)<;>first|rfl|omega|simp_all))|(exfalso;omega)
theorem commandC_any :
  Calls prog 111 #[.agg p.cells,.int .u8 v] w fun e w'=>e=.returned (.agg (zcx p v).cells)/\Below w.heap.size w w':=by
 have hq:(v / 32=0\/v / 32=4\/v / 32=6\/v / 32=2)\/v / 32=1\/v / 32=5\/v / 32=3\/v / 32=7:=oM
 rcases hq with hq|hq|hq|hq|hq
 ·exact zrx p v w h0 h1 h2 h3 hq
 ·exact zpb p v w h0 h1 h2 h3 hq
 ·exact zpa p v w h0 h1 h2 h3 hq
 ·exact zo9 p v w h0 h1 h2 h3 hq
 ·exact zo8 p v w h0 h1 h2 h3 hq
end

end
section
open Go.RowKit
structure Mach where
 s:SSystem
 g:List Int
 m:List SCell
 o:List SOutput
def zrc (B:SBoard) (L:List SRegion) (c:SCycle):Int:=
 if accM c.kind=true then zjt L c.at_ else if c.kind=6\/c.kind=7 then zlp B.iowaits else 0
def zf1 (s:SSystem):Int:=if s.core.next=7 then wrap64 (s.waited+1) else 0
def zgj (B:SBoard) (s:SSystem) (i:SInput):SPIC:=if B.jam=true then s.pic else zi8 s.pic i.requests
def zfx (B:SBoard) (s:SSystem) (i:SInput):SSystem := { s with pic:=zgj B s i,waited:=zf1 s }
def zcv (B:SBoard) (L:List SRegion) (s:SSystem) (i:SInput):SLines:=
 { ready:=i.ready&&decide (zrc B L s.core.cycle<=zf1 s),hold:=i.hold||zg6 s.dma,reset:=i.reset,sid:=i.sid,trap:=i.trap,r75:=i.r75,r65:=i.r65,r55:=i.r55,
   intr:=if B.jam=true then bits .and .u8 i.requests 1==1 else intC (zi8 s.pic i.requests) }
def zjb (B:SBoard) (port:Int):Int:=IntKind.u8.wrap (port-B.picPort)
def zld (B:SBoard) (port:Int):Bool := !B.jam&&decide (zjb B port<2)
end
section
open Go.RowKit
theorem zer (x:Int):0<=IntKind.u16.wrap x/\IntKind.u16.wrap x<=65535:=by rw [IntKind.wrap_u16];omega
theorem zj7 (r:SRegs) (n x:Int) (h:r.Ok) (hx:0<=x/\x<=255):(setR r n x).Ok:=by
 obtain ⟨a,b,c,d,e,f,g,i,j⟩:=h
 unfold setR
 repeat' split
 all_goals (constructor<;>assumption)
theorem zdt (r:SRegs) (n v:Int) (h:r.Ok) (hv:0<=v/\v<=65535):(zdf r n v).Ok:=by
 unfold zdf
 split
 ·obtain ⟨a,b,c,d,e,f,g,i,j⟩:=h
  constructor<;>assumption
 ·exact zj7 _ _ _ (zj7 _ _ _ h oM) oM
theorem zjm {G:List Int} (hg:∀ x ∈ G,0<=x/\x<=255) (n:Nat):(0<=gAt G n/\gAt G n<=255)/\(0<=zfp G n/\zfp G n<=65535):=by
 have h:∀ n,0<=gAt G n/\gAt G n<=255:=fun n=>by
  unfold gAt
  cases hx:G[n]? with
  | none=>simp
  | some x=>exact hg x (List.mem_of_getElem? hx)
 have h1:=h n
 have h2:=h (n+1)
 refine ⟨h1,?_⟩
 unfold zfp ze9
 omega
theorem zyr (P:SPlan) (G:List Int) (r:SRegs) (hp:P.c.regs.Ok) (hr:r.Ok) (hg:∀ x ∈ G,0<=x/\x<=255):(zbv P G r).Ok:=by
 have b:=fun n=>(zjm hg n).1
 have j:=fun n=>(zjm hg n).2
 unfold zbv
 repeat' split
 all_goals first
  | exact hr
  | exact zj7 _ _ _ hr (b 1)
  | exact zj7 _ _ _ hr (zfr _ _ hp)
  | exact zdt _ _ _ hr (j _)
  | (obtain ⟨a,b',c,d,e,f,g,i,k⟩:=hr;constructor<;>first|assumption|exact b _)
theorem zp2 (r:SRegs) (n:Int) (h:r.Ok):0<=zc6 r n/\zc6 r n<=65535:=by
 unfold zc6
 split
 ·exact h.sp
 ·have h1:=zfr r (2 * (n%4)) h
  have h2:=zfr r (2 * (n%4)+1) h
  unfold ze9
  omega
theorem ok_aR (q a b:Int) (cy:Bool):0<=aR q a b cy/\aR q a b cy<=255:=by
 unfold aR
 repeat' split
 all_goals first|exact ⟨zg0 _ _ _,zg1 _ _ _⟩|exact ⟨zex _ _ _,zey _ _ _⟩|exact zcd _ _ _
theorem zrb (P:SPlan) (G:List Int) (r:SRegs) (hp:P.c.regs.Ok) (hr:r.Ok) (hg:∀ x ∈ G,0<=x/\x<=255):(zan P G r).Ok:=by
 have hra:=hr.a
 have hf:∀ f,SRegs.Ok { r with f:=f }:=fun f=>⟨hr.a,hr.b,hr.c,hr.d,hr.e,hr.h,hr.l,hr.sp,hr.pc⟩
 have haf:∀ x f,0<=x/\x<=255->SRegs.Ok { r with a:=x,f:=f }:=fun x f hx=>⟨hx,hr.b,hr.c,hr.d,hr.e,hr.h,hr.l,hr.sp,hr.pc⟩
 unfold zan
 repeat' split
 ·refine haf _ _ ?_
  show 0<=aA _ _ _ _/\aA _ _ _ _<=255
  unfold aA
  split
  ·exact hra
  ·exact ok_aR _ _ _ _
 ·refine zj7 _ _ _ (hf _) ?_
  unfold zfs
  split
  ·exact ⟨zg0 _ _ _,zg1 _ _ _⟩
  ·exact ⟨zex _ _ _,zey _ _ _⟩
 ·refine zdt _ _ _ (hf _) ?_
  unfold zio
  split
  ·show 0<=(_:Int)%65536/\(_:Int)%65536<=65535
   omega
  ·show 0<=(_:Int)%65536/\(_:Int)%65536<=65535
   omega
 ·refine zdt _ _ _ (hf _) ?_
  show 0<=dadR _ _/\dadR _ _<=65535
  unfold dadR;omega
 ·exact haf _ _ ⟨zg0 _ _ _,zg1 _ _ _⟩
 ·exact ⟨by show 0<=255-r.a/\255-r.a<=255;omega,hr.b,hr.c,hr.d,hr.e,hr.h,hr.l,hr.sp,hr.pc⟩
 ·exact hf _
 ·exact hf _
 ·refine haf _ _ ?_
  unfold rotR
  repeat' split
  all_goals (dsimp only;exact zcd _ _ _)
 ·exact hr
theorem zys (a b:Int) (h:0<=a/\a<=255) (h2:0<=b/\b<=255):0<=ze9 a b/\ze9 a b<=65535:=by unfold ze9;omega
theorem zra (P:SPlan) (G:List Int) (r:SRegs) (hp:P.c.regs.Ok) (hr:r.Ok) (hg:∀ x ∈ G,0<=x/\x<=255):(zal P G r).Ok:=by
 have j:=(zjm hg 1).2
 have hps:∀ x y,(0<=x/\x<=65535)->(0<=y/\y<=65535)->SRegs.Ok { r with sp:=x,pc:=y }:=fun x y hx hy=>⟨hr.a,hr.b,hr.c,hr.d,hr.e,hr.h,hr.l,hx,hy⟩
 have hsp:∀ (q:SRegs) x,q.Ok->(0<=x/\x<=65535)->SRegs.Ok { q with sp:=x }:=fun q x hq hx=>⟨hq.a,hq.b,hq.c,hq.d,hq.e,hq.h,hq.l,hx,hq.pc⟩
 unfold zal
 by_cases k24:P.i.kind=24
 ·rw [if_pos k24]
  split
  ·exact hps _ _ hr.sp j
  ·exact hr
 rw [if_neg k24]
 by_cases k25:P.i.kind=25
 ·rw [if_pos k25]
  split
  ·exact hps _ _ (zer _) j
  ·exact hr
 rw [if_neg k25]
 by_cases k26:P.i.kind=26
 ·rw [if_pos k26]
  split
  ·exact hps _ _ (zer _) j
  ·exact hr
 rw [if_neg k26]
 by_cases k27:P.i.kind=27
 ·rw [if_pos k27]
  exact hps _ _ (zer _) (zer _)
 rw [if_neg k27]
 by_cases k45:P.i.kind=45
 ·rw [if_pos k45]
  split
  ·exact hps _ _ (zer _) ⟨oM,oM⟩
  ·exact hr
 rw [if_neg k45]
 by_cases k28:P.i.kind=28
 ·rw [if_pos k28]
  exact hps _ _ hr.sp (zp2 _ _ hp)
 rw [if_neg k28]
 by_cases k29:P.i.kind=29
 ·rw [if_pos k29]
  exact hsp _ _ hr (zp2 _ _ hp)
 rw [if_neg k29]
 by_cases k30:P.i.kind=30
 ·rw [if_pos k30]
  exact hsp _ _ hr (zer _)
 rw [if_neg k30]
 by_cases k31:P.i.kind=31
 ·rw [if_pos k31]
  split
  ·exact ⟨by show 0<=zfp G 1 / 256/\zfp G 1 / 256<=255;omega,hr.b,hr.c,hr.d,hr.e,hr.h,hr.l,zer _,hr.pc⟩
  ·exact hsp _ _ (zdt _ _ _ hr j) (zer _)
 rw [if_neg k31]
 exact hr
theorem zvx (P:SPlan) (G:List Int) (r:SRegs) (hr:r.Ok):(zcw P G r).Ok:=by
 have hf:∀ f,SRegs.Ok { r with f:=f }:=fun f=>⟨hr.a,hr.b,hr.c,hr.d,hr.e,hr.h,hr.l,hr.sp,hr.pc⟩
 unfold zcw
 repeat' split
 ·refine zdt _ _ _ (hf _) ?_
  exact zys _ _ ⟨zex _ _ _,zey _ _ _⟩ ⟨zex _ _ _,zey _ _ _⟩
 ·exact zdt _ _ _ (hf _) (zer _)
 ·exact zdt _ _ _ (hf _) (zer _)
 ·exact zdt _ _ _ hr (zer _)
 ·exact zdt _ _ _ hr (zer _)
 ·exact hr
theorem zq9 (P:SPlan) (hp:P.c.regs.Ok):(zci P).regs.Ok:=by
 refine ⟨hp.a,hp.b,hp.c,hp.d,hp.e,hp.h,hp.l,hp.sp,?_⟩
 show 0<=zb1 P/\zb1 P<=65535
 unfold zb1
 split
 ·exact hp.pc
 ·exact zer _
theorem z1r (c:SCPU) (a:Int):(sim c a).regs=c.regs:=by
 unfold sim
 dsimp only
 repeat' split
 all_goals rfl
theorem zq8 (P:SPlan) (G:List Int) (l:SLines) (hp:P.c.regs.Ok) (hg:∀ x ∈ G,0<=x/\x<=255):(zbk P G l).regs.Ok:=by
 have h0:=zq9 P hp
 unfold zbk
 by_cases a1:zd3 P.i.kind=true
 ·rw [if_pos a1];exact zyr _ _ _ hp h0 hg
 rw [if_neg a1]
 by_cases a2:zbu P.i.kind=true
 ·rw [if_pos a2];exact zrb _ _ _ hp h0 hg
 rw [if_neg a2]
 by_cases a3:zbt P.i.kind=true
 ·rw [if_pos a3];exact zra _ _ _ hp h0 hg
 rw [if_neg a3]
 by_cases a4:P.i.kind=35\/P.i.kind=36
 ·rw [if_pos a4];exact h0
 rw [if_neg a4]
 by_cases a5:P.i.kind=38
 ·rw [if_pos a5]
  exact ⟨by show 0<=rimB _ _/\rimB _ _<=255;exact zcd _ _ _,h0.b,h0.c,h0.d,h0.e,h0.h,h0.l,h0.sp,h0.pc⟩
 rw [if_neg a5]
 by_cases a6:P.i.kind=39
 ·rw [if_pos a6,z1r];exact h0
 rw [if_neg a6]
 by_cases a7:zc7 P.i.kind=true
 ·rw [if_pos a7];exact zvx _ _ _ h0
 rw [if_neg a7]
 exact h0
theorem zi4 (c:SCPU) (source:Int) (G:List Int) (l:SLines) (hr:c.regs.Ok) (hg:∀ x ∈ G,0<=x/\x<=255):(zch c source G l).regs.Ok:=by
 unfold zch
 by_cases a:zdo source=true
 ·rw [if_pos a]
  refine ⟨hr.a,hr.b,hr.c,hr.d,hr.e,hr.h,hr.l,zer _,?_⟩
  show 0<=zk7 source/\zk7 source<=65535
  unfold zk7
  repeat' split
  all_goals omega
 ·rw [if_neg a]
  exact zq8 _ _ _ hr hg
end
end Go.Proofs.YtlmbamdkklkliaaGreat
