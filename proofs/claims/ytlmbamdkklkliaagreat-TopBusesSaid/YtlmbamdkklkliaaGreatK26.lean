/- Part of the proof that a law holds at every input. No conditions. -/
import Derived.Deep.DeepCutAuto
import Derived.Deep.LoopGhost
import Derived.Lib.Hide
import Derived.WalkKit
import Derived.Test.YtlmbamdkklkliaaGreatK21
namespace Go.Proofs.YtlmbamdkklkliaaGreat
set_option linter.unusedVariables false
set_option linter.unusedSimpArgs false
set_option maxRecDepth 100000
set_option maxHeartbeats 16000000
open Go.Proofs.Tryz
open Go.IntWalk (iteOmega)
section
open Go.RowKit
attribute [local irreducible] Region.wanted yielded
theorem zjn {M:List SCell} (k:Nat) (hk:k<M.length) (h:M[k].val=0\/∃ h0:0<k,M[k].at_<=(M[k-1]'oM).at_):isMem M=false:=by
 cases hM:isMem M with
 | false=>rfl
 | true=>
  have:=(zfq M).1 hM k hk
  rcases h with h|⟨h0,h⟩
  ·exact absurd h this.1
  ·have:=this.2 h0
   omega
theorem zk8 {lo hi:Nat} {s:Sl} {M:List SCell} (w:World) (h:Row w lo hi 61 2 SCell.cells s M) (hL:M.length<=1000000) (hhi:hi<=w.heap.size) :
  Calls prog 60 #[.slice s.p s.n s.c] w fun e w'=>e=.returned (.bool (isMem M))/\Below w.heap.size w w':=by
 have hn:=h.len
 obtain ⟨p,n,c⟩:=s
 dsimp only at hn
 subst hn
 have H:Aside (Row w lo hi 61 2 SCell.cells ⟨p,M.length,c⟩ M):=h
 clear h
 go_enter func60,ntmps60
 go_wp2_with fail
 go_loopg [7] M.length (fun kx s7 wr=>∃ k:Nat,s7=.int .i64 k/\k<=M.length/\M.length-k<=kx/\Aside (Below w.heap.size w wr)/\Aside (∀ j,∀ hj:j<M.length,j<k->M[j].val≠0/\∀ h0:0<j,(M[j-1]'oM).at_<M[j].at_))
 case atStart=>exact ⟨0,rfl,oM,oM,Below.refl _ _,(fun j hj h=>by omega:∀ j,∀ hj:j<M.length,j<0->M[j].val≠0/\∀ h0:0<j,(M[j-1]'oM).at_<M[j].at_)⟩
 case round=>
  obtain ⟨k,rfl,hk,hkx,hB,hI⟩:=hrel
  by_cases hlt:k<M.length
  ·obtain ⟨g,hp,hg1,hg2,hg3,ho,hv⟩:=(H.out.thru hB.out hhi).elem (fun _=>rfl) k hlt
   obtain ⟨g',hp',_,_,_,hpv⟩:=(H.out.thru hB.out hhi).fld (fun _=>rfl) (k-1) oM
   dsimp only at hp hp'
   subst hp
   simp only [Option.some.injEq,Addr.mk.injEq,and_true] at hp'
   subst hp'
   obtain ⟨⟨ra,rv⟩,hr⟩:∃ r,M[k]=r:=⟨_,rfl⟩
   rw [hr] at hv
   have R:Aside (M[k]=⟨ra,rv⟩):=hr
   clear hr
   obtain ⟨⟨pa,pv⟩,hr⟩:∃ r,M[k-1]=r:=⟨_,rfl⟩
   have hpa:wr.cell? ⟨g,(k-1) * 2,none⟩=some (.int .u16 pa):=by have:=hpv 0 oM;rw [hr] at this;exact this
   have R':Aside (M[k-1]=⟨pa,pv⟩):=hr
   clear hr hpv
   by_cases h1:rv=0
   ·subst h1
    go_wp2_with fail
    refine wpNm (fun W hW=>?_)
    have c0:∀ d os i,(Go.Sort.grow (redrawn W d) os).cell? ⟨wr.heap.size,i,none⟩=(SCell.mk ra 0).cells[i]? := fun d os i=>(zaa (((below_regrown W d os).block _ (by rw [hW];simp)).trans (by rw [hW];simp [go_sem,↓iteOmega]:blk W wr.heap.size=some (.cells (SCell.mk ra 0).cells 61)))).1 i
    have hBW:Below w.heap.size w W:=by rw [hW];exact hB.out.alloc (hB.out.size) _
    have hB':Aside (Below w.heap.size w W):=hBW
    clear hBW hW
    refine zad 17 kR kR ?_
    simp only [tkd]
    repeat (quiet_step (fail))
    refine wpQuiet_nil ?_
    intro wq hwq
    replace hB':Aside (Below w.heap.size w wq):=by obtain ⟨p,rfl⟩:=hwq;exact zaf (below_regrown _ _ _) hB'.out hB'.out.size
    clear hwq c0
    go_wp2_with fail
    go_ret
    have hf:=zjn k hlt (.inl (by rw [R.out]))
    exact ⟨by simp [hf],hB'.out⟩
   have h0:Aside (rv≠0):=h1
   replace h1:(rv==0)=false:=beq_eq_false_iff_ne.2 h1
   by_cases h2:k=0
   ·subst h2
    go_wp2_with fail
    refine wpNm (fun W hW=>?_)
    have c0:∀ d os i,(Go.Sort.grow (redrawn W d) os).cell? ⟨wr.heap.size,i,none⟩=(SCell.mk ra rv).cells[i]? := fun d os i=>(zaa (((below_regrown W d os).block _ (by rw [hW];simp)).trans (by rw [hW];simp [go_sem,↓iteOmega]:blk W wr.heap.size=some (.cells (SCell.mk ra rv).cells 61)))).1 i
    have hBW:Below w.heap.size w W:=by rw [hW];exact hB.out.alloc (hB.out.size) _
    have hB':Aside (Below w.heap.size w W):=hBW
    clear hBW hW
    refine zad 17 kR kR ?_
    simp only [tkd]
    repeat (quiet_step (fail))
    refine wpQuiet_nil ?_
    intro wq hwq
    replace hB':Aside (Below w.heap.size w wq):=by obtain ⟨p,rfl⟩:=hwq;exact zaf (below_regrown _ _ _) hB'.out hB'.out.size
    clear hwq c0
    go_wp2_with fail
    go_roundg (gk-1)
    case measure=>omega
    case rel=>exact ⟨0+1,by simp,oM,oM,hB'.out,(fun j hj hjk=>by
     by_cases e:j=0
     ·subst e;exact ⟨by rw [R.out];exact h0.out,fun h0=>oM⟩
     ·exact hI.out j hj oM:∀ j,∀ hj:j<M.length,j<0+1->M[j].val≠0/\∀ h0:0<j,(M[j-1]'oM).at_<M[j].at_)⟩
   obtain ⟨m,rfl⟩:∃ m,k=m+1:=⟨k-1,oM⟩
   clear h2
   simp only [Nat.add_sub_cancel] at hpa R'
   have e1:IntKind.i64.wrap (m:Int)=(m:Int):=by rw [IntKind.wrap_i64];omega
   have e2:m<M.length:=oM
   by_cases h3:pa<ra
   ·go_wp2_with fail
    refine wpNm (fun W hW=>?_)
    have c0:∀ d os i,(Go.Sort.grow (redrawn W d) os).cell? ⟨wr.heap.size,i,none⟩=(SCell.mk ra rv).cells[i]? := fun d os i=>(zaa (((below_regrown W d os).block _ (by rw [hW];simp)).trans (by rw [hW];simp [go_sem,↓iteOmega]:blk W wr.heap.size=some (.cells (SCell.mk ra rv).cells 61)))).1 i
    have c1:∀ d os,(Go.Sort.grow (redrawn W d) os).cell? ⟨g,m * 2,none⟩=some (.int .u16 pa):=fun d os=>by
     rw [<- hpa,hW];exact zbx (zaf (below_regrown _ _ _) ((Below.refl _ wr).alloc nL _) sI) hg3 _
    have hBW:Below w.heap.size w W:=by rw [hW];exact hB.out.alloc (hB.out.size) _
    have hB':Aside (Below w.heap.size w W):=hBW
    clear hBW hW
    refine zad 17 kR kR ?_
    simp only [tkd]
    repeat (quiet_step (fail))
    refine wpQuiet_nil ?_
    intro wq hwq
    replace hB':Aside (Below w.heap.size w wq):=by obtain ⟨p,rfl⟩:=hwq;exact zaf (below_regrown _ _ _) hB'.out hB'.out.size
    clear hwq c0
    go_wp2_with fail
    go_roundg (gk-1)
    case measure=>omega
    case rel=>exact ⟨m+1+1,by simp,oM,oM,hB',(fun j hj hjk=>by
     by_cases e:j=m+1
     ·subst e;exact ⟨by rw [R.out];exact h0.out,fun h0=>by simp only [Nat.add_sub_cancel];rw [R.out,R'.out];exact h3⟩
     ·exact hI.out j hj oM:∀ j,∀ hj:j<M.length,j<m+1+1->M[j].val≠0/\∀ h0:0<j,(M[j-1]'oM).at_<M[j].at_)⟩
   ·replace h3:ra<=pa:=oM
    go_wp2_with fail
    refine wpNm (fun W hW=>?_)
    have c0:∀ d os i,(Go.Sort.grow (redrawn W d) os).cell? ⟨wr.heap.size,i,none⟩=(SCell.mk ra rv).cells[i]? := fun d os i=>(zaa (((below_regrown W d os).block _ (by rw [hW];simp)).trans (by rw [hW];simp [go_sem,↓iteOmega]:blk W wr.heap.size=some (.cells (SCell.mk ra rv).cells 61)))).1 i
    have c1:∀ d os,(Go.Sort.grow (redrawn W d) os).cell? ⟨g,m * 2,none⟩=some (.int .u16 pa):=fun d os=>by
     rw [<- hpa,hW];exact zbx (zaf (below_regrown _ _ _) ((Below.refl _ wr).alloc nL _) sI) hg3 _
    have hBW:Below w.heap.size w W:=by rw [hW];exact hB.out.alloc (hB.out.size) _
    have hB':Aside (Below w.heap.size w W):=hBW
    clear hBW hW
    refine zad 17 kR kR ?_
    simp only [tkd]
    repeat (quiet_step (fail))
    refine wpQuiet_nil ?_
    intro wq hwq
    replace hB':Aside (Below w.heap.size w wq):=by obtain ⟨p,rfl⟩:=hwq;exact zaf (below_regrown _ _ _) hB'.out hB'.out.size
    clear hwq c0
    go_wp2_with fail
    go_ret
    have hf:=zjn (m+1) hlt (.inr ⟨oM,by simp only [Nat.add_sub_cancel];rw [R.out,R'.out];exact h3⟩)
    exact ⟨by simp [hf],hB'.out⟩
  ·obtain rfl:k=M.length:=oM
   go_wp2_with fail
   go_ret
   have hf:=(zfq M).2 (fun j hj=>hI.out j hj hj)
   exact ⟨by simp [hf],hB.out⟩
end
section
open Go.RowKit
attribute [local irreducible] Region.wanted yielded
theorem zny {lo hi:Nat} {s:Sl} {M:List SCell} (w:World) (h:Row w lo hi 61 2 SCell.cells s M) (hL:M.length<=1000000) (hhi:hi<=w.heap.size) :
  Calls prog 63 #[.slice s.p s.n s.c] w fun e w'=>e=.returned (.bool (isMem M))/\Below w.heap.size w w':=by
 have hn:=h.len
 obtain ⟨p,n,c⟩:=s
 dsimp only at hn
 subst hn
 have H:Aside (Row w lo hi 61 2 SCell.cells ⟨p,M.length,c⟩ M):=h
 clear h
 go_enter func63,ntmps63
 go_wp2_with fail
 go_loopg [6] M.length (fun kx s6 wr=>∃ k:Nat,s6=.int .i64 k/\k<=M.length/\M.length-k<=kx/\Aside (Below w.heap.size w wr)/\Aside (∀ j,∀ hj:j<M.length,j<k->M[j].val≠0/\∀ h0:0<j,(M[j-1]'oM).at_<M[j].at_))
 case atStart=>exact ⟨0,rfl,oM,oM,Below.refl _ _,(fun j hj h=>by omega:∀ j,∀ hj:j<M.length,j<0->M[j].val≠0/\∀ h0:0<j,(M[j-1]'oM).at_<M[j].at_)⟩
 case round=>
  obtain ⟨k,rfl,hk,hkx,hB,hI⟩:=hrel
  by_cases hlt:k<M.length
  ·obtain ⟨g,hp,hg1,hg2,hg3,hfv⟩:=(H.out.thru hB.out hhi).fld (fun _=>rfl) k hlt
   dsimp only at hp
   subst hp
   obtain ⟨⟨ra,rv⟩,hr⟩:∃ r,M[k]=r:=⟨_,rfl⟩
   rw [hr] at hfv
   have R:Aside (M[k]=⟨ra,rv⟩):=hr
   clear hr
   have HB:Aside (Below w.heap.size w wr/\w.heap.size<=wr.heap.size):=⟨hB.out,hB.out.size⟩
   have hka:∀ d os,(Go.Sort.grow (redrawn wr d) os).cell? ⟨g,k * 2,none⟩=some (.int .u16 ra):=fun d os=>by
    rw [zbx (below_regrown wr d os) hg3]
    exact hfv 0 oM
   have hkv:∀ d os,(Go.Sort.grow (redrawn wr d) os).cell? ⟨g,k * 2+1,none⟩=some (.int .u8 rv):=fun d os=>by
    rw [zbx (below_regrown wr d os) hg3]
    exact hfv 1 oM
   clear hfv
   have hkI:(k:Int)<(M.length:Int):=oM
   by_cases h1:rv=0
   ·have hb1:(rv==0)=true:=beq_iff_eq.2 h1
    have hf:Aside (isMem M=false):=zjn k hlt (.inl (by rw [R.out];exact h1))
    clear h1
    go_upto_region 4 with fail
    refine zad 21 kR kR ?_
    simp only [tkd]
    repeat (quiet_step (fail))
    refine wpQuiet_nil ?_
    intro wq hwq
    have hBq:Below wr.heap.size wr wq:=by obtain ⟨p,rfl⟩:=hwq;exact below_regrown _ _ _
    clear hwq hka hkv
    go_wp2_with fail
    go_ret
    exact ⟨by rw [hf.out];rfl,zaf hBq HB.out.1 HB.out.2⟩
   ·have hb1:(rv==0)=false:=beq_eq_false_iff_ne.2 h1
    have HV:Aside (rv≠0):=h1
    clear h1
    by_cases hk0:k=0
    ·subst hk0
     have hka0:∀ d os,(Go.Sort.grow (redrawn wr d) os).cell? ⟨g,0,none⟩=some (.int .u16 ra):=fun d os=>by simpa using hka d os
     have hkv0:∀ d os,(Go.Sort.grow (redrawn wr d) os).cell? ⟨g,1,none⟩=some (.int .u8 rv):=fun d os=>by simpa using hkv d os
     clear hka hkv
     go_upto_region 4 with fail
     refine zad 21 kR kR ?_
     simp only [tkd]
     repeat (quiet_step (fail))
     refine wpQuiet_nil ?_
     intro wq hwq
     have hBq:Below wr.heap.size wr wq:=by obtain ⟨p,rfl⟩:=hwq;exact below_regrown _ _ _
     clear hwq hka0 hkv0
     go_wp2_with fail
     go_roundg (gk-1)
     case measure=>omega
     case rel=>exact ⟨1,by simp,oM,oM,zaf hBq HB.out.1 HB.out.2,(fun i hi h=>by
      have:i=0:=oM
      subst this
      rw [R.out]
      exact ⟨HV.out,fun h0=>oM⟩:∀ j,∀ hj:j<M.length,j<1->M[j].val≠0/\∀ h0:0<j,(M[j-1]'oM).at_<M[j].at_)⟩
    ·obtain ⟨j,rfl⟩:∃ j,k=j+1:=⟨k-1,oM⟩
     obtain ⟨g',hp',_,_,_,hpv⟩:=(H.out.thru HB.out.1 hhi).fld (fun _=>rfl) j oM
     simp only [Option.some.injEq,Addr.mk.injEq,and_true] at hp'
     subst hp'
     obtain ⟨⟨pa,pv⟩,hr⟩:∃ r,M[j]=r:=⟨_,rfl⟩
     rw [hr] at hpv
     have R2:Aside (M[j]=⟨pa,pv⟩):=hr
     clear hr
     have hpa:∀ d os,(Go.Sort.grow (redrawn wr d) os).cell? ⟨g,j * 2,none⟩=some (.int .u16 pa):=fun d os=>by
      rw [zbx (below_regrown wr d os) hg3]
      exact hpv 0 oM
     clear hpv
     have hjI:(j:Int)<(M.length:Int):=oM
     have hj1:(j:Int)+1<(M.length:Int):=oM
     have hj2:(0:Int)<=(j:Int)+1:=oM
     have hj3:(0:Int)<(j:Int)+1:=oM
     have hj4:j<1000000:=oM
     have hj5:IntKind.i64.wrap (j:Int)=(j:Int):=by rw [IntKind.wrap_i64];omega
     by_cases h2:ra<=pa
     ·have hf:Aside (isMem M=false):=zjn (j+1) hlt (.inr ⟨oM,by simp only [Nat.add_sub_cancel];rw [R.out,R2.out];exact h2⟩)
      go_upto_region 4 with fail
      refine zad 21 kR kR ?_
      simp only [tkd]
      repeat (quiet_step (fail))
      refine wpQuiet_nil ?_
      intro wq hwq
      have hBq:Below wr.heap.size wr wq:=by obtain ⟨p,rfl⟩:=hwq;exact below_regrown _ _ _
      clear hwq hka hkv hpa
      go_wp2_with fail
      go_ret
      exact ⟨by rw [hf.out];rfl,zaf hBq HB.out.1 HB.out.2⟩
     ·have h3:pa<ra:=oM
      go_upto_region 4 with fail
      refine zad 21 kR kR ?_
      simp only [tkd]
      repeat (quiet_step (fail))
      refine wpQuiet_nil ?_
      intro wq hwq
      have hBq:Below wr.heap.size wr wq:=by obtain ⟨p,rfl⟩:=hwq;exact below_regrown _ _ _
      clear hwq hka hkv hpa
      go_wp2_with fail
      go_roundg (gk-1)
      case measure=>omega
      case rel=>exact ⟨j+2,by simp;omega,oM,oM,zaf hBq HB.out.1 HB.out.2,(fun i hi h=>by
       by_cases e:i=j+1
       ·subst e
        refine ⟨by rw [R.out];exact HV.out,fun h0=>?_⟩
        simp only [Nat.add_sub_cancel]
        rw [R.out,R2.out];exact h3
       ·exact hI.out i hi oM:∀ i,∀ hj:i<M.length,i<j+2->M[i].val≠0/\∀ h0:0<i,(M[i-1]'oM).at_<M[i].at_)⟩
  ·go_wp2_with fail
   go_ret
   have hf:isMem M=true:=(zfq M).2 fun j hj=>hI.out j hj oM
   exact ⟨by rw [hf];rfl,hB.out⟩
end
section
open Go.RowKit
attribute [local irreducible] Region.wanted yielded
abbrev cmpV:Value:=.func (.func 118) #[] #[]
theorem zhl (c d:SCell) (h:d.at_<c.at_) (w:World):Calls prog 118 #[.agg c.cells,.agg d.cells] w fun e w'=>e=.returned (.int .i64 1)/\Below w.heap.size w w':=by
 have e:zv1 c d=1:=by unfold zv1 cmpW;rw [if_neg oM,if_pos h]
 rw [<- e];exact zte c d w
theorem rowQ {lo hi:Nat} {p:Option Addr} {c:Nat} {M:List SCell} {w wr:World} (H:Row w lo hi 61 2 SCell.cells ⟨p,M.length,c⟩ M) (hhi:hi<=w.heap.size) (hB:Below w.heap.size w wr) (j:Nat) (hj:j<M.length) :
  ∃ g,p=some ⟨g,0,none⟩/\(∀ d os,okO 2 (blk (Go.Sort.grow (redrawn wr d) os) g) (j * 2)=true)/\(∀ d os,valO 2 (blk (Go.Sort.grow (redrawn wr d) os) g) (j * 2)=.agg (M[j]).cells):=by
 obtain ⟨g,hp,_⟩:=H.elem (fun _=>rfl) j hj
 refine ⟨g,hp,fun d os=>?_,fun d os=>?_⟩
 ·obtain ⟨g',hp',_,_,_,ho,_⟩:=(H.thru (zaf (below_regrown wr d os) hB hB.size) hhi).elem (fun _=>rfl) j hj
  rw [hp] at hp'
  simp only [Option.some.injEq,Addr.mk.injEq,and_true] at hp'
  rw [hp'];exact ho
 ·obtain ⟨g',hp',_,_,_,_,hv⟩:=(H.thru (zaf (below_regrown wr d os) hB hB.size) hhi).elem (fun _=>rfl) j hj
  rw [hp] at hp'
  simp only [Option.some.injEq,Addr.mk.injEq,and_true] at hp'
  rw [hp'];exact hv
theorem zmd {lo hi:Nat} {s:Sl} {M:List SCell} (a b:Nat) (w:World) (h:Row w lo hi 61 2 SCell.cells s M) (hM:isMem M=true) (hL:M.length<=1000000) (hhi:hi<=w.heap.size) (ha:a<=M.length) (hb:b<=M.length) :
  Calls prog 158 #[.slice s.p s.n s.c,.int .i64 a,.int .i64 b,cmpV] w fun e w'=>e=.returned (.tuple #[])/\Below w.heap.size w w':=by
 have hn:=h.len
 obtain ⟨p,n,c⟩:=s
 dsimp only at hn
 subst hn
 have H:Aside (Row w lo hi 61 2 SCell.cells ⟨p,M.length,c⟩ M):=h
 have HM:Aside (isMem M=true):=hM
 clear h hM
 have e0:IntKind.i64.wrap ((a:Int)+1)=((a+1:Nat):Int):=by rw [IntKind.wrap_i64];omega
 go_enter func158,ntmps158
 go_wp2_with fail
 clear e0
 go_loopg [8] M.length (fun kx s8 wr=>∃ k:Nat,s8=.int .i64 k/\a<k/\k<=M.length+1/\M.length-k<=kx/\Aside (Below w.heap.size w wr))
 case atStart=>exact ⟨a+1,by simp,oM,oM,oM,Below.refl _ _⟩
 case round=>
  obtain ⟨k,rfl,hak,hk,hkx,hB⟩:=hrel
  by_cases hlt:k<b
  ·obtain ⟨m,rfl⟩:∃ m,k=m+1:=⟨k-1,oM⟩
   go_wp2_with fail
   go_loopg [9] 0 (fun _ s9 wv=>s9=.int .i64 ((m+1:Nat):Int)/\Aside (Below w.heap.size w wv))
   case atStart=>exact ⟨by simp,hB⟩
   case round=>
    obtain ⟨rfl,hB2⟩:=hrel
    have hlt2:m+1<M.length:=oM
    have hr:=zdx HM.out m (m+1) oM hlt2
    obtain ⟨g,hp,ho1,hv1⟩:=rowQ H.out hhi hB2.out (m+1) hlt2
    obtain ⟨g',hp',ho0,hv0⟩:=rowQ H.out hhi hB2.out m oM
    subst hp
    simp only [Option.some.injEq,Addr.mk.injEq,and_true] at hp'
    subst hp'
    obtain ⟨x1,hx1⟩:∃ r,M[m+1]=r:=⟨_,rfl⟩
    obtain ⟨x0,hx0⟩:∃ r,M[m]'oM=r:=⟨_,rfl⟩
    rw [hx1,hx0] at hr
    rw [hx1] at hv1
    rw [hx0] at hv0
    clear hx1 hx0
    have NF:=zhl x1 x0 hr
    have e1:IntKind.i64.wrap (m:Int)=(m:Int):=by rw [IntKind.wrap_i64];omega
    have e2:m<M.length:=oM
    have e3:(0:Int)<=(m:Int)+1:=oM
    have e4:(a:Int)<(m:Int)+1:=oM
    have e5:(m:Int)+1<(M.length:Int):=oM
    go_wp2_with fail
    refine zad 16 kR kR ?_
    simp only [tkd]
    repeat (quiet_step ((go_at_call 118;exact Calls.regrown_of (NF _))))
    refine wpQuiet_nil ?_
    intro wq hwq
    replace hB2:Aside (Below w.heap.size w wq):=by obtain ⟨p,rfl⟩:=hwq;exact zaf (below_regrown _ _ _) hB2.out hB2.out.size
    clear hwq ho1 hv1 ho0 hv0 NF
    go_wp2_with fail
    go_roundg (M.length-(m+2))
    case measure=>omega
    case rel=>exact ⟨m+2,by simp;omega,oM,oM,oM,hB2⟩
  ·go_wp2_with fail
   go_end0
   exact ⟨rfl,hB.out⟩
end
section
open Go.RowKit
attribute [local irreducible] Region.wanted yielded
abbrev putV:Value:=.func (.func 113) #[] #[]
theorem zq1 {lo hi:Nat} {s:Sl} {M:List SCell} (x:Int) (w:World) (h:Row w lo hi 61 2 SCell.cells s M) (hM:isMem M=true) (hL:M.length<=1000000) (hhi:hi<=w.heap.size) :
  Calls prog 112 #[.slice s.p s.n s.c,.int .u16 x,putV] w fun e w'=>e=.returned (.tuple #[.int .i64 (lbC M x),.bool (zd8 M x)])/\Below w.heap.size w w':=by
 have hn:=h.len
 obtain ⟨p,n,c⟩:=s
 dsimp only at hn
 subst hn
 have H:Aside (Row w lo hi 61 2 SCell.cells ⟨p,M.length,c⟩ M):=h
 have HM:Aside (isMem M=true):=hM
 clear h hM
 go_enter func112,ntmps112
 go_wp2_with fail
 go_loopg [9,10] M.length (fun kx s9 s10 wr=>∃ i j:Nat,s9=.int .i64 i/\s10=.int .i64 j/\i<=j/\j<=M.length/\j-i<=kx/\Aside (Below w.heap.size w wr)/\Aside (∀ q,∀ hq:q<M.length,q<i->M[q].at_<x)/\Aside (∀ q,∀ hq:q<M.length,j<=q->x<=M[q].at_))
 case atStart=>exact ⟨0,M.length,rfl,rfl,oM,oM,oM,Below.refl _ _,(fun q hq h=>by omega:∀ q,∀ hq:q<M.length,q<0->M[q].at_<x),(fun q hq h=>by omega:∀ q,∀ hq:q<M.length,M.length<=q->x<=M[q].at_)⟩
 case round=>
  obtain ⟨i,j,rfl,rfl,hij,hj,hjx,hB,hI,hJ⟩:=hrel
  by_cases hlt:i<j
  ·obtain ⟨m,hm⟩:∃ m:Nat,(i+j) / 2=m:=⟨_,rfl⟩
   have hm':((i:Int)+(j:Int)) / 2=(m:Int):=oM
   have hm1:i<=m:=oM
   have hm2:m<j:=oM
   have hm3:m<M.length:=oM
   clear hm
   obtain ⟨g,hp,hg1,hg2,hg3,ho,hv⟩:=(H.out.thru hB.out hhi).elem (fun _=>rfl) m hm3
   dsimp only at hp
   subst hp
   obtain ⟨r,hr⟩:∃ r,M[m]=r:=⟨_,rfl⟩
   have R:Aside (M[m]=r):=hr
   rw [hr] at hv
   clear hr
   by_cases hc:r.at_<x
   ·have F:∀ w',Calls prog 113 #[.agg r.cells,.int .u16 x] w' fun e w''=>e=.returned (.int .i64 (-1))/\Below w'.heap.size w' w'':=fun w'=>by
     have e:putF r x = -1:=by unfold putF cmpW;rw [if_pos hc]
     rw [<- e];exact zjl r x w'
    have C:Aside (r.at_<x):=hc
    clear hc
    go_wp2_with ((go_at_call 113;(refine (F _).mono ?_);rintro e w' ⟨rfl,hB'⟩))
    go_roundg (j-(m+1))
    case measure=>omega
    case rel=>exact ⟨m+1,j,by simp,rfl,oM,oM,oM,zaf hB' hB.out hB.out.size,(fun q hq hqm=>by
     by_cases e:q=m
     ·subst e;rw [R.out];exact C.out
     ·have:=zdx HM.out q m oM hm3
      rw [R.out] at this
      have:=C.out
      omega:∀ q,∀ hq:q<M.length,q<m+1->M[q].at_<x),hJ⟩
   ·have F:∃ y:Int,0<=y/\(y<0)=False/\∀ w',Calls prog 113 #[.agg r.cells,.int .u16 x] w' fun e w''=>e=.returned (.int .i64 y)/\Below w'.heap.size w' w'':=⟨putF r x,by unfold putF cmpW;rw [if_neg hc];split<;>omega,by unfold putF cmpW;rw [if_neg hc];split<;>simp,fun w'=>zjl r x w'⟩
    have C:Aside (x<=r.at_):=by show x<=r.at_;omega
    clear hc
    obtain ⟨y,hy,hy2,F⟩:=F
    go_wp2_with ((go_at_call 113;(refine (F _).mono ?_);rintro e w' ⟨rfl,hB'⟩))
    go_roundg (m-i)
    case measure=>omega
    case rel=>exact ⟨i,m,rfl,rfl,oM,oM,oM,zaf hB' hB.out hB.out.size,hI,(fun q hq hqm=>by
     by_cases e:q=m
     ·subst e;rw [R.out];exact C.out
     ·have:=zdx HM.out m q oM hq
      rw [R.out] at this
      have:=C.out
      omega:∀ q,∀ hq:q<M.length,m<=q->x<=M[q].at_)⟩
  ·obtain rfl:i=j:=oM
   have hl:lbC M x=i:=zxw M x i hj (fun q hq=>hI.out q oM hq) (fun hq=>hJ.out i hq nL)
   by_cases hlen:i<M.length
   ·obtain ⟨g,hp,hg1,hg2,hg3,ho,hv⟩:=(H.out.thru hB.out hhi).elem (fun _=>rfl) i hlen
    dsimp only at hp
    subst hp
    obtain ⟨r,hr⟩:∃ r,M[i]=r:=⟨_,rfl⟩
    have T:zd8 M x=(r.at_==x):=by unfold zd8;rw [hl,List.getElem?_eq_getElem hlen,hr]
    rw [hr] at hv
    clear hr
    by_cases hc:r.at_=x
    ·have F:∀ w',Calls prog 113 #[.agg r.cells,.int .u16 x] w' fun e w''=>e=.returned (.int .i64 0)/\Below w'.heap.size w' w'':=fun w'=>by
      have e:putF r x=0:=by unfold putF cmpW;rw [if_neg oM,if_neg oM]
      rw [<- e];exact zjl r x w'
     have T':Aside (lbC M x=i/\zd8 M x=true):=⟨hl,by rw [T,hc];simp⟩
     clear hc T hl
     go_wp2_with ((go_at_call 113;(refine (F _).mono ?_);rintro e w' ⟨rfl,hB'⟩))
     go_ret2
     rw [T'.out.1,T'.out.2]
     exact ⟨rfl,zaf hB' hB.out hB.out.size⟩
    ·have F:∃ y:Int,(y==0)=false/\∀ w',Calls prog 113 #[.agg r.cells,.int .u16 x] w' fun e w''=>e=.returned (.int .i64 y)/\Below w'.heap.size w' w'':=⟨putF r x,by unfold putF cmpW;rw [beq_eq_false_iff_ne];(repeat' split)<;>omega,fun w'=>zjl r x w'⟩
     have T':Aside (lbC M x=i/\zd8 M x=false):=⟨hl,by rw [T];simpa using hc⟩
     clear hc T hl
     obtain ⟨y,hy,F⟩:=F
     go_wp2_with ((go_at_call 113;(refine (F _).mono ?_);rintro e w' ⟨rfl,hB'⟩))
     go_ret2
     rw [T'.out.1,T'.out.2]
     exact ⟨rfl,zaf hB' hB.out hB.out.size⟩
   ·obtain rfl:i=M.length:=oM
    have T':Aside (lbC M x=M.length/\zd8 M x=false):=⟨hl,by unfold zd8;rw [hl];simp⟩
    clear hl
    go_wp2_with fail
    go_ret2
    rw [T'.out.1,T'.out.2]
    exact ⟨rfl,hB.out⟩
end
section
open Go.RowKit
attribute [local irreducible] Region.wanted yielded
section
variable {lo hi:Nat} {s:Sl} {M:List SCell} (a m b:Nat) (w:World) (h:Row w lo hi 61 2 SCell.cells s M) (hM:isMem M=true) (hL:M.length<=1000000) (hhi:hi<=w.heap.size) (ha:a<m) (hm:m<b) (hb:b<=M.length)
include lo hi s M a m b w h hM hL hhi ha hm hb
theorem symA (h1:m<=a+1) :
  Calls prog 159 #[.slice s.p s.n s.c,.int .i64 a,.int .i64 m,.int .i64 b,cmpV] w fun e w'=>e=.returned (.tuple #[])/\Below w.heap.size w w':=by
 have hn:=h.len
 obtain ⟨p,n,c⟩:=s
 dsimp only at hn
 subst hn
 have H:Aside (Row w lo hi 61 2 SCell.cells ⟨p,M.length,c⟩ M):=h
 have HM:Aside (isMem M=true):=hM
 clear h hM
 have e0:IntKind.i64.wrap ((m:Int)-(a:Int))=(m:Int)-(a:Int):=by rw [IntKind.wrap_i64];omega
 have e1:((m:Int)-(a:Int)==1)=true:=by rw [beq_iff_eq];omega
 go_enter func159,ntmps159
 go_wp2_with fail
 clear e0 e1
 go_loopg [10,11] M.length (fun kx s10 s11 wr=>s10=.int .i64 (m:Int)/\∃ j:Nat,s11=.int .i64 j/\m<=j/\j<=M.length/\j<=kx/\Aside (Below w.heap.size w wr))
 case atStart=>exact ⟨rfl,b,rfl,oM,oM,oM,Below.refl _ _⟩
 case round=>
  obtain ⟨rfl,j,rfl,hj1,hj2,hjx,hB⟩:=hrel
  by_cases hlt:m<j
  ·obtain ⟨x,hx⟩:∃ x:Nat,(m+j) / 2=x:=⟨_,rfl⟩
   have hx':((m:Int)+(j:Int)) / 2=(x:Int):=oM
   have hx1:a<x:=oM
   have hx2:x<j:=oM
   have hx3:x<M.length:=oM
   have hx4:a<M.length:=oM
   have hx5:m<=x:=oM
   clear hx
   go_wp2_with fail
   have hr:=zdx HM.out (a) (x) oM oM
   obtain ⟨g,hp,ho1,hv1⟩:=rowQ H.out hhi hB.out (x) oM
   obtain ⟨g',hp',ho0,hv0⟩:=rowQ H.out hhi hB.out (a) oM
   subst hp
   simp only [Option.some.injEq,Addr.mk.injEq,and_true] at hp'
   subst hp'
   obtain ⟨x1,hx1⟩:∃ r,M[x]'oM=r:=⟨_,rfl⟩
   obtain ⟨x0,hx0⟩:∃ r,M[a]'oM=r:=⟨_,rfl⟩
   rw [hx1,hx0] at hr
   rw [hx1] at hv1
   rw [hx0] at hv0
   clear hx1 hx0
   have NF:=zhl x1 x0 hr
   refine zad 10 kR kR ?_
   simp only [tkd]
   repeat (quiet_step ((go_at_call 118;exact Calls.regrown_of (NF _))))
   refine wpQuiet_nil ?_
   intro wq hwq
   replace hB:Aside (Below w.heap.size w wq):=by obtain ⟨p,rfl⟩:=hwq;exact zaf (below_regrown _ _ _) hB.out hB.out.size
   clear hwq ho1 hv1 ho0 hv0 NF
   go_wp2_with fail
   go_roundg x
   case measure=>omega
   case rel=>exact ⟨rfl,x,rfl,oM,oM,oM,hB⟩
  ·go_wp2_with fail
   go_loopg [13] 0 (fun _ s13 wv=>s13=.int .i64 (a:Int)/\Aside (Below w.heap.size w wv))
   case atStart=>exact ⟨rfl,hB⟩
   case round=>
    obtain ⟨rfl,hB⟩:=hrel
    have e1:¬((a:Int)<(m:Int)-1):=oM
    have e2:decide ((a:Int)<(m:Int)-1)=false:=decide_eq_false e1
    go_wp2_with fail
    (try simp only [Exit.inBlock,Exit.then])
    refine bodyPost_ret (results_none rfl _ _ _) rfl ?_
    exact ⟨rfl,hB.out⟩
theorem symB (h1:m≠a+1) (h2:b<=m+1) :
  Calls prog 159 #[.slice s.p s.n s.c,.int .i64 a,.int .i64 m,.int .i64 b,cmpV] w fun e w'=>e=.returned (.tuple #[])/\Below w.heap.size w w':=by
 have hn:=h.len
 obtain ⟨p,n,c⟩:=s
 dsimp only at hn
 subst hn
 have H:Aside (Row w lo hi 61 2 SCell.cells ⟨p,M.length,c⟩ M):=h
 have HM:Aside (isMem M=true):=hM
 clear h hM
 have e0:IntKind.i64.wrap ((m:Int)-(a:Int))=(m:Int)-(a:Int):=by rw [IntKind.wrap_i64];omega
 have e1:((m:Int)-(a:Int)==1)=false:=by rw [beq_eq_false_iff_ne];omega
 have e2:IntKind.i64.wrap ((b:Int)-(m:Int))=(b:Int)-(m:Int):=by rw [IntKind.wrap_i64];omega
 have e3:((b:Int)-(m:Int)==1)=true:=by rw [beq_iff_eq];omega
 go_enter func159,ntmps159
 go_wp2_with fail
 clear e0 e1 e2 e3
 go_loopg [14,15] M.length (fun kx s14 s15 wr=>s15=.int .i64 (m:Int)/\∃ j:Nat,s14=.int .i64 j/\a<=j/\j<=m/\m-j<=kx/\Aside (Below w.heap.size w wr))
 case atStart=>exact ⟨rfl,a,rfl,oM,oM,oM,Below.refl _ _⟩
 case round=>
  obtain ⟨rfl,j,rfl,hj1,hj2,hjx,hB⟩:=hrel
  by_cases hlt:j<m
  ·obtain ⟨x,hx⟩:∃ x:Nat,(j+m) / 2=x:=⟨_,rfl⟩
   have hx':((j:Int)+(m:Int)) / 2=(x:Int):=oM
   have hx1:x<m:=oM
   have hx2:j<=x:=oM
   have hx3:x<M.length:=oM
   have hx4:m<M.length:=oM
   clear hx
   go_wp2_with fail
   have hr:=zdx HM.out (x) (m) oM oM
   obtain ⟨g,hp,ho1,hv1⟩:=rowQ H.out hhi hB.out (m) oM
   obtain ⟨g',hp',ho0,hv0⟩:=rowQ H.out hhi hB.out (x) oM
   subst hp
   simp only [Option.some.injEq,Addr.mk.injEq,and_true] at hp'
   subst hp'
   obtain ⟨x1,hx1⟩:∃ r,M[m]'oM=r:=⟨_,rfl⟩
   obtain ⟨x0,hx0⟩:∃ r,M[x]'oM=r:=⟨_,rfl⟩
   rw [hx1,hx0] at hr
   rw [hx1] at hv1
   rw [hx0] at hv0
   clear hx1 hx0
   have NF:=zhl x1 x0 hr
   refine zad 11 kR kR ?_
   simp only [tkd]
   repeat (quiet_step ((go_at_call 118;exact Calls.regrown_of (NF _))))
   refine wpQuiet_nil ?_
   intro wq hwq
   replace hB:Aside (Below w.heap.size w wq):=by obtain ⟨p,rfl⟩:=hwq;exact zaf (below_regrown _ _ _) hB.out hB.out.size
   clear hwq ho1 hv1 ho0 hv0 NF
   go_wp2_with fail
   go_roundg (m-(x+1))
   case measure=>omega
   case rel=>exact ⟨rfl,x+1,by simp,oM,oM,oM,hB⟩
  ·obtain rfl:j=m:=oM
   go_wp2_with fail
   go_loopg [17] 0 (fun _ s17 wv=>s17=.int .i64 (j:Int)/\Aside (Below w.heap.size w wv))
   case atStart=>exact ⟨rfl,hB⟩
   case round=>
    obtain ⟨rfl,hB⟩:=hrel
    go_wp2_with fail
    (try simp only [Exit.inBlock,Exit.then])
    refine bodyPost_ret (results_none rfl _ _ _) rfl ?_
    exact ⟨rfl,hB.out⟩
end
section
variable {lo hi:Nat} {p:Option Addr} {c:Nat} {M:List SCell} (a m b:Nat) (w:World) (h:Row w lo hi 61 2 SCell.cells ⟨p,M.length,c⟩ M) (hM:isMem M=true) (hL:M.length<=1000000) (hhi:hi<=w.heap.size) (ha:a+1<m) (hm:m+1<b) (hb:b<=M.length) (ih:∀ (a' m' b':Nat) (w':World),Below w.heap.size w w'->a'<m'->m'<b'->b'<=M.length->b'-a'<b-a->Calls prog 159 #[.slice p M.length c,.int .i64 a',.int .i64 m',.int .i64 b',cmpV] w' fun e w''=>e=.returned (.tuple #[])/\Below w'.heap.size w' w'')
include lo hi p c M a m b w h hM hL hhi ha hm hb ih
theorem symC1 (hc:(a+b) / 2<m) :
  Calls prog 159 #[.slice p M.length c,.int .i64 a,.int .i64 m,.int .i64 b,cmpV] w fun e w'=>e=.returned (.tuple #[])/\Below w.heap.size w w':=by
 have H:Aside (Row w lo hi 61 2 SCell.cells ⟨p,M.length,c⟩ M):=h
 have HM:Aside (isMem M=true):=hM
 have IH:Aside (∀ (a' m' b':Nat) (w':World),Below w.heap.size w w'->a'<m'->m'<b'->b'<=M.length->b'-a'<b-a->Calls prog 159 #[.slice p M.length c,.int .i64 a',.int .i64 m',.int .i64 b',cmpV] w' fun e w''=>e=.returned (.tuple #[])/\Below w'.heap.size w' w''):=ih
 clear h hM ih
 have e0:IntKind.i64.wrap ((m:Int)-(a:Int))=(m:Int)-(a:Int):=by rw [IntKind.wrap_i64];omega
 have e1:((m:Int)-(a:Int)==1)=false:=by rw [beq_eq_false_iff_ne];omega
 have e2:IntKind.i64.wrap ((b:Int)-(m:Int))=(b:Int)-(m:Int):=by rw [IntKind.wrap_i64];omega
 have e3:((b:Int)-(m:Int)==1)=false:=by rw [beq_eq_false_iff_ne];omega
 obtain ⟨d,hd⟩:∃ d:Nat,(a+b) / 2=d:=⟨_,rfl⟩
 rw [hd] at hc
 have e4:((a:Int)+(b:Int)) / 2=(d:Int):=oM
 have d1:a<d:=oM
 have d2:d<b:=oM
 have d3:2 * d<=a+b:=oM
 have d4:a+b<=2 * d+1:=oM
 clear hd
 obtain ⟨q,hq⟩:∃ q:Nat,d+m-1=q:=⟨_,rfl⟩
 have e5:(d:Int)+(m:Int)-1=(q:Int):=oM
 obtain ⟨k0,hk0⟩:∃ k0:Nat,d+m-b=k0:=⟨_,rfl⟩
 have k1:d+m=k0+b:=oM
 have k2:(d:Int)+(m:Int)-(b:Int)=(k0:Int):=oM
 clear hk0
 go_enter func159,ntmps159
 go_wp2_with fail
 clear e0 e1 e2 e3 e4 e5
 go_loopg [20,21] M.length (fun kx s20 s21 wr=>s21=.int .i64 (d:Int)/\∃ j:Nat,s20=.int .i64 j/\k0<=j/\j<=d/\d-j<=kx/\Aside (Below w.heap.size w wr))
 case atStart=>exact ⟨rfl,k0,rfl,oM,oM,oM,Below.refl _ _⟩
 case round=>
  obtain ⟨rfl,j,rfl,hj1,hj2,hjx,hB⟩:=hrel
  by_cases hlt:j<d
  ·obtain ⟨x,hx⟩:∃ x:Nat,(j+d) / 2=x:=⟨_,rfl⟩
   have hx':((j:Int)+(d:Int)) / 2=(x:Int):=oM
   have hx1:x<d:=oM
   have hx2:j<=x:=oM
   obtain ⟨y,hy⟩:∃ y:Nat,q-x=y:=⟨_,rfl⟩
   have hy':(q:Int)-(x:Int)=(y:Int):=oM
   have hy3:IntKind.i64.wrap (y:Int)=(y:Int):=by rw [IntKind.wrap_i64];omega
   have hy1:x<y:=oM
   have hy2:y<M.length:=oM
   have hx3:x<M.length:=oM
   clear hx hy
   go_wp2_with fail
   have hr:=zdx HM.out (x) (y) oM oM
   obtain ⟨g,hp,ho1,hv1⟩:=rowQ H.out hhi hB.out (y) oM
   obtain ⟨g',hp',ho0,hv0⟩:=rowQ H.out hhi hB.out (x) oM
   subst hp
   simp only [Option.some.injEq,Addr.mk.injEq,and_true] at hp'
   subst hp'
   obtain ⟨x1,hx1⟩:∃ r,M[y]'oM=r:=⟨_,rfl⟩
   obtain ⟨x0,hx0⟩:∃ r,M[x]'oM=r:=⟨_,rfl⟩
   rw [hx1,hx0] at hr
   rw [hx1] at hv1
   rw [hx0] at hv0
   clear hx1 hx0
   have NF:=zhl x1 x0 hr
   refine zad 13 kR kR ?_
   simp only [tkd]
   repeat (quiet_step ((go_at_call 118;exact Calls.regrown_of (NF _))))
   refine wpQuiet_nil ?_
   intro wq hwq
   replace hB:Aside (Below w.heap.size w wq):=by obtain ⟨p,rfl⟩:=hwq;exact zaf (below_regrown _ _ _) hB.out hB.out.size
   clear hwq ho1 hv1 ho0 hv0 NF
   go_wp2_with fail
   go_roundg (d-(x+1))
   case measure=>omega
   case rel=>exact ⟨rfl,x+1,by simp,oM,oM,oM,hB⟩
  ·obtain rfl:j=d:=oM
   have e6:IntKind.i64.wrap ((j:Int)+(m:Int)-(j:Int))=(m:Int):=by rw [IntKind.wrap_i64];omega
   have e7:IntKind.i64.wrap (m:Int)=(m:Int):=by rw [IntKind.wrap_i64];omega
   go_wp2_with ((go_at_call 159;(refine (IH.out j m b _ hB.out oM oM oM oM).mono ?_);rintro e w' ⟨rfl,hB'⟩))
   go_end0
   exact ⟨rfl,zaf hB' hB.out hB.out.size⟩
theorem symC2 (hc:m<(a+b) / 2) :
  Calls prog 159 #[.slice p M.length c,.int .i64 a,.int .i64 m,.int .i64 b,cmpV] w fun e w'=>e=.returned (.tuple #[])/\Below w.heap.size w w':=by
 have H:Aside (Row w lo hi 61 2 SCell.cells ⟨p,M.length,c⟩ M):=h
 have HM:Aside (isMem M=true):=hM
 have IH:Aside (∀ (a' m' b':Nat) (w':World),Below w.heap.size w w'->a'<m'->m'<b'->b'<=M.length->b'-a'<b-a->Calls prog 159 #[.slice p M.length c,.int .i64 a',.int .i64 m',.int .i64 b',cmpV] w' fun e w''=>e=.returned (.tuple #[])/\Below w'.heap.size w' w''):=ih
 clear h hM ih
 have e0:IntKind.i64.wrap ((m:Int)-(a:Int))=(m:Int)-(a:Int):=by rw [IntKind.wrap_i64];omega
 have e1:((m:Int)-(a:Int)==1)=false:=by rw [beq_eq_false_iff_ne];omega
 have e2:IntKind.i64.wrap ((b:Int)-(m:Int))=(b:Int)-(m:Int):=by rw [IntKind.wrap_i64];omega
 have e3:((b:Int)-(m:Int)==1)=false:=by rw [beq_eq_false_iff_ne];omega
 obtain ⟨d,hd⟩:∃ d:Nat,(a+b) / 2=d:=⟨_,rfl⟩
 rw [hd] at hc
 have e4:((a:Int)+(b:Int)) / 2=(d:Int):=oM
 have d1:a<d:=oM
 have d2:d<b:=oM
 have d3:2 * d<=a+b:=oM
 have d4:a+b<=2 * d+1:=oM
 clear hd
 obtain ⟨q,hq⟩:∃ q:Nat,d+m-1=q:=⟨_,rfl⟩
 have e5:(d:Int)+(m:Int)-1=(q:Int):=oM
 have e8:decide (d<m)=false:=by rw [decide_eq_false_iff_not];omega
 go_enter func159,ntmps159
 go_wp2_with fail
 clear e0 e1 e2 e3 e4 e5
 go_loopg [20,21] M.length (fun kx s20 s21 wr=>s21=.int .i64 (m:Int)/\∃ j:Nat,s20=.int .i64 j/\a<=j/\j<=m/\m-j<=kx/\Aside (Below w.heap.size w wr))
 case atStart=>exact ⟨rfl,a,rfl,oM,oM,oM,Below.refl _ _⟩
 case round=>
  obtain ⟨rfl,j,rfl,hj1,hj2,hjx,hB⟩:=hrel
  by_cases hlt:j<m
  ·obtain ⟨x,hx⟩:∃ x:Nat,(j+m) / 2=x:=⟨_,rfl⟩
   have hx':((j:Int)+(m:Int)) / 2=(x:Int):=oM
   have hx1:x<m:=oM
   have hx2:j<=x:=oM
   obtain ⟨y,hy⟩:∃ y:Nat,q-x=y:=⟨_,rfl⟩
   have hy':(q:Int)-(x:Int)=(y:Int):=oM
   have hy3:IntKind.i64.wrap (y:Int)=(y:Int):=by rw [IntKind.wrap_i64];omega
   have hy1:x<y:=oM
   have hy2:y<M.length:=oM
   have hx3:x<M.length:=oM
   clear hx hy
   go_wp2_with fail
   have hr:=zdx HM.out (x) (y) oM oM
   obtain ⟨g,hp,ho1,hv1⟩:=rowQ H.out hhi hB.out (y) oM
   obtain ⟨g',hp',ho0,hv0⟩:=rowQ H.out hhi hB.out (x) oM
   subst hp
   simp only [Option.some.injEq,Addr.mk.injEq,and_true] at hp'
   subst hp'
   obtain ⟨x1,hx1⟩:∃ r,M[y]'oM=r:=⟨_,rfl⟩
   obtain ⟨x0,hx0⟩:∃ r,M[x]'oM=r:=⟨_,rfl⟩
   rw [hx1,hx0] at hr
   rw [hx1] at hv1
   rw [hx0] at hv0
   clear hx1 hx0
   have NF:=zhl x1 x0 hr
   refine zad 13 kR kR ?_
   simp only [tkd]
   repeat (quiet_step ((go_at_call 118;exact Calls.regrown_of (NF _))))
   refine wpQuiet_nil ?_
   intro wq hwq
   replace hB:Aside (Below w.heap.size w wq):=by obtain ⟨p,rfl⟩:=hwq;exact zaf (below_regrown _ _ _) hB.out hB.out.size
   clear hwq ho1 hv1 ho0 hv0 NF
   go_wp2_with fail
   go_roundg (m-(x+1))
   case measure=>omega
   case rel=>exact ⟨rfl,x+1,by simp,oM,oM,oM,hB⟩
  ·obtain rfl:j=m:=oM
   have e6:IntKind.i64.wrap ((d:Int)+(j:Int)-(j:Int))=(d:Int):=by rw [IntKind.wrap_i64];omega
   have e7:IntKind.i64.wrap (d:Int)=(d:Int):=by rw [IntKind.wrap_i64];omega
   go_wp2_with ((go_at_call 159;(refine (IH.out a j d _ hB.out oM oM oM oM).mono ?_);rintro e w' ⟨rfl,hB'⟩))
   go_end0
   exact ⟨rfl,zaf hB' hB.out hB.out.size⟩
theorem symC3 (hc:(a+b) / 2=m) :
  Calls prog 159 #[.slice p M.length c,.int .i64 a,.int .i64 m,.int .i64 b,cmpV] w fun e w'=>e=.returned (.tuple #[])/\Below w.heap.size w w':=by
 have H:Aside (Row w lo hi 61 2 SCell.cells ⟨p,M.length,c⟩ M):=h
 have HM:Aside (isMem M=true):=hM
 have IH:Aside (∀ (a' m' b':Nat) (w':World),Below w.heap.size w w'->a'<m'->m'<b'->b'<=M.length->b'-a'<b-a->Calls prog 159 #[.slice p M.length c,.int .i64 a',.int .i64 m',.int .i64 b',cmpV] w' fun e w''=>e=.returned (.tuple #[])/\Below w'.heap.size w' w''):=ih
 clear h hM ih
 have e0:IntKind.i64.wrap ((m:Int)-(a:Int))=(m:Int)-(a:Int):=by rw [IntKind.wrap_i64];omega
 have e1:((m:Int)-(a:Int)==1)=false:=by rw [beq_eq_false_iff_ne];omega
 have e2:IntKind.i64.wrap ((b:Int)-(m:Int))=(b:Int)-(m:Int):=by rw [IntKind.wrap_i64];omega
 have e3:((b:Int)-(m:Int)==1)=false:=by rw [beq_eq_false_iff_ne];omega
 obtain ⟨d,hd⟩:∃ d:Nat,(a+b) / 2=d:=⟨_,rfl⟩
 rw [hd] at hc
 have e4:((a:Int)+(b:Int)) / 2=(d:Int):=oM
 have d1:a<d:=oM
 have d2:d<b:=oM
 have d3:2 * d<=a+b:=oM
 have d4:a+b<=2 * d+1:=oM
 clear hd
 obtain ⟨q,hq⟩:∃ q:Nat,d+m-1=q:=⟨_,rfl⟩
 have e5:(d:Int)+(m:Int)-1=(q:Int):=oM
 have e8:decide (d<m)=false:=by rw [decide_eq_false_iff_not];omega
 have hc1:m<=d:=oM
 have hc2:d<=m:=oM
 clear hc
 go_enter func159,ntmps159
 go_wp2_with fail
 clear e0 e1 e2 e3 e4 e5
 go_loopg [20,21] M.length (fun kx s20 s21 wr=>s21=.int .i64 (m:Int)/\∃ j:Nat,s20=.int .i64 j/\a<=j/\j<=m/\m-j<=kx/\Aside (Below w.heap.size w wr))
 case atStart=>exact ⟨rfl,a,rfl,oM,oM,oM,Below.refl _ _⟩
 case round=>
  obtain ⟨rfl,j,rfl,hj1,hj2,hjx,hB⟩:=hrel
  by_cases hlt:j<m
  ·obtain ⟨x,hx⟩:∃ x:Nat,(j+m) / 2=x:=⟨_,rfl⟩
   have hx':((j:Int)+(m:Int)) / 2=(x:Int):=oM
   have hx1:x<m:=oM
   have hx2:j<=x:=oM
   obtain ⟨y,hy⟩:∃ y:Nat,q-x=y:=⟨_,rfl⟩
   have hy':(q:Int)-(x:Int)=(y:Int):=oM
   have hy3:IntKind.i64.wrap (y:Int)=(y:Int):=by rw [IntKind.wrap_i64];omega
   have hy1:x<y:=oM
   have hy2:y<M.length:=oM
   have hx3:x<M.length:=oM
   clear hx hy
   go_wp2_with fail
   have hr:=zdx HM.out (x) (y) oM oM
   obtain ⟨g,hp,ho1,hv1⟩:=rowQ H.out hhi hB.out (y) oM
   obtain ⟨g',hp',ho0,hv0⟩:=rowQ H.out hhi hB.out (x) oM
   subst hp
   simp only [Option.some.injEq,Addr.mk.injEq,and_true] at hp'
   subst hp'
   obtain ⟨x1,hx1⟩:∃ r,M[y]'oM=r:=⟨_,rfl⟩
   obtain ⟨x0,hx0⟩:∃ r,M[x]'oM=r:=⟨_,rfl⟩
   rw [hx1,hx0] at hr
   rw [hx1] at hv1
   rw [hx0] at hv0
   clear hx1 hx0
   have NF:=zhl x1 x0 hr
   refine zad 13 kR kR ?_
   simp only [tkd]
   repeat (quiet_step ((go_at_call 118;exact Calls.regrown_of (NF _))))
   refine wpQuiet_nil ?_
   intro wq hwq
   replace hB:Aside (Below w.heap.size w wq):=by obtain ⟨p,rfl⟩:=hwq;exact zaf (below_regrown _ _ _) hB.out hB.out.size
   clear hwq ho1 hv1 ho0 hv0 NF
   go_wp2_with fail
   go_roundg (m-(x+1))
   case measure=>omega
   case rel=>exact ⟨rfl,x+1,by simp,oM,oM,oM,hB⟩
  ·obtain rfl:j=m:=oM
   have e6:IntKind.i64.wrap ((d:Int)+(j:Int)-(j:Int))=(d:Int):=by rw [IntKind.wrap_i64];omega
   have e7:IntKind.i64.wrap (d:Int)=(d:Int):=by rw [IntKind.wrap_i64];omega
   go_wp2_with fail
   go_end0
   exact ⟨rfl,hB.out⟩
end
theorem zsj {lo hi:Nat} {p:Option Addr} {c:Nat} {M:List SCell} (hM:isMem M=true) (hL:M.length<=1000000) :
  ∀ (N a m b:Nat) (w:World),Row w lo hi 61 2 SCell.cells ⟨p,M.length,c⟩ M->hi<=w.heap.size->a<m->m<b->b<=M.length->b-a<=N ->
  Calls prog 159 #[.slice p M.length c,.int .i64 a,.int .i64 m,.int .i64 b,cmpV] w fun e w'=>e=.returned (.tuple #[])/\Below w.heap.size w w'
 | 0,a,m,b,w,h,hhi,ha,hm,hb,hN=>oM
 | N+1,a,m,b,w,h,hhi,ha,hm,hb,hN=>by
  by_cases h1:m<=a+1
  ·exact symA (s:=⟨p,M.length,c⟩) a m b w h hM hL hhi ha hm hb h1
  by_cases h2:b<=m+1
  ·exact symB (s:=⟨p,M.length,c⟩) a m b w h hM hL hhi ha hm hb oM h2
  have ih:∀ (a' m' b':Nat) (w':World),Below w.heap.size w w'->a'<m'->m'<b'->b'<=M.length->b'-a'<b-a->Calls prog 159 #[.slice p M.length c,.int .i64 a',.int .i64 m',.int .i64 b',cmpV] w' fun e w''=>e=.returned (.tuple #[])/\Below w'.heap.size w' w'':=fun a' m' b' w' hB h3 h4 h5 h6=>
   zsj hM hL N a' m' b' w' (h.thru hB hhi) (Nat.le_trans hhi hB.size) h3 h4 h5 oM
  rcases (by omega:(a+b) / 2<m\/m<(a+b) / 2\/(a+b) / 2=m) with hc|hc|hc
  ·exact symC1 a m b w h hM hL hhi oM oM hb ih hc
  ·exact symC2 a m b w h hM hL hhi oM oM hb ih hc
  ·exact symC3 a m b w h hM hL hhi oM oM hb ih hc
end
section
open Go.RowKit
theorem zqy {lo hi:Nat} {p:Option Addr} {c:Nat} {M:List SCell} (w:World) (h:Row w lo hi 61 2 SCell.cells ⟨p,M.length,c⟩ M) (hM:isMem M=true) (hL:M.length<=1000000) (hhi:hi<=w.heap.size) :
  Calls prog 137 #[.slice p M.length c,.int .i64 M.length,cmpV] w fun e w'=>e=.returned (.tuple #[])/\Below w.heap.size w w':=by
 have H:Aside (Row w lo hi 61 2 SCell.cells ⟨p,M.length,c⟩ M):=h
 have HM:Aside (isMem M=true):=hM
 clear h hM
 obtain ⟨n,hn⟩:∃ n,M.length=n:=⟨_,rfl⟩
 have HN:Aside (M.length=n):=hn
 have INS:Aside (∀ (a b:Nat) (w':World),Below w.heap.size w w'->a<=n->b<=n->Calls prog 158 #[.slice p n c,.int .i64 a,.int .i64 b,cmpV] w' fun e w''=>e=.returned (.tuple #[])/\Below w'.heap.size w' w''):=by
  intro a b w' hB h1 h2
  have:=zmd (s:=⟨p,M.length,c⟩) a b w' (H.out.thru hB hhi) HM.out hL (Nat.le_trans hhi hB.size) oM oM
  simpa only [hn] using this
 have SYM:Aside (∀ (a m b:Nat) (w':World),Below w.heap.size w w'->a<m->m<b->b<=n->Calls prog 159 #[.slice p n c,.int .i64 a,.int .i64 m,.int .i64 b,cmpV] w' fun e w''=>e=.returned (.tuple #[])/\Below w'.heap.size w' w''):=by
  intro a m b w' hB h1 h2 h3
  have:=zsj HM.out hL (b-a) a m b w' (H.out.thru hB hhi) (Nat.le_trans hhi hB.size) h1 h2 oM nL
  simpa only [hn] using this
 rw [hn] at hL ⊢
 clear hn
 go_enter func137,ntmps137
 go_wp2_with fail
 go_loopg [7,8] n (fun kx s7 s8 wr=>∃ A B:Nat,s7=.int .i64 A/\s8=.int .i64 B/\A<=n/\A+20<=B/\B<=A+20/\n-A<=kx/\Aside (Below w.heap.size w wr))
 case atStart=>exact ⟨0,20,rfl,rfl,oM,oM,oM,oM,Below.refl _ _⟩
 case round=>
  obtain ⟨A,B,rfl,rfl,hA,hAB,hBA,hkx,hB⟩:=hrel
  by_cases hlt:B<=n
  ·go_wp2_with ((go_at_call 158;(refine (INS.out A B _ hB.out oM oM).mono ?_);rintro e w' ⟨rfl,hB'⟩))
   go_roundg (n-B)
   case measure=>omega
   case rel=>exact ⟨B,B+20,by simp,by simp,oM,oM,oM,oM,zaf hB' hB.out hB.out.size⟩
  ·go_wp2_with ((go_at_call 158;(refine (INS.out A n _ hB.out oM oM).mono ?_);rintro e w' ⟨rfl,hB'⟩))
   replace hB:Aside (Below w.heap.size w w'):=zaf hB' hB.out hB.out.size
   clear hB'
   go_loopg [6] n (fun kx s6 wr=>∃ K:Nat,s6=.int .i64 K/\20<=K/\K<=2000000/\n-K<=kx/\Aside (Below w.heap.size w wr))
   case atStart=>exact ⟨20,rfl,oM,oM,oM,hB⟩
   case round=>
    obtain ⟨K,rfl,hK1,hK2,hkx2,hB⟩:=hrel
    by_cases hlt2:K<n
    ·obtain ⟨D,hD⟩:∃ D:Nat,2 * K=D:=⟨_,rfl⟩
     have hD1:(2:Int) * (K:Int)=(D:Int):=oM
     have hD2:(K:Int) * (2:Int)=(D:Int):=oM
     have hD3:D<=2000000:=oM
     have hD4:2 * K<=D:=oM
     have hD5:D<=2 * K:=oM
     clear hD
     go_wp2_with fail
     go_loopg [7,8] n (fun kx s7 s8 wr=>∃ A B:Nat,s7=.int .i64 A/\s8=.int .i64 B/\A<=n/\A+D<=B/\B<=A+D/\n-A<=kx/\Aside (Below w.heap.size w wr))
     case atStart=>exact ⟨0,D,rfl,rfl,oM,oM,oM,oM,hB⟩
     case round=>
      obtain ⟨A,B,rfl,rfl,hA,hAB,hBA,hkx3,hB⟩:=hrel
      obtain ⟨E,hE⟩:∃ E:Nat,A+K=E:=⟨_,rfl⟩
      have hE1:(A:Int)+(K:Int)=(E:Int):=oM
      have hE2:A<E:=oM
      have hE3:E<B:=oM
      by_cases hlt3:B<=n
      ·go_wp2_with ((go_at_call 159;(refine (SYM.out A E B _ hB.out oM oM oM).mono ?_);rintro e w' ⟨rfl,hB'⟩))
       go_roundg (n-B)
       case measure=>omega
       case rel=>exact ⟨B,B+D,by simp,by simp,oM,oM,oM,oM,zaf hB' hB.out hB.out.size⟩
      ·by_cases hlt4:E<n
       ·go_wp2_with ((go_at_call 159;(refine (SYM.out A E n _ hB.out oM oM oM).mono ?_);rintro e w' ⟨rfl,hB'⟩))
        go_roundg (n-D)
        case measure=>omega
        case rel=>exact ⟨D,rfl,oM,oM,oM,zaf hB' hB.out hB.out.size⟩
       ·go_wp2_with fail
        go_roundg (n-D)
        case measure=>omega
        case rel=>exact ⟨D,rfl,oM,oM,oM,hB⟩
    ·go_wp2_with fail
     go_end0
     exact ⟨rfl,hB.out⟩
theorem zsk {lo hi:Nat} {s:Sl} {M:List SCell} (w:World) (h:Row w lo hi 61 2 SCell.cells s M) (hM:isMem M=true) (hL:M.length<=1000000) (hhi:hi<=w.heap.size) :
  Calls prog 117 #[.slice s.p s.n s.c,cmpV] w fun e w'=>e=.returned (.tuple #[])/\Below w.heap.size w w':=by
 have hn:=h.len
 obtain ⟨p,n,c⟩:=s
 dsimp only at hn
 subst hn
 have F:=zqy w h hM hL hhi
 clear h hM
 go_enter func117,ntmps117
 go_wp2_with ((go_at_call 137;(refine F.mono ?_);rintro e w' ⟨rfl,hB'⟩))
 go_end0
 exact ⟨rfl,hB'⟩
end
section
open Go.RowKit
attribute [local irreducible] Region.wanted yielded
theorem zmw {α:Type} (L:List α) (k:Nat) (hk:k<L.length):L.take k++[L[k]]=L.take (k+1):=by simp
theorem ztd {lo hi:Nat} {s:Sl} {M:List SCell} (w:World) (h:Row w lo hi 61 2 SCell.cells s M) (hM:isMem M=true) (hL:M.length<=900000) (hhi:hi<=w.heap.size) :
  Calls prog 92 #[.slice s.p s.n s.c] w (zft 61 2 SCell.cells M w):=by
 have CL:=zhn w h oM
 have HM:Aside (isMem M=true):=hM
 have SO:Aside (∀ (s1:Sl) (w1:World),Row w1 w.heap.size w1.heap.size 61 2 SCell.cells s1 M->Calls prog 117 #[.slice s1.p s1.n s1.c,cmpV] w1 fun e w'=>e=.returned (.tuple #[])/\Below w1.heap.size w1 w'):=fun s1 w1 h1=>zsk w1 h1 hM oM nL
 clear h hM
 go_enter func92,ntmps92
 go_wp2_with (first|(go_at_call 28;(refine CL.mono ?_);intro e w1 hcl;obtain ⟨s1,rfl,hrow,hB1⟩:=hcl)|(go_at_call 117;(refine (SO.out _ _ hrow).mono ?_);rintro e w2 ⟨rfl,hB2⟩;have hrow2:=hrow.thru hB2 nL))
 obtain ⟨p1,n1,c1⟩:=s1
 have hn1:=hrow2.len
 dsimp only at hn1 hrow hrow2 ⊢
 subst hn1
 have H:Aside (Row w2 w.heap.size w1.heap.size 61 2 SCell.cells ⟨p1,M.length,c1⟩ M):=hrow2
 have HB:Aside (Below w.heap.size w w2):=zaf hB2 hB1 hB1.size
 have HS:Aside (w1.heap.size<=w2.heap.size):=hB2.size
 have HS2:Aside (w.heap.size<=w2.heap.size):=Nat.le_trans hB1.size hB2.size
 clear hrow hrow2 hB1 hB2 CL SO
 go_loopg [4,13] M.length (fun kx s4 s13 wr=>∃ (k:Nat) (q:Sl),s13=.int .i64 k/\s4=.slice q.p q.n q.c/\k<=M.length/\M.length-k<=kx/\Aside (Row wr w2.heap.size wr.heap.size 61 2 SCell.cells q (M.take k))/\Aside (Below w2.heap.size w2 wr))
 case atStart=>exact ⟨0,⟨none,0,0⟩,rfl,rfl,oM,oM,Row.nil _ _ _ _ _ _,Below.refl _ _⟩
 case round=>
  obtain ⟨k,q,rfl,rfl,hk,hkx,hrow4,hB⟩:=hrel
  by_cases hlt:k<M.length
  ·have hm:=(zfq M).1 HM.out k hlt
   obtain ⟨g,hp,hg1,hg2,hg3,ho,hv⟩:=(H.out.thru hB.out HS.out).elem (fun _=>rfl) k hlt
   dsimp only at hp
   subst hp
   obtain ⟨⟨ra,rv⟩,hr⟩:∃ r,M[k]=r:=⟨_,rfl⟩
   have R:Aside (M[k]=⟨ra,rv⟩):=hr
   rw [hr] at hv hm
   clear hr
   have h1:(rv==0)=false:=beq_eq_false_iff_ne.2 hm.1
   have h2:(rv != 0)=true:=by rw [bne,h1];rfl
   clear hm
   have e1:IntKind.i64.wrap ((k:Int)+1)=(k:Int)+1:=by rw [IntKind.wrap_i64];omega
   by_cases h3:k+1=M.length
   ·have h4:((k:Int)+1==(M.length:Int))=true:=by rw [beq_iff_eq];omega
    clear h3
    go_wp2_with fail
    refine wpNm (fun W hW=>?_)
    have l0:blk W wr.heap.size=some (.cells (SCell.mk ra rv).cells 61):=by rw [hW];simp [go_sem,↓iteOmega]
    have hBW:Below wr.heap.size wr W:=by rw [hW];exact (Below.refl _ _).alloc nL _
    have hSW:wr.heap.size<W.heap.size:=by rw [hW];show wr.heap.size<(wr.alloc _).heap.size;simp
    have c0:∀ d os i,(Go.Sort.grow (redrawn W d) os).cell? ⟨wr.heap.size,i,none⟩=(SCell.mk ra rv).cells[i]? := fun d os i=>(zaa (((below_regrown W d os).block _ hSW).trans l0)).1 i
    have A1:Aside (blk W wr.heap.size=some (.cells (SCell.mk ra rv).cells 61)/\Below wr.heap.size wr W/\wr.heap.size<W.heap.size):=⟨l0,hBW,hSW⟩
    clear hW l0 hBW hSW
    refine zad 20 kR kR ?_
    simp only [tkd]
    repeat (quiet_step (fail))
    refine wpQuiet_nil ?_
    intro wq hwq
    obtain ⟨l0,hBW,hSW⟩:=A1.out
    have hBq:Below W.heap.size W wq:=by obtain ⟨p,rfl⟩:=hwq;exact below_regrown _ _ _
    have l1:blk wq wr.heap.size=some (.cells (SCell.mk ra rv).cells 61):=(hBq.block _ hSW).trans l0
    have hrq:Aside (Row wq w2.heap.size wr.heap.size 61 2 SCell.cells q (M.take k)):=(hrow4.out.thru hBW nL).thru hBq (Nat.le_of_lt hSW)
    have hBQ:Aside (Below w2.heap.size w2 wq):=zaf hBq (zaf hBW hB.out hB.out.size) (Nat.le_trans hB.out.size (Nat.le_of_lt hSW))
    have hSQ:wr.heap.size<wq.heap.size:=Nat.lt_of_lt_of_le hSW hBq.size
    have hSQ2:w2.heap.size<=wq.heap.size:=hBQ.out.size
    clear hwq hBq hBW hSW l0 A1 c0
    obtain ⟨gc0,gf0,gz0⟩:=zaa l1
    go_wp2_with (at_builtin;refine za7 rfl _ _ 25 rfl (hrq.out.thru ((Below.refl _ wq).alloc nL (.cells (SCell.mk ra rv).cells 61)) (Nat.le_of_lt hSQ)) (fun _=>rfl) SCell.one oM ze4 rfl [SCell.mk ra rv] wq.heap.size (SCell.mk ra rv).cells 61 1 1 rfl (zab _ _ _ rfl) (by simp [encL]) rfl oM (by rw [List.length_take];omega) sO ?_;intro s2 w3 hrow3 hgr)
    go_roundg (M.length-(k+1))
    case measure=>omega
    case rel=>
     refine ⟨k+1,s2,by simp,rfl,oM,oM,?_,?_⟩
     ·have e:M.take k++[SCell.mk ra rv]=M.take (k+1):=by rw [<- R.out];exact zmw M k hlt
      rw [e] at hrow3
      exact hrow3
     ·exact (hBQ.out.alloc hSQ2 _).trans hgr.below
   ·have h4:((k:Int)+1==(M.length:Int))=false:=by rw [beq_eq_false_iff_ne];omega
    have h5:k+1<M.length:=oM
    have e2:(0:Int)<=(k:Int)+1:=oM
    have e3:(k:Int)+1<(M.length:Int):=oM
    clear h3
    have hm:=zdx HM.out k (k+1) oM h5
    obtain ⟨xa,hxa⟩:∃ x,(M[k+1]).at_=x:=⟨_,rfl⟩
    have hf:wr.cell? ⟨g,(k+1) * 2,none⟩=some (.int .u16 xa):=by
     obtain ⟨g',hp',_,_,_,hc⟩:=(H.out.thru hB.out HS.out).fld (fun _=>rfl) (k+1) h5
     simp only [Option.some.injEq,Addr.mk.injEq,and_true] at hp'
     have:=hc 0 oM
     rw [<- hp'] at this
     rw [<- hxa];exact this
    rw [R.out,hxa] at hm
    clear hxa
    have h6:(xa==ra)=false:=by rw [beq_eq_false_iff_ne];have:ra<xa:=hm;omega
    have h7:(xa != ra)=true:=by rw [bne,h6];rfl
    clear hm
    go_wp2_with fail
    refine wpNm (fun W hW=>?_)
    have l0:blk W wr.heap.size=some (.cells (SCell.mk ra rv).cells 61):=by rw [hW];simp [go_sem,↓iteOmega]
    have hBW:Below wr.heap.size wr W:=by rw [hW];exact (Below.refl _ _).alloc nL _
    have hSW:wr.heap.size<W.heap.size:=by rw [hW];show wr.heap.size<(wr.alloc _).heap.size;simp
    have c0:∀ d os i,(Go.Sort.grow (redrawn W d) os).cell? ⟨wr.heap.size,i,none⟩=(SCell.mk ra rv).cells[i]? := fun d os i=>(zaa (((below_regrown W d os).block _ hSW).trans l0)).1 i
    have c1:∀ d os,(Go.Sort.grow (redrawn W d) os).cell? ⟨g,(k+1) * 2,none⟩=some (.int .u16 xa):=fun d os=>by rw [zbx (below_regrown W d os) (Nat.lt_trans hg3 hSW),zbx hBW hg3];exact hf
    have A1:Aside (blk W wr.heap.size=some (.cells (SCell.mk ra rv).cells 61)/\Below wr.heap.size wr W/\wr.heap.size<W.heap.size):=⟨l0,hBW,hSW⟩
    clear hW l0 hBW hSW
    refine zad 20 kR kR ?_
    simp only [tkd]
    repeat (quiet_step (fail))
    refine wpQuiet_nil ?_
    intro wq hwq
    obtain ⟨l0,hBW,hSW⟩:=A1.out
    have hBq:Below W.heap.size W wq:=by obtain ⟨p,rfl⟩:=hwq;exact below_regrown _ _ _
    have l1:blk wq wr.heap.size=some (.cells (SCell.mk ra rv).cells 61):=(hBq.block _ hSW).trans l0
    have hrq:Aside (Row wq w2.heap.size wr.heap.size 61 2 SCell.cells q (M.take k)):=(hrow4.out.thru hBW nL).thru hBq (Nat.le_of_lt hSW)
    have hBQ:Aside (Below w2.heap.size w2 wq):=zaf hBq (zaf hBW hB.out hB.out.size) (Nat.le_trans hB.out.size (Nat.le_of_lt hSW))
    have hSQ:wr.heap.size<wq.heap.size:=Nat.lt_of_lt_of_le hSW hBq.size
    have hSQ2:w2.heap.size<=wq.heap.size:=hBQ.out.size
    clear c1 hwq hBq hBW hSW l0 A1 c0
    obtain ⟨gc0,gf0,gz0⟩:=zaa l1
    go_wp2_with (at_builtin;refine za7 rfl _ _ 25 rfl (hrq.out.thru ((Below.refl _ wq).alloc nL (.cells (SCell.mk ra rv).cells 61)) (Nat.le_of_lt hSQ)) (fun _=>rfl) SCell.one oM ze4 rfl [SCell.mk ra rv] wq.heap.size (SCell.mk ra rv).cells 61 1 1 rfl (zab _ _ _ rfl) (by simp [encL]) rfl oM (by rw [List.length_take];omega) sO ?_;intro s2 w3 hrow3 hgr)
    go_roundg (M.length-(k+1))
    case measure=>omega
    case rel=>
     refine ⟨k+1,s2,by simp,rfl,oM,oM,?_,?_⟩
     ·have e:M.take k++[SCell.mk ra rv]=M.take (k+1):=by rw [<- R.out];exact zmw M k hlt
      rw [e] at hrow3
      exact hrow3
     ·exact (hBQ.out.alloc hSQ2 _).trans hgr.below
  ·obtain rfl:k=M.length:=oM
   go_wp2_with fail
   go_ret
   have hr:=hrow4.out
   rw [List.take_length] at hr
   exact ⟨q,rfl,hr.lo_mono HS2.out,zaf hB.out HB.out HS2.out⟩
end
end Go.Proofs.YtlmbamdkklkliaaGreat
