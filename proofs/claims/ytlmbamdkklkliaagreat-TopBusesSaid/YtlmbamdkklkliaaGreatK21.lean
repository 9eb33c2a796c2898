/- Part of the proof that a law holds at every input. No conditions. -/
import Derived.BigQuiet
import Derived.Deep.CutBlock
import Derived.Deep.DeepCutAuto
import Derived.Deep.LoopGhost
import Derived.Great.BuildSlice
import Derived.Laws.Cover3
import Derived.Lib.Hide
import Derived.Lib.QuietBelow
import Derived.RegionTactic
import Derived.Shelf.SlicesE.Clone
import Derived.WalkKit
import Derived.Test.YtlmbamdkklkliaaGreatK11
import Derived.Test.YtlmbamdkklkliaaGreatK13
namespace Go.Proofs.YtlmbamdkklkliaaGreat
set_option linter.unusedVariables false
set_option linter.unusedSimpArgs false
set_option maxRecDepth 100000
set_option maxHeartbeats 16000000
open Go.Proofs.Tryz
open Lib (hid)
open Go.IntWalk (iteOmega)
section
open Go.RowKit
def catX (A X:Array Value):Array Value:=A++X
section
variable (A X Y:Array Value) (t b:TypeId) (fr:Nat × Nat) (i n off:Nat) (v:Value) (w:World)
@[go_sem] theorem zns:(catX A X).size=A.size+X.size:=by simp [catX]
@[go_sem] theorem catX_get:(catX A X)[i]? = if i<A.size then A[i]? else X[i-A.size]? := by
 unfold catX;rw [Array.getElem?_append]
@[go_sem] theorem catX_set:(catX A X).setIfInBounds i v=if i<A.size then catX (A.setIfInBounds i v) X else catX A (X.setIfInBounds (i-A.size) v):=by
 unfold catX;rw [Array.setIfInBounds_append]
@[go_sem] theorem catX_ok:okO n (some (.cells (catX A X) t fr)) off=if off+n<=A.size then okO n (some (.cells A t fr)) off else decide (off+n<=A.size+X.size):=by
 simp only [okO,zns]
 split
 ·rename_i h;rw [decide_eq_true h,decide_eq_true oM]
 ·rfl
theorem znn (a e:Nat) (h:e<=A.size):(catX A X).extract a e=A.extract a e:=by
 apply Array.toList_inj.1
 simp only [catX,Array.toList_extract,Array.toList_append,List.extract]
 by_cases ha:a<=A.size
 ·rw [List.drop_append_of_le_length (by simpa using ha),List.take_append_of_le_length sO]
 ·rw [show e-a=0 by omega,List.take_zero,List.take_zero]
@[go_sem] theorem catX_val:valO n (some (.cells (catX A X) t fr)) off=if off+n<=A.size then valO n (some (.cells A t fr)) off else .agg ((catX A X).extract off (off+n)):=by
 simp only [valO]
 split
 ·rename_i h;rw [znn _ _ _ _ h]
 ·rfl
@[go_sem] theorem catX_oks:okS n (some (.cells (catX A X) t (0,0))) off Y=if off+Y.size<=A.size then okS n (some (.cells A t (0,0))) off Y else decide (Y.size=n/\off+Y.size<=A.size+X.size/\Y.all (fun v=>v.oneCell')=true):=by
 simp only [okS,zns]
 split
 ·rename_i h
  congr 1
  apply propext
  constructor
  ·rintro ⟨h1,_,h3⟩;exact ⟨h1,h,h3⟩
  ·rintro ⟨h1,_,h3⟩;exact ⟨h1,oM,h3⟩
 ·rfl
theorem zn8 (h:off+Y.size<=A.size):zep (catX A X) off Y=catX (zep A off Y) X:=by
 have h1:(A.toList++X.toList).take off=A.toList.take off:=List.take_append_of_le_length sO
 have h2:(A.toList++X.toList).drop (off+Y.size)=A.toList.drop (off+Y.size)++X.toList:=List.drop_append_of_le_length (by simpa using h)
 unfold zep catX
 rw [Array.toList_append,h1,h2]
 apply Array.toList_inj.1
 simp
@[go_sem] theorem catX_sts:stS (some (.cells (catX A X) t (0,0))) b off Y w=if off+Y.size<=A.size then zai w b (catX (zep A off Y) X) t else zai w b (zep (catX A X) off Y) t:=by
 simp only [stS]
 split
 ·rename_i h;rw [zn8 _ _ _ _ h]
 ·rfl
theorem zqj:catX A #[]=A:=by simp [catX]
end
@[go_sem] theorem SMachine.sp_core (x:SMachine) (y:SCore):zep x.cells 0 y.cells=({ x with sys := { x.sys with core:=y } }:SMachine).cells:=lK
@[go_sem] theorem SMachine.sp_pic (x:SMachine) (y:SPIC):zep x.cells 37 y.cells=({ x with sys := { x.sys with pic:=y } }:SMachine).cells:=lK
@[go_sem] theorem SMachine.sp_dma (x:SMachine) (y:SDMA):zep x.cells 57 y.cells=({ x with sys := { x.sys with dma:=y } }:SMachine).cells:=lK
def zva (r:SRecorder):Array Value:=(r.cells.toList.drop 69).toArray
theorem SRecorder.cat (r:SRecorder) (m:SMachine):catX m.cells (zva r)=({ r with machine:=m }:SRecorder).cells:=by
 unfold catX zva
 apply Array.toList_inj.1
 rw [Array.toList_append]
 kernel_rfl
structure Kept (lo mb:Nat) (ts:List TypeId) (w w':World):Prop where
 below:Below lo w w'
 kept:∀ b A t,b≠mb->t ∉ ts->blk w b=some (.cells A t)->blk w' b=some (.cells A t)
section
variable {lo mb:Nat} {ts:List TypeId} {w w' u:World}
theorem zak {b:Nat} {o:Obj} (h:blk w b=some o):b<w.heap.size:=(Array.getElem?_eq_some_iff.1 (show w.heap[b]? = _ from h)).1
theorem Kept.refl:Kept lo mb ts w w:=⟨Below.refl _ _,fun _ _ _ _ _ h=>h⟩
theorem Kept.trans (h:Kept lo mb ts w w') (k:Kept lo mb ts w' u):Kept lo mb ts w u:=⟨h.below.trans k.below,fun b A t hb ht hk=>k.kept b A t hb ht (h.kept b A t hb ht hk)⟩
theorem Kept.size (h:Kept lo mb ts w w'):w.heap.size<=w'.heap.size:=h.below.size
theorem Kept.more {ts':List TypeId} (h:Kept lo mb ts w w') (ht:∀ t,t ∈ ts->t ∈ ts'):Kept lo mb ts' w w':=⟨h.below,fun b A t hb hn hk=>h.kept b A t hb (fun e=>hn (ht t e)) hk⟩
theorem Kept.of_below (h:Below w.heap.size w w') (hlo:lo<=w.heap.size):Kept lo mb ts w w':=⟨h.mono hlo,fun b A t _ _ hk=>(h.block b (zak hk)).trans hk⟩
theorem Kept.of_grown (h:w.grownBy w' (some mb)) (hlo:lo<=mb) (hlw:lo<=w.heap.size):Kept lo mb ts w w':=
 ⟨⟨h.os,h.tape,h.output,h.size,fun k hk=>h.block k oM (fun e=>by cases e;omega)⟩,fun b A t hb _ hk=>(h.block b (zak hk) (fun e=>hb (by cases e;rfl))).trans hk⟩
theorem Kept.of_grew {e:TypeId} (h:Grew lo e w w') (he:e ∈ ts):Kept lo mb ts w w':=⟨h.below,fun b A t _ ht hk=>h.kept b A t (fun e'=>ht (e' ▸ he)) hk⟩
theorem Kept.then (k:Below w'.heap.size w' u) (h:Kept lo mb ts w w') (hlo:lo<=w'.heap.size):Kept lo mb ts w u:=h.trans (Kept.of_below k hlo)
theorem Kept.alloc (o:Obj) (h:Kept lo mb ts w w') (hlo:lo<=w'.heap.size):Kept lo mb ts w (w'.alloc o):=h.trans (Kept.of_below ((Below.refl _ w').alloc nL o) hlo)
theorem Kept.drew (h:Kept lo mb ts w w'):Kept lo mb ts w w'.drew:=⟨h.below.drew,h.kept⟩
theorem Kept.drewN (n:Nat) (h:Kept lo mb ts w w'):Kept lo mb ts w (w'.drewN n):=⟨zho h.below n,h.kept⟩
theorem Kept.setM {A:Array Value} {t:TypeId} (h:Kept lo mb ts w w') (hlo:lo<=mb):Kept lo mb ts w (zai w' mb A t):=
 ⟨zae h.below hlo,fun b A t hb ht hk=>(blk_setBlk_other _ _ _ _ _ hb).trans (h.kept b A t hb ht hk)⟩
theorem Kept.set {b':Nat} {A:Array Value} {t:TypeId} (h:Kept lo mb ts w w') (hlo:lo<=b') (hb:w.heap.size<=b'):Kept lo mb ts w (zai w' b' A t):=
 ⟨zae h.below hlo,fun b A t hn ht hk=>(blk_setBlk_other _ _ _ _ _ (by have:=zak hk;omega)).trans (h.kept b A t hn ht hk)⟩
theorem Row.kept {α:Type} {lo' hi:Nat} {e:TypeId} {k:Nat} {enc:α->Array Value} {s:Sl} {L:List α} {C:Array Value} {T:TypeId} (h:Row w lo' hi e k enc s L) (hk:Kept lo mb ts w w') (hm:blk w mb=some (.cells C T)) (hT:T≠e) (he:e ∉ ts):Row w' lo' hi e k enc s L:=
 h.keepT fun g cur _ _ hg=>(hk.kept g cur e (fun e'=>by subst e';rw [hm] at hg;simp only [Option.some.injEq,Obj.cells.injEq] at hg;exact hT hg.2.1) he hg).trans hg.symm
end
end
section
open Go.RowKit
section
variable {α:Type} {w w':World} {lo hi:Nat} {e:TypeId} {k:Nat} {enc:α->Array Value} {s:Sl} {L:List α}
theorem Row.fld (h:Row w lo hi e k enc s L) (hk:∀ x,(enc x).size=k) (j:Nat) (hj:j<L.length) :
  ∃ g,s.p=some ⟨g,0,none⟩/\lo<=g/\g<hi/\g<w.heap.size/\∀ o,o<k->w.cell? ⟨g,j * k+o,none⟩=(enc L[j])[o]? := by
 obtain ⟨g,hp,hlo,hhi,hsz,ho,hv⟩:=h.elem hk j hj
 refine ⟨g,hp,hlo,hhi,hsz,fun o hok=>?_⟩
 rw [za2]
 revert ho hv
 cases blk w g with
 | none=>simp [okO]
 | some b=>
  cases b with
  | cells C t fr=>
   intro ho hv
   simp only [okO,decide_eq_true_eq] at ho
   simp only [valO,Value.agg.injEq] at hv
   rw [<- hv,Array.getElem?_extract]
   simp only [zgd]
   rw [if_pos oM]
  | _=>simp [okO]
end
theorem zbx {B g:Nat} {w w':World} (h:Below B w w') (hg:g<B) (i:Nat):w'.cell? ⟨g,i,none⟩=w.cell? ⟨g,i,none⟩:=by rw [za2,za2,show blk w' g=blk w g from h.block g hg]
theorem wpNm {P:Program} {c:Code} {Q:Exit->Act->World->Prop} {a:Act} {w:World} (h:∀ W,W=w->Code.wp P c Q a W):Code.wp P c Q a w:=h w rfl
end
section
open Go.RowKit
def zj3 (x n:Int):Int:=(IntKind.u64.wrap x).tmod n
theorem zm5 (x n:Int):zj3 x n=(x%18446744073709551616)%n:=by
 unfold zj3;rw [IntKind.wrap_u64,Int.tmod_eq_emod_of_nonneg oM]
theorem zm3 (x n:Int) (h:0<n):0<=zj3 x n:=by rw [zm5];exact Int.emod_nonneg _ oM
theorem zm4 (x n:Int) (h:0<n):zj3 x n<n:=by rw [zm5];exact Int.emod_lt_of_pos _ h
theorem zm2 (x n:Int) (w:World) (h:0<n) (h':n<=1000000000) :
  Calls prog 66 #[.int .i64 x,.int .i64 n] w fun e w'=>e=.returned (.int .i64 (zj3 x n))/\w=w':=by
 have l1:=zm3 x n h
 have l2:=zm4 x n h
 have e1:IntKind.u64.wrap n=n:=IntWalk.u64_in n ⟨oM,oM⟩
 have e2:(IntKind.u64.wrap x).tmod n=zj3 x n:=rfl
 have e3:(n==0)=false:=by rw [beq_eq_false_iff_ne];omega
 go_enter func66,ntmps66
 go_wp2
 go_ret
 exact ⟨rfl,rfl⟩
structure NumAt (w:World) (nb:Nat) (s:Sl) (V:List Int) (k:Nat):Prop where
 m:blk w nb=some (.cells #[.slice s.p s.n s.c,.int .i64 k] 113)
 eq:s.n=V.length
 row:∀ j (hj:j<V.length),∃ g off,s.p=some ⟨g,off,none⟩/\g≠nb/\g<w.heap.size/\w.cell? ⟨g,off+j,none⟩=some (.int .i64 V[j])
 len:V.length<=1000000
theorem NumAt.thru {w w':World} {nb k:Nat} {s:Sl} {V:List Int} (h:NumAt w nb s V k) (hB:Below w.heap.size w w'):NumAt w' nb s V k:=
 ⟨(hB.block _ (zak h.m)).trans h.m,h.eq,fun j hj=>by
  obtain ⟨g,off,h1,h2,h3,h4⟩:=h.row j hj
  exact ⟨g,off,h1,h2,Nat.lt_of_lt_of_le h3 hB.size,(zbx hB h3 _).trans h4⟩,h.len⟩
theorem NumAt.over {w w':World} {nb k k':Nat} {s:Sl} {V:List Int} (h:NumAt w nb s V k) (hg:w.grownBy w' (some nb)) (hm:blk w' nb=some (.cells #[.slice s.p s.n s.c,.int .i64 k'] 113)):NumAt w' nb s V k':=
 ⟨hm,h.eq,fun j hj=>by
  obtain ⟨g,off,h1,h2,h3,h4⟩:=h.row j hj
  refine ⟨g,off,h1,h2,Nat.lt_of_lt_of_le h3 hg.size,?_⟩
  rw [za2,show blk w' g=blk w g from hg.block g h3 (fun e=>h2 (Option.some.inj e)),<- za2]
  exact h4,h.len⟩
theorem zxx {w w1:World} {nb:Nat} {A:Array Value} {t:TypeId} (h:Below w.heap.size w w1):w.grownBy (zai w1 nb A t) (some nb):=
 ⟨h.os,h.tape,h.output,by rw [size_setBlk];exact h.size,fun b hb hn=>(blk_setBlk_other _ _ _ _ _ (fun e=>hn (by rw [e]))).trans (h.block b hb)⟩
theorem zfh {w w1 w2:World} {p:Option Nat} (h:w.grownBy w1 p) (k:Below w1.heap.size w1 w2):w.grownBy w2 p:=
 ⟨k.os.trans h.os,k.tape.trans h.tape,k.output.trans h.output,Nat.le_trans h.size k.size,fun b hb hn=>(k.block b (Nat.lt_of_lt_of_le hb h.size)).trans (h.block b hb hn)⟩
theorem rowGrown {α:Type} {w w':World} {lo nb k:Nat} {e t:TypeId} {enc:α->Array Value} {s:Sl} {L:List α} {A:Array Value} (h:Row w lo w.heap.size e k enc s L) (hm:blk w nb=some (.cells A t)) (ht:t≠e) (hg:w.grownBy w' (some nb)):Row w' lo w'.heap.size e k enc s L:=
 Row.hi_mono (Row.keepT h fun g cur hlo hhi hb=>hg.block g hhi (fun e'=>by
  cases e'
  rw [hm] at hb
  simp only [Option.some.injEq,Obj.cells.injEq] at hb
  exact ht hb.2.1)) hg.size
def Tells (nb:Nat) (s:Sl) (V:List Int) (k:Nat) (n:Int) (w:World) (e:Ending) (w':World):Prop:=
 ∃ v:Int,e=.returned (.int .i64 v)/\0<=v/\v<n/\NumAt w' nb s V (k+1)/\w.grownBy w' (some nb)
theorem zav {w:World} {nb k:Nat} {s:Sl} {V:List Int} (h:NumAt w nb s V k) (hk:k<=1000000000) (n:Int) (h1:0<n) (h2:n<=1000000000) :
  Calls prog 38 #[.pointer (some ⟨nb,0,none⟩),.int .i64 n] w (Tells nb s V k n w):=by
 have hm:=h.m
 have hn:=h.eq
 have HV:Aside (V.length<=1000000):=h.len
 have HR:Aside (NumAt w nb s V k):=h
 obtain ⟨p,nn,c⟩:=s
 dsimp only at hn
 subst hn
 have HM0:=hid hm
 obtain ⟨gcm,gfm,gzm⟩:=zaa hm
 have hlen:V.length<=1000000:=HV.out
 clear h
 by_cases hlt:k<V.length
 ·obtain ⟨x,hx⟩:∃ x,V[k]=x:=⟨_,rfl⟩
  obtain ⟨g,off,hp,hgn,hg3,hc⟩:=HR.out.row k hlt
  dsimp only at hp
  subst hp
  rw [hx] at hc
  clear hx
  have hkI:(k:Int)<(V.length:Int):=oM
  have hkw:IntKind.i64.wrap (k:Int)=(k:Int):=by rw [IntKind.wrap_i64];omega
  go_enter func38,ntmps38
  go_upto_region 1 with fail
  have q0:∀ d os ix,(Go.Sort.grow (redrawn w d) os).cell? ⟨nb,ix,none⟩=(#[.slice (some ⟨g,off,none⟩) V.length c,.int .i64 (k:Int)]:Array Value)[ix]? := fun d os ix=>(zaa (((below_regrown w d os).block _ gzm).trans hm)).1 ix
  refine zad 9 kR kR ?_
  simp only [tkd]
  repeat (quiet_step (fail))
  refine wpQuiet_nil ?_
  intro wq hwq
  have hBq:Below w.heap.size w wq:=by obtain ⟨p,rfl⟩:=hwq;exact below_regrown _ _ _
  clear hwq q0
  have hmq:blk wq nb=some (.cells #[.slice (some ⟨g,off,none⟩) V.length c,.int .i64 (k:Int)] 113):=(hBq.block _ gzm).trans hm
  have hcq:wq.cell? ⟨g,off+k,none⟩=some (.int .i64 x):=(zbx hBq hg3 _).trans hc
  obtain ⟨gcq,gfq,gzq⟩:=zaa hmq
  have HBQ:=hid hBq
  clear gcm gfm hm hc hBq
  go_upto_region 5 with fail
  refine wpNm (fun U hU=>?_)
  have fu:blk U nb=some (.cells #[.slice (some ⟨g,off,none⟩) V.length c,.int .i64 ((k:Int)+1)] 113):=by rw [hU];exact sM
  have cu:U.cell? ⟨g,off+k,none⟩=some (.int .i64 x):=by rw [hU];exact sM
  have hGU:w.grownBy U (some nb):=by rw [hU];exact zxx HBQ.out
  have HGU:=hid hGU
  have hUz:=hGU.size
  have gzu:=zak fu
  have q0:∀ d os ix,(Go.Sort.grow (redrawn U d) os).cell? ⟨nb,ix,none⟩=(#[.slice (some ⟨g,off,none⟩) V.length c,.int .i64 ((k:Int)+1)]:Array Value)[ix]? := fun d os ix=>(zaa (((below_regrown U d os).block _ gzu).trans fu)).1 ix
  have q1:∀ d os,(Go.Sort.grow (redrawn U d) os).cell? ⟨g,off+k,none⟩=some (.int .i64 x):=fun d os=>(zbx (below_regrown U d os) oM _).trans cu
  clear hU gcq gfq gzq hmq hcq hGU cu
  refine zad 12 kR kR ?_
  simp only [tkd]
  repeat (quiet_step ((go_at_call 66;exact zmz (zm2 _ _ _ h1 h2))))
  refine wpQuiet_nil ?_
  intro wq hwq
  have hBq:Below U.heap.size U wq:=by obtain ⟨p,rfl⟩:=hwq;exact below_regrown _ _ _
  clear hwq q0 q1
  go_wp2_with (go_at_call 66;(refine (zm2 _ _ _ h1 h2).mono ?_);rintro e w4 ⟨rfl,rfl⟩)
  go_ret
  have hfin:blk wq nb=some (.cells #[.slice (some ⟨g,off,none⟩) V.length c,.int .i64 ((k:Int)+1)] 113):=(hBq.block _ gzu).trans fu
  have hG2:w.grownBy wq (some nb):=zfh HGU.out hBq
  exact ⟨zj3 x n,rfl,zm3 x n h1,zm4 x n h1,HR.out.over hG2 hfin,hG2⟩
 ·have hge:¬(k:Int)<(V.length:Int):=oM
  have hge2:(V.length:Int)<=(k:Int):=oM
  go_enter func38,ntmps38
  go_upto_region 1 with fail
  have q0:∀ d os ix,(Go.Sort.grow (redrawn w d) os).cell? ⟨nb,ix,none⟩=(#[.slice p V.length c,.int .i64 (k:Int)]:Array Value)[ix]? := fun d os ix=>(zaa (((below_regrown w d os).block _ gzm).trans hm)).1 ix
  refine zad 9 kR kR ?_
  simp only [tkd]
  repeat (quiet_step (fail))
  refine wpQuiet_nil ?_
  intro wq hwq
  have hBq:Below w.heap.size w wq:=by obtain ⟨p,rfl⟩:=hwq;exact below_regrown _ _ _
  clear hwq q0
  have hmq:blk wq nb=some (.cells #[.slice p V.length c,.int .i64 (k:Int)] 113):=(hBq.block _ gzm).trans hm
  obtain ⟨gcq,gfq,gzq⟩:=zaa hmq
  have HBQ:=hid hBq
  clear gcm gfm hm hBq
  go_wp2_with fail
  go_ret
  have hG2:w.grownBy (zai wq nb #[.slice p V.length c,.int .i64 ((k:Int)+1)] 113) (some nb):=zxx HBQ.out
  exact ⟨0,rfl,oM,h1,HR.out.over hG2 (blk_setBlk_same _ _ _ _ gzq),hG2⟩
end
section
open Go.RowKit
def zxq (nb:Nat) (s:Sl) (V:List Int) (k c:Nat) (K:IntKind) (Q:Int->Prop) (w:World) (e:Ending) (w':World):Prop:=
 ∃ (v:Int) (k':Nat),e=.returned (.int K v)/\Q v/\NumAt w' nb s V k'/\k'<=k+c/\w.grownBy w' (some nb)
theorem zwg (s:Sl) (V:List Int) (w:World) (h0:s.n=V.length) (h:∀ j (hj:j<V.length),∃ g off,s.p=some ⟨g,off,none⟩/\g<w.heap.size/\w.cell? ⟨g,off+j,none⟩=some (.int .i64 V[j])) (hL:V.length<=1000000) :
  Calls prog 19 #[.slice s.p s.n s.c] w fun e w'=>e=.returned (.pointer (some ⟨w.heap.size,0,none⟩))/\NumAt w' w.heap.size s V 0/\Below w.heap.size w w':=by
 go_enter func19,ntmps19
 go_wp2_with fail
 go_ret
 exact ⟨rfl,⟨by rw [h0];exact zab _ _ _ rfl,h0,fun j hj=>by
  obtain ⟨g,off,k1,k2,k3⟩:=h j hj
  exact ⟨g,off,k1,oM,by simp;omega,(zbx ((Below.refl _ w).alloc nL _) k2 _).trans k3⟩,hL⟩,(Below.refl _ w).alloc nL _⟩
theorem zwh {w:World} {nb k:Nat} {s:Sl} {V:List Int} (h:NumAt w nb s V k) (hk:k<=1000000000) :
  Calls prog 96 #[.pointer (some ⟨nb,0,none⟩)] w fun e w'=>∃ b,e=.returned (.bool b)/\NumAt w' nb s V (k+1)/\w.grownBy w' (some nb):=by
 go_enter func96,ntmps96
 go_wp2_with (go_at_call 38;(refine (zav aS oM _ oM oM).mono ?_);rintro e w2 ⟨v,rfl,hv0,hv1,hN2,hG2⟩)
 go_ret
 exact ⟨_,rfl,hN2,hG2⟩
theorem zxf {w:World} {nb k:Nat} {s:Sl} {V:List Int} (h:NumAt w nb s V k) (hk:k<=1000000000) :
  Calls prog 36 #[.pointer (some ⟨nb,0,none⟩)] w (zxq nb s V k 1 .i64 (fun v=>v=1\/v=2) w):=by
 go_enter func36,ntmps36
 go_upto_region 9 with (go_at_call 38;(refine (zav aS oM _ oM oM).mono ?_);rintro e w2 ⟨v,rfl,hv0,hv1,hN2,hG2⟩)
 obtain rfl|rfl:v=0\/v=1:=oM
 all_goals
  go_wp2_with fail
  go_ret
 ·exact ⟨_,_,rfl,.inl rfl,hN2,Nat.le_refl _,hG2⟩
 ·exact ⟨_,_,rfl,.inr rfl,hN2,Nat.le_refl _,hG2⟩
end
section
open Go.RowKit
theorem zlk {w w1 w2:World} {p:Option Nat} {o:Obj} (h:w.grownBy w1 p) (k:(w1.alloc o).grownBy w2 p):w.grownBy w2 p:=
 ⟨k.os.trans h.os,k.tape.trans h.tape,k.output.trans h.output,by have:=k.size;have:=h.size;simp at *;omega,fun b hb hn=>(k.block b (by have:=h.size;simp;omega) hn).trans ((blk_alloc_past _ _ _ (by have:=h.size;omega)).trans (h.block b hb hn))⟩
theorem za8 {w w1 w2:World} {p:Option Nat} (h:w.grownBy w1 p) (k:w1.grownBy w2 p):w.grownBy w2 p:=
 ⟨k.os.trans h.os,k.tape.trans h.tape,k.output.trans h.output,Nat.le_trans h.size k.size,fun b hb hn=>(k.block b (Nat.lt_of_lt_of_le hb h.size) hn).trans (h.block b hb hn)⟩
theorem zux {w:World} {nb k:Nat} {s:Sl} {V:List Int} (h:NumAt w nb s V k) (hk:k<=900000000) :
  Calls prog 94 #[.pointer (some ⟨nb,0,none⟩)] w (zxq nb s V k 2 .u16 (fun v=>0<=v/\v<=65535) w):=by
 go_enter func94,ntmps94
 go_upto_region 2 with (go_at_call 38;(refine (zav aS oM _ oM oM).mono ?_);rintro e w2 ⟨v,rfl,hv0,hv1,hN2,hG2⟩)
 have hnb:=zak hN2.m
 by_cases h0:v=0
 ·subst h0
  go_wp2_with (go_at_call 38;(refine (zav (hN2.thru bL) oM _ oM oM).mono ?_);rintro e w4 ⟨v4,rfl,hw0,hw1,hN4,hG4⟩;have ka:blk w4 w2.heap.size=some (.cells #[.int .u16 0,.int .u16 1,.int .u16 65535,.int .u16 65534,.int .u16 32767,.int .u16 32768,.int .u16 255,.int .u16 256] 37):=(hG4.block _ sI (fun e=>absurd (Option.some.inj e) oM)).trans (zab _ _ _ rfl);obtain ⟨gca,gfa,gza⟩:=zaa ka;have hr:v4=0\/v4=1\/v4=2\/v4=3\/v4=4\/v4=5\/v4=6\/v4=7:=oM;obtain rfl|rfl|rfl|rfl|rfl|rfl|rfl|rfl:=hr)
  all_goals
   go_ret
   exact ⟨_,_,rfl,⟨oM,oM⟩,hN4,oM,zlk hG2 hG4⟩
 ·have hb0:(v==0)=false:=beq_eq_false_iff_ne.2 h0
  by_cases h1:v=1
  ·subst h1
   go_wp2_with (go_at_call 38;(refine (zav (hN2.thru bL) oM _ oM oM).mono ?_);rintro e w4 ⟨v4,rfl,hw0,hw1,hN4,hG4⟩;have e1:IntKind.u16.wrap v4=v4:=(by rw [IntKind.wrap_u16];omega))
   go_ret
   exact ⟨v4,_,by first|rfl|(rw [e1];rfl),⟨hw0,oM⟩,hN4,oM,za8 hG2 hG4⟩
  ·have hb1:(v==1)=false:=beq_eq_false_iff_ne.2 h1
   go_wp2_with (go_at_call 38;(refine (zav (hN2.thru bL) oM _ oM oM).mono ?_);rintro e w4 ⟨v4,rfl,hw0,hw1,hN4,hG4⟩;have e1:IntKind.u16.wrap v4=v4:=(by rw [IntKind.wrap_u16];omega))
   go_ret
   exact ⟨v4,_,by first|rfl|(rw [e1];rfl),⟨hw0,oM⟩,hN4,oM,za8 hG2 hG4⟩
end
section
open Go.RowKit
section
variable {P:Program} {α:Type} {lo hi:Nat} {e:TypeId} {k:Nat} {enc:α->Array Value} {s:Sl} {L:List α}
structure Grew2 (lo hi:Nat) (e:TypeId) (w w':World):Prop where
  grew:Grew lo e w w'
  past:∀ b,hi<=b->b<w.heap.size->blk w' b=blk w b
theorem zg5 (w:World) (h:Row w lo hi e k enc s L) (hk:∀ x,(enc x).size=k) (h1:∀ x,(enc x).all (fun v=>v.oneCell')=true) (hk0:0<k)
    (t ty:TypeId) (hE:ElemInfo P t e k) {lo2 hi2:Nat} {sx:Sl} (M:List α) (hx:Row w lo2 hi2 e k enc sx M) (hm0:0<M.length) (h63:L.length+M.length<=1000000) (hlo:lo<=w.heap.size) :
    ∃ (s':Sl) (w':World),(Builtin.append_ #[t,t] ty #[.slice s.p s.n s.c,.slice sx.p sx.n sx.c]).run P w=.ok (.slice s'.p s'.n s'.c) w'/\Row w' lo w'.heap.size e k enc s' (L++M)/\Grew2 lo hi e w w':=by
  obtain ⟨ht,i,z,hi',hz,hsize,hbytes,hzs⟩:=hE
  have hlen:=zcc (L:=M) hk
  obtain ⟨g,cur,hp,hg1,hg2,hg3,hgb,hgc,hgm,hgs,hgt⟩:=hx.at hm0
  have hn:=h.len
  have hmx:=hx.len
  rw [hp,hmx]
  obtain ⟨v',w',hr,hown,hgrow,hnil⟩:=run_append_own (P:=P) w lo t ty e i z k i.bytes ht hi' hz hsize rfl hzs hk0 (.slice s.p s.n s.c) L.length (encL enc L) h.own ⟨g,0,none⟩ M.length sx.c (encL enc M) hlen
    (fun j u hu=>by
      have hadd:(⟨g,0,none⟩:Addr).add j=⟨g,j,none⟩:=by unfold Addr.add;split<;>simp_all
      rw [hadd,za2,hgb]
      simp only [zgd]
      rw [<- hgt,List.getElem?_take] at hu
      split at hu
      · simpa using hu
      · cases hu)
    (fun u hu=>by
      simp only [encL,List.mem_flatMap] at hu
      obtain ⟨x,_,hx⟩:=hu
      exact (Array.all_eq_true_iff_forall_mem.1 (h1 x)) u (by simpa using hx))
    (by unfold maxLen;omega) (by
      have:(L.length+M.length) * i.bytes<=1000000 * 1000:=Nat.mul_le_mul h63 hbytes
      omega) hlo
  have hown':w'.ownsRow lo e k v' (L++M).length (encL enc (L++M)):=by rw [zek,List.length_append];exact hown
  obtain ⟨s',rfl,hrow⟩:=Row.of_own _ hown' rfl
  refine ⟨s',w',hr,hrow,⟨⟨⟨hgrow.os,hgrow.tape,hgrow.output,hgrow.size,fun b hb=>hgrow.block b oM (fun e'=>?_)⟩,fun b A t' hte hb=>?_⟩,fun b hb1 hb2=>hgrow.block b hb2 (fun e'=>?_)⟩⟩
  · exact absurd (h.own.lt b e'.symm).1 oM
  · have hb' : w.heap[b]? = some (.cells A t') := hb
    refine (hgrow.block b (Array.getElem?_eq_some_iff.1 hb').1 (fun e'=>?_)).trans hb'
    rcases h.own.2 with ⟨hv,_⟩|⟨g',cap,cur',hv,_,hg',_⟩
    · rw [hv] at e';simp [Value.ownBlock] at e'
    · rw [hv] at e'
      simp only [Value.ownBlock,Option.some.injEq] at e'
      rw [e',hg'] at hb'
      simp only [Option.some.injEq,Obj.cells.injEq] at hb'
      exact hte hb'.2.1.symm
  · have := h.top b e'.symm
    omega
theorem zku {w:World} {o:Oper} {a:Act} {K:Act->World->Prop} {Q:Exit->Act->World->Prop} (s1 x:Operand) (t:TypeId)
    (ho:o.op=.call { callee:=.builtin .append,args:=#[s1,x],argTypes:=#[t,t] })
    (hrow:Row w lo hi e k enc s L) (hk:∀ x,(enc x).size=k) (h1:∀ x,(enc x).all (fun v=>v.oneCell')=true) (hk0:0<k)
    (hE:ElemInfo P t e k) (hs:a.eval s1=.slice s.p s.n s.c) {lo2 hi2:Nat} {sx:Sl} (M:List α) (hxr:Row w lo2 hi2 e k enc sx M) (hx:a.eval x=.slice sx.p sx.n sx.c) (hm0:0<M.length) (h63:L.length+M.length<=1000000) (hlo:lo<=w.heap.size)
    (hK:∀ (s':Sl) (w':World),Row w' lo w'.heap.size e k enc s' (L++M)->Grew2 lo hi e w w'->K (a.put o.dst (.slice s'.p s'.n s'.c)) w'):o.wp P a w K Q:=by
  obtain ⟨s',w',hr,h2,h3⟩:=zg5 (P:=P) w hrow hk h1 hk0 t o.type hE M hxr hm0 h63 hlo
  unfold Oper.wp execOp
  simp only [ho,resolve,invoke,builtin,Sem.run_bind,Sem.run_pure,Result.andThen_ok,List.map_toArray,List.map_cons,List.map_nil,hs,hx,hr]
  exact hK s' w' h2 h3
theorem wpList_append_rows {w:World} {ops:Array Oper} {rest:List Oper} {o:Oper} {a:Act} {Q:Exit->Act->World->Prop} (hgd:o.guard=none) (s1 x:Operand) (t:TypeId)
    (ho:o.op=.call { callee:=.builtin .append,args:=#[s1,x],argTypes:=#[t,t] })
    (hrow:Row w lo hi e k enc s L) (hk:∀ x,(enc x).size=k) (h1:∀ x,(enc x).all (fun v=>v.oneCell')=true) (hk0:0<k)
    (hE:ElemInfo P t e k) (hs:a.eval s1=.slice s.p s.n s.c) {lo2 hi2:Nat} {sx:Sl} (M:List α) (hxr:Row w lo2 hi2 e k enc sx M) (hx:a.eval x=.slice sx.p sx.n sx.c) (hm0:0<M.length) (h63:L.length+M.length<=1000000) (hlo:lo<=w.heap.size)
    (hK:∀ (s':Sl) (w':World),Row w' lo w'.heap.size e k enc s' (L++M)->Grew2 lo hi e w w'->wpList P ops Q rest (a.put o.dst (.slice s'.p s'.n s'.c)) w'):wpList P ops Q (o::rest) a w:=
  wpList_plain hgd fun _ hKK=>zku s1 x t ho hrow hk h1 hk0 hE hs M hxr hx hm0 h63 hlo fun s' w' h2 h3=>hKK _ _ (hK s' w' h2 h3)
theorem zky (w:World) (h:Row w lo hi e k enc s L) (hk:∀ x,(enc x).size=k) (h1:∀ x,(enc x).all (fun v=>v.oneCell')=true) (hk0:0<k)
    (t ty:TypeId) (hE:ElemInfo P t e k) {lo2 hi2:Nat} {sx:Sl} (M:List α) (hx:Row w lo2 hi2 e k enc sx M) (h63:L.length+M.length<=1000000) (hlo:lo<=w.heap.size) :
    ∃ (s':Sl) (w':World),(Builtin.append_ #[t,t] ty #[.slice s.p s.n s.c,.slice sx.p sx.n sx.c]).run P w=.ok (.slice s'.p s'.n s'.c) w'/\Row w' lo w'.heap.size e k enc s' (L++M)/\Grew2 lo hi e w w':=by
  by_cases hm0:0<M.length
  · exact zg5 w h hk h1 hk0 t ty hE M hx hm0 h63 hlo
  · obtain rfl : M = [] := List.eq_nil_of_length_eq_zero oM
    obtain ⟨ht,i,z,hi',hz,hsize,hbytes,hzs⟩:=hE
    rcases hx.own.2 with ⟨hv,_⟩|⟨g,cap,cur,hv,_⟩
    · rw [hv]
      obtain ⟨s',hs',hrow⟩:=Row.of_own (w:=w) (lo:=lo) (e:=e) (k:=k) (enc:=enc) (L:=L) _ h.own rfl
      simp only [Value.slice.injEq] at hs'
      obtain ⟨e1,e2,e3⟩:=hs'
      have hss:s'=s:=by cases s;cases s';simp_all
      rw [hss] at hrow
      exact ⟨s,w,run_append_owned_none w lo t ty e i k ht hi' _ _ _ h.own,by rw [List.append_nil];exact hrow,Grew.refl _ _ _,fun _ _ _=>rfl⟩
    · rw [hv]
      obtain ⟨v',w',hr,hown,hgrow,hnil⟩:=run_append_own (P:=P) w lo t ty e i z k i.bytes ht hi' hz hsize rfl hzs hk0 (.slice s.p s.n s.c) L.length (encL enc L) h.own ⟨g,0,none⟩ 0 cap [] sI (fun j u hu=>by simp at hu) (fun u hu=>by simp at hu) (by simp at h63;unfold maxLen;omega) (by
        have:(L.length+0) * i.bytes<=1000000 * 1000:=Nat.mul_le_mul (by simpa using h63) hbytes
        omega) hlo
      have hown':w'.ownsRow lo e k v' (L++[]).length (encL enc (L++[])):=by rw [List.append_nil];simpa using hown
      obtain ⟨s',rfl,hrow⟩:=Row.of_own _ hown' rfl
      refine ⟨s',w',hr,hrow,⟨⟨⟨hgrow.os,hgrow.tape,hgrow.output,hgrow.size,fun b hb=>hgrow.block b oM (fun e'=>?_)⟩,fun b A t' hte hb=>?_⟩,fun b hb1 hb2=>hgrow.block b hb2 (fun e'=>?_)⟩⟩
      · exact absurd (h.own.lt b e'.symm).1 oM
      · have hb' : w.heap[b]? = some (.cells A t') := hb
        refine (hgrow.block b (Array.getElem?_eq_some_iff.1 hb').1 (fun e'=>?_)).trans hb'
        rcases h.own.2 with ⟨hv,_⟩|⟨g',cap,cur',hv,_,hg',_⟩
        · rw [hv] at e';simp [Value.ownBlock] at e'
        · rw [hv] at e'
          simp only [Value.ownBlock,Option.some.injEq] at e'
          rw [e',hg'] at hb'
          simp only [Option.some.injEq,Obj.cells.injEq] at hb'
          exact hte hb'.2.1.symm
      · have := h.top b e'.symm
        omega
theorem zbi {w:World} {ops:Array Oper} {rest:List Oper} {o:Oper} {a:Act} {Q:Exit->Act->World->Prop} (hgd:o.guard=none) (s1 x:Operand) (t:TypeId)
    (ho:o.op=.call { callee:=.builtin .append,args:=#[s1,x],argTypes:=#[t,t] })
    (hrow:Row w lo hi e k enc s L) (hk:∀ x,(enc x).size=k) (h1:∀ x,(enc x).all (fun v=>v.oneCell')=true) (hk0:0<k)
    (hE:ElemInfo P t e k) (hs:a.eval s1=.slice s.p s.n s.c) {lo2 hi2:Nat} {sx:Sl} (M:List α) (hxr:Row w lo2 hi2 e k enc sx M) (hx:a.eval x=.slice sx.p sx.n sx.c) (h63:L.length+M.length<=1000000) (hlo:lo<=w.heap.size)
    (hK:∀ (s':Sl) (w':World),Row w' lo w'.heap.size e k enc s' (L++M)->Grew2 lo hi e w w'->wpList P ops Q rest (a.put o.dst (.slice s'.p s'.n s'.c)) w'):wpList P ops Q (o::rest) a w:=by
  refine wpList_plain hgd fun K hKK=>?_
  obtain ⟨s',w',hr,h2,h3⟩:=zky (P:=P) w hrow hk h1 hk0 t o.type hE M hxr h63 hlo
  unfold Oper.wp execOp
  simp only [ho,resolve,invoke,builtin,Sem.run_bind,Sem.run_pure,Result.andThen_ok,List.map_toArray,List.map_cons,List.map_nil,hs,hx,hr]
  exact hKK _ _ (hK s' w' h2 h3)
theorem Row.one {w:World} {g:Nat} (x:α) (hb:blk w g=some (.cells (enc x) e)) (hk:∀ x,(enc x).size=k) (hlo:lo<=g):Row w lo (g+1) e k enc ⟨some ⟨g,0,none⟩,1,1⟩ [x]:=by
  have hsz:=hk x
  refine ⟨⟨?_,.inr ⟨g,1,enc x,rfl,hlo,hb,?_,?_,?_,?_⟩⟩,?_⟩
  all_goals first
    | (simp [encL,hsz];done)
    | (unfold maxLen;omega)
    | (simp [Value.ownBlock];done)
    | (rw [show [x].length * k=(enc x).toList.length by simp [hsz],List.take_length];simp [encL])
end
end
section
open Go.RowKit
def zkt (n:Nat) (v:Value):Bool:=match v with | .agg C=>decide (C.size=n)|_=>false
def zk3 (v:Value):Array Value:=match v with | .agg C=>C|_=>#[]
@[go_sem] theorem z2u (n:Nat) (C:Array Value):zkt n (.agg C)=decide (C.size=n):=lay rfl
@[go_sem] theorem z2t (C:Array Value):zk3 (.agg C)=C:=lay rfl
def zgm (P:Program) (o:Oper) (A:Act) (w:World) (K:Act->World->Prop) (Q:Exit->Act->World->Prop):Prop:=Oper.wp P o A w K Q
section
variable {P:Program} {T e n:Nat} (dst:Option Tmp) (x:Tmp) (ty:TypeId) (pos:String) (aft:Array Edge) (gd:Option (Nat × Bool)) (A:Act) (w:World) (K:Act->World->Prop) (Q:Exit->Act->World->Prop)
theorem ze2 (hu:P.underlying T=some (.slice e)) (hi:(P.info? e).map (·.size)=some n) (hz:((P.info? e).bind (·.zero)).isSome=true) (hn:0<n/\n<=1000) :
  Oper.wp P ⟨dst,.buildSlice T 1 #[(0,.tmp x)],ty,pos,aft,gd⟩ A w K Q=if zkt n (A.eval (.tmp x))=true then K (A.put dst (.slice (some ⟨w.heap.size,0,none⟩) 1 1)) (w.alloc (.cells (zk3 (A.eval (.tmp x))) e)) else zgm P ⟨dst,.buildSlice T 1 #[(0,.tmp x)],ty,pos,aft,gd⟩ A w K Q:=by
 split
 ·rename_i h
  unfold zkt at h
  split at h
  ·rename_i C hC
   have hs:C.size=n:=by simpa using h
   cases hie:P.info? e with
   | none=>simp [hie] at hi
   | some ie=>
    simp only [hie,Option.map_some,Option.some.injEq,Option.bind_some] at hi hz
    obtain ⟨z,hzz⟩:=Option.isSome_iff_exists.1 hz
    obtain ⟨r,h1,h2,h3⟩:=Great.fill_dense (s:=ie.size) oM [.agg C] 0 ((Array.range (1 * ie.size)).map (z.cells[· % z.cells.size]!)) (fun v hv=>by rw [List.mem_singleton.1 hv,hi];exact hs) sI
    have hr:r=C:=by
     apply Array.ext_getElem?
     intro k
     rw [h3]
     simp only [List.length_singleton]
     by_cases hk:k<ie.size
     ·rw [if_pos oM,show k / ie.size=0 from Nat.div_eq_of_lt hk,Nat.mod_eq_of_lt hk]
      simp [Value.cells]
     ·rw [if_neg oM,Array.getElem?_eq_none sO,Array.getElem?_eq_none oM]
    rw [hr] at h1
    have e0:(Instr.buildSlice T 1 #[(0,Value.agg C)]).run P w=.ok (.slice (some ⟨w.heap.size,0,none⟩) 1 1) (w.alloc (.cells C e)):=run_buildSlice w T e 1 _ C ie z hu hie hzz oM oM (by simpa using h1)
    have e1:(execOp A.eval ⟨dst,.buildSlice T 1 #[(0,.tmp x)],ty,pos,aft,gd⟩).run P w=.ok (.value (.slice (some ⟨w.heap.size,0,none⟩) 1 1)) (w.alloc (.cells C e)):=by
     simp [execOp,hC,e0]
    show Oper.upon P _ A K Q ((execOp A.eval _).run P w)=_
    rw [e1,hC]
    rfl
  ·cases h
 ·rfl
end
section
variable (dst:Option Tmp) (x:Tmp) (ty:TypeId) (pos:String) (aft:Array Edge) (gd:Option (Nat × Bool)) (A:Act) (w:World) (K:Act->World->Prop) (Q:Exit->Act->World->Prop)
@[go_sem ↓] theorem SInput.one_if:Oper.wp prog ⟨dst,.buildSlice 71 1 #[(0,.tmp x)],ty,pos,aft,gd⟩ A w K Q=if zkt 10 (A.eval (.tmp x))=true then K (A.put dst (.slice (some ⟨w.heap.size,0,none⟩) 1 1)) (w.alloc (.cells (zk3 (A.eval (.tmp x))) 74)) else zgm prog ⟨dst,.buildSlice 71 1 #[(0,.tmp x)],ty,pos,aft,gd⟩ A w K Q:=ze2 dst x ty pos aft gd A w K Q kR kR kR dC
theorem SInput.info:ElemInfo prog 71 74 10:=zei kR kR kR
@[go_sem ↓] theorem SPins.one_if:Oper.wp prog ⟨dst,.buildSlice 31 1 #[(0,.tmp x)],ty,pos,aft,gd⟩ A w K Q=if zkt 17 (A.eval (.tmp x))=true then K (A.put dst (.slice (some ⟨w.heap.size,0,none⟩) 1 1)) (w.alloc (.cells (zk3 (A.eval (.tmp x))) 76)) else zgm prog ⟨dst,.buildSlice 31 1 #[(0,.tmp x)],ty,pos,aft,gd⟩ A w K Q:=ze2 dst x ty pos aft gd A w K Q kR kR kR dC
theorem SPins.info:ElemInfo prog 31 76 17:=zei kR kR kR
@[go_sem ↓] theorem SItem.one_if:Oper.wp prog ⟨dst,.buildSlice 32 1 #[(0,.tmp x)],ty,pos,aft,gd⟩ A w K Q=if zkt 9 (A.eval (.tmp x))=true then K (A.put dst (.slice (some ⟨w.heap.size,0,none⟩) 1 1)) (w.alloc (.cells (zk3 (A.eval (.tmp x))) 154)) else zgm prog ⟨dst,.buildSlice 32 1 #[(0,.tmp x)],ty,pos,aft,gd⟩ A w K Q:=ze2 dst x ty pos aft gd A w K Q kR kR kR dC
theorem SItem.info:ElemInfo prog 32 154 9:=zei kR kR kR
@[go_sem ↓] theorem SEvent.one_if:Oper.wp prog ⟨dst,.buildSlice 33 1 #[(0,.tmp x)],ty,pos,aft,gd⟩ A w K Q=if zkt 18 (A.eval (.tmp x))=true then K (A.put dst (.slice (some ⟨w.heap.size,0,none⟩) 1 1)) (w.alloc (.cells (zk3 (A.eval (.tmp x))) 63)) else zgm prog ⟨dst,.buildSlice 33 1 #[(0,.tmp x)],ty,pos,aft,gd⟩ A w K Q:=ze2 dst x ty pos aft gd A w K Q kR kR kR dC
theorem SEvent.info:ElemInfo prog 33 63 18:=zei kR kR kR
@[go_sem ↓] theorem SCPU.one_if:Oper.wp prog ⟨dst,.buildSlice 34 1 #[(0,.tmp x)],ty,pos,aft,gd⟩ A w K Q=if zkt 28 (A.eval (.tmp x))=true then K (A.put dst (.slice (some ⟨w.heap.size,0,none⟩) 1 1)) (w.alloc (.cells (zk3 (A.eval (.tmp x))) 41)) else zgm prog ⟨dst,.buildSlice 34 1 #[(0,.tmp x)],ty,pos,aft,gd⟩ A w K Q:=ze2 dst x ty pos aft gd A w K Q kR kR kR dC
theorem SCPU.info:ElemInfo prog 34 41 28:=zei kR kR kR
@[go_sem ↓] theorem SOutput.one_if:Oper.wp prog ⟨dst,.buildSlice 50 1 #[(0,.tmp x)],ty,pos,aft,gd⟩ A w K Q=if zkt 2 (A.eval (.tmp x))=true then K (A.put dst (.slice (some ⟨w.heap.size,0,none⟩) 1 1)) (w.alloc (.cells (zk3 (A.eval (.tmp x))) 110)) else zgm prog ⟨dst,.buildSlice 50 1 #[(0,.tmp x)],ty,pos,aft,gd⟩ A w K Q:=ze2 dst x ty pos aft gd A w K Q kR kR kR dC
theorem SOutput.info:ElemInfo prog 50 110 2:=zei kR kR kR
@[go_sem ↓] theorem SRegion.one_if:Oper.wp prog ⟨dst,.buildSlice 24 1 #[(0,.tmp x)],ty,pos,aft,gd⟩ A w K Q=if zkt 4 (A.eval (.tmp x))=true then K (A.put dst (.slice (some ⟨w.heap.size,0,none⟩) 1 1)) (w.alloc (.cells (zk3 (A.eval (.tmp x))) 82)) else zgm prog ⟨dst,.buildSlice 24 1 #[(0,.tmp x)],ty,pos,aft,gd⟩ A w K Q:=ze2 dst x ty pos aft gd A w K Q kR kR kR dC
theorem SRegion.info:ElemInfo prog 24 82 4:=zei kR kR kR
@[go_sem ↓] theorem SCell.one_if:Oper.wp prog ⟨dst,.buildSlice 25 1 #[(0,.tmp x)],ty,pos,aft,gd⟩ A w K Q=if zkt 2 (A.eval (.tmp x))=true then K (A.put dst (.slice (some ⟨w.heap.size,0,none⟩) 1 1)) (w.alloc (.cells (zk3 (A.eval (.tmp x))) 61)) else zgm prog ⟨dst,.buildSlice 25 1 #[(0,.tmp x)],ty,pos,aft,gd⟩ A w K Q:=ze2 dst x ty pos aft gd A w K Q kR kR kR dC
end
end
section
open Go.RowKit
structure Bld {α:Type} (w0 w:World) (nb:Nat) (s:Sl) (V:List Int) (k:Nat) (e:TypeId) (m:Nat) (enc:α->Array Value) (q:Sl) (L:List α):Prop where
 num:NumAt w nb s V k
 grown:w0.grownBy w (some nb)
 row:Row w w0.heap.size w.heap.size e m enc q L
section
variable {α:Type} {w0 w w2:World} {nb k k2:Nat} {s:Sl} {V:List Int} {e:TypeId} {m:Nat} {enc:α->Array Value} {q:Sl} {L:List α}
theorem Bld.step (hB:Bld w0 w nb s V k e m enc q L) (ht:113≠e) (hN:NumAt w2 nb s V k2) (hg:w.grownBy w2 (some nb)):Bld w0 w2 nb s V k2 e m enc q L:=
 ⟨hN,za8 hB.grown hg,rowGrown hB.row hB.num.m ht hg⟩
theorem Bld.below (hB:Bld w0 w nb s V k e m enc q L) (hb:Below w.heap.size w w2):Bld w0 w2 nb s V k e m enc q L:=
 ⟨hB.num.thru hb,zfh hB.grown hb,(hB.row.thru hb nL).hi_mono hb.size⟩
theorem Bld.alloc (hB:Bld w0 w nb s V k e m enc q L) (o:Obj):Bld w0 (w.alloc o) nb s V k e m enc q L:=hB.below ((Below.refl _ w).alloc nL _)
theorem zcr {p:Option Nat} (k:Below w.heap.size w w2):w.grownBy w2 p:=⟨k.os,k.tape,k.output,k.size,fun b hb _=>k.block b hb⟩
theorem zqb {B:Nat} (h:w0.grownBy w (some nb)) (hb:Below B w w2) (hB:w0.heap.size<=B):w0.grownBy w2 (some nb):=
 ⟨hb.os.trans h.os,hb.tape.trans h.tape,hb.output.trans h.output,Nat.le_trans h.size hb.size,fun b hlt hn=>(hb.block b oM).trans (h.block b hlt hn)⟩
theorem zj8 {k0:Nat} (h0:NumAt w0 nb s V k0) (hN:NumAt w nb s V k) (hg:w0.grownBy w (some nb)) (hgr:Below w0.heap.size w w2):NumAt w2 nb s V k/\w0.grownBy w2 (some nb):=
 have hg2:=zqb hg hgr nL
 ⟨h0.over hg2 ((hgr.block _ (zak h0.m)).trans hN.m),hg2⟩
theorem Bld.append {k0:Nat} {α':Type} {L':List α'} {e':TypeId} {m':Nat} {enc':α'->Array Value} {q':Sl} (h0:NumAt w0 nb s V k0) (hN:NumAt w nb s V k) (hg:w0.grownBy w (some nb)) (hr:Row w2 w0.heap.size w2.heap.size e' m' enc' q' L') (hgr:Below w0.heap.size w w2):Bld w0 w2 nb s V k e' m' enc' q' L':=
 have hg2:=zqb hg hgr nL
 ⟨h0.over hg2 ((hgr.block _ (zak h0.m)).trans hN.m),hg2,hr⟩
end
theorem Row.litA {α:Type} {w:World} {lo g k:Nat} {e:TypeId} {enc:α->Array Value} (M:List α) (C:Array Value) (hb:blk w g=some (.cells C e)) (hk:∀ x,(enc x).size=k) (hC:C.toList=encL enc M) (hm:M.length<=maxLen) (hlo:lo<=g):Row w lo (g+1) e k enc ⟨some ⟨g,0,none⟩,M.length,M.length⟩ M:=by
 have hl:=zcc (enc:=enc) (L:=M) hk
 have hs:C.size=M.length * k:=by rw [<- hl,<- hC];simp
 refine ⟨⟨hl,.inr ⟨g,M.length,C,rfl,hlo,hb,Nat.le_refl _,hm,hs,?_⟩⟩,fun g' hg=>?_⟩
 ·rw [hC,<- hl,List.take_length]
 ·simp only [Value.ownBlock,Option.some.injEq] at hg
  omega
def znu {α:Type} (nb:Nat) (s:Sl) (V:List Int) (k c:Nat) (e:TypeId) (m:Nat) (enc:α->Array Value) (Q:List α->Prop) (w:World) (x:Ending) (w':World):Prop:=
 ∃ (q:Sl) (L:List α) (k':Nat),x=.returned (.slice q.p q.n q.c)/\Q L/\Bld w w' nb s V k' e m enc q L/\k'<=k+c
end
section
open Go.RowKit
section
variable {P:Program} {α:Type} {lo hi:Nat} {e:TypeId} {k:Nat} {enc:α->Array Value} {s:Sl} {L:List α}
theorem zi7 (w:World) (h:Row w lo hi e k enc s L) (hk:∀ x,(enc x).size=k) (h1:∀ x,(enc x).all (fun v=>v.oneCell')=true) (hk0:0<k)
    (t ty:TypeId) (hE:ElemInfo P t e k) {lo2 hi2:Nat} {sx:Sl} (M:List α) (hx:Row w lo2 hi2 e k enc sx M) (hm0:0<M.length) (h63:L.length+M.length<=1000000) (hlo:lo<=w.heap.size) :
    ∃ (s':Sl) (w':World),(Builtin.append_ #[t,t] ty #[.slice s.p s.n s.c,.slice sx.p sx.n sx.c]).run P w=.ok (.slice s'.p s'.n s'.c) w'/\Row w' lo w'.heap.size e k enc s' (L++M)/\w.grownBy w' (Value.slice s.p s.n s.c).ownBlock:=by
  obtain ⟨ht,i,z,hi',hz,hsize,hbytes,hzs⟩:=hE
  have hlen:=zcc (L:=M) hk
  obtain ⟨g,cur,hp,hg1,hg2,hg3,hgb,hgc,hgm,hgs,hgt⟩:=hx.at hm0
  have hn:=h.len
  have hmx:=hx.len
  rw [hp,hmx]
  obtain ⟨v',w',hr,hown,hgrow,hnil⟩:=run_append_own (P:=P) w lo t ty e i z k i.bytes ht hi' hz hsize rfl hzs hk0 (.slice s.p s.n s.c) L.length (encL enc L) h.own ⟨g,0,none⟩ M.length sx.c (encL enc M) hlen
    (fun j u hu=>by
      have hadd:(⟨g,0,none⟩:Addr).add j=⟨g,j,none⟩:=by unfold Addr.add;split<;>simp_all
      rw [hadd,za2,hgb]
      simp only [zgd]
      rw [<- hgt,List.getElem?_take] at hu
      split at hu
      · simpa using hu
      · cases hu)
    (fun u hu=>by
      simp only [encL,List.mem_flatMap] at hu
      obtain ⟨x,_,hx⟩:=hu
      exact (Array.all_eq_true_iff_forall_mem.1 (h1 x)) u (by simpa using hx))
    (by unfold maxLen;omega) (by
      have:(L.length+M.length) * i.bytes<=1000000 * 1000:=Nat.mul_le_mul h63 hbytes
      omega) hlo
  have hown':w'.ownsRow lo e k v' (L++M).length (encL enc (L++M)):=by rw [zek,List.length_append];exact hown
  obtain ⟨s',rfl,hrow⟩:=Row.of_own _ hown' rfl
  exact ⟨s',w',hr,hrow,hgrow⟩
theorem zhq {w:World} {ops:Array Oper} {rest:List Oper} {o:Oper} {a:Act} {Q:Exit->Act->World->Prop} (hgd:o.guard=none) (s1 x:Operand) (t:TypeId)
    (ho:o.op=.call { callee:=.builtin .append,args:=#[s1,x],argTypes:=#[t,t] })
    (hrow:Row w lo hi e k enc s L) (hk:∀ x,(enc x).size=k) (h1:∀ x,(enc x).all (fun v=>v.oneCell')=true) (hk0:0<k)
    (hE:ElemInfo P t e k) (hs:a.eval s1=.slice s.p s.n s.c) {lo2 hi2:Nat} {sx:Sl} (M:List α) (hxr:Row w lo2 hi2 e k enc sx M) (hx:a.eval x=.slice sx.p sx.n sx.c) (hm0:0<M.length) (h63:L.length+M.length<=1000000) (hlo:lo<=w.heap.size)
    (hnil:L=[]->s=⟨none,0,0⟩) (g:Nat) (C:Array Value) (hgb:blk w g=some (.cells C e)) (hC:C.size=k) (hne:∀ b,(Value.slice s.p s.n s.c).ownBlock=some b->b≠g)
    (hK:∀ (s':Sl) (w':World),Row w' lo w'.heap.size e k enc s' (L++M)->Below lo w w'->blk w' g=some (.cells C e)->(∀ b,(Value.slice s'.p s'.n s'.c).ownBlock=some b->b≠g)->wpList P ops Q rest (a.put o.dst (.slice s'.p s'.n s'.c)) w'):wpList P ops Q (o::rest) a w:=by
  refine wpList_plain hgd fun K hKK=>?_
  have hgl:=zak hgb
  by_cases hL:L=[]
  · have hs0 := hnil hL
    subst hL
    subst hs0
    obtain ⟨s',w',hr,h2,h3⟩:=zi7 (P:=P) w (Row.nil w w.heap.size w.heap.size e k enc) hk h1 hk0 t o.type hE M hxr hm0 h63 nL
    have hbl:Below w.heap.size w w':=⟨h3.os,h3.tape,h3.output,h3.size,fun b hb=>h3.block b hb (by simp [Value.ownBlock])⟩
    unfold Oper.wp execOp
    simp only [ho,resolve,invoke,builtin,Sem.run_bind,Sem.run_pure,Result.andThen_ok,List.map_toArray,List.map_cons,List.map_nil,hs,hx,hr]
    exact hKK _ _ (hK s' w' (h2.lo_mono hlo) (hbl.mono hlo) ((hbl.block _ hgl).trans hgb) fun b hb=>by have:=(h2.own.lt b hb).1;omega)
  · obtain ⟨s', w', hr, h2, h3⟩ := zi7 (P := P) w hrow hk h1 hk0 t o.type hE M hxr hm0 h63 hlo
    have hgk:blk w' g=some (.cells C e):=(h3.block g hgl (fun e'=>hne g e'.symm rfl)).trans hgb
    unfold Oper.wp execOp
    simp only [ho,resolve,invoke,builtin,Sem.run_bind,Sem.run_pure,Result.andThen_ok,List.map_toArray,List.map_cons,List.map_nil,hs,hx,hr]
    refine hKK _ _ (hK s' w' h2 ⟨h3.os,h3.tape,h3.output,h3.size,fun b hb=>h3.block b oM (fun e'=>?_)⟩ hgk fun b hb e'=>?_)
    · have := (hrow.own.lt b e'.symm).1
      omega
    · subst e'
      have hl1:0<L.length:=List.length_pos_iff.2 hL
      obtain ⟨g',cur,hp,_,_,_,hb',hc,_,hsz,_⟩:=h2.at sO
      rw [hp] at hb
      simp only [Value.ownBlock,Option.some.injEq] at hb
      subst hb
      rw [hgk] at hb'
      simp only [Option.some.injEq,Obj.cells.injEq] at hb'
      rw [<- hb'.1,hC] at hsz
      have h2':2<=s'.c:=by
        have hla:(L++M).length=L.length+M.length:=List.length_append
        omega
      have:2 * k<=s'.c * k:=Nat.mul_le_mul_right k h2'
      omega
end
end
section
open Go.RowKit
theorem zi1 {w:World} {nb k:Nat} {s:Sl} {V:List Int} (h:NumAt w nb s V k) (hk:k<=900000000) :
  Calls prog 41 #[.pointer (some ⟨nb,0,none⟩)] w (zxq nb s V k 2 .u8 (fun v=>0<=v/\v<=255) w):=by
 go_enter func41,ntmps41
 go_upto_if 5 with (go_at_call 38;(refine (zav aS oM _ oM oM).mono ?_);rintro e w2 ⟨v,rfl,hv0,hv1,hN2,hG2⟩)
 have hnb:=zak hN2.m
 by_cases h0:0<v
 ·go_wp2_with (go_at_call 38;(refine (zav (hN2.thru bL) oM _ oM oM).mono ?_);rintro e w4 ⟨v4,rfl,hw0,hw1,hN4,hG4⟩;have e1:IntKind.u8.wrap v4=v4:=(by rw [IntKind.wrap_u8];omega))
  go_ret
  exact ⟨v4,_,by first|rfl|(rw [e1];rfl),⟨hw0,oM⟩,hN4,oM,za8 hG2 hG4⟩
 ·have h0':¬ 0<v:=h0
  obtain rfl:v=0:=oM
  go_wp2_with (go_at_call 38;(refine (zav (hN2.thru bL) oM _ oM oM).mono ?_);rintro e w4 ⟨v4,rfl,hw0,hw1,hN4,hG4⟩;have ka:blk w4 w2.heap.size=some (.cells #[.int .u8 251,.int .u8 243,.int .u8 118,.int .u8 205,.int .u8 201,.int .u8 197,.int .u8 227,.int .u8 211,.int .u8 219,.int .u8 54,.int .u8 52,.int .u8 32,.int .u8 48,.int .u8 194,.int .u8 202,.int .u8 255,.int .u8 62,.int .u8 49] 5):=(hG4.block _ sI (fun e=>absurd (Option.some.inj e) oM)).trans (zab _ _ _ rfl);obtain ⟨gca,gfa,gza⟩:=zaa ka;have hr:v4=0\/v4=1\/v4=2\/v4=3\/v4=4\/v4=5\/v4=6\/v4=7\/v4=8\/v4=9\/v4=10\/v4=11\/v4=12\/v4=13\/v4=14\/v4=15\/v4=16\/v4=17:=oM;obtain rfl|rfl|rfl|rfl|rfl|rfl|rfl|rfl|rfl|rfl|rfl|rfl|rfl|rfl|rfl|rfl|rfl|rfl:=hr)
  all_goals
   go_ret
   exact ⟨_,_,rfl,⟨oM,oM⟩,hN4,oM,zlk hG2 hG4⟩
end
section
open Go.RowKit
theorem zxz:ElemInfo prog 71 74 10:=zei kR kR kR
theorem Row.quad {w:World} {lo hi:Nat} {s:Sl} {L:List Int} (h:Row w lo hi 5 1 encB s L) (k:Nat) (hk:k+4<=L.length) :
  ∃ g,s.p=some ⟨g,0,none⟩/\g<hi/\g<w.heap.size/\L.length<=s.c/\∃ a0 a1 a2 a3:Int,(L[k]? = some a0/\L[k+1]? = some a1/\L[k+2]? = some a2/\L[k+3]? = some a3)/\w.cell? ⟨g,k,none⟩=some (.int .u8 a0)/\w.cell? ⟨g,k+1,none⟩=some (.int .u8 a1)/\w.cell? ⟨g,k+2,none⟩=some (.int .u8 a2)/\w.cell? ⟨g,k+3,none⟩=some (.int .u8 a3):=by
 obtain ⟨g,cur,hp,hlo,hhi,hsz,hb,hc,hm,hs,ht⟩:=h.at oM
 have key:∀ j,∀ hj:j<L.length,w.cell? ⟨g,j,none⟩=some (.int .u8 L[j]):=fun j hj=>by
  obtain ⟨g',hp',_,_,_,hc'⟩:=h.cell (fun x=>.int .u8 x) (fun _=>rfl) j hj
  rw [hp] at hp'
  simp only [Option.some.injEq,Addr.mk.injEq,and_true] at hp'
  rw [hp'];exact hc'
 have e:∀ j,∀ hj:j<L.length,L[j]? = some L[j]:=fun j hj=>List.getElem?_eq_getElem hj
 exact ⟨g,hp,hhi,hsz,hc,_,_,_,_,⟨e k oM,e (k+1) oM,e (k+2) oM,e (k+3) oM⟩,key _ _,key _ _,key _ _,key _ _⟩
def okIn (i:SInput):Prop:=0<=i.requests/\i.requests<=255/\0<=i.port/\i.port<=255
def zpj (B:List Int) (w:World) (e:Ending) (w':World):Prop:=
 ∃ (s':Sl) (L:List SInput),e=.returned (.slice s'.p s'.n s'.c)/\Row w' w.heap.size w'.heap.size 74 10 SInput.cells s' L/\L.length=B.length / 4/\(∀ i ∈ L,okIn i)/\((∀ b ∈ B,b=0)->L=List.replicate (B.length / 4) idleIn)/\Below w.heap.size w w'
theorem zgv {lo hi:Nat} {s:Sl} {B:List Int} (w:World) (h:Row w lo hi 5 1 encB s B) (hB:∀ y ∈ B,0<=y/\y<=255) (hL:B.length<=200000) (hhi:hi<=w.heap.size) :
  Calls prog 13 #[.slice s.p s.n s.c] w (zpj B w):=by
 have hn:=h.len
 obtain ⟨p,n,c⟩:=s
 dsimp only at hn
 subst hn
 have H:Aside (Row w lo hi 5 1 encB ⟨p,B.length,c⟩ B):=h
 have HB:Aside (∀ y ∈ B,0<=y/\y<=255):=hB
 clear h hB
 go_enter func13,ntmps13
 go_wp2_with fail
 go_loopg [0,3] B.length (fun kx s0 s3 wr=>∃ (k:Nat) (q:Sl) (L:List SInput) (p':Option Addr) (c':Nat),s0=.slice p' (B.length-4 * k) c'/\s3=.slice q.p q.n q.c/\4 * k<=B.length/\B.length-4 * k<=kx/\(4 * k+4<=B.length->∃ g,p=some ⟨g,0,none⟩/\p'=some ⟨g,4 * k,none⟩/\c'=c-4 * k)/\L.length=k/\Aside (Row wr w.heap.size wr.heap.size 74 10 SInput.cells q L)/\Aside (∀ i ∈ L,okIn i)/\Aside ((∀ b ∈ B,b=0)->L=List.replicate k idleIn)/\Aside (Below w.heap.size w wr))
 case atStart=>exact ⟨0,⟨none,0,0⟩,[],p,c,by simp,rfl,oM,oM,(fun h4=>by
   obtain ⟨g,cur,hp,_⟩:=H.out.at oM
   exact ⟨g,hp,hp,oM⟩),rfl,Row.nil _ _ _ _ _ _,(fun i hi=>by simp at hi:∀ i ∈ ([]:List SInput),okIn i),(fun _=>rfl),Below.refl _ _⟩
 case round=>
  obtain ⟨k,q,L,p',c',rfl,rfl,hk,hkx,hp,hLk,hrow,hok,hid,hBr⟩:=hrel
  have hq:=hrow.out.len
  by_cases hlt:4 * k+4<=B.length
  ·obtain ⟨g,hg0,hg1,hg2,hcB,a0,a1,a2,a3,ha,hv0,hv1,hv2,hv3⟩:=(H.out.thru hBr.out hhi).quad (4 * k) hlt
   dsimp only at hg0
   subst hg0
   obtain ⟨g',hg',rfl,rfl⟩:=hp hlt
   simp only [Option.some.injEq,Addr.mk.injEq,and_true] at hg'
   subst hg'
   obtain ⟨m,hm⟩:∃ m,B.length-4 * k=m:=⟨_,rfl⟩
   obtain ⟨o,ho'⟩:∃ o,4 * k=o:=⟨_,rfl⟩
   obtain ⟨cc,hcc⟩:∃ cc,c-4 * k=cc:=⟨_,rfl⟩
   dsimp only at hcB
   have hcm:m<=cc:=oM
   have hm4:4<=m:=oM
   have hkk:(k:Int)<65536:=oM
   have AA:Aside (B.length-4 * k=m/\4 * k=o/\c-4 * k=cc/\4 * k+4<=B.length/\(B[4 * k]? = some a0/\B[4 * k+1]? = some a1/\B[4 * k+2]? = some a2/\B[4 * k+3]? = some a3)/\L.length=k/\B.length-4 * k<=gk):=⟨hm,ho',hcc,hlt,ha,hLk,hkx⟩
   rw [hm,hcc,ho']
   rw [ho'] at hv0 hv1 hv2 hv3
   have hqk:q.n=k:=oM
   obtain ⟨qp,qn,qc⟩:=q
   dsimp only at hqk ⊢
   subst hqk
   have hat:∀ w,(Instr.arrayAt 103 (.slice (some ⟨g,o,none⟩) m cc)).run prog w=.ok (.pointer (some ⟨g,o,none⟩)) w:=fun w=>run_arrayAt w _ 5 4 _ m cc kR hm4
   obtain ⟨z,hz⟩:∃ z:Int,((qn:Nat):Int)=z:=⟨_,rfl⟩
   have hz2:z<65536:=oM
   have hm5:(4:Int)<=(m:Int):=oM
   clear ha hlt hm ho' hcc hLk hq hkx hk hL hhi hp hkk
   have hcc5:cc=4\/¬(cc=4):=oM
   cases hck:(zqi a0 a1 a2==a3)
   ·rcases hcc5 with rfl|hc4
    all_goals
     go_wp2_with (first|(simp only [hat])|(go_at_call 30;with_reducible refine Cbv (zlj _) ?_;intro w' hB hb1 hb2 hb3 hs;(try simp only [szs] at hs hb1 hb2 hb3)))
     skip
     obtain ⟨xb,hxb⟩:∃ xb,w'.heap.size=xb:=⟨_,rfl⟩
     refine wpNm (fun W hW=>?_)
     have f0:blk W wr.heap.size=some (.cells #[.int .u8 a0,.int .u8 a1,.int .u8 a2,.int .u8 a3] 103):=by rw [hW];exact sM
     have f1:blk W xb=some (.cells (idleIn).cells 74):=by rw [hW];exact sM
     have fz:wr.heap.size<xb/\xb<W.heap.size:=by rw [hW];(try simp only [szs] at *);omega
     have fB0:Below wr.heap.size wr W:=by rw [hW];exact bL
     have fB:Aside (Below wr.heap.size wr W):=fB0
     have FZ:Aside (wr.heap.size<xb/\xb<W.heap.size):=fz
     rw [hxb]
     clear hW hxb fB0 hs hb1 hb2 hb3 hB
     obtain ⟨gc0,gf0,gz0⟩:=zaa f0
     obtain ⟨gc1,gf1,gz1⟩:=zaa f1
     go_quiet ((go_at_call 31;exact zmz (zlq _ _ _ _)))
     obtain ⟨V,hV⟩:∃ V,V=W.drewN nq:=⟨_,rfl⟩
     rw [<- hV]
     have g0:blk V wr.heap.size=some (.cells #[.int .u8 a0,.int .u8 a1,.int .u8 a2,.int .u8 a3] 103):=by rw [hV];exact sM
     have g1:blk V xb=some (.cells idleIn.cells 74):=by rw [hV];exact sM
     have fB1:Below W.heap.size W V:=by rw [hV];exact bL
     have fB2:=zaf fB1 fB.out fB.out.size
     have fB:Aside (Below wr.heap.size wr V):=fB2
     have fz:wr.heap.size<xb/\xb<V.heap.size:=⟨FZ.out.1,Nat.lt_of_lt_of_le FZ.out.2 fB1.size⟩
     have FZ:Aside (wr.heap.size<xb/\xb<V.heap.size):=fz
     clear hV f1 f0 gc0 gf0 gz0 gc1 gf1 gz1 fB1 fB2
     obtain ⟨gc0,gf0,gz0⟩:=zaa g0
     obtain ⟨gc1,gf1,gz1⟩:=zaa g1
     have hBw:Aside (Below w.heap.size w V):=zaf fB.out hBr.out hBr.out.size
     have hrw:Aside (Row V w.heap.size V.heap.size 74 10 SInput.cells ⟨qp,qn,qc⟩ L):=(hrow.out.thru fB.out nL).hi_mono fB.out.size
     go_wp2_with (at_builtin;refine za7 rfl _ _ 71 rfl (hrw.out.thru ((Below.refl _ _).alloc nL (.cells (idleIn).cells 74)) nL) (fun _=>rfl) SInput.one oM zxz rfl [idleIn] _ (idleIn).cells 74 1 1 rfl (zab _ _ _ rfl) (by simp [encL]) rfl oM (by have:=AA.out.2.2.2.2.2.1;omega) (by simp;have:=hBw.out.size;omega) ?_;intro s2 w3 hrow3 hgr)
     obtain ⟨q1,q2,q3,q4,⟨q5,q6,q7,q8⟩,q9,q10⟩:=AA.out
     obtain ⟨cc0,hcc0⟩:∃ cc0,c-4 * qn=cc0:=⟨_,rfl⟩
     go_roundg (gk-1)
     case measure=>omega
     case rel=>
      have hp2:∀ (pp:Option Addr) (c2:Nat),(4 * (qn+1)+4<=B.length->pp=some ⟨g,o+4,none⟩/\c2=cc0-4)->(4 * (qn+1)+4<=B.length->∃ g1,some (⟨g,0,none⟩:Addr)=some ⟨g1,0,none⟩/\pp=some ⟨g1,4 * (qn+1),none⟩/\c2=c-4 * (qn+1)):=fun pp c2 h h5=>⟨g,rfl,by rw [(h h5).1,show o+4=4 * (qn+1) by omega],by rw [(h h5).2];omega⟩
      have hok2:∀ i ∈ L++[idleIn],okIn i:=by
       intro i hi
       rcases List.mem_append.1 hi with h|h
       ·exact hok.out i h
       ·rw [List.mem_singleton.1 h];exact ⟨by simp [idleIn,SInput.zero],by simp [idleIn,SInput.zero],by simp [idleIn,SInput.zero],by simp [idleIn,SInput.zero]⟩
      have hid2:(∀ b ∈ B,b=0)->L++[idleIn]=List.replicate (qn+1) idleIn:=by intro hz;rw [hid.out hz,List.replicate_succ']
      have hBe:Aside (Below w.heap.size w w3):=(hBw.out.alloc hBw.out.size _).trans hgr.below
      first
      | exact ⟨qn+1,s2,L++[idleIn],some ⟨g,o,none⟩,0,by rw [show B.length-4 * (qn+1)=0 by omega],rfl,oM,oM,hp2 _ _ (fun h=>oM),by simp;omega,hrow3,hok2,hid2,hBe⟩
      | exact ⟨qn+1,s2,L++[idleIn],some ⟨g,o+4,none⟩,cc-4,by rw [show B.length-4 * (qn+1)=m-4 by omega],rfl,oM,oM,hp2 _ _ (fun h=>⟨rfl,oM⟩),by simp;omega,hrow3,hok2,hid2,hBe⟩
   ·have hb12:(0<=a1/\a1<=255)/\(0<=a2/\a2<=255):=⟨HB.out _ (List.mem_of_getElem? AA.out.2.2.2.2.1.2.1),HB.out _ (List.mem_of_getElem? AA.out.2.2.2.2.1.2.2.1)⟩
    have hno:¬(∀ b ∈ B,b=0):=fun h=>by
     have q:=AA.out.2.2.2.2.1
     rw [h _ (List.mem_of_getElem? q.1),h _ (List.mem_of_getElem? q.2.1),h _ (List.mem_of_getElem? q.2.2.1),h _ (List.mem_of_getElem? q.2.2.2)] at hck
     exact absurd hck dC
    have HBB:Aside ((0<=a1/\a1<=255)/\(0<=a2/\a2<=255)):=hb12
    have HNO:Aside (¬(∀ b ∈ B,b=0)):=hno
    clear hb12 hno
    rcases hcc5 with rfl|hc4
    all_goals
     go_wp2_with (first|(simp only [hat])|(go_at_call 30;with_reducible refine Cbv (zlj _) ?_;intro w' hB hb1 hb2 hb3 hs;(try simp only [szs] at hs hb1 hb2 hb3)))
     skip
     obtain ⟨xb,hxb⟩:∃ xb,w'.heap.size=xb:=⟨_,rfl⟩
     refine wpNm (fun W hW=>?_)
     have f0:blk W wr.heap.size=some (.cells #[.int .u8 a0,.int .u8 a1,.int .u8 a2,.int .u8 a3] 103):=by rw [hW];exact sM
     have f1:blk W xb=some (.cells (idleIn).cells 74):=by rw [hW];exact sM
     have fz:wr.heap.size<xb/\xb<W.heap.size:=by rw [hW];(try simp only [szs] at *);omega
     have fB0:Below wr.heap.size wr W:=by rw [hW];exact bL
     have fB:Aside (Below wr.heap.size wr W):=fB0
     have FZ:Aside (wr.heap.size<xb/\xb<W.heap.size):=fz
     rw [hxb]
     clear hW hxb fB0 hs hb1 hb2 hb3 hB
     obtain ⟨gc0,gf0,gz0⟩:=zaa f0
     obtain ⟨gc1,gf1,gz1⟩:=zaa f1
     go_quiet ((go_at_call 31;exact zmz (zlq _ _ _ _)))
     obtain ⟨V,hV⟩:∃ V,V=W.drewN nq:=⟨_,rfl⟩
     rw [<- hV]
     have g0:blk V wr.heap.size=some (.cells #[.int .u8 a0,.int .u8 a1,.int .u8 a2,.int .u8 a3] 103):=by rw [hV];exact sM
     have g1:blk V xb=some (.cells idleIn.cells 74):=by rw [hV];exact sM
     have fB1:Below W.heap.size W V:=by rw [hV];exact bL
     have fB2:=zaf fB1 fB.out fB.out.size
     have fB:Aside (Below wr.heap.size wr V):=fB2
     have fz:wr.heap.size<xb/\xb<V.heap.size:=⟨FZ.out.1,Nat.lt_of_lt_of_le FZ.out.2 fB1.size⟩
     have FZ:Aside (wr.heap.size<xb/\xb<V.heap.size):=fz
     clear hV f1 f0 gc0 gf0 gz0 gc1 gf1 gz1 fB1 fB2
     obtain ⟨gc0,gf0,gz0⟩:=zaa g0
     obtain ⟨gc1,gf1,gz1⟩:=zaa g1
     go_wp2_with (first|(go_at_call 32;(with_reducible refine (ztq _ _).mono ?_);rintro e w' ⟨⟨i,rfl,hi1,hi2⟩,hB⟩;obtain ⟨hb1,hb2,hb3⟩:=zdn hB;have hs:=hB.size;(try simp only [szs] at hs hb1 hb2 hb3)))
     refine wpNm (fun W3 hW=>?_)
     have l0:blk W3 wr.heap.size=some (.cells #[.int .u8 a0,.int .u8 a1,.int .u8 a2,.int .u8 a3] 103):=by rw [hW];exact sM
     have l1:blk W3 xb=some (.cells (i).cells 74):=by rw [hW];first|(simp [go_sem,↓iteOmega, *];done)|(simp [go_sem,↓iteOmega, *]<;>rfl)
     have fz1:xb<W3.heap.size:=by rw [hW];(try simp only [szs] at *);omega
     have fB1:Below wr.heap.size V W3:=by rw [hW];exact bL
     have fB2:=fB.out.trans fB1
     have fB:Aside (Below wr.heap.size wr W3):=fB2
     have fz:wr.heap.size<xb/\xb<W3.heap.size:=⟨FZ.out.1,fz1⟩
     have FZ:Aside (wr.heap.size<xb/\xb<W3.heap.size):=fz
     clear hW fB1 fB2 fz1 hs hb1 hb2 hb3 hB g0 g1 gc0 gf0 gz0 gc1 gf1 gz1
     obtain ⟨gc0,gf0,gz0⟩:=zaa l0
     obtain ⟨gc1,gf1,gz1⟩:=zaa l1
     go_region
     all_goals go_upto_region 9 with fail
     all_goals
      refine wpNm (fun W4 hW=>?_)
      have m0:blk W4 wr.heap.size=some (.cells #[.int .u8 a0,.int .u8 a1,.int .u8 a2,.int .u8 a3] 103):=by rw [hW];exact sM
      have m1:blk W4 xb=some (.cells (({ i with requests:=a1,port:=a2 }:SInput)).cells 74):=by rw [hW];first|(simp [go_sem,↓iteOmega, *];done)|(simp [go_sem,↓iteOmega, *]<;>rfl)
      have fz1:xb<W4.heap.size:=by rw [hW];(try simp only [szs] at *);omega
      have fB1:Below wr.heap.size W3 W4:=by rw [hW];exact bL
      have fB2:=fB.out.trans fB1
      have fB:Aside (Below wr.heap.size wr W4):=fB2
      have fz:wr.heap.size<xb/\xb<W4.heap.size:=⟨FZ.out.1,fz1⟩
      have FZ:Aside (wr.heap.size<xb/\xb<W4.heap.size):=fz
      clear hW fB1 fB2 fz1 l0 l1 gc0 gf0 gz0 gc1 gf1 gz1
      obtain ⟨gc0,gf0,gz0⟩:=zaa m0
      obtain ⟨gc1,gf1,gz1⟩:=zaa m1
      obtain ⟨i2,hi2⟩:∃ i2,({ i with requests:=a1,port:=a2 }:SInput)=i2:=⟨_,rfl⟩
      rw [hi2] at m1 gc1
      have HI:Aside (okIn i2):=by rw [<- hi2];exact ⟨HBB.out.1.1,HBB.out.1.2,HBB.out.2.1,HBB.out.2.2⟩
      clear hi2 hi1 fz m0 gc0 gf0 gz0
      have hBw:Aside (Below w.heap.size w W4):=zaf fB.out hBr.out hBr.out.size
      have hrw:Aside (Row W4 w.heap.size W4.heap.size 74 10 SInput.cells ⟨qp,qn,qc⟩ L):=(hrow.out.thru fB.out nL).hi_mono fB.out.size
      go_wp2_with (at_builtin;refine za7 rfl _ _ 71 rfl (hrw.out.thru ((Below.refl _ _).alloc nL (.cells (i2).cells 74)) nL) (fun _=>rfl) SInput.one oM zxz rfl [i2] _ (i2).cells 74 1 1 rfl (zab _ _ _ rfl) (by simp [encL]) rfl oM (by have:=AA.out.2.2.2.2.2.1;omega) (by simp;have:=hBw.out.size;omega) ?_;intro s2 w3 hrow3 hgr)
      obtain ⟨q1,q2,q3,q4,⟨q5,q6,q7,q8⟩,q9,q10⟩:=AA.out
      obtain ⟨cc0,hcc0⟩:∃ cc0,c-4 * qn=cc0:=⟨_,rfl⟩
      go_roundg (gk-1)
      case measure=>omega
      case rel=>
       have hp2:∀ (pp:Option Addr) (c2:Nat),(4 * (qn+1)+4<=B.length->pp=some ⟨g,o+4,none⟩/\c2=cc0-4)->(4 * (qn+1)+4<=B.length->∃ g1,some (⟨g,0,none⟩:Addr)=some ⟨g1,0,none⟩/\pp=some ⟨g1,4 * (qn+1),none⟩/\c2=c-4 * (qn+1)):=fun pp c2 h h5=>⟨g,rfl,by rw [(h h5).1,show o+4=4 * (qn+1) by omega],by rw [(h h5).2];omega⟩
       have hok2:∀ i ∈ L++[i2],okIn i:=by
        intro i hi
        rcases List.mem_append.1 hi with h|h
        ·exact hok.out i h
        ·rw [List.mem_singleton.1 h];exact HI.out
       have hid2:(∀ b ∈ B,b=0)->L++[i2]=List.replicate (qn+1) idleIn:=by intro hz;exact absurd hz HNO.out
       have hBe:Aside (Below w.heap.size w w3):=(hBw.out.alloc hBw.out.size _).trans hgr.below
       first
       | exact ⟨qn+1,s2,L++[i2],some ⟨g,o,none⟩,0,by rw [show B.length-4 * (qn+1)=0 by omega],rfl,oM,oM,hp2 _ _ (fun h=>oM),by simp;omega,hrow3,hok2,hid2,hBe⟩
       | exact ⟨qn+1,s2,L++[i2],some ⟨g,o+4,none⟩,cc-4,by rw [show B.length-4 * (qn+1)=m-4 by omega],rfl,oM,oM,hp2 _ _ (fun h=>⟨rfl,oM⟩),by simp;omega,hrow3,hok2,hid2,hBe⟩
  ·have hlast:B.length / 4=k:=oM
   have e1:decide ((4:Int)<=((B.length-4 * k:Nat):Int))=false:=by rw [decide_eq_false_iff_not];omega
   have HLT:Aside (¬ 4 * k+4<=B.length):=hlt
   obtain ⟨m,hm⟩:∃ m,B.length-4 * k=m:=⟨_,rfl⟩
   rw [hm] at e1 ⊢
   have AA:Aside (B.length / 4=k/\L.length=k):=⟨hlast,hLk⟩
   clear hp hk hkx hlt hlast hm hL hhi hLk
   go_wp2_with fail
   go_ret
   exact ⟨q,L,rfl,hrow.out,by rw [AA.out.1,AA.out.2],hok.out,by rw [AA.out.1];exact hid.out,hBr.out⟩
end
section
open Go.RowKit
theorem zon {w:World} {nb k:Nat} {s:Sl} {V:List Int} (h:NumAt w nb s V k) (hk:k<=700000000) :
  Calls prog 69 #[.pointer (some ⟨nb,0,none⟩)] w fun e w'=>∃ (i:SInput) (k':Nat),e=.returned (.agg i.cells)/\okIn i/\NumAt w' nb s V k'/\k'<=k+9/\w.grownBy w' (some nb):=by
 have H0:=hid h
 have hnb:=zak h.m
 go_enter func69,ntmps69
 go_upto_block 0 with (first|(go_at_call 95;(refine (zrj _).mono ?_);rintro e w1 ⟨rfl,hB1⟩;have hz1:=hB1.size;(try simp only [World.size_alloc] at hz1);have fr1:blk w1 w.heap.size=some (.cells SInput.zero.cells 74):=(hB1.block _ sI).trans (zab _ _ _ rfl))|(go_at_call 38;(refine (zav (h.thru bL) oM _ oM oM).mono ?_);rintro e w2 ⟨v,rfl,hv0,hv1,hN2,hG2⟩;have f2:blk w2 w1.heap.size=some (.cells zjd.cells 74):=(hG2.block _ sI (fun e=>absurd (Option.some.inj e) oM)).trans (zab _ _ _ rfl);have fr2:blk w2 w.heap.size=some (.cells SInput.zero.cells 74):=(hG2.block _ sO (fun e=>absurd (Option.some.inj e) oM)).trans ((blk_alloc_past _ _ _ oM).trans fr1);have hG0:w.grownBy w2 (some nb):=za8 (zcr bL) hG2))
 obtain ⟨gc2,gf2,gz2⟩:=zaa f2
 have hz2:=hG2.size
 (try simp only [World.size_alloc] at hz2)
 go_cut [] (fun wx=>∃ (i:SInput) (k':Nat),okIn i/\blk wx w1.heap.size=some (.cells i.cells 74)/\blk wx w.heap.size=some (.cells SInput.zero.cells 74)/\NumAt wx nb s V k'/\k'<=k+9/\w.grownBy wx (some nb))
 case first=>
  go_wp2_with (first|(go_at_call 38;(refine (zav aS oM _ oM oM).mono ?_);rintro e w4 ⟨v4,rfl,hu0,hu1,hN4,hG4⟩;have fg4:blk w4 w1.heap.size=some (.cells zjd.cells 74):=(hG4.block _ oM (fun e=>absurd (Option.some.inj e) oM)).trans aS;have fr4:blk w4 w.heap.size=some (.cells SInput.zero.cells 74):=(hG4.block _ oM (fun e=>absurd (Option.some.inj e) oM)).trans aS;have hGW4:w.grownBy w4 (some nb):=za8 aS hG4;have hz4:=hG4.size;have gz4:=zaa fg4;have ee4:IntKind.u8.wrap v4=v4:=(by rw [IntKind.wrap_u8];omega))|(go_at_call 41;(refine (zi1 aS oM).mono ?_);rintro e w4 ⟨v4,k4,rfl,⟨hu0,hu1⟩,hN4,hk4,hG4⟩;have fg4:blk w4 w1.heap.size=some (.cells zjd.cells 74):=(hG4.block _ oM (fun e=>absurd (Option.some.inj e) oM)).trans aS;have fr4:blk w4 w.heap.size=some (.cells SInput.zero.cells 74):=(hG4.block _ oM (fun e=>absurd (Option.some.inj e) oM)).trans aS;have hGW4:w.grownBy w4 (some nb):=za8 aS hG4;have hz4:=hG4.size;have gz4:=zaa fg4)|(go_at_call 96;(refine (zwh aS oM).mono ?_);rintro e w4 ⟨b4,rfl,hN4,hG4⟩;have fg4:blk w4 w1.heap.size=some (.cells zjd.cells 74):=(hG4.block _ oM (fun e=>absurd (Option.some.inj e) oM)).trans aS;have fr4:blk w4 w.heap.size=some (.cells SInput.zero.cells 74):=(hG4.block _ oM (fun e=>absurd (Option.some.inj e) oM)).trans aS;have hGW4:w.grownBy w4 (some nb):=za8 aS hG4;have hz4:=hG4.size;have gz4:=zaa fg4))
  all_goals
   go_meet
   refine ⟨_,_,?_,blk_setBlk_same _ _ _ _ ?_,?_,(zj8 H0.out aS aS ?_).1,?_,(zj8 H0.out aS aS ?_).2⟩
   ·simp only [okIn,zjd,idleIn,SInput.zero]
    omega
   ·(try simp only [size_setBlk])
    omega
   ·(repeat rw [blk_setBlk_other _ _ _ _ _ oM])
    assumption
   ·exact bL
   ·omega
   ·exact bL
 obtain ⟨i,k',hok,fx,fr,hN,hk',hG⟩:=hcut
 obtain ⟨gcx,gfx,gzx⟩:=zaa fx
 obtain ⟨gcr,gfr,gzr⟩:=zaa fr
 go_wp2_with fail
 refine SInput.ret i rfl rfl ?_ rfl ⟨i,k',rfl,hok,(zj8 H0.out hN hG ?_).1,hk',(zj8 H0.out hN hG ?_).2⟩
 ·simp [go_sem,↓iteOmega, *]
 ·exact bL
 ·exact bL
end
section
open Go.RowKit
theorem zri {w:World} {nb k:Nat} {s:Sl} {V:List Int} (h:NumAt w nb s V k) (hk:k<=600000000) (n:Nat) (h1:n<=1000) :
  Calls prog 43 #[.pointer (some ⟨nb,0,none⟩),.int .i64 n] w (znu nb s V k (1+11 * n) 74 10 SInput.cells (fun L=>L.length<=n/\∀ i ∈ L,okIn i) w):=by
 have H0:=hid h
 go_enter func43,ntmps43
 go_wp2_with (go_at_call 38;(refine (zav aS oM _ oM oM).mono ?_);rintro e w2 ⟨v,rfl,hv0,hv1,hN2,hG2⟩)
 obtain ⟨N,hN⟩:∃ N:Nat,v=N:=⟨v.toNat,oM⟩
 subst hN
 have hNn:N<=n:=oM
 go_loopg [5] N (fun kx s5 wr=>∃ (q:Sl) (L:List SInput) (k':Nat),s5=.slice q.p q.n q.c/\L.length<=N/\N-L.length<=kx/\k'<=k+1+11 * L.length/\(L=[]->q=⟨none,0,0⟩)/\Aside (∀ i ∈ L,okIn i)/\Aside (Bld w wr nb s V k' 74 10 SInput.cells q L))
 case atStart=>exact ⟨⟨none,0,0⟩,[],k+1,rfl,by simp,by simp,by simp,fun _=>rfl,((by intro r hr;simp at hr):∀ r ∈ ([]:List SInput),okIn r),(⟨hN2,hG2,Row.nil _ _ _ _ _ _⟩:Bld w w2 nb s V (k+1) 74 10 SInput.cells ⟨none,0,0⟩ [])⟩
 case round=>
  obtain ⟨q,L,k',rfl,hLN,hkx,hk',hnil,hok,hBL⟩:=hrel
  have hqn:=hBL.out.row.len
  by_cases hlt:L.length<N
  ·have hltI : (L.length : Int) < (N : Int) := oM
   obtain ⟨qp,qn,qc⟩:=q
   dsimp only at hqn
   subst hqn
   go_upto_block 2 with (first|(go_at_call 69;(refine (zon hBL.out.num oM).mono ?_);rintro e w4 ⟨x,k4,rfl,hx,hN4,hk4,hG4⟩;have hB4:Bld w w4 nb s V k4 74 10 SInput.cells ⟨qp,L.length,qc⟩ L:=hBL.out.step dC hN4 hG4;have hB5:=hB4.alloc (.cells x.cells 74))|(go_at_call 38;(refine (zav hN5 oM _ oM oM).mono ?_);rintro e w6 ⟨v6,rfl,hu0,hu1,hN6,hG6⟩)|(go_at_call 38;(refine (zav hB5.num oM _ oM oM).mono ?_);rintro e w5 ⟨v5,rfl,ht0,ht1,hN5,hG5⟩))
   have f5:blk w5 w4.heap.size=some (.cells x.cells 74):=(hG5.block _ sI (fun e=>absurd (Option.some.inj e) (by have:=zak hN4.m;omega))).trans (zab _ _ _ rfl)
   have f6:blk w6 w4.heap.size=some (.cells x.cells 74):=(hG6.block _ (zak f5) (fun e=>absurd (Option.some.inj e) (by have:=zak hN4.m;omega))).trans f5
   have hB6:Aside (Bld w w6 nb s V (k4+1+1) 74 10 SInput.cells ⟨qp,L.length,qc⟩ L):=(hB5.step dC hN5 hG5).step dC hN6 hG6
   have hne6:∀ b,(Value.slice qp L.length qc).ownBlock=some b->b≠w4.heap.size:=fun b hb=>by have:=hB4.row.top b hb;omega
   have hJ:∃ J:Nat,J<=12/\wrap64 (v5 * v6)=(J:Int):=by
    have a:v5=0\/v5=1\/v5=2\/v5=3:=oM
    have b:v6=0\/v6=1\/v6=2\/v6=3\/v6=4:=oM
    have c:0<=v5 * v6/\v5 * v6<=12:=by rcases a with rfl|rfl|rfl|rfl<;>rcases b with rfl|rfl|rfl|rfl|rfl<;>decide
    refine ⟨(v5 * v6).toNat,oM,?_⟩
    rw [IntWalk.wrap64_in _ ⟨oM,oM⟩]
    omega
   obtain ⟨J,hJ1,hJ2⟩:=hJ
   rw [hJ2]
   have hlo4:w.heap.size<=w4.heap.size:=hB4.grown.size
   clear hB4 hB5 hG4 hG5 hG6 hN4 hN5 hN6 f5 hJ2
   go_wp2_with fail
   go_loopg [5,8] (J+1) (fun kx s5 s8 wx=>∃ (q':Sl) (M:List SInput) (j:Int),s5=.slice q'.p q'.n q'.c/\s8=.int .i64 j /\ -1<=j/\j<=12/\(j+1).toNat<=kx/\M.length<=N/\L.length<=M.length/\(L.length<M.length\/0<=j)/\Aside (M=[]->q'=⟨none,0,0⟩)/\Aside (∀ b,(Value.slice q'.p q'.n q'.c).ownBlock=some b->b≠w4.heap.size)/\blk wx w4.heap.size=some (.cells x.cells 74)/\Aside (∀ i ∈ M,okIn i)/\Aside (Bld w wx nb s V (k4+1+1) 74 10 SInput.cells q' M))
   case atStart=>exact ⟨⟨qp,L.length,qc⟩,L,J,rfl,rfl,oM,oM,oM,oM,oM,.inr oM,hnil,hne6,f6,hok,hB6⟩
   case round=>
    obtain ⟨q',M,j,rfl,rfl,hj0,hj1,hjk,hMN,hLM,hor,hnilM,hneM,fx,hokM,hBM⟩:=hrel
    have hqn:=hBM.out.row.len
    obtain ⟨qp',qn',qc'⟩:=q'
    dsimp only at hqn
    subst hqn
    by_cases hjz:0<=j
    ·by_cases hMl:M.length<N
     ·have hMI:(M.length:Int)<(N:Int):=oM
      obtain ⟨gcx,gfx,gzx⟩:=zaa fx
      have hBM2:Bld w wr nb s V (k4+1+1) 74 10 SInput.cells ⟨qp',M.length,qc'⟩ M:=hBM.out
      go_wp2_with (at_builtin;refine zhq rfl _ _ 71 rfl (hBM2.alloc _).row (fun _=>rfl) SInput.one oM SInput.info rfl [x] (Row.one (lo:=0) x (zab _ _ _ rfl) (fun _=>rfl) (Nat.zero_le _)) rfl sI sO (by have:=hBM2.grown.size;simp;omega) hnilM.out w4.heap.size x.cells ((blk_alloc_past _ _ _ gzx).trans fx) rfl hneM.out ?_;intro s9 w9 hrow9 hb9 hg9 hne9)
      go_roundg (j.toNat)
      case measure=>omega
      case rel=>
       refine ⟨s9,M++[x],j-1,rfl,rfl,oM,oM,oM,by simp;omega,by simp;omega,.inl sO,fun e=>absurd e sI,hne9,hg9,?_,Bld.append H0.out (hBM2.alloc _).num (hBM2.alloc _).grown hrow9 hb9⟩
       intro r hr
       rcases List.mem_append.1 hr with hr|hr
       ·exact hokM.out r hr
       ·rw [List.mem_singleton] at hr
        exact hr ▸ hx
     ·have hMI:¬(M.length:Int)<(N:Int):=oM
      go_wp2_with fail
      go_roundg (N-M.length)
      case measure=>omega
      case rel=>exact ⟨⟨qp',M.length,qc'⟩,M,k4+1+1,rfl,oM,oM,oM,hnilM.out,hokM,hBM⟩
    ·go_wp2_with fail
     go_roundg (N-M.length)
     case measure=>omega
     case rel=>exact ⟨⟨qp',M.length,qc'⟩,M,k4+1+1,rfl,oM,oM,oM,hnilM.out,hokM,hBM⟩
  ·go_wp2_with fail
   go_ret
   exact ⟨q,L,k',rfl,⟨oM,hok.out⟩,hBL.out,oM⟩
end
section
open Go.RowKit
def zft {α:Type} (e:TypeId) (k:Nat) (enc:α->Array Value) (L:List α) (w:World) (x:Ending) (w':World):Prop:=
 ∃ s':Sl,x=.returned (.slice s'.p s'.n s'.c)/\Row w' w.heap.size w'.heap.size e k enc s' L/\Below w.heap.size w w'
theorem zgn:ElemInfo prog 28 5 1:=zei kR kR kR
theorem oneB (x:Int):(encB x).all (fun v=>v.oneCell')=true:=(fun x=>by simp [encB,Value.oneCell']) x
theorem cloneB_any {lo hi:Nat} {s:Sl} {L:List Int} (w:World) (h:Row w lo hi 5 1 encB s L) (hL:L.length<=1000000) :
  Calls prog 33 #[.slice s.p s.n s.c] w (zft 5 1 encB L w):=by
 have q:=fun (w:World) (a:Option Addr) (n c n' c':Nat)=>Lib.run_eql_slice_nil (P:=prog) w 28 5 a n c n' c' zgn.und
 rcases h.own.2 with ⟨hv,hn⟩|⟨g,cap,cur,hv,hlo,hb,hc,hm,hs,ht⟩
 ·rw [hv]
  obtain rfl:=List.eq_nil_of_length_eq_zero hn
  clear h
  go_enter func33,ntmps33
  go_wp2_with fail
  go_ret
  exact ⟨⟨none,0,0⟩,rfl,Row.nil _ _ _ _ _ _,Below.refl _ _⟩
 ·rw [hv]
  obtain ⟨i,z,hi,hz,hsz,hby,hzc⟩:=zgn.info
  have hl:=zcc (enc:=encB) (L:=L) (k:=1) (fun _=>rfl)
  have A:Aside (∀ j u,(encL encB L)[j]? = some u->w.cell? ⟨g,j,none⟩=some u):=fun j u hu=>by
   have hb':blk w g=some (.cells cur 5):=hb
   rw [za2,hb']
   rw [<- ht,List.getElem?_take] at hu
   split at hu
   ·simpa [zgd] using hu
   ·cases hu
  have B:Aside (∀ u ∈ encL encB L,u.oneCell'=true):=fun u hu=>by
   simp only [encL,List.mem_flatMap] at hu
   obtain ⟨x,_,hx⟩:=hu
   exact (Array.all_eq_true_iff_forall_mem.1 (oneB x)) u (by simpa using hx)
  have hbb:L.length * i.bytes<=1000000 * 1000:=Nat.mul_le_mul hL hby
  have HL:=hid hl
  clear hl h hv ht hs
  go_enter func33,ntmps33
  go_wp2_with (at_builtin;refine wpList_append_own _ rfl _ _ 28 rfl w.heap.size 5 i z 1 i.bytes zgn.und hi hz hsz rfl hzc oM _ _ _ rfl (World.ownsRow_made w #[] 0 nL (Nat.zero_le _) sI) ⟨g,0,none⟩ L.length cap (encL encB L) rfl HL.out (fun j u hj=>by rw [Addr.add_lit,Nat.zero_add];exact Lib.cell?_alloc_some _ (A.out j u hj)) B.out (by unfold maxLen;omega) (by rw [Nat.zero_add];omega) sI ?_;intro v' w1 hown hgrow hnil)
  go_ret
  obtain ⟨s',rfl,hrow⟩:=Row.of_own (enc:=encB) (L:=L) _ (by simpa using hown) sI
  exact ⟨s',rfl,hrow,((Below.refl _ w).alloc nL _).grown hgrow sI (fun k hk=>Nat.le_of_eq (Option.some.inj (show some w.heap.size=some k from hk)))⟩
theorem ze4:ElemInfo prog 25 61 2:=zei kR kR kR
theorem oneC (x:SCell):(SCell.cells x).all (fun v=>v.oneCell')=true:=SCell.one x
theorem zhn {lo hi:Nat} {s:Sl} {L:List SCell} (w:World) (h:Row w lo hi 61 2 SCell.cells s L) (hL:L.length<=1000000) :
  Calls prog 28 #[.slice s.p s.n s.c] w (zft 61 2 SCell.cells L w):=by
 have q:=fun (w:World) (a:Option Addr) (n c n' c':Nat)=>Lib.run_eql_slice_nil (P:=prog) w 25 61 a n c n' c' ze4.und
 rcases h.own.2 with ⟨hv,hn⟩|⟨g,cap,cur,hv,hlo,hb,hc,hm,hs,ht⟩
 ·rw [hv]
  obtain rfl:=List.eq_nil_of_length_eq_zero hn
  clear h
  go_enter func28,ntmps28
  go_wp2_with fail
  go_ret
  exact ⟨⟨none,0,0⟩,rfl,Row.nil _ _ _ _ _ _,Below.refl _ _⟩
 ·rw [hv]
  obtain ⟨i,z,hi,hz,hsz,hby,hzc⟩:=ze4.info
  have hl:=zcc (enc:=SCell.cells) (L:=L) (k:=2) (fun _=>rfl)
  have A:Aside (∀ j u,(encL SCell.cells L)[j]? = some u->w.cell? ⟨g,j,none⟩=some u):=fun j u hu=>by
   have hb':blk w g=some (.cells cur 61):=hb
   rw [za2,hb']
   rw [<- ht,List.getElem?_take] at hu
   split at hu
   ·simpa [zgd] using hu
   ·cases hu
  have B:Aside (∀ u ∈ encL SCell.cells L,u.oneCell'=true):=fun u hu=>by
   simp only [encL,List.mem_flatMap] at hu
   obtain ⟨x,_,hx⟩:=hu
   exact (Array.all_eq_true_iff_forall_mem.1 (oneC x)) u (by simpa using hx)
  have hbb:L.length * i.bytes<=1000000 * 1000:=Nat.mul_le_mul hL hby
  have HL:=hid hl
  clear hl h hv ht hs
  go_enter func28,ntmps28
  go_wp2_with (at_builtin;refine wpList_append_own _ rfl _ _ 25 rfl w.heap.size 61 i z 2 i.bytes ze4.und hi hz hsz rfl hzc oM _ _ _ rfl (World.ownsRow_made w #[] 0 nL (Nat.zero_le _) sI) ⟨g,0,none⟩ L.length cap (encL SCell.cells L) rfl HL.out (fun j u hj=>by rw [Addr.add_lit,Nat.zero_add];exact Lib.cell?_alloc_some _ (A.out j u hj)) B.out (by unfold maxLen;omega) (by rw [Nat.zero_add];omega) sI ?_;intro v' w1 hown hgrow hnil)
  go_ret
  obtain ⟨s',rfl,hrow⟩:=Row.of_own (enc:=SCell.cells) (L:=L) _ (by simpa using hown) sI
  exact ⟨s',rfl,hrow,((Below.refl _ w).alloc nL _).grown hgrow sI (fun k hk=>Nat.le_of_eq (Option.some.inj (show some w.heap.size=some k from hk)))⟩
theorem zzg:ElemInfo prog 50 110 2:=zei kR kR kR
theorem oneO (x:SOutput):(SOutput.cells x).all (fun v=>v.oneCell')=true:=SOutput.one x
theorem zry {lo hi:Nat} {s:Sl} {L:List SOutput} (w:World) (h:Row w lo hi 110 2 SOutput.cells s L) (hL:L.length<=1000000) :
  Calls prog 34 #[.slice s.p s.n s.c] w (zft 110 2 SOutput.cells L w):=by
 have q:=fun (w:World) (a:Option Addr) (n c n' c':Nat)=>Lib.run_eql_slice_nil (P:=prog) w 50 110 a n c n' c' zzg.und
 rcases h.own.2 with ⟨hv,hn⟩|⟨g,cap,cur,hv,hlo,hb,hc,hm,hs,ht⟩
 ·rw [hv]
  obtain rfl:=List.eq_nil_of_length_eq_zero hn
  clear h
  go_enter func34,ntmps34
  go_wp2_with fail
  go_ret
  exact ⟨⟨none,0,0⟩,rfl,Row.nil _ _ _ _ _ _,Below.refl _ _⟩
 ·rw [hv]
  obtain ⟨i,z,hi,hz,hsz,hby,hzc⟩:=zzg.info
  have hl:=zcc (enc:=SOutput.cells) (L:=L) (k:=2) (fun _=>rfl)
  have A:Aside (∀ j u,(encL SOutput.cells L)[j]? = some u->w.cell? ⟨g,j,none⟩=some u):=fun j u hu=>by
   have hb':blk w g=some (.cells cur 110):=hb
   rw [za2,hb']
   rw [<- ht,List.getElem?_take] at hu
   split at hu
   ·simpa [zgd] using hu
   ·cases hu
  have B:Aside (∀ u ∈ encL SOutput.cells L,u.oneCell'=true):=fun u hu=>by
   simp only [encL,List.mem_flatMap] at hu
   obtain ⟨x,_,hx⟩:=hu
   exact (Array.all_eq_true_iff_forall_mem.1 (oneO x)) u (by simpa using hx)
  have hbb:L.length * i.bytes<=1000000 * 1000:=Nat.mul_le_mul hL hby
  have HL:=hid hl
  clear hl h hv ht hs
  go_enter func34,ntmps34
  go_wp2_with (at_builtin;refine wpList_append_own _ rfl _ _ 50 rfl w.heap.size 110 i z 2 i.bytes zzg.und hi hz hsz rfl hzc oM _ _ _ rfl (World.ownsRow_made w #[] 0 nL (Nat.zero_le _) sI) ⟨g,0,none⟩ L.length cap (encL SOutput.cells L) rfl HL.out (fun j u hj=>by rw [Addr.add_lit,Nat.zero_add];exact Lib.cell?_alloc_some _ (A.out j u hj)) B.out (by unfold maxLen;omega) (by rw [Nat.zero_add];omega) sI ?_;intro v' w1 hown hgrow hnil)
  go_ret
  obtain ⟨s',rfl,hrow⟩:=Row.of_own (enc:=SOutput.cells) (L:=L) _ (by simpa using hown) sI
  exact ⟨s',rfl,hrow,((Below.refl _ w).alloc nL _).grown hgrow sI (fun k hk=>Nat.le_of_eq (Option.some.inj (show some w.heap.size=some k from hk)))⟩
end
section
open Go.RowKit
theorem zoh {a b:Int} (ha:0<=a/\a<=255) (hb:0<=b/\b<=255):0<=bits .or .u8 a b/\bits .or .u8 a b<=255:=⟨znz a b ha.1 ha.2 hb.1 hb.2,zn0 a b ha.1 ha.2 hb.1 hb.2⟩
theorem zpk {a b:Int} (ha:0<=a/\a<=255) (hb:0<=b/\b<=255):0<=bits .xor .u8 a b/\bits .xor .u8 a b<=255:=⟨zlu a b ha.1 ha.2 hb.1 hb.2,zlv a b ha.1 ha.2 hb.1 hb.2⟩
theorem zxg {a b c:Int} (ha:0<=a/\a<=255) (hb:0<=b/\b<=255) (hc:0<=c/\c<=255):0<=zez a b c/\zez a b c<=255:=zpk (zpk (zpk ha hb) hc) dC
def EncL (n:Nat) (w:World) (e:Ending) (w':World):Prop:=
 ∃ (q:Sl) (B:List Int),e=.returned (.slice q.p q.n q.c)/\B.length=4 * n/\(∀ y ∈ B,0<=y/\y<=255)/\Row w' w.heap.size w'.heap.size 5 1 encB q B/\Below w.heap.size w w'
theorem zuh {lo hi:Nat} {s:Sl} {L:List SInput} (w:World) (h:Row w lo hi 74 10 SInput.cells s L) (hok:∀ i ∈ L,okIn i) (hL:L.length<=10000) (hhi:hi<=w.heap.size) :
  Calls prog 42 #[.slice s.p s.n s.c] w (EncL L.length w):=by
 have hn:=h.len
 obtain ⟨p,n,cc⟩:=s
 dsimp only at hn
 subst hn
 have H:Aside (Row w lo hi 74 10 SInput.cells ⟨p,L.length,cc⟩ L):=h
 have HHI:Aside (hi<=w.heap.size):=hhi
 have HOK:Aside (∀ i ∈ L,okIn i):=hok
 clear h hhi hok
 go_enter func42,ntmps42
 go_wp2_with fail
 go_loopg [3,9] L.length (fun kx s3 s9 wr=>∃ (k:Nat) (q:Sl) (B:List Int),s9=.int .i64 k/\s3=.slice q.p q.n q.c/\k<=L.length/\L.length-k<=kx/\B.length=4 * k/\Aside (∀ y ∈ B,0<=y/\y<=255)/\Aside (Row wr w.heap.size wr.heap.size 5 1 encB q B)/\Aside (Below w.heap.size w wr))
 case atStart=>exact ⟨0,⟨none,0,0⟩,[],rfl,rfl,oM,oM,rfl,((by intro y hy;simp at hy):∀ y ∈ ([]:List Int),0<=y/\y<=255),Row.nil _ _ _ _ _ _,Below.refl _ _⟩
 case round=>
  obtain ⟨k,q,B,rfl,rfl,hk,hkx,hBl,hby,hrow,hB⟩:=hrel
  by_cases hlt:k<L.length
  ·obtain ⟨g,hp,hg1,hg2,hg3,ho,hv⟩:=(H.out.thru hB.out HHI.out).elem (fun _=>rfl) k hlt
   dsimp only at hp
   subst hp
   have hokk:=HOK.out _ (List.getElem_mem hlt)
   obtain ⟨⟨i0,i1,i2,i3,i4,i5,i6,i7,i8,i9⟩,hr⟩:∃ r,L[k]=r:=⟨_,rfl⟩
   rw [hr] at hv hokk
   clear hr
   obtain ⟨hq0,hq1,hq2,hq3⟩:=hokk
   dsimp only at hq0 hq1 hq2 hq3
   have hkI:(k:Int)<(L.length:Int):=oM
   have hk6:¬ 65536<=(k:Int):=oM
   have hgl:g<wr.heap.size:=hg3
   go_upto_region 6 with fail
   refine wpNm (fun U hU=>?_)
   have fx:blk U wr.heap.size=some (.cells (SInput.mk i0 i1 i2 i3 i4 i5 i6 i7 i8 i9).cells 74):=by rw [hU];exact sM
   have hBU:Below wr.heap.size wr U:=by rw [hU];exact bL
   have hzU:=zak fx
   have HBU:=hid hBU
   have HROW:Aside (Row U w.heap.size U.heap.size 5 1 encB q B):=(hrow.out.thru hBU nL).hi_mono hBU.size
   have HBB:Aside (Below w.heap.size w U):=hB.out.trans (hBU.mono hB.out.size)
   clear hU hBU ho hv
   refine zde 32 kR kR kR (fun j v w'=>match j with|0=>v=.pointer (some ⟨wr.heap.size,0,none⟩)|1=>v=.bool i0|2=>v=.bool (!i0)|3=>∃ x:Int,v=.int .u8 x/\0<=x/\x<=255|4=>v=.pointer (some ⟨wr.heap.size,1,none⟩)|5=>v=.bool i1|6=>∃ x:Int,v=.int .u8 x/\0<=x/\x<=255|7=>∃ x:Int,v=.int .u8 x/\0<=x/\x<=255|8=>v=.pointer (some ⟨wr.heap.size,2,none⟩)|9=>v=.bool i2|10=>∃ x:Int,v=.int .u8 x/\0<=x/\x<=255|11=>∃ x:Int,v=.int .u8 x/\0<=x/\x<=255|12=>v=.pointer (some ⟨wr.heap.size,3,none⟩)|13=>v=.bool i3|14=>∃ x:Int,v=.int .u8 x/\0<=x/\x<=255|15=>∃ x:Int,v=.int .u8 x/\0<=x/\x<=255|16=>v=.pointer (some ⟨wr.heap.size,4,none⟩)|17=>v=.bool i4|18=>∃ x:Int,v=.int .u8 x/\0<=x/\x<=255|19=>∃ x:Int,v=.int .u8 x/\0<=x/\x<=255|20=>v=.pointer (some ⟨wr.heap.size,5,none⟩)|21=>v=.bool i5|22=>∃ x:Int,v=.int .u8 x/\0<=x/\x<=255|23=>∃ x:Int,v=.int .u8 x/\0<=x/\x<=255|24=>v=.pointer (some ⟨wr.heap.size,6,none⟩)|25=>v=.bool i6|26=>∃ x:Int,v=.int .u8 x/\0<=x/\x<=255|27=>∃ x:Int,v=.int .u8 x/\0<=x/\x<=255|28=>v=.pointer (some ⟨wr.heap.size,7,none⟩)|29=>v=.bool i7|30=>∃ x:Int,v=.int .u8 x/\0<=x/\x<=255|31=>∃ x:Int,v=.int .u8 x/\0<=x/\x<=255|_=>True) (fun f w'=>Below U.heap.size U w') ?_ ?_ ?_ ?_
   ·exact ((Below.refl _ U).drew)
   ·exact fun _ _ h=>h
   ·intro i o f a' w' hi hio hfr hG1 hG hV K hK
    have hc:i=0\/i=1\/i=2\/i=3\/i=4\/i=5\/i=6\/i=7\/i=8\/i=9\/i=10\/i=11\/i=12\/i=13\/i=14\/i=15\/i=16\/i=17\/i=18\/i=19\/i=20\/i=21\/i=22\/i=23\/i=24\/i=25\/i=26\/i=27\/i=28\/i=29\/i=30\/i=31:=oM
    rcases hc with rfl|rfl|rfl|rfl|rfl|rfl|rfl|rfl|rfl|rfl|rfl|rfl|rfl|rfl|rfl|rfl|rfl|rfl|rfl|rfl|rfl|rfl|rfl|rfl|rfl|rfl|rfl|rfl|rfl|rfl|rfl|rfl
    ·obtain rfl:=Option.some.inj hio
     have e0:a'.tmps[5]?.getD undef=.pointer (some ⟨wr.heap.size,0,none⟩):=zax (hfr 5 kR)
     exact zas (w2:=w') (by simp [execOp,go_sem,↓iteOmega, *]) (hK _ _ rfl hG fun _ _ h=>h)
    ·obtain rfl:=Option.some.inj hio
     have e0:a'.tmps[16]?.getD undef=.pointer (some ⟨wr.heap.size,0,none⟩):=zax (hV 0 16 kR)
     have c0:w'.cell? ⟨wr.heap.size,0,none⟩=some (.bool i0):=(zaa ((hG.block _ hzU).trans fx)).1 0
     exact zas (w2:=w') (by simp [execOp,go_sem,↓iteOmega, *]) (hK _ _ rfl hG fun _ _ h=>h)
    ·obtain rfl:=Option.some.inj hio
     have e0:a'.tmps[17]?.getD undef=.bool i0:=zax (hV 1 17 kR)
     exact zas (w2:=w') (by simp [execOp,go_sem,↓iteOmega, *]) (hK _ _ rfl hG fun _ _ h=>h)
    ·obtain rfl:=Option.some.inj hio
     have e0:a'.tmps[18]?.getD undef=.bool (!i0):=zax (hV 2 18 kR)
     exact zct (w2:=w') (by simp [execOp,go_sem,↓iteOmega, *]) ((ze6 (!i0) 0 w' dC dC).mono fun e w2 ⟨⟨x,hx,h0,h1⟩,hw⟩=>⟨_,hx,by subst hw;exact hK _ _ ⟨x,rfl,h0,h1⟩ hG fun _ _ h=>h⟩)
    ·obtain rfl:=Option.some.inj hio
     have e0:a'.tmps[5]?.getD undef=.pointer (some ⟨wr.heap.size,0,none⟩):=zax (hfr 5 kR)
     exact zas (w2:=w') (by simp [execOp,go_sem,↓iteOmega, *]) (hK _ _ rfl hG fun _ _ h=>h)
    ·obtain rfl:=Option.some.inj hio
     have e0:a'.tmps[20]?.getD undef=.pointer (some ⟨wr.heap.size,1,none⟩):=zax (hV 4 20 kR)
     have c0:w'.cell? ⟨wr.heap.size,1,none⟩=some (.bool i1):=(zaa ((hG.block _ hzU).trans fx)).1 1
     exact zas (w2:=w') (by simp [execOp,go_sem,↓iteOmega, *]) (hK _ _ rfl hG fun _ _ h=>h)
    ·obtain rfl:=Option.some.inj hio
     have e0:a'.tmps[21]?.getD undef=.bool i1:=zax (hV 5 21 kR)
     exact zct (w2:=w') (by simp [execOp,go_sem,↓iteOmega, *]) ((ze6 i1 1 w' dC dC).mono fun e w2 ⟨⟨x,hx,h0,h1⟩,hw⟩=>⟨_,hx,by subst hw;exact hK _ _ ⟨x,rfl,h0,h1⟩ hG fun _ _ h=>h⟩)
    ·obtain rfl:=Option.some.inj hio
     obtain ⟨x,ex,hx⟩:∃ x:Int,a'.eval (.tmp 19)=.int .u8 x/\0<=x/\x<=255:=hV 3 19 kR
     obtain ⟨y,ey,hy⟩:∃ x:Int,a'.eval (.tmp 22)=.int .u8 x/\0<=x/\x<=255:=hV 6 22 kR
     replace ex:=zax ex
     replace ey:=zax ey
     exact zas (w2:=w') (by simp [execOp,go_sem,↓iteOmega, *]) (hK _ _ ⟨_,rfl,zoh hx hy⟩ hG fun _ _ h=>h)
    ·obtain rfl:=Option.some.inj hio
     have e0:a'.tmps[5]?.getD undef=.pointer (some ⟨wr.heap.size,0,none⟩):=zax (hfr 5 kR)
     exact zas (w2:=w') (by simp [execOp,go_sem,↓iteOmega, *]) (hK _ _ rfl hG fun _ _ h=>h)
    ·obtain rfl:=Option.some.inj hio
     have e0:a'.tmps[24]?.getD undef=.pointer (some ⟨wr.heap.size,2,none⟩):=zax (hV 8 24 kR)
     have c0:w'.cell? ⟨wr.heap.size,2,none⟩=some (.bool i2):=(zaa ((hG.block _ hzU).trans fx)).1 2
     exact zas (w2:=w') (by simp [execOp,go_sem,↓iteOmega, *]) (hK _ _ rfl hG fun _ _ h=>h)
    ·obtain rfl:=Option.some.inj hio
     have e0:a'.tmps[25]?.getD undef=.bool i2:=zax (hV 9 25 kR)
     exact zct (w2:=w') (by simp [execOp,go_sem,↓iteOmega, *]) ((ze6 i2 2 w' dC dC).mono fun e w2 ⟨⟨x,hx,h0,h1⟩,hw⟩=>⟨_,hx,by subst hw;exact hK _ _ ⟨x,rfl,h0,h1⟩ hG fun _ _ h=>h⟩)
    ·obtain rfl:=Option.some.inj hio
     obtain ⟨x,ex,hx⟩:∃ x:Int,a'.eval (.tmp 23)=.int .u8 x/\0<=x/\x<=255:=hV 7 23 kR
     obtain ⟨y,ey,hy⟩:∃ x:Int,a'.eval (.tmp 26)=.int .u8 x/\0<=x/\x<=255:=hV 10 26 kR
     replace ex:=zax ex
     replace ey:=zax ey
     exact zas (w2:=w') (by simp [execOp,go_sem,↓iteOmega, *]) (hK _ _ ⟨_,rfl,zoh hx hy⟩ hG fun _ _ h=>h)
    ·obtain rfl:=Option.some.inj hio
     have e0:a'.tmps[5]?.getD undef=.pointer (some ⟨wr.heap.size,0,none⟩):=zax (hfr 5 kR)
     exact zas (w2:=w') (by simp [execOp,go_sem,↓iteOmega, *]) (hK _ _ rfl hG fun _ _ h=>h)
    ·obtain rfl:=Option.some.inj hio
     have e0:a'.tmps[28]?.getD undef=.pointer (some ⟨wr.heap.size,3,none⟩):=zax (hV 12 28 kR)
     have c0:w'.cell? ⟨wr.heap.size,3,none⟩=some (.bool i3):=(zaa ((hG.block _ hzU).trans fx)).1 3
     exact zas (w2:=w') (by simp [execOp,go_sem,↓iteOmega, *]) (hK _ _ rfl hG fun _ _ h=>h)
    ·obtain rfl:=Option.some.inj hio
     have e0:a'.tmps[29]?.getD undef=.bool i3:=zax (hV 13 29 kR)
     exact zct (w2:=w') (by simp [execOp,go_sem,↓iteOmega, *]) ((ze6 i3 3 w' dC dC).mono fun e w2 ⟨⟨x,hx,h0,h1⟩,hw⟩=>⟨_,hx,by subst hw;exact hK _ _ ⟨x,rfl,h0,h1⟩ hG fun _ _ h=>h⟩)
    ·obtain rfl:=Option.some.inj hio
     obtain ⟨x,ex,hx⟩:∃ x:Int,a'.eval (.tmp 27)=.int .u8 x/\0<=x/\x<=255:=hV 11 27 kR
     obtain ⟨y,ey,hy⟩:∃ x:Int,a'.eval (.tmp 30)=.int .u8 x/\0<=x/\x<=255:=hV 14 30 kR
     replace ex:=zax ex
     replace ey:=zax ey
     exact zas (w2:=w') (by simp [execOp,go_sem,↓iteOmega, *]) (hK _ _ ⟨_,rfl,zoh hx hy⟩ hG fun _ _ h=>h)
    ·obtain rfl:=Option.some.inj hio
     have e0:a'.tmps[5]?.getD undef=.pointer (some ⟨wr.heap.size,0,none⟩):=zax (hfr 5 kR)
     exact zas (w2:=w') (by simp [execOp,go_sem,↓iteOmega, *]) (hK _ _ rfl hG fun _ _ h=>h)
    ·obtain rfl:=Option.some.inj hio
     have e0:a'.tmps[32]?.getD undef=.pointer (some ⟨wr.heap.size,4,none⟩):=zax (hV 16 32 kR)
     have c0:w'.cell? ⟨wr.heap.size,4,none⟩=some (.bool i4):=(zaa ((hG.block _ hzU).trans fx)).1 4
     exact zas (w2:=w') (by simp [execOp,go_sem,↓iteOmega, *]) (hK _ _ rfl hG fun _ _ h=>h)
    ·obtain rfl:=Option.some.inj hio
     have e0:a'.tmps[33]?.getD undef=.bool i4:=zax (hV 17 33 kR)
     exact zct (w2:=w') (by simp [execOp,go_sem,↓iteOmega, *]) ((ze6 i4 4 w' dC dC).mono fun e w2 ⟨⟨x,hx,h0,h1⟩,hw⟩=>⟨_,hx,by subst hw;exact hK _ _ ⟨x,rfl,h0,h1⟩ hG fun _ _ h=>h⟩)
    ·obtain rfl:=Option.some.inj hio
     obtain ⟨x,ex,hx⟩:∃ x:Int,a'.eval (.tmp 31)=.int .u8 x/\0<=x/\x<=255:=hV 15 31 kR
     obtain ⟨y,ey,hy⟩:∃ x:Int,a'.eval (.tmp 34)=.int .u8 x/\0<=x/\x<=255:=hV 18 34 kR
     replace ex:=zax ex
     replace ey:=zax ey
     exact zas (w2:=w') (by simp [execOp,go_sem,↓iteOmega, *]) (hK _ _ ⟨_,rfl,zoh hx hy⟩ hG fun _ _ h=>h)
    ·obtain rfl:=Option.some.inj hio
     have e0:a'.tmps[5]?.getD undef=.pointer (some ⟨wr.heap.size,0,none⟩):=zax (hfr 5 kR)
     exact zas (w2:=w') (by simp [execOp,go_sem,↓iteOmega, *]) (hK _ _ rfl hG fun _ _ h=>h)
    ·obtain rfl:=Option.some.inj hio
     have e0:a'.tmps[36]?.getD undef=.pointer (some ⟨wr.heap.size,5,none⟩):=zax (hV 20 36 kR)
     have c0:w'.cell? ⟨wr.heap.size,5,none⟩=some (.bool i5):=(zaa ((hG.block _ hzU).trans fx)).1 5
     exact zas (w2:=w') (by simp [execOp,go_sem,↓iteOmega, *]) (hK _ _ rfl hG fun _ _ h=>h)
    ·obtain rfl:=Option.some.inj hio
     have e0:a'.tmps[37]?.getD undef=.bool i5:=zax (hV 21 37 kR)
     exact zct (w2:=w') (by simp [execOp,go_sem,↓iteOmega, *]) ((ze6 i5 5 w' dC dC).mono fun e w2 ⟨⟨x,hx,h0,h1⟩,hw⟩=>⟨_,hx,by subst hw;exact hK _ _ ⟨x,rfl,h0,h1⟩ hG fun _ _ h=>h⟩)
    ·obtain rfl:=Option.some.inj hio
     obtain ⟨x,ex,hx⟩:∃ x:Int,a'.eval (.tmp 35)=.int .u8 x/\0<=x/\x<=255:=hV 19 35 kR
     obtain ⟨y,ey,hy⟩:∃ x:Int,a'.eval (.tmp 38)=.int .u8 x/\0<=x/\x<=255:=hV 22 38 kR
     replace ex:=zax ex
     replace ey:=zax ey
     exact zas (w2:=w') (by simp [execOp,go_sem,↓iteOmega, *]) (hK _ _ ⟨_,rfl,zoh hx hy⟩ hG fun _ _ h=>h)
    ·obtain rfl:=Option.some.inj hio
     have e0:a'.tmps[5]?.getD undef=.pointer (some ⟨wr.heap.size,0,none⟩):=zax (hfr 5 kR)
     exact zas (w2:=w') (by simp [execOp,go_sem,↓iteOmega, *]) (hK _ _ rfl hG fun _ _ h=>h)
    ·obtain rfl:=Option.some.inj hio
     have e0:a'.tmps[40]?.getD undef=.pointer (some ⟨wr.heap.size,6,none⟩):=zax (hV 24 40 kR)
     have c0:w'.cell? ⟨wr.heap.size,6,none⟩=some (.bool i6):=(zaa ((hG.block _ hzU).trans fx)).1 6
     exact zas (w2:=w') (by simp [execOp,go_sem,↓iteOmega, *]) (hK _ _ rfl hG fun _ _ h=>h)
    ·obtain rfl:=Option.some.inj hio
     have e0:a'.tmps[41]?.getD undef=.bool i6:=zax (hV 25 41 kR)
     exact zct (w2:=w') (by simp [execOp,go_sem,↓iteOmega, *]) ((ze6 i6 6 w' dC dC).mono fun e w2 ⟨⟨x,hx,h0,h1⟩,hw⟩=>⟨_,hx,by subst hw;exact hK _ _ ⟨x,rfl,h0,h1⟩ hG fun _ _ h=>h⟩)
    ·obtain rfl:=Option.some.inj hio
     obtain ⟨x,ex,hx⟩:∃ x:Int,a'.eval (.tmp 39)=.int .u8 x/\0<=x/\x<=255:=hV 23 39 kR
     obtain ⟨y,ey,hy⟩:∃ x:Int,a'.eval (.tmp 42)=.int .u8 x/\0<=x/\x<=255:=hV 26 42 kR
     replace ex:=zax ex
     replace ey:=zax ey
     exact zas (w2:=w') (by simp [execOp,go_sem,↓iteOmega, *]) (hK _ _ ⟨_,rfl,zoh hx hy⟩ hG fun _ _ h=>h)
    ·obtain rfl:=Option.some.inj hio
     have e0:a'.tmps[5]?.getD undef=.pointer (some ⟨wr.heap.size,0,none⟩):=zax (hfr 5 kR)
     exact zas (w2:=w') (by simp [execOp,go_sem,↓iteOmega, *]) (hK _ _ rfl hG fun _ _ h=>h)
    ·obtain rfl:=Option.some.inj hio
     have e0:a'.tmps[44]?.getD undef=.pointer (some ⟨wr.heap.size,7,none⟩):=zax (hV 28 44 kR)
     have c0:w'.cell? ⟨wr.heap.size,7,none⟩=some (.bool i7):=(zaa ((hG.block _ hzU).trans fx)).1 7
     exact zas (w2:=w') (by simp [execOp,go_sem,↓iteOmega, *]) (hK _ _ rfl hG fun _ _ h=>h)
    ·obtain rfl:=Option.some.inj hio
     have e0:a'.tmps[45]?.getD undef=.bool i7:=zax (hV 29 45 kR)
     exact zct (w2:=w') (by simp [execOp,go_sem,↓iteOmega, *]) ((ze6 i7 7 w' dC dC).mono fun e w2 ⟨⟨x,hx,h0,h1⟩,hw⟩=>⟨_,hx,by subst hw;exact hK _ _ ⟨x,rfl,h0,h1⟩ hG fun _ _ h=>h⟩)
    ·obtain rfl:=Option.some.inj hio
     obtain ⟨x,ex,hx⟩:∃ x:Int,a'.eval (.tmp 43)=.int .u8 x/\0<=x/\x<=255:=hV 27 43 kR
     obtain ⟨y,ey,hy⟩:∃ x:Int,a'.eval (.tmp 46)=.int .u8 x/\0<=x/\x<=255:=hV 30 46 kR
     replace ex:=zax ex
     replace ey:=zax ey
     exact zas (w2:=w') (by simp [execOp,go_sem,↓iteOmega, *]) (hK _ _ ⟨_,rfl,zoh hx hy⟩ hG fun _ _ h=>h)
   ·intro vs w' hG hV
    simp only [tkd,zeq]
    have v0:vs 0=.pointer (some ⟨wr.heap.size,0,none⟩):=hV 0 oM
    have v1:vs 1=.bool i0:=hV 1 oM
    have v2:vs 2=.bool (!i0):=hV 2 oM
    obtain ⟨x3,v3,hx3⟩:∃ x:Int,vs 3=.int .u8 x/\0<=x/\x<=255:=hV 3 oM
    have v4:vs 4=.pointer (some ⟨wr.heap.size,1,none⟩):=hV 4 oM
    have v5:vs 5=.bool i1:=hV 5 oM
    obtain ⟨x6,v6,hx6⟩:∃ x:Int,vs 6=.int .u8 x/\0<=x/\x<=255:=hV 6 oM
    obtain ⟨x7,v7,hx7⟩:∃ x:Int,vs 7=.int .u8 x/\0<=x/\x<=255:=hV 7 oM
    have v8:vs 8=.pointer (some ⟨wr.heap.size,2,none⟩):=hV 8 oM
    have v9:vs 9=.bool i2:=hV 9 oM
    obtain ⟨x10,v10,hx10⟩:∃ x:Int,vs 10=.int .u8 x/\0<=x/\x<=255:=hV 10 oM
    obtain ⟨x11,v11,hx11⟩:∃ x:Int,vs 11=.int .u8 x/\0<=x/\x<=255:=hV 11 oM
    have v12:vs 12=.pointer (some ⟨wr.heap.size,3,none⟩):=hV 12 oM
    have v13:vs 13=.bool i3:=hV 13 oM
    obtain ⟨x14,v14,hx14⟩:∃ x:Int,vs 14=.int .u8 x/\0<=x/\x<=255:=hV 14 oM
    obtain ⟨x15,v15,hx15⟩:∃ x:Int,vs 15=.int .u8 x/\0<=x/\x<=255:=hV 15 oM
    have v16:vs 16=.pointer (some ⟨wr.heap.size,4,none⟩):=hV 16 oM
    have v17:vs 17=.bool i4:=hV 17 oM
    obtain ⟨x18,v18,hx18⟩:∃ x:Int,vs 18=.int .u8 x/\0<=x/\x<=255:=hV 18 oM
    obtain ⟨x19,v19,hx19⟩:∃ x:Int,vs 19=.int .u8 x/\0<=x/\x<=255:=hV 19 oM
    have v20:vs 20=.pointer (some ⟨wr.heap.size,5,none⟩):=hV 20 oM
    have v21:vs 21=.bool i5:=hV 21 oM
    obtain ⟨x22,v22,hx22⟩:∃ x:Int,vs 22=.int .u8 x/\0<=x/\x<=255:=hV 22 oM
    obtain ⟨x23,v23,hx23⟩:∃ x:Int,vs 23=.int .u8 x/\0<=x/\x<=255:=hV 23 oM
    have v24:vs 24=.pointer (some ⟨wr.heap.size,6,none⟩):=hV 24 oM
    have v25:vs 25=.bool i6:=hV 25 oM
    obtain ⟨x26,v26,hx26⟩:∃ x:Int,vs 26=.int .u8 x/\0<=x/\x<=255:=hV 26 oM
    obtain ⟨x27,v27,hx27⟩:∃ x:Int,vs 27=.int .u8 x/\0<=x/\x<=255:=hV 27 oM
    have v28:vs 28=.pointer (some ⟨wr.heap.size,7,none⟩):=hV 28 oM
    have v29:vs 29=.bool i7:=hV 29 oM
    obtain ⟨x30,v30,hx30⟩:∃ x:Int,vs 30=.int .u8 x/\0<=x/\x<=255:=hV 30 oM
    obtain ⟨x31,v31,hx31⟩:∃ x:Int,vs 31=.int .u8 x/\0<=x/\x<=255:=hV 31 oM
    simp only [v0,v1,v2,v3,v4,v5,v6,v7,v8,v9,v10,v11,v12,v13,v14,v15,v16,v17,v18,v19,v20,v21,v22,v23,v24,v25,v26,v27,v28,v29,v30,v31]
    clear hV v0 v1 v2 v3 v4 v5 v6 v7 v8 v9 v10 v11 v12 v13 v14 v15 v16 v17 v18 v19 v20 v21 v22 v23 v24 v25 v26 v27 v28 v29 v30 v31
    go_upto_region 7 with fail
    have fW:blk w' wr.heap.size=some (.cells (SInput.mk i0 i1 i2 i3 i4 i5 i6 i7 i8 i9).cells 74):=(hG.block _ hzU).trans fx
    have hzW:=zak fW
    refine zde 13 kR kR kR (fun j v w2=>match j with|0=>v=.slice q.p q.n q.c|1=>v=.int .u8 x31|2=>v=.pointer (some ⟨wr.heap.size,8,none⟩)|3=>v=.int .u8 i8|4=>v=.pointer (some ⟨wr.heap.size,9,none⟩)|5=>v=.int .u8 i9|6=>v=.int .u8 x31|7=>v=.pointer (some ⟨wr.heap.size,8,none⟩)|8=>v=.int .u8 i8|9=>v=.pointer (some ⟨wr.heap.size,9,none⟩)|10=>v=.int .u8 i9|11=>v=.int .u8 (zez x31 i8 i9)|12=>∃ g,v=.slice (some ⟨g,0,none⟩) 4 4/\blk w2 g=some (.cells #[.int .u8 x31,.int .u8 i8,.int .u8 i9,.int .u8 (zez x31 i8 i9)] 5)|_=>True) (fun f w2=>Below w'.heap.size w' w2) ?_ ?_ ?_ ?_
    ·exact ((Below.refl _ w').drew)
    ·exact fun _ _ h=>h
    ·intro i o f a' w2 hi hio hfr hG3 hG2 hV K hK
     have hc:i=0\/i=1\/i=2\/i=3\/i=4\/i=5\/i=6\/i=7\/i=8\/i=9\/i=10\/i=11\/i=12:=oM
     rcases hc with rfl|rfl|rfl|rfl|rfl|rfl|rfl|rfl|rfl|rfl|rfl|rfl|rfl
     ·obtain rfl:=Option.some.inj hio
      have e0:a'.tmps[3]?.getD undef=.slice q.p q.n q.c:=zax (hfr 3 kR)
      exact zas (w2:=w2) (by simp [execOp,go_sem,↓iteOmega, *]) (hK _ _ rfl hG2 fun _ _ h=>h)
     ·obtain rfl:=Option.some.inj hio
      have e0:a'.tmps[6]?.getD undef=.int .u8 x31:=zax (hfr 6 kR)
      exact zas (w2:=w2) (by simp [execOp,go_sem,↓iteOmega, *]) (hK _ _ rfl hG2 fun _ _ h=>h)
     ·obtain rfl:=Option.some.inj hio
      have e0:a'.tmps[5]?.getD undef=.pointer (some ⟨wr.heap.size,0,none⟩):=zax (hfr 5 kR)
      exact zas (w2:=w2) (by simp [execOp,go_sem,↓iteOmega, *]) (hK _ _ rfl hG2 fun _ _ h=>h)
     ·obtain rfl:=Option.some.inj hio
      have e0:a'.tmps[50]?.getD undef=.pointer (some ⟨wr.heap.size,8,none⟩):=zax (hV 2 50 kR)
      have c0:w2.cell? ⟨wr.heap.size,8,none⟩=some (.int .u8 i8):=(zaa ((hG2.block _ hzW).trans fW)).1 8
      exact zas (w2:=w2) (by simp [execOp,go_sem,↓iteOmega, *]) (hK _ _ rfl hG2 fun _ _ h=>h)
     ·obtain rfl:=Option.some.inj hio
      have e0:a'.tmps[5]?.getD undef=.pointer (some ⟨wr.heap.size,0,none⟩):=zax (hfr 5 kR)
      exact zas (w2:=w2) (by simp [execOp,go_sem,↓iteOmega, *]) (hK _ _ rfl hG2 fun _ _ h=>h)
     ·obtain rfl:=Option.some.inj hio
      have e0:a'.tmps[52]?.getD undef=.pointer (some ⟨wr.heap.size,9,none⟩):=zax (hV 4 52 kR)
      have c0:w2.cell? ⟨wr.heap.size,9,none⟩=some (.int .u8 i9):=(zaa ((hG2.block _ hzW).trans fW)).1 9
      exact zas (w2:=w2) (by simp [execOp,go_sem,↓iteOmega, *]) (hK _ _ rfl hG2 fun _ _ h=>h)
     ·obtain rfl:=Option.some.inj hio
      have e0:a'.tmps[6]?.getD undef=.int .u8 x31:=zax (hfr 6 kR)
      exact zas (w2:=w2) (by simp [execOp,go_sem,↓iteOmega, *]) (hK _ _ rfl hG2 fun _ _ h=>h)
     ·obtain rfl:=Option.some.inj hio
      have e0:a'.tmps[5]?.getD undef=.pointer (some ⟨wr.heap.size,0,none⟩):=zax (hfr 5 kR)
      exact zas (w2:=w2) (by simp [execOp,go_sem,↓iteOmega, *]) (hK _ _ rfl hG2 fun _ _ h=>h)
     ·obtain rfl:=Option.some.inj hio
      have e0:a'.tmps[55]?.getD undef=.pointer (some ⟨wr.heap.size,8,none⟩):=zax (hV 7 55 kR)
      have c0:w2.cell? ⟨wr.heap.size,8,none⟩=some (.int .u8 i8):=(zaa ((hG2.block _ hzW).trans fW)).1 8
      exact zas (w2:=w2) (by simp [execOp,go_sem,↓iteOmega, *]) (hK _ _ rfl hG2 fun _ _ h=>h)
     ·obtain rfl:=Option.some.inj hio
      have e0:a'.tmps[5]?.getD undef=.pointer (some ⟨wr.heap.size,0,none⟩):=zax (hfr 5 kR)
      exact zas (w2:=w2) (by simp [execOp,go_sem,↓iteOmega, *]) (hK _ _ rfl hG2 fun _ _ h=>h)
     ·obtain rfl:=Option.some.inj hio
      have e0:a'.tmps[57]?.getD undef=.pointer (some ⟨wr.heap.size,9,none⟩):=zax (hV 9 57 kR)
      have c0:w2.cell? ⟨wr.heap.size,9,none⟩=some (.int .u8 i9):=(zaa ((hG2.block _ hzW).trans fW)).1 9
      exact zas (w2:=w2) (by simp [execOp,go_sem,↓iteOmega, *]) (hK _ _ rfl hG2 fun _ _ h=>h)
     ·obtain rfl:=Option.some.inj hio
      have e0:a'.tmps[54]?.getD undef=.int .u8 x31:=zax (hV 6 54 kR)
      have e1:a'.tmps[56]?.getD undef=.int .u8 i8:=zax (hV 8 56 kR)
      have e2:a'.tmps[58]?.getD undef=.int .u8 i9:=zax (hV 10 58 kR)
      exact zct (w2:=w2) (by simp [execOp,go_sem,↓iteOmega, *]) ((zpd x31 i8 i9 w2).mono fun e w3 ⟨hx,hw⟩=>⟨_,hx,by subst hw;exact hK _ _ rfl hG2 fun _ _ h=>h⟩)
     ·obtain rfl:=Option.some.inj hio
      have e0:a'.tmps[49]?.getD undef=.int .u8 x31:=zax (hV 1 49 kR)
      have e1:a'.tmps[51]?.getD undef=.int .u8 i8:=zax (hV 3 51 kR)
      have e2:a'.tmps[53]?.getD undef=.int .u8 i9:=zax (hV 5 53 kR)
      have e3:a'.tmps[59]?.getD undef=.int .u8 (zez x31 i8 i9):=zax (hV 11 59 kR)
      refine zas (w2:=w2.alloc (.cells #[.int .u8 x31,.int .u8 i8,.int .u8 i9,.int .u8 (zez x31 i8 i9)] 5)) (v:=.slice (some ⟨w2.heap.size,0,none⟩) 4 4) (by simp [execOp,go_sem,↓iteOmega, *]) (hK _ _ ⟨w2.heap.size,rfl,zab _ _ _ rfl⟩ (hG2.alloc (by have:=hG2.size;omega) _) (fun j u h=>match j,h with|0,h=>h|1,h=>h|2,h=>h|3,h=>h|4,h=>h|5,h=>h|6,h=>h|7,h=>h|8,h=>h|9,h=>h|10,h=>h|11,h=>h|12,h=>(fun ⟨g,h1,h2⟩=>⟨g,h1,(blk_alloc_past _ _ _ (zak h2)).trans h2⟩) h|_+13,h=>h))
    ·intro vs w2 hG2 hV2
     simp only [tkd,zeq]
     have v0:vs 0=.slice q.p q.n q.c:=hV2 0 oM
     have v1:vs 1=.int .u8 x31:=hV2 1 oM
     have v2:vs 2=.pointer (some ⟨wr.heap.size,8,none⟩):=hV2 2 oM
     have v3:vs 3=.int .u8 i8:=hV2 3 oM
     have v4:vs 4=.pointer (some ⟨wr.heap.size,9,none⟩):=hV2 4 oM
     have v5:vs 5=.int .u8 i9:=hV2 5 oM
     have v6:vs 6=.int .u8 x31:=hV2 6 oM
     have v7:vs 7=.pointer (some ⟨wr.heap.size,8,none⟩):=hV2 7 oM
     have v8:vs 8=.int .u8 i8:=hV2 8 oM
     have v9:vs 9=.pointer (some ⟨wr.heap.size,9,none⟩):=hV2 9 oM
     have v10:vs 10=.int .u8 i9:=hV2 10 oM
     have v11:vs 11=.int .u8 (zez x31 i8 i9):=hV2 11 oM
     obtain ⟨g2,v12,hg2⟩:∃ g,vs 12=.slice (some ⟨g,0,none⟩) 4 4/\blk w2 g=some (.cells #[.int .u8 x31,.int .u8 i8,.int .u8 i9,.int .u8 (zez x31 i8 i9)] 5):=hV2 12 oM
     simp only [v0,v1,v2,v3,v4,v5,v6,v7,v8,v9,v10,v11,v12]
     clear hV2 v0 v1 v2 v3 v4 v5 v6 v7 v8 v9 v10 v11 v12
     have hRW:Row w2 w.heap.size U.heap.size 5 1 encB q B:=(HROW.out.thru hG nL).thru hG2 hG.size
     have hz9:w.heap.size<=w2.heap.size:=by have:=HBB.out.size;have:=hG.size;have:=hG2.size;omega
     have hall:Below w.heap.size w w2:=HBB.out.trans ((hG.mono HBB.out.size).trans (hG2.mono (by have:=HBB.out.size;have:=hG.size;omega)))
     simp only [Act.put,List.setIfInBounds_toArray,List.set_cons_succ,List.set_cons_zero]
     refine zbi rfl _ _ 28 rfl hRW (fun _=>rfl) oneB oM zgn rfl [x31,i8,i9,zez x31 i8 i9] (Row.litA (lo:=0) [x31,i8,i9,zez x31 i8 i9] #[.int .u8 x31,.int .u8 i8,.int .u8 i9,.int .u8 (zez x31 i8 i9)] hg2 (fun _=>rfl) rfl (by simp [maxLen]) (Nat.zero_le _)) rfl sO hz9 ?_
     intro s9 w9 hrow9 hgr9
     simp only [Act.put,List.setIfInBounds_toArray,List.set_cons_succ,List.set_cons_zero]
     go_wp2_with fail
     go_roundg (L.length-(k+1))
     case measure=>omega
     case rel=>
      refine ⟨k+1,s9,_,by simp,rfl,oM,oM,by simp;omega,?_,hrow9,hall.trans hgr9.grew.below⟩
      intro y hy
      rcases List.mem_append.1 hy with hy|hy
      ·exact hby.out y hy
      ·simp only [List.mem_cons,List.not_mem_nil,or_false] at hy
       rcases hy with rfl|rfl|rfl|rfl
       ·exact hx31
       ·exact ⟨hq0,hq1⟩
       ·exact ⟨hq2,hq3⟩
       ·exact zxg hx31 ⟨hq0,hq1⟩ ⟨hq2,hq3⟩
  ·have hke:k=L.length:=oM
   subst hke
   go_wp2_with fail
   go_ret
   exact ⟨q,B,rfl,hBl,hby.out,hrow.out,hB.out⟩
end
section
open Go.RowKit
theorem znb {w:World} {nb k:Nat} {s:Sl} {V:List Int} (h:NumAt w nb s V k) (hk:k<=500000000) (n:Nat) (h1:n<=1000) :
  Calls prog 21 #[.pointer (some ⟨nb,0,none⟩),.int .i64 n] w (znu nb s V k (40+11 * n) 5 1 encB (fun B=>B.length<=4 * n/\∀ y ∈ B,0<=y/\y<=255) w):=by
 have H0:=hid h
 go_enter func21,ntmps21
 go_upto_region 2 with (first|(go_at_call 43;(refine (zri h oM n oM).mono ?_);rintro e w2 ⟨q2,L,k2,rfl,⟨hl,hok⟩,hB2,hk2⟩)|(go_at_call 42;(refine (zuh w2 hB2.row hok oM nL).mono ?_);rintro e w3 ⟨q,B,rfl,hbl,hby,hrow3,hb3⟩))
 have hB3:Bld w w3 nb s V k2 5 1 encB q B:=⟨hB2.num.thru hb3,zfh hB2.grown hb3,hrow3.lo_mono hB2.grown.size⟩
 obtain ⟨k3,hk3⟩:∃ k3,k3=k2:=⟨_,rfl⟩
 rw [<- hk3] at hB3 hk2
 have hBl:B.length<=4 * n:=oM
 have HBY:Aside (∀ y ∈ B,0<=y/\y<=255):=hby
 have hqn:=hB3.row.len
 clear hok hrow3 hby hb3 hB2 hbl hk3
 obtain ⟨qp,qn,qc⟩:=q
 dsimp only at hqn
 subst hqn
 by_cases hb0:0<B.length
 ·obtain ⟨gB,cur,hqp,hlo,_,hgz,hbB,_⟩:=hB3.row.at hb0
  dsimp only at hqp
  subst hqp
  have hb0I:(0:Int)<(B.length:Int):=oM
  go_upto_if 17 with (go_at_call 38;(refine (zav hB3.num oM _ oM oM).mono ?_);rintro e w4 ⟨v,rfl,hv0,hv1,hN4,hG4⟩)
  have hB4:Bld w w4 nb s V (k3+1) 5 1 encB ⟨some ⟨gB,0,none⟩,B.length,qc⟩ B:=hB3.step dC hN4 hG4
  by_cases hv:v=0
  ·subst hv
   have HR:Aside (Row w4 w.heap.size w4.heap.size 5 1 encB ⟨some ⟨gB,0,none⟩,B.length,qc⟩ B):=hB4.row
   have HNM:Aside (NumAt w4 nb s V (k3+1)):=hN4
   go_upto_region 3 with fail
   refine zde 11 kR kR kR (fun j v w2=>match j with|0=>v=.slice (some ⟨gB,0,none⟩) B.length qc|1=>v=.pointer (some ⟨nb,0,none⟩)|2=>v=.slice (some ⟨gB,0,none⟩) B.length qc|3=>v=.int .i64 B.length|4=>∃ x:Int,v=.int .i64 x/\0<=x/\x<B.length|5=>∃ x:Nat,v=.pointer (some ⟨gB,x,none⟩)/\x<B.length|6=>∃ y:Int,v=.int .u8 y/\0<=y/\y<=255|7=>v=.pointer (some ⟨nb,0,none⟩)|8=>∃ x:Int,v=.int .i64 x/\0<=x/\x<8|9=>∃ y:Int,v=.int .u8 y/\0<=y/\y<=255|10=>∃ y:Int,v=.int .u8 y/\0<=y/\y<=255|_=>True) (fun f w2=>∃ k5,NumAt w2 nb s V k5/\k5+f<=k+1+11 * n+30/\w4.grownBy w2 (some nb)) ?_ ?_ ?_ ?_
   ·exact ⟨k3+1,hN4.thru ((Below.refl _ w4).drew),oM,zcr ((Below.refl _ w4).drew)⟩
   ·exact fun f w2 ⟨k5,h1,h2,h3⟩=>⟨k5,h1,oM,h3⟩
   ·intro i o f a' w2 hi hio hfr hG3 hG2 hV K hK
    have hc:i=0\/i=1\/i=2\/i=3\/i=4\/i=5\/i=6\/i=7\/i=8\/i=9\/i=10:=oM
    rcases hc with rfl|rfl|rfl|rfl|rfl|rfl|rfl|rfl|rfl|rfl|rfl
    ·obtain rfl:=Option.some.inj hio
     have e0:a'.tmps[5]?.getD undef=.slice (some ⟨gB,0,none⟩) B.length qc:=zax (hfr 5 kR)
     exact zas (w2:=w2) (by simp [execOp,go_sem,↓iteOmega, *]) (hK _ _ rfl hG2 fun _ _ h=>h)
    ·obtain rfl:=Option.some.inj hio
     have e0:a'.tmps[0]?.getD undef=.pointer (some ⟨nb,0,none⟩):=zax (hfr 0 kR)
     exact zas (w2:=w2) (by simp [execOp,go_sem,↓iteOmega, *]) (hK _ _ rfl hG2 fun _ _ h=>h)
    ·obtain rfl:=Option.some.inj hio
     have e0:a'.tmps[5]?.getD undef=.slice (some ⟨gB,0,none⟩) B.length qc:=zax (hfr 5 kR)
     exact zas (w2:=w2) (by simp [execOp,go_sem,↓iteOmega, *]) (hK _ _ rfl hG2 fun _ _ h=>h)
    ·obtain rfl:=Option.some.inj hio
     have e0:a'.tmps[20]?.getD undef=.slice (some ⟨gB,0,none⟩) B.length qc:=zax (hV 2 20 kR)
     exact zas (w2:=w2) (by simp [execOp,go_sem,↓iteOmega, *]) (hK _ _ rfl hG2 fun _ _ h=>h)
    ·obtain rfl:=Option.some.inj hio
     have e0:a'.tmps[19]?.getD undef=.pointer (some ⟨nb,0,none⟩):=zax (hV 1 19 kR)
     have e1:a'.tmps[21]?.getD undef=.int .i64 B.length:=zax (hV 3 21 kR)
     obtain ⟨k5,hN5,hk5,hg5⟩:=hG3
     exact zct (w2:=w2) (by simp [execOp,go_sem,↓iteOmega, *]) ((zav hN5 oM (B.length:Int) oM oM).mono fun e w3 ⟨x,hx,h0,h1,hN6,hg6⟩=>⟨_,hx,hK _ _ ⟨x,rfl,h0,h1⟩ ⟨_,hN6,oM,za8 hg5 hg6⟩ fun _ _ h=>h⟩)
    ·obtain rfl:=Option.some.inj hio
     have e0:a'.tmps[18]?.getD undef=.slice (some ⟨gB,0,none⟩) B.length qc:=zax (hV 0 18 kR)
     obtain ⟨x,e1,h0,h1⟩:∃ x:Int,a'.eval (.tmp 22)=.int .i64 x/\0<=x/\x<B.length:=hV 4 22 kR
     replace e1:=zax e1
     obtain ⟨y,rfl⟩:∃ y:Nat,x=y:=⟨x.toNat,oM⟩
     exact zas (w2:=w2) (by simp [execOp,go_sem,↓iteOmega, *]) (hK _ _ ⟨y,rfl,oM⟩ hG2 fun _ _ h=>h)
    ·obtain rfl:=Option.some.inj hio
     obtain ⟨x,e1,h1⟩:∃ x:Nat,a'.eval (.tmp 23)=.pointer (some ⟨gB,x,none⟩)/\x<B.length:=hV 5 23 kR
     replace e1:=zax e1
     obtain ⟨k5,hN5,hk5,hg5⟩:=id hG2
     obtain ⟨g',hp',_,_,_,hc⟩:=(rowGrown HR.out HNM.out.m dC hg5).cell (fun x=>.int .u8 x) (fun _=>rfl) x h1
     obtain rfl:gB=g':=by simpa using hp'
     exact zas (w2:=w2) (by simp [execOp,go_sem,↓iteOmega, *]) (hK _ _ ⟨B[x],rfl,HBY.out _ (List.getElem_mem h1)⟩ hG2 fun _ _ h=>h)
    ·obtain rfl:=Option.some.inj hio
     have e0:a'.tmps[0]?.getD undef=.pointer (some ⟨nb,0,none⟩):=zax (hfr 0 kR)
     exact zas (w2:=w2) (by simp [execOp,go_sem,↓iteOmega, *]) (hK _ _ rfl hG2 fun _ _ h=>h)
    ·obtain rfl:=Option.some.inj hio
     have e0:a'.tmps[25]?.getD undef=.pointer (some ⟨nb,0,none⟩):=zax (hV 7 25 kR)
     obtain ⟨k5,hN5,hk5,hg5⟩:=hG3
     exact zct (w2:=w2) (by simp [execOp,go_sem,↓iteOmega, *]) ((zav hN5 oM 8 oM oM).mono fun e w3 ⟨x,hx,h0,h1,hN6,hg6⟩=>⟨_,hx,hK _ _ ⟨x,rfl,h0,h1⟩ ⟨_,hN6,oM,za8 hg5 hg6⟩ fun _ _ h=>h⟩)
    ·obtain rfl:=Option.some.inj hio
     obtain ⟨x,e1,h0,h1⟩:∃ x:Int,a'.eval (.tmp 26)=.int .i64 x/\0<=x/\x<8:=hV 8 26 kR
     replace e1:=zax e1
     have hr:x=0\/x=1\/x=2\/x=3\/x=4\/x=5\/x=6\/x=7:=oM
     rcases hr with rfl|rfl|rfl|rfl|rfl|rfl|rfl|rfl
     ·exact zas (w2:=w2) (v:=.int .u8 1) (by simp [execOp,go_sem,↓iteOmega, *]<;>rfl) (hK _ _ ⟨(1:Int),rfl,dC,dC⟩ hG2 fun _ _ h=>h)
     ·exact zas (w2:=w2) (v:=.int .u8 2) (by simp [execOp,go_sem,↓iteOmega, *]<;>rfl) (hK _ _ ⟨(2:Int),rfl,dC,dC⟩ hG2 fun _ _ h=>h)
     ·exact zas (w2:=w2) (v:=.int .u8 4) (by simp [execOp,go_sem,↓iteOmega, *]<;>rfl) (hK _ _ ⟨(4:Int),rfl,dC,dC⟩ hG2 fun _ _ h=>h)
     ·exact zas (w2:=w2) (v:=.int .u8 8) (by simp [execOp,go_sem,↓iteOmega, *]<;>rfl) (hK _ _ ⟨(8:Int),rfl,dC,dC⟩ hG2 fun _ _ h=>h)
     ·exact zas (w2:=w2) (v:=.int .u8 16) (by simp [execOp,go_sem,↓iteOmega, *]<;>rfl) (hK _ _ ⟨(16:Int),rfl,dC,dC⟩ hG2 fun _ _ h=>h)
     ·exact zas (w2:=w2) (v:=.int .u8 32) (by simp [execOp,go_sem,↓iteOmega, *]<;>rfl) (hK _ _ ⟨(32:Int),rfl,dC,dC⟩ hG2 fun _ _ h=>h)
     ·exact zas (w2:=w2) (v:=.int .u8 64) (by simp [execOp,go_sem,↓iteOmega, *]<;>rfl) (hK _ _ ⟨(64:Int),rfl,dC,dC⟩ hG2 fun _ _ h=>h)
     ·exact zas (w2:=w2) (v:=.int .u8 128) (by simp [execOp,go_sem,↓iteOmega, *]<;>rfl) (hK _ _ ⟨(128:Int),rfl,dC,dC⟩ hG2 fun _ _ h=>h)
    ·obtain rfl:=Option.some.inj hio
     obtain ⟨x,ex,hx⟩:∃ x:Int,a'.eval (.tmp 24)=.int .u8 x/\0<=x/\x<=255:=hV 6 24 kR
     obtain ⟨y,ey,hy⟩:∃ x:Int,a'.eval (.tmp 27)=.int .u8 x/\0<=x/\x<=255:=hV 9 27 kR
     replace ex:=zax ex
     replace ey:=zax ey
     exact zas (w2:=w2) (by simp [execOp,go_sem,↓iteOmega, *]) (hK _ _ ⟨_,rfl,zpk hx hy⟩ hG2 fun _ _ h=>h)
   ·intro vs w2 hG2 hV2
    simp only [tkd,zeq]
    obtain ⟨k5,hN5,hk5,hg5⟩:=hG2
    have v0:vs 0=.slice (some ⟨gB,0,none⟩) B.length qc:=hV2 0 oM
    have v1:vs 1=.pointer (some ⟨nb,0,none⟩):=hV2 1 oM
    have v2:vs 2=.slice (some ⟨gB,0,none⟩) B.length qc:=hV2 2 oM
    have v3:vs 3=.int .i64 B.length:=hV2 3 oM
    obtain ⟨x4,v4,h40,h41⟩:∃ x:Int,vs 4=.int .i64 x/\0<=x/\x<B.length:=hV2 4 oM
    obtain ⟨x5,v5,h5⟩:∃ x:Nat,vs 5=.pointer (some ⟨gB,x,none⟩)/\x<B.length:=hV2 5 oM
    obtain ⟨y6,v6,h6⟩:∃ y:Int,vs 6=.int .u8 y/\0<=y/\y<=255:=hV2 6 oM
    have v7:vs 7=.pointer (some ⟨nb,0,none⟩):=hV2 7 oM
    obtain ⟨x8,v8,h8⟩:∃ x:Int,vs 8=.int .i64 x/\0<=x/\x<8:=hV2 8 oM
    obtain ⟨y9,v9,h9⟩:∃ y:Int,vs 9=.int .u8 y/\0<=y/\y<=255:=hV2 9 oM
    obtain ⟨y10,v10,h10⟩:∃ y:Int,vs 10=.int .u8 y/\0<=y/\y<=255:=hV2 10 oM
    simp only [v0,v1,v2,v3,v4,v5,v6,v7,v8,v9,v10]
    clear hV2 v0 v1 v2 v3 v4 v5 v6 v7 v8 v9 v10
    simp only [Act.put,List.setIfInBounds_toArray,List.set_cons_succ,List.set_cons_zero]
    obtain ⟨j4,rfl⟩:∃ y:Nat,x4=y:=⟨x4.toNat,oM⟩
    have hj4:j4<B.length:=oM
    have hR2:=rowGrown HR.out HNM.out.m dC hg5
    obtain ⟨g',cur,hp',hlo',_,_,hb',_,_,hsz',_⟩:=hR2.at oM
    obtain rfl:gB=g':=by simpa using hp'
    have hcs:j4<cur.size:=by have:=hR2.own;have h9:=hR2.cell (fun x=>.int .u8 x) (fun _=>rfl) j4 hj4;obtain ⟨g9,hp9,_,_,_,hc9⟩:=h9;obtain rfl:gB=g9:=(by simpa using hp9);rw [za2,hb'] at hc9;exact (Array.getElem?_eq_some_iff.1 hc9).1
    obtain ⟨gcB,gfB,gzB⟩:=zaa hb'
    have cB:w2.cell? ⟨gB,j4,none⟩=some cur[j4]:=(gcB j4).trans (Array.getElem?_eq_getElem hcs)
    clear gcB
    go_wp2_with fail
    go_ret
    have hput:Row (zai w2 gB (cur.setIfInBounds j4 (.int .u8 y10)) 5) w.heap.size w2.heap.size 5 1 encB ⟨some ⟨gB,0,none⟩,B.length,qc⟩ (B.set j4 y10):=by
     have:=Row.put hR2 (fun _=>rfl) (g:=gB) rfl hb' j4 hj4 0 oM (.int .u8 y10) y10 rfl
     simpa using this
    refine ⟨⟨some ⟨gB,0,none⟩,B.length,qc⟩,B.set j4 y10,k5,rfl,⟨by simp;omega,fun y hy=>?_⟩,Bld.append H0.out hN5 (za8 hB4.grown hg5) (hput.hi_mono (by rw [size_setBlk];exact Nat.le_refl _)) (zae (Below.refl _ _) hlo'),oM⟩
    rcases List.mem_or_eq_of_mem_set hy with hy|rfl
    ·exact HBY.out y hy
    ·exact h10
  ·have hvb:(v==0)=false:=beq_eq_false_iff_ne.2 hv
   go_wp2_with fail
   go_ret
   exact ⟨⟨some ⟨gB,0,none⟩,B.length,qc⟩,B,k3+1,rfl,⟨hBl,HBY.out⟩,hB4,oM⟩
 ·have hb0I:¬(0:Int)<(B.length:Int):=oM
  go_wp2_with fail
  go_ret
  exact ⟨⟨qp,B.length,qc⟩,B,k3,rfl,⟨hBl,HBY.out⟩,hB3,oM⟩
end
section
open Go.RowKit
theorem zjo {w:World} {nb k:Nat} {s:Sl} {V:List Int} (h:NumAt w nb s V k) (hk:k<=1000000000) :
  Calls prog 39 #[.pointer (some ⟨nb,0,none⟩)] w (zxq nb s V k 1 .u8 (fun v=>0<=v/\v<=255) w):=by
 go_enter func39,ntmps39
 go_upto_region 2 with (go_at_call 38;(refine (zav aS oM _ oM oM).mono ?_);rintro e w2 ⟨v,rfl,hv0,hv1,hN2,hG2⟩)
 by_cases h2:v<256
 ·have h3:¬ 256<=v:=oM
  have e1:IntKind.u8.wrap v=v:=by rw [IntKind.wrap_u8];omega
  go_wp2_with fail
  go_ret
  exact ⟨v,_,by first|rfl|(rw [e1];rfl),⟨hv0,oM⟩,hN2,Nat.le_refl _,hG2⟩
 ·have h3:256<=v:=oM
  have hr:v.tmod 16=0\/v.tmod 16=1\/v.tmod 16=2\/v.tmod 16=3\/v.tmod 16=4\/v.tmod 16=5\/v.tmod 16=6\/v.tmod 16=7\/v.tmod 16=8\/v.tmod 16=9\/v.tmod 16=10\/v.tmod 16=11\/v.tmod 16=12\/v.tmod 16=13\/v.tmod 16=14\/v.tmod 16=15:=by rw [Int.tmod_eq_emod_of_nonneg hv0];omega
  obtain hr|hr|hr|hr|hr|hr|hr|hr|hr|hr|hr|hr|hr|hr|hr|hr:=hr
  all_goals
   go_wp2_with fail
   go_ret
   exact ⟨_,_,rfl,⟨oM,oM⟩,hN2.thru ((Below.refl _ w2).alloc nL _),Nat.le_refl _,zfh hG2 ((Below.refl _ w2).alloc nL _)⟩
end
end Go.Proofs.YtlmbamdkklkliaaGreat
