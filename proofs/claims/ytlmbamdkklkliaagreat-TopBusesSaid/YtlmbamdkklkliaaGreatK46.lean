/- Part of the proof that a law holds at every input. No conditions. -/
import Derived.Deep.DeepCutAuto
import Derived.Deep.LoopGhost
import Derived.Laws.CopyRow
import Derived.Lib.AppendZeros
import Derived.Lib.AppendZerosOnto
import Derived.Lib.Hide
import Derived.Lib.Overlaps
import Derived.Lib.QuietBelow
import Derived.LoopIn
import Derived.LoopNIn
import Derived.OwnWalkIn
import Derived.RangeFuncBox
import Derived.RangeFuncLeaves
import Derived.RangeFuncNested
import Derived.Shelf.Abstract
import Derived.TacticsInMore
import Derived.WalkKit
import Derived.Test.YtlmbamdkklkliaaGreatK26
import Derived.Test.YtlmbamdkklkliaaGreatK34
import Derived.Test.YtlmbamdkklkliaaGreatK42
namespace Go.Proofs.YtlmbamdkklkliaaGreat
set_option linter.unusedVariables false
set_option linter.unusedSimpArgs false
set_option linter.unusedSectionVars false
set_option maxRecDepth 100000
set_option maxHeartbeats 16000000
open Go.Proofs.Tryz
open Lib (hid)
open Go.IntWalk (iteOmega)
section
open Go.RowKit
def putR (c:SCell):Bool->List SCell->List SCell
 | d,[]=>if d=true\/c.val=0 then [] else [c]
 | d,x::r=>(if d=false/\c.at_<=x.at_/\c.val≠0 then [c] else [])++((if x.at_=c.at_ then [] else [x])++putR c (d||decide (c.at_<=x.at_)) r)
theorem zj2 (c:SCell):∀ (r:List SCell),(∀ x ∈ r,c.at_<x.at_)->putR c true r=r
 | [],_=>by simp [putR]
 | x::r,h=>by
  have h1:=h x sI
  have h2:=zj2 c r (fun y hy=>h y (by simp [hy]))
  simp only [putR,Bool.true_or]
  rw [h2,if_neg sI,if_neg oM]
  rfl
theorem zpw (c:SCell):∀ (M:List SCell),(M.Pairwise fun a b=>a.at_<b.at_)->putR c false M=putC M c.at_ c.val
 | [],_=>by
  unfold putR putC
  by_cases h:c.val=0
  ·rw [if_pos (.inr h),if_pos h]
  ·rw [if_neg (by simp [h]),if_neg h]
 | x::r,h=>by
  obtain ⟨h1,h2⟩:=List.pairwise_cons.1 h
  unfold putC
  simp only [putR,Bool.false_or]
  by_cases ha:x.at_<c.at_
  ·rw [if_neg oM,if_neg oM,if_pos ha,show decide (c.at_<=x.at_)=false by simp;omega,zpw c r h2]
   rfl
  ·rw [show decide (c.at_<=x.at_)=true by simp;omega,if_neg ha]
   by_cases he:x.at_=c.at_
   ·rw [if_pos he,if_pos he,zj2 c r (fun y hy=>by have:=h1 y hy;omega)]
    by_cases hv:c.val=0
    ·rw [if_neg (by simp [hv]),if_pos hv];rfl
    ·rw [if_pos ⟨trivial,oM,hv⟩,if_neg hv];rfl
   ·rw [if_neg he,if_neg he,zj2 c r (fun y hy=>by have:=h1 y hy;omega)]
    by_cases hv:c.val=0
    ·rw [if_neg (by simp [hv]),if_pos hv];rfl
    ·rw [if_pos ⟨trivial,oM,hv⟩,if_neg hv];rfl
theorem zs0 {lo hi:Nat} {s:Sl} {M:List SCell} (c:SCell) (w:World) (h:Row w lo hi 61 2 SCell.cells s M) (hL:M.length<=200000) (hhi:hi<=w.heap.size) :
  Calls prog 64 #[.slice s.p s.n s.c,.agg c.cells] w (zft 61 2 SCell.cells (putR c false M) w):=by
 have hn:=h.len
 obtain ⟨p,n,cc⟩:=s
 dsimp only at hn
 subst hn
 obtain ⟨ca,cv⟩:=c
 have H:Aside (Row w lo hi 61 2 SCell.cells ⟨p,M.length,cc⟩ M):=h
 have HHI:Aside (hi<=w.heap.size):=hhi
 obtain ⟨T,hT⟩:∃ T,putR ⟨ca,cv⟩ false M=T:=⟨_,rfl⟩
 have HT:=hid hT
 rw [hT]
 clear h hhi hT
 go_enter func64,ntmps64
 go_wp2_with fail
 go_loopg [5,6,11] M.length (fun kx s5 s6 s11 wr=>∃ (k:Nat) (q:Sl) (d:Bool) (O:List SCell),s11=.int .i64 k/\s5=.slice q.p q.n q.c/\s6=.bool d/\k<=M.length/\M.length-k<=kx/\O.length<=2 * k/\Aside (O++putR ⟨ca,cv⟩ d (M.drop k)=T)/\Aside (Row wr (w.heap.size+1) wr.heap.size 61 2 SCell.cells q O)/\Aside (Below (w.heap.size+1) (w.alloc (.cells (SCell.mk ca cv).cells 61)) wr))
 case atStart=>exact ⟨0,⟨none,0,0⟩,false,[],rfl,rfl,rfl,oM,oM,by simp,by show []++putR _ _ (M.drop 0)=T;simp [HT.out],Row.nil _ _ _ _ _ _,(Below.refl _ _:Below (w.heap.size+1) (w.alloc (.cells (SCell.mk ca cv).cells 61)) (w.alloc (.cells (SCell.mk ca cv).cells 61)))⟩
 case round=>
  obtain ⟨k,q,d,O,rfl,rfl,rfl,hk,hkx,hO,hI,hrow,hB⟩:=hrel
  have fc:blk wr w.heap.size=some (.cells (SCell.mk ca cv).cells 61):=(hB.out.block _ oM).trans (zab _ _ _ rfl)
  have hsz:w.heap.size+1<=wr.heap.size:=by have:=hB.out.size;simpa using this
  have hBw:Aside (Below w.heap.size w wr):=((Below.refl _ w).alloc nL _).trans (hB.out.mono oM)
  by_cases hlt:k<M.length
  ·obtain ⟨g,hp,hg1,hg2,hg3,ho,hv⟩:=(H.out.thru hBw.out HHI.out).elem (fun _=>rfl) k hlt
   dsimp only at hp
   subst hp
   obtain ⟨⟨ra,rv⟩,hr⟩:∃ r,M[k]=r:=⟨_,rfl⟩
   rw [hr] at hv
   obtain ⟨rest,hrest⟩:∃ r,M.drop (k+1)=r:=⟨_,rfl⟩
   have hI2:=hI.out
   rw [List.drop_eq_getElem_cons hlt,hr,hrest] at hI2
   have HI:Aside (O++putR ⟨ca,cv⟩ d (⟨ra,rv⟩::rest)=T):=hI2
   have HRS:Aside (M.drop (k+1)=rest):=hrest
   clear hI hI2 hr hrest
   obtain ⟨gc0,gf0,_⟩:=zaa fc
   go_upto_region 6 with fail
   refine wpNm (fun V hV=>?_)
   have fx:blk V wr.heap.size=some (.cells (SCell.mk ra rv).cells 61):=by rw [hV];exact sM
   have fcV:blk V w.heap.size=some (.cells (SCell.mk ca cv).cells 61):=by rw [hV];exact sM
   have hBV:Below wr.heap.size wr V:=by rw [hV];exact bL
   have FX:=hid fx
   have FC:=hid fcV
   have BVV:=hid hBV
   have HVZ:Aside (wr.heap.size<V.heap.size):=zak fx
   have HSZ:=hid hsz
   have RV:Aside (Row V (w.heap.size+1) wr.heap.size 61 2 SCell.cells q O):=hrow.out.thru hBV nL
   have BVB:Aside (Below (w.heap.size+1) (w.alloc (.cells (SCell.mk ca cv).cells 61)) V):=zaf hBV hB.out hsz
   obtain ⟨gx,gfx,_⟩:=zaa fx
   obtain ⟨gy,gfy,_⟩:=zaa fcV
   clear hV hBV ho hv fc gc0 gf0
   cases d
   ·by_cases hle:ca<=ra
    ·by_cases he:ra=ca
     ·have hb:(ra==ca)=true:=beq_iff_eq.2 he
      by_cases hv:cv=0
      ·have hc:(cv==0)=true:=beq_iff_eq.2 hv
       have hEQ:O++putR ⟨ca,cv⟩ true (M.drop (k+1))=T:=by rw [<- HI.out,HRS.out];subst he;subst hv;simp [putR]
       have HEQ:=hid hEQ
       clear hEQ
       (try clear hv)
       (try clear he)
       go_wp2_with fail
       go_roundg (M.length-(k+1))
       case measure=>omega
       case rel=>exact ⟨k+1,q,true,O,by simp,rfl,rfl,oM,oM,(by first|omega|(simp;omega)),HEQ.out,((RV.out).hi_mono (by have:=HVZ.out;omega)),BVB.out⟩
      ·have hc:(cv==0)=false:=beq_eq_false_iff_ne.2 hv
       have hEQ:(O++[SCell.mk ca cv])++putR ⟨ca,cv⟩ true (M.drop (k+1))=T:=by rw [<- HI.out,HRS.out];subst he;simp [putR,hv]
       have HEQ:=hid hEQ
       clear hEQ
       (try clear hv)
       (try clear he)
       go_wp2_with (at_builtin;refine wpList_append_rows rfl _ _ 25 rfl (RV.out.thru ((Below.refl _ V).alloc nL _) (by have:=HVZ.out;omega)) (fun _=>rfl) SCell.one oM ze4 rfl [(SCell.mk ca cv)] (Row.one (lo:=0) (SCell.mk ca cv) (zab _ _ _ rfl) (fun _=>rfl) (Nat.zero_le _)) rfl sI sO sO ?_;intro s2 w3 hrow3 hgr;have fx3:blk w3 wr.heap.size=some (.cells (SCell.mk ra rv).cells 61):=(hgr.past _ nL (by have:=HVZ.out;simp;omega)).trans ((blk_alloc_past _ _ _ HVZ.out).trans FX.out);have fc3:blk w3 w.heap.size=some (.cells (SCell.mk ca cv).cells 61):=(hgr.grew.below.block _ oM).trans ((blk_alloc_past _ _ _ (by have:=HVZ.out;have:=HSZ.out;omega)).trans FC.out);have hz3:=hgr.grew.below.size;obtain ⟨gx3,hx3,_⟩:=zaa fx3;obtain ⟨gy3,hy3,_⟩:=zaa fc3)
       go_roundg (M.length-(k+1))
       case measure=>omega
       case rel=>exact ⟨k+1,s2,true,(O++[SCell.mk ca cv]),by simp,rfl,rfl,oM,oM,(by first|omega|(simp;omega)),HEQ.out,hrow3,((BVB.out.alloc (by have:=HVZ.out;have:=HSZ.out;omega) _).trans hgr.grew.below)⟩
     ·have hb:(ra==ca)=false:=beq_eq_false_iff_ne.2 he
      by_cases hv:cv=0
      ·have hc:(cv==0)=true:=beq_iff_eq.2 hv
       have hEQ:(O++[SCell.mk ra rv])++putR ⟨ca,cv⟩ true (M.drop (k+1))=T:=by rw [<- HI.out,HRS.out];simp [putR,hle,he,hv]
       have HEQ:=hid hEQ
       clear hEQ
       (try clear hv)
       (try clear he)
       go_wp2_with (at_builtin;refine wpList_append_rows rfl _ _ 25 rfl (RV.out.thru ((Below.refl _ V).alloc nL _) (by have:=HVZ.out;omega)) (fun _=>rfl) SCell.one oM ze4 rfl [(SCell.mk ra rv)] (Row.one (lo:=0) (SCell.mk ra rv) (zab _ _ _ rfl) (fun _=>rfl) (Nat.zero_le _)) rfl sI sO sO ?_;intro s2 w3 hrow3 hgr;have fx3:blk w3 wr.heap.size=some (.cells (SCell.mk ra rv).cells 61):=(hgr.past _ nL (by have:=HVZ.out;simp;omega)).trans ((blk_alloc_past _ _ _ HVZ.out).trans FX.out);have fc3:blk w3 w.heap.size=some (.cells (SCell.mk ca cv).cells 61):=(hgr.grew.below.block _ oM).trans ((blk_alloc_past _ _ _ (by have:=HVZ.out;have:=HSZ.out;omega)).trans FC.out);have hz3:=hgr.grew.below.size;obtain ⟨gx3,hx3,_⟩:=zaa fx3;obtain ⟨gy3,hy3,_⟩:=zaa fc3)
       go_roundg (M.length-(k+1))
       case measure=>omega
       case rel=>exact ⟨k+1,s2,true,(O++[SCell.mk ra rv]),by simp,rfl,rfl,oM,oM,(by first|omega|(simp;omega)),HEQ.out,hrow3,((BVB.out.alloc (by have:=HVZ.out;have:=HSZ.out;omega) _).trans hgr.grew.below)⟩
      ·have hc:(cv==0)=false:=beq_eq_false_iff_ne.2 hv
       have hEQ:(O++[SCell.mk ca cv]++[SCell.mk ra rv])++putR ⟨ca,cv⟩ true (M.drop (k+1))=T:=by rw [<- HI.out,HRS.out];simp [putR,hle,he,hv]
       have HEQ:=hid hEQ
       clear hEQ
       (try clear hv)
       (try clear he)
       go_wp2_with (first|(at_builtin;refine wpList_append_rows rfl _ _ 25 rfl (hrow3.thru ((Below.refl _ w3).alloc nL _) nL) (fun _=>rfl) SCell.one oM ze4 rfl [(SCell.mk ra rv)] (Row.one (lo:=0) (SCell.mk ra rv) (zab _ _ _ rfl) (fun _=>rfl) (Nat.zero_le _)) rfl sI sO sO ?_;intro s4 w5 hrow5 hgr5)|(at_builtin;refine wpList_append_rows rfl _ _ 25 rfl (RV.out.thru ((Below.refl _ V).alloc nL _) (by have:=HVZ.out;omega)) (fun _=>rfl) SCell.one oM ze4 rfl [(SCell.mk ca cv)] (Row.one (lo:=0) (SCell.mk ca cv) (zab _ _ _ rfl) (fun _=>rfl) (Nat.zero_le _)) rfl sI sO sO ?_;intro s2 w3 hrow3 hgr;have fx3:blk w3 wr.heap.size=some (.cells (SCell.mk ra rv).cells 61):=(hgr.past _ nL (by have:=HVZ.out;simp;omega)).trans ((blk_alloc_past _ _ _ HVZ.out).trans FX.out);have fc3:blk w3 w.heap.size=some (.cells (SCell.mk ca cv).cells 61):=(hgr.grew.below.block _ oM).trans ((blk_alloc_past _ _ _ (by have:=HVZ.out;have:=HSZ.out;omega)).trans FC.out);have hz3:=hgr.grew.below.size;obtain ⟨gx3,hx3,_⟩:=zaa fx3;obtain ⟨gy3,hy3,_⟩:=zaa fc3))
       go_roundg (M.length-(k+1))
       case measure=>omega
       case rel=>exact ⟨k+1,s4,true,(O++[SCell.mk ca cv]++[SCell.mk ra rv]),by simp,rfl,rfl,oM,oM,(by first|omega|(simp;omega)),HEQ.out,hrow5,((((BVB.out.alloc (by have:=HVZ.out;have:=HSZ.out;omega) _).trans hgr.grew.below).alloc (by have:=HVZ.out;have:=HSZ.out;simp at hz3;omega) _).trans hgr5.grew.below)⟩
    ·have he:ra≠ca:=oM
     have hb:(ra==ca)=false:=beq_eq_false_iff_ne.2 he
     have hlt2:ra<ca:=oM
     have hEQ:(O++[SCell.mk ra rv])++putR ⟨ca,cv⟩ false (M.drop (k+1))=T:=by rw [<- HI.out,HRS.out];simp [putR,hle,he]
     have HEQ:=hid hEQ
     clear hEQ
     (try clear hv)
     (try clear he)
     go_wp2_with (at_builtin;refine wpList_append_rows rfl _ _ 25 rfl (RV.out.thru ((Below.refl _ V).alloc nL _) (by have:=HVZ.out;omega)) (fun _=>rfl) SCell.one oM ze4 rfl [(SCell.mk ra rv)] (Row.one (lo:=0) (SCell.mk ra rv) (zab _ _ _ rfl) (fun _=>rfl) (Nat.zero_le _)) rfl sI sO sO ?_;intro s2 w3 hrow3 hgr;have fx3:blk w3 wr.heap.size=some (.cells (SCell.mk ra rv).cells 61):=(hgr.past _ nL (by have:=HVZ.out;simp;omega)).trans ((blk_alloc_past _ _ _ HVZ.out).trans FX.out);have fc3:blk w3 w.heap.size=some (.cells (SCell.mk ca cv).cells 61):=(hgr.grew.below.block _ oM).trans ((blk_alloc_past _ _ _ (by have:=HVZ.out;have:=HSZ.out;omega)).trans FC.out);have hz3:=hgr.grew.below.size;obtain ⟨gx3,hx3,_⟩:=zaa fx3;obtain ⟨gy3,hy3,_⟩:=zaa fc3)
     go_roundg (M.length-(k+1))
     case measure=>omega
     case rel=>exact ⟨k+1,s2,false,(O++[SCell.mk ra rv]),by simp,rfl,rfl,oM,oM,(by first|omega|(simp;omega)),HEQ.out,hrow3,((BVB.out.alloc (by have:=HVZ.out;have:=HSZ.out;omega) _).trans hgr.grew.below)⟩
   ·by_cases he:ra=ca
    ·have hb:(ra==ca)=true:=beq_iff_eq.2 he
     have hEQ:O++putR ⟨ca,cv⟩ true (M.drop (k+1))=T:=by rw [<- HI.out,HRS.out];subst he;simp [putR]
     have HEQ:=hid hEQ
     clear hEQ
     (try clear hv)
     (try clear he)
     go_wp2_with fail
     go_roundg (M.length-(k+1))
     case measure=>omega
     case rel=>exact ⟨k+1,q,true,O,by simp,rfl,rfl,oM,oM,(by first|omega|(simp;omega)),HEQ.out,((RV.out).hi_mono (by have:=HVZ.out;omega)),BVB.out⟩
    ·have hb:(ra==ca)=false:=beq_eq_false_iff_ne.2 he
     have hEQ:(O++[SCell.mk ra rv])++putR ⟨ca,cv⟩ true (M.drop (k+1))=T:=by rw [<- HI.out,HRS.out];simp [putR,he]
     have HEQ:=hid hEQ
     clear hEQ
     (try clear hv)
     (try clear he)
     go_wp2_with (at_builtin;refine wpList_append_rows rfl _ _ 25 rfl (RV.out.thru ((Below.refl _ V).alloc nL _) (by have:=HVZ.out;omega)) (fun _=>rfl) SCell.one oM ze4 rfl [(SCell.mk ra rv)] (Row.one (lo:=0) (SCell.mk ra rv) (zab _ _ _ rfl) (fun _=>rfl) (Nat.zero_le _)) rfl sI sO sO ?_;intro s2 w3 hrow3 hgr;have fx3:blk w3 wr.heap.size=some (.cells (SCell.mk ra rv).cells 61):=(hgr.past _ nL (by have:=HVZ.out;simp;omega)).trans ((blk_alloc_past _ _ _ HVZ.out).trans FX.out);have fc3:blk w3 w.heap.size=some (.cells (SCell.mk ca cv).cells 61):=(hgr.grew.below.block _ oM).trans ((blk_alloc_past _ _ _ (by have:=HVZ.out;have:=HSZ.out;omega)).trans FC.out);have hz3:=hgr.grew.below.size;obtain ⟨gx3,hx3,_⟩:=zaa fx3;obtain ⟨gy3,hy3,_⟩:=zaa fc3)
     go_roundg (M.length-(k+1))
     case measure=>omega
     case rel=>exact ⟨k+1,s2,true,(O++[SCell.mk ra rv]),by simp,rfl,rfl,oM,oM,(by first|omega|(simp;omega)),HEQ.out,hrow3,((BVB.out.alloc (by have:=HVZ.out;have:=HSZ.out;omega) _).trans hgr.grew.below)⟩
  ·have hke:k=M.length:=oM
   have hI2:=hI.out
   rw [hke,List.drop_length] at hI2
   have HI2:=hid hI2
   have HR0:Aside (Row wr (w.heap.size+1) wr.heap.size 61 2 SCell.cells q O):=hrow.out
   obtain ⟨gc0,gf0,_⟩:=zaa fc
   have hO2:O.length<=400000:=oM
   have HSZ:=hid hsz
   clear hI hI2
   subst hke
   have BVB:=hB.out
   cases d
   ·by_cases hv:cv=0
    ·have hc:(cv==0)=true:=beq_iff_eq.2 hv
     have hEQ:O=T:=by rw [<- HI2.out];subst hv;simp [putR]
     have HEQ:=hid hEQ
     clear hEQ hv
     go_wp2_with fail
     go_ret
     exact ⟨q,rfl,by rw [<- HEQ.out];exact HR0.out.lo_mono oM,hBw.out⟩
    ·have hc:(cv==0)=false:=beq_eq_false_iff_ne.2 hv
     have hEQ:O++[SCell.mk ca cv]=T:=by rw [<- HI2.out];simp [putR,hv]
     have HEQ:=hid hEQ
     clear hEQ hv
     go_wp2_with (at_builtin;refine wpList_append_rows rfl _ _ 25 rfl (HR0.out.thru ((Below.refl _ wr).alloc nL _) nL) (fun _=>rfl) SCell.one oM ze4 rfl [SCell.mk ca cv] (Row.one (lo:=0) (SCell.mk ca cv) (zab _ _ _ rfl) (fun _=>rfl) (Nat.zero_le _)) rfl sI sO sO ?_;intro s2 w3 hrow3 hgr)
     go_ret
     exact ⟨s2,rfl,by rw [<- HEQ.out];exact hrow3.lo_mono oM,hBw.out.trans (((Below.refl _ wr).alloc nL _:Below wr.heap.size wr _).mono (by have:=HSZ.out;omega) |>.trans (hgr.grew.below.mono oM))⟩
   ·have hEQ:O=T:=by rw [<- HI2.out];simp [putR]
    have HEQ:=hid hEQ
    clear hEQ
    go_wp2_with fail
    go_ret
    exact ⟨q,rfl,by rw [<- HEQ.out];exact HR0.out.lo_mono oM,hBw.out⟩
end
section
open Go.RowKit
def zgs (L:List SCell):Prop:=∀ c ∈ L,0<=c.val/\c.val<=255/\0<=c.at_/\c.at_<=65535
def zf5 (O:List SCell) (l:List SCell):List SCell:=l.foldl (fun o c=>putC o c.at_ c.val) O
theorem zoe (l:List SCell) (k:Nat) (h:k<l.length):zf5 [] (l.take (k+1))=putC (zf5 [] (l.take k)) l[k].at_ l[k].val:=by
 unfold zf5
 rw [<- List.take_append_getElem h,List.foldl_append]
 rfl
theorem zle {lo hi:Nat} {s:Sl} {L:List SCell} (w:World) (h:Row w lo hi 61 2 SCell.cells s L) (hL:L.length<=100000) (hok:zgs L) (hhi:hi<=w.heap.size) :
  Calls prog 35 #[.slice s.p s.n s.c] w (zft 61 2 SCell.cells (zjk L) w):=by
 have hn:=h.len
 obtain ⟨p,n,c⟩:=s
 dsimp only at hn
 subst hn
 have H:Aside (Row w lo hi 61 2 SCell.cells ⟨p,L.length,c⟩ L):=h
 have HHI:Aside (hi<=w.heap.size):=hhi
 have HOK:Aside (zgs L):=hok
 have V:=zny w h oM hhi
 cases hM:isMem L with
 | true=>
  rw [hM] at V
  have E:Aside (zjk L=L):=by
   have e:zjk L=L:=by unfold zjk;rw [if_pos hM]
   exact e
  clear hM h hhi hok
  go_enter func35,ntmps35
  go_wp2_with (first|(go_at_call 63;(refine V.mono ?_);rintro e w1 ⟨rfl,hB1⟩)|(at_builtin;refine zbi rfl _ _ 25 rfl (Row.nil w1 w1.heap.size w1.heap.size 61 2 SCell.cells) (fun _=>rfl) SCell.one oM ze4 rfl L (H.out.thru hB1 HHI.out) rfl sO nL ?_;intro s2 w3 hrow3 hgr))
  go_ret
  rw [E.out]
  rw [List.nil_append] at hrow3
  exact ⟨s2,rfl,hrow3.lo_mono hB1.size,hB1.trans (hgr.grew.below.mono hB1.size)⟩
 | false=>
  rw [hM] at V
  have E:Aside (zjk L=zf5 [] L):=by
   have e:zjk L=zf5 [] L:=by unfold zjk;rw [if_neg (by rw [hM];simp)];rfl
   exact e
  clear hM h hhi hok
  go_enter func35,ntmps35
  go_wp2_with (go_at_call 63;(refine V.mono ?_);rintro e w1 ⟨rfl,hB1⟩)
  have HB1:=hid hB1
  clear hB1 V
  go_loopg [3,12] L.length (fun kx s3 s12 wr=>∃ (k:Nat) (q:Sl),s12=.int .i64 k/\s3=.slice q.p q.n q.c/\k<=L.length/\L.length-k<=kx/\Aside (Row wr w.heap.size wr.heap.size 61 2 SCell.cells q (zf5 [] (L.take k)))/\Aside (Below w.heap.size w wr))
  case atStart=>exact ⟨0,⟨none,0,0⟩,rfl,rfl,oM,oM,(Row.nil _ _ _ _ _ _:Row w1 w.heap.size w1.heap.size 61 2 SCell.cells ⟨none,0,0⟩ []),HB1.out⟩
  case round=>
   obtain ⟨k,q,rfl,rfl,hk,hkx,hrow,hB⟩:=hrel
   by_cases hlt:k<L.length
   ·obtain ⟨g,hp,hg1,hg2,hg3,ho,hv⟩:=(H.out.thru hB.out HHI.out).elem (fun _=>rfl) k hlt
    dsimp only at hp
    subst hp
    obtain ⟨x,hr⟩:∃ r,L[k]=r:=⟨_,rfl⟩
    rw [hr] at hv
    have hx:=HOK.out _ (List.getElem_mem hlt)
    rw [hr] at hx
    have hmo:=zmf (L.take k) [] MemOk.nil (fun c hc=>HOK.out c (List.mem_of_mem_take hc))
    have hlen:(zf5 [] (L.take k)).length<=100000:=by
     have e:=hmo.2
     have e2:(L.take k).length<=k:=by simp;omega
     have e3:([]:List SCell).length=0:=rfl
     show ((L.take k).foldl (fun o c=>putC o c.at_ c.val) []).length<=100000
     omega
    have HR:Aside (∃ h:k<L.length,L[k]=x):=⟨hlt,hr⟩
    have HP:Aside (putR x false (zf5 [] (L.take k))=putC (zf5 [] (L.take k)) x.at_ x.val):=zpw x _ hmo.1.rise
    have HLN:=hid hlen
    have PT:Aside (∀ w2,Below wr.heap.size wr w2->Calls prog 64 #[.slice q.p q.n q.c,.agg x.cells] w2 (zft 61 2 SCell.cells (putR x false (zf5 [] (L.take k))) w2)):=fun w2 hB2=>zs0 x w2 (hrow.out.thru hB2 nL) oM hB2.size
    clear hr hx hmo hlen
    go_wp2_with (go_at_call 64;(refine (PT.out _ bL).mono ?_);intro e w4 hcl;obtain ⟨q2,rfl,hrow4,hB4⟩:=hcl;have hz4:=hB4.size;(try simp only [szs] at hz4))
    go_roundg (L.length-(k+1))
    case measure=>omega
    case rel=>
     have hbz:=hB.out.size
     refine ⟨k+1,q2,by simp,rfl,oM,oM,?_,?_⟩
     ·have e:zf5 [] (L.take (k+1))=putR x false (zf5 [] (L.take k)):=by
       obtain ⟨h1,h2⟩:=HR.out
       rw [HP.out,zoe L k h1,h2]
      have e2:Row w4 w.heap.size w4.heap.size 61 2 SCell.cells q2 (zf5 [] (L.take (k+1))):=by rw [e];exact hrow4.lo_mono sO
      exact e2
     ·have e:Below w.heap.size w w4:=hB.out.trans (((Below.refl _ wr).alloc nL _:Below wr.heap.size wr _).mono hbz |>.trans (hB4.mono sO))
      exact e
   ·have hke:k=L.length:=oM
    subst hke
    go_wp2_with fail
    go_ret
    rw [E.out]
    have hr:=hrow.out
    rw [List.take_length] at hr
    exact ⟨q,rfl,hr,hB.out⟩
end
section
open Go.RowKit
def zur (a:Int) (B:List Int) (i:Nat):SCell:=⟨IntKind.u16.wrap (a+IntKind.u16.wrap (i:Int)),B[i]?.getD 0⟩
def zhd (a:Int) (B:List Int) (k:Nat):List SCell:=(List.range k).map (zur a B)
def znc (a:Int) (B:List Int):List SCell:=zjk (zhd a B B.length)
theorem zpe (a:Int) (B:List Int) (k:Nat):zhd a B (k+1)=zhd a B k++[zur a B k]:=by
 unfold zhd;rw [List.range_succ,List.map_append];rfl
theorem znr (a:Int) (B:List Int) (hB:∀ y ∈ B,0<=y/\y<=255) (k:Nat):zgs (zhd a B k):=by
 intro c hc
 obtain ⟨i,_,rfl⟩:=List.mem_map.1 hc
 have h1:0<=B[i]?.getD 0/\B[i]?.getD 0<=255:=by
  cases h:B[i]? with
  | none=>simp
  | some y=>exact hB y (List.mem_of_getElem? h)
 refine ⟨h1.1,h1.2,?_⟩
 show 0<=IntKind.u16.wrap _/\IntKind.u16.wrap _<=65535
 rw [IntKind.wrap_u16];omega
theorem zi2 {lo hi:Nat} {s:Sl} {B:List Int} (a:Int) (w:World) (h:Row w lo hi 5 1 encB s B) (hB:∀ y ∈ B,0<=y/\y<=255) (hL:B.length<=10000) (hhi:hi<=w.heap.size) :
  Calls prog 17 #[.int .u16 a,.slice s.p s.n s.c] w (zft 61 2 SCell.cells (znc a B) w):=by
 have hn:=h.len
 obtain ⟨p,n,c⟩:=s
 dsimp only at hn
 subst hn
 have H:Aside (Row w lo hi 5 1 encB ⟨p,B.length,c⟩ B):=h
 have HHI:Aside (hi<=w.heap.size):=hhi
 have HB:=hid hB
 clear h hhi hB
 go_enter func17,ntmps17
 go_wp2_with fail
 go_loopg [5,9] B.length (fun kx s5 s9 wr=>∃ (k:Nat) (q:Sl),s9=.int .i64 k/\s5=.slice q.p q.n q.c/\k<=B.length/\B.length-k<=kx/\Aside (Row wr w.heap.size wr.heap.size 61 2 SCell.cells q (zhd a B k))/\Aside (Below w.heap.size w wr))
 case atStart=>exact ⟨0,⟨none,0,0⟩,rfl,rfl,oM,oM,(Row.nil _ _ _ _ _ _:Row w w.heap.size w.heap.size 61 2 SCell.cells ⟨none,0,0⟩ []),(Below.refl _ _:Below w.heap.size w w)⟩
 case round=>
  obtain ⟨k,q,rfl,rfl,hk,hkx,hrow,hB⟩:=hrel
  by_cases hlt:k<B.length
  ·obtain ⟨g,hp,_,_,_,hc⟩:=(H.out.thru hB.out HHI.out).cell (fun x=>.int .u8 x) (fun _=>rfl) k hlt
   dsimp only at hp
   subst hp
   obtain ⟨x,hr⟩:∃ r,B[k]=r:=⟨_,rfl⟩
   rw [hr] at hc
   have HX:Aside (zur a B k=⟨IntKind.u16.wrap (a+(k:Int)),x⟩):=by
    have e:zur a B k=⟨IntKind.u16.wrap (a+(k:Int)),x⟩:=by unfold zur;rw [List.getElem?_eq_getElem hlt,hr,show IntKind.u16.wrap (k:Int)=(k:Int) by rw [IntKind.wrap_u16];omega];rfl
    exact e
   have hlen:(zhd a B k).length<=10000:=by unfold zhd;simp;omega
   clear hr
   have hwz:=hB.out.size
   go_wp2_with (at_builtin;refine zbi rfl _ _ 25 rfl (hrow.out.thru ((Below.refl _ wr).alloc nL _) nL) (fun _=>rfl) SCell.one oM ze4 rfl [SCell.mk (IntKind.u16.wrap (a+(k:Int))) x] (Row.one (lo:=0) (SCell.mk (IntKind.u16.wrap (a+(k:Int))) x) (zab _ _ _ rfl) (fun _=>rfl) (Nat.zero_le _)) rfl sO sO ?_;intro s2 w3 hrow3 hgr)
   go_roundg (B.length-(k+1))
   case measure=>omega
   case rel=>
    rw [<- HX.out,<- zpe] at hrow3
    exact ⟨k+1,s2,by simp,rfl,oM,oM,hrow3,(hB.out.alloc hwz _).trans hgr.grew.below⟩
  ·have hke:k=B.length:=oM
   subst hke
   have NM:Aside (Calls prog 35 #[.slice q.p q.n q.c] wr (zft 61 2 SCell.cells (znc a B) wr)):=zle wr hrow.out (by unfold zhd;simp;omega) (znr a B HB.out _) nL
   go_wp2_with (go_at_call 35;(refine NM.out.mono ?_);intro e w4 hcl;obtain ⟨q2,rfl,hrow4,hB4⟩:=hcl)
   go_ret
   exact ⟨q2,rfl,hrow4.lo_mono hB.out.size,zaf hB4 hB.out hB.out.size⟩
end
section
open Go.RowKit
theorem zrp (L:List SRegion) (a:Int) (k:Nat) (hk:k<L.length) (h:∀ j,∀ hj:j<k,inR (L[j]'oM) a=false) (hr:inR L[k] a=true):zhs L a=some k:=by
 induction L generalizing k with
 | nil=>simp at hk
 | cons r L ih=>
  unfold zhs
  cases k with
  | zero=>rw [if_pos (by simpa using hr)]
  | succ k=>
   have h0:=h 0 oM
   simp only [List.getElem_cons_zero] at h0
   rw [if_neg (by rw [h0];simp),ih k (by simpa using hk) (fun j hj=>by simpa using h (j+1) oM) (by simpa using hr)]
   rfl
theorem zrq (L:List SRegion) (a:Int) (h:∀ j,∀ hj:j<L.length,inR L[j] a=false):zhs L a=none:=by
 induction L with
 | nil=>rfl
 | cons r L ih=>
  unfold zhs
  have h0:=h 0 sI
  simp only [List.getElem_cons_zero] at h0
  rw [if_neg (by rw [h0];simp),ih (fun j hj=>h (j+1) (by simpa using hj))]
  rfl
theorem zmg {lo hi:Nat} {s:Sl} {L:List SRegion} (a:Int) (w:World) (h:Row w lo hi 82 4 SRegion.cells s L) (hL:L.length<=1000000) (hhi:hi<=w.heap.size) :
  Calls prog 90 #[.slice s.p s.n s.c,.int .u16 a] w fun e w'=>e=.returned (.int .i64 (zh6 L a))/\Below w.heap.size w w':=by
 have hn:=h.len
 obtain ⟨p,n,c⟩:=s
 dsimp only at hn
 subst hn
 have H:Aside (Row w lo hi 82 4 SRegion.cells ⟨p,L.length,c⟩ L):=h
 clear h
 go_enter func90,ntmps90
 go_wp2_with fail
 go_loopg [9] L.length (fun kx s9 wr=>∃ k:Nat,s9=.int .i64 k/\k<=L.length/\L.length-k<=kx/\Aside (Below w.heap.size w wr)/\Aside (∀ j,∀ hj:j<L.length,j<k->inR L[j] a=false))
 case atStart=>exact ⟨0,rfl,oM,oM,Below.refl _ _,(fun j hj h=>by omega:∀ j,∀ hj:j<L.length,j<0->inR L[j] a=false)⟩
 case round=>
  obtain ⟨k,rfl,hk,hkx,hB,hI⟩:=hrel
  by_cases hlt:k<L.length
  ·obtain ⟨g,hp,hg1,hg2,hg3,ho,hv⟩:=(H.out.thru hB.out hhi).elem (fun _=>rfl) k hlt
   dsimp only at hp
   subst hp
   obtain ⟨r,hr⟩:∃ r,L[k]=r:=⟨_,rfl⟩
   rw [hr] at hv
   have R:Aside (L[k]=r):=hr
   clear hr
   by_cases h1:r.from_<=a
   ·by_cases h2:a<=r.to
    ·go_wp2_with fail
     go_ret
     have hf:=zrp L a k hlt (fun j hj=>hI.out j oM hj) (by rw [R.out];simp [inR,h1,h2])
     exact ⟨by simp [zh6,hf],hB.out.alloc (hB.out.size) _⟩
    ·replace h2:r.to<a:=oM
     go_wp2_with fail
     go_roundg (gk-1)
     case measure=>omega
     case rel=>exact ⟨k+1,by simp,oM,oM,hB.out.alloc (hB.out.size) _,(fun j hj hjk=>by
      by_cases e:j=k
      ·subst e;rw [R.out];simp [inR];omega
      ·exact hI.out j hj oM:∀ j,∀ hj:j<L.length,j<k+1->inR L[j] a=false)⟩
   ·replace h1:a<r.from_:=oM
    go_wp2_with fail
    go_roundg (gk-1)
    case measure=>omega
    case rel=>exact ⟨k+1,by simp,oM,oM,hB.out.alloc (hB.out.size) _,(fun j hj hjk=>by
      by_cases e:j=k
      ·subst e;rw [R.out];simp [inR];omega
      ·exact hI.out j hj oM:∀ j,∀ hj:j<L.length,j<k+1->inR L[j] a=false)⟩
  ·obtain rfl:k=L.length:=oM
   go_wp2_with fail
   go_ret
   have hf:=zrq L a (fun j hj=>hI.out j hj hj)
   exact ⟨by simp [zh6,hf],hB.out⟩
end
section
open Go.RowKit
theorem zse {lo hi:Nat} {s:Sl} {L:List SRegion} (a:Int) (w:World) (h:Row w lo hi 82 4 SRegion.cells s L) (hL:L.length<=1000000) (hhi:hi<=w.heap.size) :
  Calls prog 101 #[.slice s.p s.n s.c,.int .u16 a] w fun e w'=>e=.returned (.int .i64 (zjt L a))/\Below w.heap.size w w':=by
 have hn:=h.len
 obtain ⟨p,n,c⟩:=s
 dsimp only at hn
 subst hn
 have H:Aside (Row w lo hi 82 4 SRegion.cells ⟨p,L.length,c⟩ L):=h
 clear h
 have F:=zmg (s:=⟨p,L.length,c⟩) a w H.out hL hhi
 cases hf:zhs L a with
 | none=>
  have e1:zh6 L a = -1:=by simp [zh6,hf]
  have e2:zjt L a=0:=by simp [zjt,hf]
  rw [e1] at F
  rw [e2]
  clear e1 e2 hf
  go_enter func101,ntmps101
  go_wp2_with (go_at_call 90;refine F.mono ?_;rintro e w' ⟨rfl,hB⟩)
  go_ret
  exact ⟨rfl,hB⟩
 | some i=>
  have hi':=zmh L a i hf
  have e1:zh6 L a=(i:Int):=by simp [zh6,hf]
  have e2:zjt L a=zlp (L[i]).waits:=by simp [zjt,hf,hi']
  rw [e1] at F
  rw [e2]
  clear e1 e2 hf
  obtain ⟨x,hx⟩:∃ x,(L[i]).waits=x:=⟨_,rfl⟩
  have X:Aside ((L[i]).waits=x):=hx
  rw [hx]
  clear hx
  have G:∀ w',Below w.heap.size w w'->∃ g,p=some ⟨g,0,none⟩/\w'.cell? ⟨g,i * 4+3,none⟩=some (.int .i64 x):=fun w' hB=>by
   obtain ⟨g,hp,_,_,_,hc⟩:=(H.out.thru hB hhi).fld (fun _=>rfl) i hi'
   exact ⟨g,hp,by rw [hc 3 oM,<- X.out];rfl⟩
  obtain ⟨g,hp,_⟩:=G w (Below.refl _ _)
  subst hp
  replace G:∀ w',Below w.heap.size w w'->w'.cell? ⟨g,i * 4+3,none⟩=some (.int .i64 x):=fun w' hB=>by
   obtain ⟨g',hp,hc⟩:=G w' hB
   simp only [Option.some.injEq,Addr.mk.injEq,and_true] at hp
   rw [hp];exact hc
  go_enter func101,ntmps101
  rcases (by omega:x<0\/(0<=x/\x<=100)\/100<x) with h1|h1|h1
  all_goals go_wp2_with (go_at_call 90;refine F.mono ?_;rintro e w' ⟨rfl,hB⟩;have hg:=G w' hB)
  all_goals go_ret
  all_goals
   refine ⟨?_,hB⟩
   simp [zlp]
   try (repeat' split)
   all_goals (try omega)
theorem zqu {lo hi:Nat} {s:Sl} {L:List SRegion} (w:World) (h:Row w lo hi 82 4 SRegion.cells s L) (hL:L.length<=16) (hok:∀ r ∈ L,zes r=true) (hhi:hi<=w.heap.size) :
  Calls prog 59 #[.slice s.p s.n s.c] w fun e w'=>e=.returned (.int .i64 0)/\Below w.heap.size w w':=by
 have hn:=h.len
 obtain ⟨p,n,c⟩:=s
 dsimp only at hn
 subst hn
 have H:Aside (Row w lo hi 82 4 SRegion.cells ⟨p,L.length,c⟩ L):=h
 have K:Aside (∀ r ∈ L,zes r=true):=hok
 clear h hok
 go_enter func59,ntmps59
 go_wp2_with fail
 go_loopg [10] L.length (fun kx s10 wr=>∃ k:Nat,s10=.int .i64 k/\k<=L.length/\L.length-k<=kx/\Aside (Below w.heap.size w wr))
 case atStart=>exact ⟨0,rfl,oM,oM,Below.refl _ _⟩
 case round=>
  obtain ⟨k,rfl,hk,hkx,hB⟩:=hrel
  by_cases hlt:k<L.length
  ·obtain ⟨g,hp,hg1,hg2,hg3,ho,hv⟩:=(H.out.thru hB.out hhi).elem (fun _=>rfl) k hlt
   dsimp only at hp
   subst hp
   have hr:=K.out _ (List.getElem_mem hlt)
   obtain ⟨r,hr'⟩:∃ r,L[k]=r:=⟨_,rfl⟩
   rw [hr'] at hv hr
   clear hr'
   simp only [zes,Bool.and_eq_true,decide_eq_true_eq] at hr
   obtain ⟨⟨r1,r2⟩,r3⟩:=hr
   go_wp2_with fail
   go_roundg (gk-1)
   case measure=>omega
   case rel=>exact ⟨k+1,by simp,oM,oM,hB.out.alloc (hB.out.size) _⟩
  ·obtain rfl:k=L.length:=oM
   go_wp2_with fail
   go_ret
   exact ⟨rfl,hB.out⟩
end
section
open Go.RowKit
structure SCycle.Ok (x:SCycle):Prop where
 at_:0<=x.at_/\x.at_<=65535
 data:0<=x.data/\x.data<=255
def CycsOk (l:List SCycle):Prop:=∀ x ∈ l,x.Ok
theorem CycsOk.nil:CycsOk []:=fun _ h=>by cases h
theorem CycsOk.cons {x:SCycle} {l:List SCycle} (hx:x.Ok) (hl:CycsOk l):CycsOk (x::l):=fun y hy=>by
 rcases List.mem_cons.1 hy with rfl|h
 ·exact hx
 ·exact hl y h
theorem CycsOk.append {a b:List SCycle} (ha:CycsOk a) (hb:CycsOk b):CycsOk (a++b):=fun y hy=>by
 rcases List.mem_append.1 hy with h|h
 ·exact ha y h
 ·exact hb y h
theorem CycsOk.one {x:SCycle} (hx:x.Ok):CycsOk [x]:=CycsOk.cons hx CycsOk.nil
theorem CycsOk.two {x y:SCycle} (hx:x.Ok) (hy:y.Ok):CycsOk [x,y]:=CycsOk.cons hx (CycsOk.one hy)
theorem CycsOk.ite {c:Prop} [Decidable c] {a b:List SCycle} (ha:CycsOk a) (hb:CycsOk b):CycsOk (if c then a else b):=by split<;>assumption
theorem zmu (k x d:Int) (hd:0<=d/\d<=255):(cyc k (IntKind.u16.wrap x) d).Ok:=⟨by show 0<=IntKind.u16.wrap x/\IntKind.u16.wrap x<=65535;rw [IntKind.wrap_u16];omega,hd⟩
theorem zye (k x:Int):(cyc k (IntKind.u16.wrap x) 0).Ok:=zmu k x 0 oM
theorem zmk (k a d:Int) (ha:0<=a/\a<=65535) (hd:0<=d/\d<=255):(cyc k a d).Ok:=⟨ha,hd⟩
theorem cyc0 (k a:Int) (ha:0<=a/\a<=65535):(cyc k a 0).Ok:=⟨ha,by show (0:Int)<=0/\(0:Int)<=255;omega⟩
section
variable (P:SPlan) (G:List Int) (hr:P.c.regs.Ok) (hg:∀ x ∈ G,0<=x/\x<=255)
include hr
theorem zna (k:Nat):(zhk P k).Ok:=by
 unfold zhk
 split
 ·exact cyc0 _ _ hr.pc
 ·exact zye _ _
theorem zdg:∀ n,CycsOk (zbf P n)
 | 0=>CycsOk.nil
 | n+1=>CycsOk.append (zdg n) (CycsOk.one (zna P hr _))
omit hr in
theorem zib (v:Int) (h0:0<=v/\v<=65535):CycsOk (zic P v):=CycsOk.two (zmu _ _ _ oM) (zmu _ _ _ oM)
theorem zpx:CycsOk (popP P):=CycsOk.two (cyc0 _ _ hr.sp) (zye _ _)
theorem zk6 (v:Int) (b:Bool) (h0:0<=v/\v<=65535):CycsOk (zgz P v b):=by
 unfold zgz
 split
 ·exact CycsOk.two (zmk _ _ _ h0 hr.l) (zmu _ _ _ hr.h)
 ·exact CycsOk.two (cyc0 _ _ h0) (zye _ _)
theorem zkh:∀ n,CycsOk (zf9 P n)
 | 0=>CycsOk.nil
 | n+1=>CycsOk.append (zkh n) (CycsOk.one (cyc0 _ _ hr.pc))
theorem znf:CycsOk (zhr P):=by unfold zhr;split<;>exact zdg P hr _
theorem zof:0<=zh1 P/\zh1 P<=65535:=by
 unfold zh1
 split
 ·exact zs1 _ _ hr
 ·exact zeg _ _ hr
theorem zt4:CycsOk (zcq P):=by
 have hb:=zdd P hr
 unfold zcq
 repeat' (with_reducible refine CycsOk.ite ?_ ?_)
 all_goals first
  | exact CycsOk.nil
  | exact znf P hr
  | exact CycsOk.append (znf P hr) (zib P _ hb)
  | exact zpx P hr
  | exact zib P _ hb
  | exact zib P _ (zof P hr)
  | exact CycsOk.append (zpx P hr) (CycsOk.two (zmu _ _ _ hr.h) ⟨hr.sp,hr.l⟩)
  | exact CycsOk.one (cyc0 _ _ hr.pc)
  | exact zkh P hr _
  | exact CycsOk.append (zdg P hr _) (zkh P hr _)
include hg
theorem zt3:CycsOk (zgb P G):=by
 have hj:=fun n=>(zjm hg n).2
 unfold zgb
 refine CycsOk.append (zdg P hr _) ?_
 repeat' (with_reducible refine CycsOk.ite ?_ ?_)
 all_goals first
  | exact CycsOk.nil
  | exact CycsOk.one (cyc0 _ _ (hj _))
  | exact CycsOk.one (zmk _ _ _ (hj _) hr.a)
  | exact zk6 P hr _ _ (hj _)
  | exact CycsOk.one (zmk _ _ _ (hj _) (zd4 hg _))
  | exact CycsOk.one (zmk _ _ _ (zeg _ _ hr) (zd4 hg _))
theorem zt2:CycsOk (zcl P G):=by
 have hp:=fun n=>zeg P.c.regs n hr
 have hq:=zd4 hg
 have hw:=zii _ _ (hq 1) (hq 1)
 unfold zcl
 repeat' (with_reducible refine CycsOk.ite ?_ ?_)
 all_goals first
  | exact CycsOk.nil
  | exact CycsOk.one (cyc0 _ _ (hp _))
  | exact CycsOk.one (zmk _ _ _ (hp _) (zfr _ _ hr))
  | exact CycsOk.append (zdg P hr _) (CycsOk.one (zmk _ _ _ (hp _) (hq _)))
  | exact zdg P hr _
  | exact CycsOk.two (cyc0 _ _ (hp _)) (zmk _ _ _ (hp _) (zo3 P G))
  | exact zt3 P G hr hg
  | exact CycsOk.one (zmk _ _ _ (hp _) hr.a)
  | exact CycsOk.append (zdg P hr _) (CycsOk.one (cyc0 _ _ hw))
  | exact CycsOk.append (zdg P hr _) (CycsOk.one (zmk _ _ _ hw hr.a))
  | exact zk6 P hr _ _ (hp _)
  | exact zt4 P hr
end
theorem zo2 (c:SCPU) (source:Int) (G:List Int) (hr:c.regs.Ok) (hg:∀ x ∈ G,0<=x/\x<=255):CycsOk (zdz c source G):=by
 unfold zdz
 split
 ·exact CycsOk.cons ⟨hr.pc,by show (0:Int)<=0/\(0:Int)<=255;omega⟩ (zib (zi0 c source G) _ hr.pc)
 ·split
  ·exact CycsOk.one ⟨hr.pc,by show (0:Int)<=0/\(0:Int)<=255;omega⟩
  ·exact CycsOk.cons ⟨hr.pc,by show (0:Int)<=0/\(0:Int)<=255;omega⟩ (zt2 (zi0 c source G) G hr hg)
theorem zie (c:SCPU) (source:Int) (G:List Int) (hr:c.regs.Ok) (hg:∀ x ∈ G,0<=x/\x<=255):(zdb c source G).Ok:=by
 unfold zdb
 cases h:(zdz c source G)[G.length]? with
 | none=>exact ⟨by show (0:Int)<=0/\(0:Int)<=65535;omega,by show (0:Int)<=0/\(0:Int)<=255;omega⟩
 | some x=>exact zo2 c source G hr hg x (List.mem_of_getElem? h)
end
section
open Go.RowKit
def BytesOk (G:List Int):Prop:=∀ x ∈ G,0<=x/\x<=255
theorem BytesOk.nil:BytesOk []:=fun _ h=>by cases h
theorem BytesOk.app {G:List Int} {v:Int} (h:BytesOk G) (hv:0<=v/\v<=255):BytesOk (G++[v]):=fun y hy=>by
 rcases List.mem_append.1 hy with h1|h1
 ·exact h y h1
 ·rw [List.mem_singleton.1 h1];exact hv
structure CoreOk (c:SCore) (G:List Int) (n:Nat):Prop where
 len:G.length<=n
 bytes:BytesOk G
 regs:c.cpu.regs.Ok
 cyc:c.cycle.Ok
theorem CoreOk.more {c:SCore} {G:List Int} {n m:Nat} (h:CoreOk c G n) (hm:n<=m):CoreOk c G m:=⟨Nat.le_trans h.len hm,h.bytes,h.regs,h.cyc⟩
theorem zqf (c:SCore) (G:List Int) (l:SLines) (n:Nat) (h:CoreOk c G n):CoreOk (endM c G l) (endG c G) n:=by
 unfold endM endG
 split
 ·exact ⟨h.len,h.bytes,h.regs,zie _ _ _ h.regs h.bytes⟩
 ·have hf:=zi4 c.cpu c.source G l h.regs h.bytes
  have ha:=accept_ok _ (zc5 (zch c.cpu c.source G l) l) hf
  exact ⟨Nat.zero_le _,BytesOk.nil,ha,zie _ _ _ ha BytesOk.nil⟩
theorem z04 (c:SCore) (G:List Int) (l:SLines) (d:Int) (n:Nat) (h:CoreOk c G n) (hd:0<=d/\d<=255):CoreOk (advC c G l d) (advG c G l d) (n+1):=by
 have hl:(zac c l).cpu.regs.Ok:=zeu _ _ h.regs
 have h1:CoreOk (zac c l) G n:=⟨h.len,h.bytes,hl,h.cyc⟩
 have h1':=h1.more (Nat.le_succ n)
 have hrd:0<=zbn c d/\zbn c d<=255:=by unfold zbn;split;exact hd;exact h.cyc.data
 have hG:BytesOk (G++[zbn c d]):=h.bytes.app hrd
 have hlen:(G++[zbn c d]).length<=n+1:=by have:=h.len;simp;omega
 have h3:CoreOk (third (zac c l) d) (G++[zbn c d]) (n+1):=⟨hlen,hG,hl,⟨h.cyc.at_,hrd⟩⟩
 have h4:CoreOk (zac c l) (G++[zbn c d]) (n+1):=⟨hlen,hG,hl,h.cyc⟩
 unfold advC advG
 by_cases s3:zaj c=3
 ·rw [if_neg oM,if_neg oM,if_pos s3,if_pos s3]
  split
  ·exact ⟨hlen,hG,hl,⟨h.cyc.at_,hrd⟩⟩
  ·exact zqf _ _ _ _ h3
 ·rw [if_neg s3, if_neg s3]
  by_cases s4:zaj c=4\/zaj c=5\/zaj c=6
  ·rw [if_neg oM,if_neg oM,if_pos s4,if_pos s4]
   split
   ·exact ⟨h1'.len,h1'.bytes,hl,h.cyc⟩
   ·exact zqf _ _ _ _ h1'
  ·rw [if_neg s4,if_neg s4]
   by_cases s9:zaj c=9
   ·rw [if_neg oM,if_neg oM,if_neg oM,if_pos s9,if_pos s9]
    unfold zfi
    split
    ·exact ⟨h1'.len,h1'.bytes,hl,h.cyc⟩
    ·have ha:=accept_ok _ (zc5 (zac c l).cpu l) hl
     exact ⟨Nat.zero_le _,BytesOk.nil,ha,zie _ _ _ ha BytesOk.nil⟩
   ·rw [if_neg s9]
    repeat' split
    all_goals exact ⟨h1'.len,h1'.bytes,hl,h.cyc⟩
theorem zlr (c:SCPU) (s:Int) (h:c.regs.Ok) (n:Nat):CoreOk (zhf c s) [] n:=⟨Nat.zero_le _,BytesOk.nil,h,zie _ _ _ h BytesOk.nil⟩
theorem z0v (c:SCore) (G:List Int) (l:SLines) (d:Int) (n:Nat) (h:CoreOk c G n) (hd:0<=d/\d<=255):CoreOk (clkC c G l d) (clkG c G l d) (n+1):=by
 unfold clkC clkG
 split
 ·exact zlr _ _ (zpq _ h.regs) _
 ·exact z04 c G l d n h hd
theorem zoz (d:SDMA) (r v:Int) (h:d.Ok) (hv:0<=v/\v<=255):(zfy d r v).Ok:=by
 unfold zfy
 repeat' split
 ·exact ⟨zhh _ _,h.value⟩
 ·exact ⟨zhh _ _,h.value⟩
 ·exact ⟨h.at_,hv⟩
 ·exact ⟨h.at_,h.value⟩
theorem zn4 (d:SDMA) (h:d.Ok):(zbj d).1.Ok/\(0<=(zbj d).2.1.at_/\(zbj d).2.1.at_<=65535)/\(0<=(zbj d).2.1.val/\(zbj d).2.1.val<=255):=by
 unfold zbj
 split
 ·exact ⟨⟨ziv _,h.value⟩,h.at_,h.value⟩
 ·exact ⟨zlm,by simp [SCell.zero],by simp [SCell.zero]⟩
theorem zr9 (B:SBoard) (s:SSystem) (c:SCycle) (hp:s.pic.Ok) (hd:s.dma.Ok) (hc:c.Ok):(zc0 B s c).pic.Ok/\(zc0 B s c).dma.Ok/\(zc0 B s c).waited=s.waited:=by
 unfold zc0
 repeat' split
 ·exact ⟨zsa _ _ _ hp hc.data,hd,rfl⟩
 ·exact ⟨hp,zoz _ _ _ hd hc.data,rfl⟩
 ·exact ⟨hp,hd,rfl⟩
 ·exact ⟨hp,hd,rfl⟩
structure Mach.Ok (k n:Nat) (t:Mach):Prop where
 core:CoreOk t.s.core t.g n
 pic:t.s.pic.Ok
 dma:t.s.dma.Ok
 waited:0<=t.s.waited/\t.s.waited<=n
 m:MemOk t.m
 ml:t.m.length<=k+2 * n
 o:t.o.length<=n
structure SInput.Ok (i:SInput):Prop where
 requests:0<=i.requests/\i.requests<=255
 port:0<=i.port/\i.port<=255
theorem zqs (s:SSystem) (n:Nat) (h:0<=s.waited/\s.waited<=n) (hn:n<=1000000):0<=zf1 s/\zf1 s<=(n+1:Nat):=by
 unfold zf1
 split
 ·rw [show wrap64 (s.waited+1)=s.waited+1 from by unfold wrap64;omega];omega
 ·omega
structure PartOk (k n:Nat) (s:SSystem) (M:List SCell) (O:List SOutput) (a b:Nat):Prop where
 pic:s.pic.Ok
 dma:s.dma.Ok
 waited:0<=s.waited/\s.waited<=(n+1:Nat)
 m:MemOk M
 ml:M.length<=k+2 * n+a
 o:O.length<=n+b
theorem zpc (B:SBoard) (L:List SRegion) (t:Mach) (i:SInput) (k n:Nat) (h:t.Ok k n) (hi:i.Ok) (hn:n<=1000000):(clkM B L t i).Ok k (n+1):=by
 obtain ⟨b1,b2,b3⟩:=zmn B L t.s t.m i h.m h.pic h.dma hi.port hi.requests
 have hw:0<=(busM B L t.s t.m i).1.waited/\(busM B L t.s t.m i).1.waited<=(n+1:Nat):=by rw [b3];exact zqs _ _ h.waited hn
 have hd:(busM B L t.s t.m i).1.dma.Ok:=by rw [b3];exact h.dma
 have hcy:=h.core.cyc
 have p1:PartOk k n (clk1 B L t i).s (clk1 B L t i).m (clk1 B L t i).o 0 0:=⟨b1,hd,hw,h.m,h.ml,h.o⟩
 have p2:PartOk k n (clk2 B L t i).s (clk2 B L t i).m (clk2 B L t i).o 1 1:=by
  unfold clk2
  dsimp only
  split
  ·obtain ⟨w1,w2,w3⟩:=zr9 B (clk1 B L t i).s t.s.core.cycle p1.pic p1.dma hcy
   refine ⟨w1,w2,by rw [w3];exact p1.waited,?_,?_,?_⟩
   ·dsimp only;unfold zdq;split;exact p1.m;exact zjr L p1.m _ _ hcy.at_ hcy.data
   ·dsimp only;unfold zdq;have:=p1.ml;split;omega;have:=zit L (clk1 B L t i).m t.s.core.cycle.at_ t.s.core.cycle.data;omega
   ·dsimp only;unfold zf3;have:=p1.o;split<;>simp<;>omega
  ·exact ⟨p1.pic,p1.dma,p1.waited,p1.m,by have:=p1.ml;omega,by have:=p1.o;omega⟩
 have p3:PartOk k n (clk3 B L t i).s (clk3 B L t i).m (clk3 B L t i).o 2 1:=by
  unfold clk3
  dsimp only
  split
  ·obtain ⟨w1,w2,w3⟩:=zn4 (clk2 B L t i).s.dma p2.dma
   exact ⟨p2.pic,w1,p2.waited,zjr L p2.m _ _ w2 w3,by have:=p2.ml;have:=zit L (clk2 B L t i).m (zbj (clk2 B L t i).s.dma).2.1.at_ (zbj (clk2 B L t i).s.dma).2.1.val;dsimp only;omega,p2.o⟩
  ·exact ⟨p2.pic,p2.dma,p2.waited,p2.m,by have:=p2.ml;omega,p2.o⟩
 have p4:PartOk k n (clkM B L t i).s (clkM B L t i).m (clkM B L t i).o 2 1:=by
  unfold clkM
  dsimp only
  split
  ·exact ⟨⟨p3.pic.isr,p3.pic.imr,p3.pic.high,p3.pic.lines,p3.pic.edge⟩,⟨p3.dma.at_,p3.dma.value⟩,p3.waited,p3.m,p3.ml,p3.o⟩
  ·exact p3
 have hg:(clkM B L t i).g=clkG t.s.core t.g (zcv B L t.s i) (busM B L t.s t.m i).2:=by
  unfold clkM clk3 clk2 clk1
  dsimp only
  repeat' split
  all_goals rfl
 refine ⟨?_,p4.pic,p4.dma,p4.waited,p4.m,by have:=p4.ml;omega,p4.o⟩
 rw [zkq,hg]
 exact z0v _ _ _ _ _ h.core b2
theorem zom (B:SBoard) (M:List SCell) (hM:MemOk M):(newR B M).t.Ok M.length 0:=by
 have:=zlr (zfc { SCPU.zero with chip:=B.chip }) 0 (zero_ok B.chip) 0
 exact ⟨this,zm8,zlm,by show (0:Int)<=0/\(0:Int)<=0;omega,hM,Nat.le_refl _,Nat.le_refl _⟩
end
section
open Go.RowKit
theorem zf7 (m:SMachine) (X:Array Value) (T mb:Nat) (port:Int) (w:World) (hm:blk w mb=some (.cells (catX m.cells X) T)) :
  Calls prog 84 #[.pointer (some ⟨mb,0,none⟩),.int .u8 port] w fun e w'=>e=.returned (.tuple #[.bool (zjb m.board port==1),.bool (zld m.board port)])/\w=w':=by
 obtain ⟨gcm,gfm,gzm⟩:=zaa hm
 cases hj:m.board.jam
 all_goals
  go_enter func84,ntmps84
  go_wp2_with fail
  all_goals
   go_ret2
   refine ⟨?_,rfl⟩
   (try simp only [beq_iff_eq,beq_eq_false_iff_ne,ne_eq,bne_iff_ne,bne_eq_false_iff_eq] at *);(simp [zjb,zld,IntKind.wrap_u8, *])
theorem zv2 (m:SMachine) (X:Array Value) (T mb:Nat) (w:World) (hm:blk w mb=some (.cells (catX m.cells X) T)) {lo hi:Nat} {L:List SRegion} (hreg:Row w lo hi 82 4 SRegion.cells m.board.regions L) (hL:L.length<=1000000) (hhi:hi<=w.heap.size) :
  Calls prog 80 #[.pointer (some ⟨mb,0,none⟩)] w fun e w'=>e=.returned (.int .i64 (zrc m.board L m.sys.core.cycle))/\Below w.heap.size w w':=by
 obtain ⟨gcm,gfm,gzm⟩:=zaa hm
 have HR:=hid hreg
 clear hreg
 have W1:Aside (∀ w1,Below w.heap.size w w1->Calls prog 101 #[.slice m.board.regions.p m.board.regions.n m.board.regions.c,.int .u16 m.sys.core.cycle.at_] w1 fun e w'=>e=.returned (.int .i64 (zjt L m.sys.core.cycle.at_))/\Below w1.heap.size w1 w'):=fun w1 hB=>zse _ w1 (HR.out.thru hB hhi) hL (Nat.le_trans hhi hB.size)
 cases ha:accM m.sys.core.cycle.kind
 ·have HA:=hid ha
  obtain ⟨k6,h6⟩:∃ q,(m.sys.core.cycle.kind==6)=q:=⟨_,rfl⟩
  obtain ⟨k7,h7⟩:∃ q,(m.sys.core.cycle.kind==7)=q:=⟨_,rfl⟩
  have E:zrc m.board L m.sys.core.cycle=if (k6||k7)=true then zlp m.board.iowaits else 0:=by
   unfold zrc
   rw [if_neg (by rw [HA.out];simp),<- h6,<- h7]
   simp only [Bool.or_eq_true,beq_iff_eq]
  have EE:=hid E
  obtain ⟨x,hx⟩:∃ x,m.board.iowaits=x:=⟨_,rfl⟩
  have HX:=hid hx
  clear E W1
  cases k6<;>cases k7
  all_goals rcases (by omega:x<0\/(0<=x/\x<=100)\/100<x) with h1|h1|h1
  all_goals
   go_enter func80,ntmps80
   go_wp2_with (first|with_reducible refine Cpv (zf0 _ _) ?_)
  all_goals go_ret
  all_goals
   refine ⟨?_,bL⟩
   rw [EE.out,HX.out]
   simp [zlp]
   try (repeat' split)
   all_goals (try omega)
 ·have HA:=hid ha
  go_enter func80,ntmps80
  go_upto_region 3 with (first|with_reducible refine Cpv (zf0 _ _) ?_)
  refine wpNm (fun W hW=>?_)
  have f0:blk W mb=some (.cells (catX m.cells X) T):=by rw [hW];exact sM
  have f1:blk W w.heap.size=some (.cells m.sys.core.cycle.cells 43):=by rw [hW];exact sM
  have fz:mb<W.heap.size/\w.heap.size<W.heap.size:=by rw [hW];(try simp only [szs] at *);omega
  have fB:Below w.heap.size w W:=by rw [hW];exact bL
  have FB:=hid fB
  clear hW gcm gfm gzm hm fB
  have q0:∀ d os,blk (Go.Sort.grow (redrawn W d) os) mb=some (.cells (catX m.cells X) T):=fun d os=>((below_regrown W d os).block _ oM).trans aS
  have qc0:∀ d os i,(Go.Sort.grow (redrawn W d) os).cell? ⟨mb,i,none⟩=((catX m.cells X))[i]? := fun d os i=>(zaa (q0 d os)).1 i
  have q1:∀ d os,blk (Go.Sort.grow (redrawn W d) os) w.heap.size=some (.cells m.sys.core.cycle.cells 43):=fun d os=>((below_regrown W d os).block _ oM).trans aS
  have qc1:∀ d os i,(Go.Sort.grow (redrawn W d) os).cell? ⟨w.heap.size,i,none⟩=(m.sys.core.cycle.cells)[i]? := fun d os i=>(zaa (q1 d os)).1 i
  refine zad 8 kR kR ?_
  simp only [tkd]
  repeat (quiet_step (first|(go_at_call 101;exact Calls.regrown_of (W1.out _ (FB.out.trans ((below_regrown _ _ _).mono oM))))))
  refine wpQuiet_nil ?_
  intro wq hwq
  have hBq:Below W.heap.size W wq:=by obtain ⟨p,rfl⟩:=hwq;exact below_regrown _ _ _
  clear hwq q0 qc0 q1 qc1
  go_wp2_with fail
  go_ret
  exact ⟨by unfold zrc;rw [if_pos HA.out];rfl,zaf hBq FB.out FB.out.size⟩
end
section
open Go Go.RowKit Go.Shelf
attribute [local go_sem] Oper.semAt_some
def bwF (M:List SCell) (j:Nat):Nat × SCell:=(M.length-1-j,M[M.length-1-j]?.getD SCell.zero)
def bwL (M:List SCell) (k:Nat):List (Nat × SCell):=(List.range k).map (bwF M)
theorem zmm (M:List SCell) (k:Nat):bwL M (k+1)=bwL M k++[bwF M k]:=by simp [bwL,List.range_succ]
theorem zr0 (M:List SCell) (k:Nat):(bwL M k).length=k:=by simp [bwL]
theorem zxm (F:Fence) (n:Nat) (h7:F.fn 156) (hro:F.round=none) (hn:1<=n) (l Bs n₀ lo:Nat) (s:Sl) (M:List SCell) (hL:M.length<=1000000) (hBn:Bs<n₀) (J Jx:List (Nat × SCell)->World->Prop)
  (hY:∀ pre x W,J pre W->pre.length<M.length->YieldAt F (n-1) prog l #[.int .i64 (x.1:Int),.agg #[.int .u16 x.2.at_,.int .u8 x.2.val]] W fun e W'=>
   (e=.returned (.bool true)/\J (pre++[x]) W'/\Below n₀ W W')\/(e=.returned (.bool false)/\Jx (pre++[x]) W'))
  (W:World) (hBs:W.cell? ⟨Bs,0,none⟩=some (.slice s.p s.n s.c)) (hR:Row W lo n₀ 61 2 SCell.cells s M) (h0:J [] W) :
  CallsIn F n prog 156 #[.func (.yield l) #[] #[],.pointer (some ⟨Bs,0,none⟩)] W fun e W'=>(∃ v,e=.returned v) /\
   ((∃ ys,ys=bwL M M.length/\J ys W')\/(∃ pre,(∃ k,k<=M.length/\pre=bwL M k)/\Jx pre W')):=by
 have hnl:=hR.len
 obtain ⟨p,q,c⟩:=s
 dsimp only at hnl hBs
 subst hnl
 have H:Aside (Row W lo n₀ 61 2 SCell.cells ⟨p,M.length,c⟩ M):=hR
 clear hR
 refine callsIn_of_wp func156 rfl h7 ?_ hro
 simp only [ntmps156,List.size_toArray,List.length_cons,List.length_nil,Nat.reduceAdd,Nat.reduceSub,Array.replicate_succ,Array.replicate_zero,List.push_toArray,List.append_toArray,List.nil_append,List.cons_append]
 have hw0:IntKind.i64.wrap ((M.length:Int)-1)=(M.length:Int)-1:=by rw [IntKind.wrap_i64];omega
 gi_wp2
 clear hw0
 gi_loopw [3] (fun i wr=>∃ k m:Nat,m+k=M.length/\i=.int .i64 ((m:Int)-1)/\J (bwL M k) wr/\Below n₀ W wr)
  (fun i _=>(intOf i+1).toNat)
 case atStart=>exact ⟨0,M.length,oM,rfl,h0,Below.refl _ _⟩
 case round=>
  obtain ⟨k,m,hm,rfl,hJs,hnx⟩:=hrel
  rcases m with _|m
  ·obtain rfl:k=M.length:=oM
   gi_wp2
   go_end0
   exact ⟨⟨_,rfl⟩,.inl ⟨_,rfl,hJs⟩⟩
  ·have hlt:m<M.length:=oM
   have e0:((m+1:Nat):Int)-1=(m:Int):=oM
   have e1:IntKind.i64.wrap ((m:Int)-1)=(m:Int)-1:=by rw [IntKind.wrap_i64];omega
   rw [e0]
   obtain ⟨g,hp,_,_,hg3,hc⟩:=(H.out.thru hnx nL).fld (fun _=>rfl) m hlt
   have hc0:wr.cell? ⟨g,m * 2,none⟩=some (.int .u16 M[m].at_):=hc 0 oM
   have hc1:wr.cell? ⟨g,m * 2+1,none⟩=some (.int .u8 M[m].val):=hc 1 oM
   clear hc
   dsimp only at hp
   subst hp
   have hbx:wr.cell? ⟨Bs,0,none⟩=some (.slice (some ⟨g,0,none⟩) M.length c):=(hnx.cell (p:=⟨Bs,0,none⟩) hBn).trans hBs
   have hbf:bwF M k=(m,M[m]):=by
    unfold bwF
    have:M.length-1-k=m:=oM
    rw [this,List.getElem?_eq_getElem hlt];rfl
   obtain ⟨fn,tmps,assign,body,hy,hRd⟩:=hY _ (m,M[m]) wr hJs (by rw [zr0];omega)
   dsimp only at hy
   clear e0
   gi_wp2
   refine hRd.mono ?_
   rintro e W3 (⟨rfl,hJ3,hk3⟩|⟨rfl,hJx3⟩)
   ·gi_wp2
    go_roundw
    case rel=>exact ⟨k+1,m,oM,rfl,by rw [zmm,hbf];exact hJ3,hnx.trans hk3⟩
    case measure=>first|(simp [intOf];done)|(simp [intOf];omega)
   ·gi_wp2
    refine bodyPost_ret (results_none rfl _ _ _) rfl ?_
    exact ⟨⟨_,rfl⟩,.inr ⟨_,⟨k+1,oM,by rw [zmm,hbf]⟩,hJx3⟩⟩
theorem z03 (F:Fence) (n:Nat) (h5:F.fn 130) (hro:F.round=none) (a:Option Addr) (len cap:Nat) (w:World) :
  CallsIn F n prog 130 #[.slice a len cap] w fun e w'=>e=.returned (.func (.func 156) #[] #[.pointer (some ⟨w.heap.size,0,none⟩)])/\w'=w.alloc (.cells #[.slice a len cap] 25):=by
 refine callsIn_of_wp func130 rfl h5 ?_ hro
 simp only [ntmps130,List.size_toArray,List.length_cons,List.length_nil,Nat.reduceAdd,Nat.reduceSub,Array.replicate_succ,Array.replicate_zero,List.push_toArray,List.append_toArray,List.nil_append,List.cons_append]
 gi_wp2
 go_ret
 exact ⟨rfl,rfl⟩
theorem zr1 (F:Fence) (n:Nat) (h8:F.fn 156) (hro:F.round=none) (hn:1<=n) (Bs n₀ lo:Nat) (s:Sl) (M:List SCell) (hL:M.length<=1000000) (w:World) (hBs:Bs<n₀) (hn₀:n₀<=w.heap.size)
  (hc:w.cell? ⟨Bs,0,none⟩=some (.slice s.p s.n s.c)) (hR:Row w lo n₀ 61 2 SCell.cells s M) :
  SeqStopsK F n prog 156 #[.pointer (some ⟨Bs,0,none⟩)] (fun x:Nat × SCell=>#[Value.int .i64 (x.1:Int),.agg #[.int .u16 x.2.at_,.int .u8 x.2.val]]) (Below n₀) (fun ys=>ys=bwL M M.length)
   (fun pre=>∃ k,k<=M.length/\pre=bwL M k) M.length w:=fun l J Jx W hW _ _ hY h0=>
 zxm F n h8 hro hn l Bs n₀ lo s M hL hBs J Jx hY W ((hW.cell (p:=⟨Bs,0,none⟩) (by show Bs<w.heap.size;omega)).trans hc) (hR.thru hW hn₀) h0
end
section
open Go Go.RowKit Go.Shelf
attribute [local go_sem] Oper.semAt_some
theorem zl5 {β:Type} (B b:Nat) (A:Array Value) (t:TypeId):OwnFrom B (fun (_:β) W=>blk W b=some (.cells A t)):=by
 intro s W W' row h hg hr
 refine (hg.block b (Array.getElem?_eq_some_iff.1 (show W.heap[b]? = _ from h)).1 (fun e=>?_)).trans h
 obtain ⟨_,o,ho,hc⟩:=hr b e.symm
 rw [show W.heap[b]? = _ from h] at ho
 cases ho
 cases hc
theorem zke (B:Nat) (W:World) (o:Obj):KeepsFrom B W (W.alloc o):=KeepsFrom.of_grownBy (World.grownBy_alloc W o none) (fun j e=>by cases e)
theorem zzi (F:Fence) (n:Nat) (h4:F.fn 102) (h6:F.fn 130) (h8:F.fn 156) (hro:F.round=none) (hn:3<=n) {lo hi:Nat} {s:Sl} {M:List SCell} (x:Int) (w:World) (h:Row w lo hi 61 2 SCell.cells s M) (hL:M.length<=1000000) (hhi:hi<=w.heap.size) :
  CallsIn F n prog 102 #[.slice s.p s.n s.c,.int .u16 x] w fun e W'=>e=.returned (.int .u8 (getC M x))/\Below w.heap.size w W':=by
 have h1:1<=n:=oM
 refine callsIn_of_wp_marks func102 rfl h4 ?_ hro
 simp only [ntmps102,List.size_toArray,List.length_cons,List.length_nil,Nat.reduceAdd,Nat.reduceSub,Array.replicate_succ,Array.replicate_zero,List.push_toArray,List.append_toArray,List.nil_append,List.cons_append]
 gi_wp2_with (gi_at_call 130;refine (z03 F (n-1) h6 hro _ _ _ _).mono ?_;rintro e w' ⟨rfl,rfl⟩)
 obtain ⟨W0,hW0⟩:∃ W0,(((w.alloc (.cells #[.int .u16 x] 37)).alloc (.cells #[.int .u8 0] 5)).alloc (.cells #[.slice s.p s.n s.c] 25))=W0:=⟨_,rfl⟩
 rw [hW0]
 have hS:W0.heap.size=w.heap.size+1+1+1:=by rw [<- hW0];simp
 have hB0:Below w.heap.size w W0:=by rw [<- hW0];exact (((Below.refl _ w).alloc nL _).alloc sI _).alloc sO _
 have fA:blk W0 w.heap.size=some (.cells #[.int .u16 x] 37):=by rw [<- hW0];simp [go_sem,↓iteOmega]
 have fR:blk W0 (w.heap.size+1)=some (.cells #[.int .u8 0] 5):=by rw [<- hW0];simp [go_sem,↓iteOmega]
 have fS:blk W0 (w.heap.size+1+1)=some (.cells #[.slice s.p s.n s.c] 25):=by rw [<- hW0];simp [go_sem,↓iteOmega]
 have hR0:Row W0 lo W0.heap.size 61 2 SCell.cells s M:=(h.thru hB0 hhi).hi_mono (Nat.le_trans hhi hB0.size)
 clear hW0
 refine wpIn_rangeFunc_ownH hro h1 (gf:=156) (lb:=#[.pointer (some ⟨w.heap.size+1+1,0,none⟩)]) rfl h8 (enters_of func156 kR rfl)
  (zr1 F (n-1) h8 hro oM (w.heap.size+1+1) W0.heap.size lo s M hL W0 oM nL ((zaa fS).1 0) hR0) belowK_t (belowK_b nL) (Below.refl _ _) (fun _=>rfl)
  (fun pre W=>(∀ p ∈ pre,p.2.at_≠x)/\blk W w.heap.size=some (.cells #[.int .u16 x] 37)/\blk W (w.heap.size+1)=some (.cells #[.int .u8 0] 5)/\Below W0.heap.size W0 W)
  (fun c pre W=>(c=.ret/\∃ ini last,pre=ini++[last]/\(∀ p ∈ ini,p.2.at_≠x)/\last.2.at_=x/\blk W (w.heap.size+1)=some (.cells #[.int .u8 last.2.val] 5))/\Below w.heap.size w W)
  ?hI ?hIx ⟨by simp,fA,fR,Below.refl _ _⟩
  (fun y a' W=>∃ cb,a' = { tmps:=#[.slice s.p s.n s.c,.int .u16 x,undef,.pointer (some ⟨w.heap.size,0,none⟩),.pointer (some ⟨w.heap.size+1,0,none⟩),undef,.pointer (some ⟨cb,0,none⟩),.slice s.p s.n s.c,.func (.func 156) #[] #[.pointer (some ⟨w.heap.size+1+1,0,none⟩)],.int .i64 (y.1:Int),.agg #[.int .u16 y.2.at_,.int .u8 y.2.val],undef,undef,undef,undef,undef,undef],defers:=[] }/\blk W cb=some (.cells y.2.cells 61))
  ?hAx ?assign ?body ?done ?stop
 case hI=>
  exact OwnFrom.and (fun s W W' row hs _ _=>hs) (OwnFrom.and (zl5 _ _ _ _) (OwnFrom.and (zl5 _ _ _ _) (ownFrom_below nL nL)))
 case hIx=>
  intro c
  refine OwnFrom.and (fun s W W' row hs hg hr=>?_) (ownFrom_below nL hB0.size)
  obtain ⟨e0,ini,last,e1,e2,e3,e4⟩:=hs
  exact ⟨e0,ini,last,e1,e2,e3,zl5 (β:=Unit) _ _ _ _ () W W' row e4 hg hr⟩
 case hAx=>
  intro y a' s W W' row hs hg hr
  obtain ⟨cb,e1,e2⟩:=hs
  exact ⟨cb,e1,zl5 (β:=Unit) _ _ _ _ () W W' row e2 hg hr⟩
 case assign=>
  rintro l pre y W K ⟨hp,h2,h3,hB⟩ hK
  gi_wp2
  refine hK _ _ (zke _ _ _) ?_ ?_ ⟨W.heap.size,rfl,zab _ _ _ rfl⟩
  ·exact (Below.refl _ W).alloc hB.size _
  ·exact ⟨hp,(blk_alloc_past _ _ _ (zaa h2).2.2).trans h2,(blk_alloc_past _ _ _ (zaa h3).2.2).trans h3,hB.alloc hB.size _⟩
 case body=>
  rintro l pre y a' W hl hlo ⟨hp,h2,h3,hB⟩ ⟨cb,rfl,e2⟩ hlen
  obtain ⟨gc2,gf2,gz2⟩:=zaa h2
  obtain ⟨gc3,gf3,gz3⟩:=zaa h3
  obtain ⟨gcc,gfc,gzc⟩:=zaa e2
  cases hxb:(y.2.at_==x) with
  | true=>
   gi_wp2
   have hx:y.2.at_=x:=beq_iff_eq.1 hxb
   refine ⟨?_,⟨rfl,pre,y,rfl,hp,hx,blk_setBlk_same _ _ _ _ gz3⟩,zae (hB0.trans (hB.mono hB0.size)) oM⟩
   have e:W.setCell ⟨w.heap.size+1,0,none⟩ (.int .u8 y.2.val)=zai W (w.heap.size+1) #[.int .u8 y.2.val] 5:=by rw [zjz _ _ _ _ (by rw [h3];rfl),h3];rfl
   rw [<- e]
   exact (KeepsOthers.setCell _ _ _).from _
  | false=>
   gi_wp2
   have hx:¬(y.2.at_=x):=beq_eq_false_iff_ne.1 hxb
   exact ⟨KeepsFrom.refl _ _,Below.refl _ _,fun p hp'=>(List.mem_append.1 hp').elim (hp p) (fun e=>by simp at e;subst e;exact hx),h2,h3,hB⟩
 case done=>
  rintro D ys W hD rfl ⟨hp,h2,h3,hB⟩ hK
  obtain ⟨gc3,gf3,gz3⟩:=zaa h3
  gi_wp2
  have hK':(zai W (w.heap.size+1) #[.int .u8 0] 5).heap[D]? = some (.deferred (some [])):=(zbw _ _ _ _ _ oM).trans hK
  have hB':Below w.heap.size w (zai W (w.heap.size+1) #[.int .u8 0] 5):=zae (hB0.trans (hB.mono hB0.size)) oM
  refine ⟨by simp,.inl ⟨_,_,rfl,run_takeDeferred hK',?_⟩⟩
  have hc5:=cell_kept (((zaa (blk_setBlk_same W (w.heap.size+1) #[.int .u8 0] 5 gz3)).1 0).trans rfl:(zai W (w.heap.size+1) #[.int .u8 0] 5).cell? ⟨w.heap.size+1,0,none⟩=some (.int .u8 0)) (grownBy_putObj' _ D (.deferred none)) (fun r e=>by cases e;exact ⟨_,hK',rfl⟩)
  have hm:getC M x=0:=ztw M x fun j hj=>by
   have:=hp (bwF M (M.length-1-j)) (by simp only [bwL,List.mem_map,List.mem_range];exact ⟨_,oM,rfl⟩)
   unfold bwF at this
   have e:M.length-1-(M.length-1-j)=j:=oM
   rw [e,List.getElem?_eq_getElem hj] at this
   exact this
  refine ⟨.int .u8 0,?_,by rw [hm],hB'.trans (belowK_b (w:=w) nL _ D _ _ oM hK' rfl rfl)⟩
  simp [results,f102,go_sem,hc5]
 case stop=>
  rintro D c pre W hD ⟨k,hk,rfl⟩ ⟨⟨rfl,ini,last,e1,e2,e3,e4⟩,hB⟩ hK
  gi_wp2
  refine ⟨by simp,.inl ⟨_,_,rfl,run_takeDeferred hK,?_⟩⟩
  have hc5:=cell_kept (((zaa e4).1 0).trans rfl:W.cell? ⟨w.heap.size+1,0,none⟩=some (.int .u8 last.2.val)) (grownBy_putObj' _ D (.deferred none)) (fun r e=>by cases e;exact ⟨_,hK,rfl⟩)
  obtain ⟨k',rfl⟩:∃ k',k=k'+1:=by
   cases k with
   | zero=>simp [bwL] at e1
   | succ k'=>exact ⟨k',rfl⟩
  rw [zmm] at e1
  obtain ⟨rfl,e5⟩:=List.append_inj' e1 rfl
  obtain rfl:bwF M k'=last:=by simpa using e5
  have hjl:M.length-1-k'<M.length:=oM
  have hlast:bwF M k'=(M.length-1-k',M[M.length-1-k']):=by unfold bwF;rw [List.getElem?_eq_getElem hjl];rfl
  rw [hlast] at e3 hc5
  have hm:getC M x=(M[M.length-1-k']).val:=zqc M x _ hjl e3 fun j hj hkj=>by
   have:=e2 (bwF M (M.length-1-j)) (by simp only [bwL,List.mem_map,List.mem_range];exact ⟨_,oM,rfl⟩)
   unfold bwF at this
   have e:M.length-1-(M.length-1-j)=j:=oM
   rw [e,List.getElem?_eq_getElem hj] at this
   exact this
  refine ⟨.int .u8 (M[M.length-1-k']).val,?_,by rw [hm],hB.trans (belowK_b (w:=w) nL _ D _ _ oM hK rfl rfl)⟩
  simp [results,f102,go_sem,hc5]
theorem zwf {lo hi:Nat} {s:Sl} {M:List SCell} (x:Int) (w:World) (h:Row w lo hi 61 2 SCell.cells s M) (hL:M.length<=1000000) (hhi:hi<=w.heap.size) :
  Calls prog 102 #[.slice s.p s.n s.c,.int .u16 x] w fun e W'=>e=.returned (.int .u8 (getC M x))/\Below w.heap.size w W':=
 callsIn_wide.1 (zzi Fence.wide 3 trivial trivial trivial rfl oM x w h hL hhi)
end
section
open Go Go.RowKit
section
variable {P:Program}
theorem ziw {w:World} {g:Nat} {cur:Array Value} {t:TypeId} (hg:blk w g=some (.cells cur t)) (X:Array Value):w.setRow g X=zai w g X t:=by
 unfold World.setRow zai;congr 1
 have hg':w.heap[g]? = some (.cells cur t (0,0)):=hg
 have hb:g<w.heap.size:=(Array.getElem?_eq_some_iff.1 hg').1
 have hv:w.heap[g]=.cells cur t (0,0):=(Array.getElem?_eq_some_iff.1 hg').2
 apply Array.ext_getElem?;intro k
 rw [Array.getElem?_modify,Array.getElem?_setIfInBounds]
 by_cases hk:g=k
 ·subst hk;simp [hb,hv]
 ·simp [hk]
theorem zfd (k:Nat) (w:World) (dT sT ty elem:TypeId) (g o dLen dCap:Nat) (a:Addr) (sLen sCap:Nat) (cur:Array Value) (t:TypeId) (cs:List Value)
  (hu:P.underlying dT=some (.slice elem)) (hs:(P.info? elem).map (·.size)=some k)
  (hg:blk w g=some (.cells cur t)) (hn:cs.length=Nat.min sLen dLen * k)
  (hsrc:∀ j v,cs[j]? = some v->w.cell? (a.add j)=some v) (hfit:o+cs.length<=cur.size) (h1:∀ v ∈ cs,v.oneCell'=true) :
  (Builtin.copy_ #[dT,sT] ty #[.slice (some ⟨g,o,none⟩) dLen dCap,.slice (some a) sLen sCap]).run P w =
   .ok (goInt (Nat.min sLen dLen)) (zai w g (cur.toList.take o++cs++cur.toList.drop (o+cs.length)).toArray t):=by
 rw [<- ziw hg]
 have hl:=run_loadCells_list (P:=P) w a cs hsrc
 have hst:=run_storeCells_at P g o t cs 0 cur w hg (by simpa using hfit) h1
 cases hq:P.info? elem with
 | none=>simp [hq] at hs
 | some i=>
  have hi:i.size=k:=by simpa [hq] using hs
  simp [Builtin.copy_,run_underlying hu,Builtin.lenOf,Builtin.firstCells,sizeOf,typeInfo,hq,hi,<- hn,hl,hst]
theorem zeo (w:World) {ops:Array Oper} {rest:List Oper} {o:Oper} {a:Act} {Q:Exit->Act->World->Prop} (hgd:o.guard=none) (d s:Operand) (t t':TypeId)
  (ho:o.op=.call { callee:=.builtin .copy,args:=#[d,s],argTypes:=#[t,t'] }) (v u:Value) (hd:a.eval d=v) (hs:a.eval s=u) {v':Value} {w':World}
  (hr:(Builtin.copy_ #[t,t'] o.type #[v,u]).run P w=.ok v' w') (h:wpList P ops Q rest (a.put o.dst v') w'):wpList P ops Q (o::rest) a w:=by
 refine wpList_plain hgd fun K hK=>?_
 unfold Oper.wp
 simp [execOp,ho,resolve,invoke,builtin,hd,hs,hr,Result.andThen]
 exact hK _ _ h
theorem zkw (k n:Nat) (w:World) (t e ty:TypeId) (z:Value) (ht:P.underlying t=some (.slice e)) (hv:∀ w,(zeroValue e).run P w=.ok z w) (hz:z.cells.size=k) (h1:∀ v ∈ (Builtin.zeroCells z.cells n).toList,v.oneCell'=true) (g o c:Nat) (hn:0<n)
  (cur:Array Value) (tt:TypeId) (hg:blk w g=some (.cells cur tt)) (hfit:o+n * k<=cur.size) :
  (Builtin.clear_ #[t] ty #[.slice (some ⟨g,o,none⟩) n c]).run P w=.ok (.tuple #[]) (zai w g (cur.toList.take o++(Builtin.zeroCells z.cells n).toList++cur.toList.drop (o+n * k)).toArray tt):=by
 rw [<- ziw hg]
 have hl:(Builtin.zeroCells z.cells n).toList.length=n * k:=by simp [Builtin.zeroCells,hz]
 have hst:=run_storeCells_at P g o tt (Builtin.zeroCells z.cells n).toList 0 cur w hg (by rw [hl];simpa using hfit) h1
 rw [hl] at hst
 obtain ⟨m,rfl⟩:∃ m,n=m+1:=⟨n-1,oM⟩
 simp [Builtin.clear_,run_underlying ht,hv,hst]
theorem zgt (w:World) {ops:Array Oper} {rest:List Oper} {o:Oper} {a:Act} {Q:Exit->Act->World->Prop} (hgd:o.guard=none) (s:Operand) (t:TypeId)
  (ho:o.op=.call { callee:=.builtin .clear,args:=#[s],argTypes:=#[t] }) (u:Value) (hs:a.eval s=u) {v':Value} {w':World}
  (hr:(Builtin.clear_ #[t] o.type #[u]).run P w=.ok v' w') (h:wpList P ops Q rest (a.put o.dst v') w'):wpList P ops Q (o::rest) a w:=by
 refine wpList_plain hgd fun K hK=>?_
 unfold Oper.wp
 simp [execOp,ho,resolve,invoke,builtin,hs,hr,Result.andThen]
 exact hK _ _ h
end
section
variable {α:Type} {w w':World} {lo hi:Nat} {e:TypeId} {k:Nat} {enc:α->Array Value} {L:List α}
theorem Row.of_blk {g cap:Nat} {A:Array Value} (hb:blk w g=some (.cells A e)) (hlo:lo<=g) (hhi:g<hi) (hc:L.length<=cap) (hm:cap<=maxLen) (hs:A.size=cap * k) (ht:A.toList.take (L.length * k)=encL enc L) (hk:∀ x,(enc x).size=k) :
  Row w lo hi e k enc ⟨some ⟨g,0,none⟩,L.length,cap⟩ L:=
 ⟨⟨zcc hk,.inr ⟨g,cap,A,rfl,hlo,hb,hc,hm,hs,ht⟩⟩,fun g' hg'=>by simp only [Value.ownBlock,Option.some.injEq] at hg';omega⟩
theorem zmi (h1:∀ x,(enc x).all (fun v=>v.oneCell')=true) (L:List α):∀ u ∈ encL enc L,u.oneCell'=true:=fun u hu=>by
 simp only [encL,List.mem_flatMap] at hu
 obtain ⟨x,_,hx⟩:=hu
 exact (Array.all_eq_true_iff_forall_mem.1 (h1 x)) u (by simpa using hx)
end
end
section
open Go.RowKit
def zge (lo:Nat) (L:List SCell) (w:World) (x:Ending) (w':World):Prop:=
 ∃ s':Sl,x=.returned (.slice s'.p s'.n s'.c)/\Row w' lo w'.heap.size 61 2 SCell.cells s' L/\Below lo w w'
theorem zrg {lo hi:Nat} {s:Sl} {M:List SCell} (x:SCell) (vb:Nat) (w:World) (h:Row w lo hi 61 2 SCell.cells s M) (hL:M.length<=900000) (hlo:lo<=w.heap.size) (hv:blk w vb=some (.cells x.cells 61)) :
  Calls prog 116 #[.slice s.p s.n s.c,.int .i64 M.length,.slice (some ⟨vb,0,none⟩) 1 1] w (zge lo (M++[x]) w):=by
 have hn:=h.len
 have hc:s.n<=s.c:=by
  rcases h.own.2 with ⟨hv,_⟩|⟨g,cap,cur,hv,_,_,h1,_⟩
  ·simp only [Value.slice.injEq] at hv;omega
  ·simp only [Value.slice.injEq] at hv;omega
 obtain ⟨p,n,c⟩:=s
 dsimp only at hn hc ⊢
 subst hn
 have H:Aside (Row w lo hi 61 2 SCell.cells ⟨p,M.length,c⟩ M):=h
 clear h
 go_enter func116,ntmps116
 go_wp2_with (at_builtin;refine za7 rfl _ _ 25 rfl H.out (fun _=>rfl) SCell.one oM ze4 rfl [x] vb x.cells 61 1 1 rfl hv (by simp [encL]) rfl oM oM hlo ?_;intro s2 w3 hrow3 hgr)
 all_goals
  go_ret
  exact ⟨s2,rfl,hrow3,hgr.below⟩
theorem zf4 {α:Type} (A B C X:List α) (h:X.length=B.length):(A++(B++C)).take A.length++X++(A++(B++C)).drop (A.length+X.length)=A++(X++C):=by
 rw [List.take_left,h,<- List.append_assoc A B C,<- List.length_append,List.drop_left,List.append_assoc]
theorem zq3 {α:Type} (cur xs:List α) (i n c:Nat) (hi:i<=n) (hc:cur.length=c * 2) (hn:n+1<=c) (h:cur.take (n * 2)=xs) :
  ∃ Y B C,cur=xs.take (i * 2)++(Y++(B++C))/\Y.length=2/\B.length=(n-i) * 2/\(xs.take (i * 2)).length=i * 2/\xs.drop (i * 2)=(Y++B).take ((n-i) * 2):=by
 refine ⟨(cur.drop (i * 2)).take 2,((cur.drop (i * 2)).drop 2).take ((n-i) * 2),((cur.drop (i * 2)).drop 2).drop ((n-i) * 2),?_,?_,?_,?_,?_⟩
 ·rw [List.take_append_drop,List.take_append_drop,<- h,List.take_take,Nat.min_eq_left oM,List.take_append_drop]
 ·simp;omega
 ·simp;omega
 ·rw [<- h];simp;omega
 ·rw [<- h,List.drop_take]
  have e:(cur.drop (i * 2)).take 2++((cur.drop (i * 2)).drop 2).take ((n-i) * 2)=(cur.drop (i * 2)).take (2+(n-i) * 2):=by rw [List.take_add]
  rw [e,List.take_take]
  congr 1
  omega
theorem zin {α:Type} {enc:α->Array Value} {k:Nat} (hk:∀ x,(enc x).size=k) (L:List α) (i:Nat) (hi:i<=L.length):(encL enc L).take (i * k)=encL enc (L.take i)/\(encL enc L).drop (i * k)=encL enc (L.drop i):=by
 have h1:encL enc L=encL enc (L.take i)++encL enc (L.drop i):=by rw [<- zek,List.take_append_drop]
 have h2:(encL enc (L.take i)).length=i * k:=by rw [zcc hk,List.length_take,Nat.min_eq_left hi]
 rw [h1,<- h2]
 exact ⟨List.take_left,List.drop_left⟩
theorem zor {lo hi:Nat} {s:Sl} {M:List SCell} (i:Nat) (x:SCell) (vb:Nat) (w:World) (h:Row w lo hi 61 2 SCell.cells s M) (hL:M.length<=900000) (hv:blk w vb=some (.cells x.cells 61)) (hvb:hi<=vb) (hi':i<M.length) (hroom:M.length+1<=s.c) :
  Calls prog 116 #[.slice s.p s.n s.c,.int .i64 i,.slice (some ⟨vb,0,none⟩) 1 1] w (zge lo (M.take i++x::M.drop i) w):=by
 obtain ⟨g,cur,hp,hlo,hhi,hsz,hb,hc,hm,hs,ht⟩:=h.at oM
 have hn:=h.len
 obtain ⟨p,n,c⟩:=s
 dsimp only at hn hc hp hroom hm hs ⊢
 subst hn
 subst hp
 have HV:Aside (vb≠g):=by show vb≠g;omega
 have hne:vb≠g:=HV
 have hkB:cur.size≠0:=oM
 obtain ⟨E1,hE1⟩:∃ E,encL SCell.cells (M.take i)=E:=⟨_,rfl⟩
 obtain ⟨E2,hE2⟩:∃ E,encL SCell.cells (M.drop i)=E:=⟨_,rfl⟩
 have hT:=zin (enc:=SCell.cells) (k:=2) (fun _=>rfl) M i oM
 rw [hE1,hE2] at hT
 obtain ⟨Y,B,C,hcur,hY,hB,hE,hEY⟩:=zq3 cur.toList _ i M.length c oM (by simpa using hs) hroom ht
 rw [hT.1] at hcur hE
 rw [hT.2] at hEY
 have hE2l:E2.length=(M.length-i) * 2:=by rw [<- hE2,zcc (k:=2) (fun _=>rfl),List.length_drop]
 have hE2o:∀ u ∈ E2,u.oneCell'=true:=by rw [<- hE2];exact zmi SCell.one _
 obtain rfl:cur=(E1++(Y++(B++C))).toArray:=by rw [<- hcur]
 have hov:∀ lb cb,(callFunc 135 #[.slice (some ⟨vb,0,none⟩) 1 1,.slice (some ⟨g,(i+1) * 2,none⟩) lb cb]).run prog w=.ok (.value (.bool false)) w:=fun lb cb=>by
  rw [run_callFunc_extern func135 kR kR kR (e:=Extern.SlicesOverlaps.overlaps #[25,25] #[4]) kR,
   Lib.run_overlaps_apart w 25 4 61 ze4.und 2 (fun w=>kR) ⟨vb,0,none⟩ ⟨g,(i+1) * 2,none⟩ 1 1 lb cb hne 61 61 2 _ (by unfold World.shape?;rw [show w.heap[vb]? = _ from hv];rfl) (by unfold World.shape?;rw [show w.heap[g]? = _ from hb]) hkB (by rw [zdu,hv];simp [zov]) (by rw [zdu,hv];simp [zov])]
  rfl
 have hE1l:E1.length=i * 2:=hE
 have hX:x.cells.toList.length=2:=rfl
 have hXo:∀ u ∈ x.cells.toList,u.oneCell'=true:=fun u hu=>(Array.all_eq_true_iff_forall_mem.1 (SCell.one x)) u (by simpa using hu)
 have A1:Aside (blk w g=some (.cells (E1++(Y++(B++C))).toArray 61)):=hb
 have AX:Aside (blk w vb=some (.cells x.cells 61)):=hv
 have hcp1:Aside (∀ (wq:World) (ty dc sc),blk wq g=some (.cells (E1++(Y++(B++C))).toArray 61)->(Builtin.copy_ #[25,25] ty #[.slice (some ⟨g,(i+1) * 2,none⟩) (M.length-i) dc,.slice (some ⟨g,i * 2,none⟩) (M.length+1-i) sc]).run prog wq=.ok (goInt (M.length-i:Nat)) (zai wq g (E1++(Y++(E2++C))).toArray 61)):=by
  intro wq ty dc sc hq
  have hmin:Nat.min (M.length+1-i) (M.length-i)=M.length-i:=by simp only [Nat.min_def];split<;>omega
  have:=zfd (P:=prog) 2 wq 25 25 ty 61 g ((i+1) * 2) (M.length-i) dc ⟨g,i * 2,none⟩ (M.length+1-i) sc _ _ E2 ze4.und kR hq (by rw [hmin,hE2l]) (fun j v hj=>by
   rw [Addr.add_lit,za2,hq]
   have hjl:j<E2.length:=(List.getElem?_eq_some_iff.1 hj).1
   simp only [zgd,List.getElem?_toArray]
   rw [List.getElem?_append_right oM,hE1l,Nat.add_sub_cancel_left,<- List.append_assoc,List.getElem?_append_left (by simp [hY,hB];omega)]
   rw [hEY,List.getElem?_take] at hj
   split at hj
   ·exact hj
   ·cases hj) (by simp [hE1l,hE2l,hY,hB];omega) hE2o
  rw [this,hmin]
  congr 2
  have e:=zf4 (E1++Y) B C E2 (by rw [hE2l,hB])
  have e2:(E1++Y).length=(i+1) * 2:=by rw [List.length_append,hE1l,hY];omega
  rw [e2] at e
  simp only [List.append_assoc] at e ⊢
  rw [e]
 have hcp2:Aside (∀ (wq:World) (ty dc sc),blk wq g=some (.cells (E1++(Y++(E2++C))).toArray 61)->blk wq vb=some (.cells x.cells 61)->(Builtin.copy_ #[25,25] ty #[.slice (some ⟨g,i * 2,none⟩) (M.length+1-i) dc,.slice (some ⟨vb,0,none⟩) 1 sc]).run prog wq=.ok (goInt (1:Nat)) (zai wq g (E1++(x.cells.toList++(E2++C))).toArray 61)):=by
  intro wq ty dc sc hq hqv
  have hmin:Nat.min 1 (M.length+1-i)=1:=by simp only [Nat.min_def];split<;>omega
  have:=zfd (P:=prog) 2 wq 25 25 ty 61 g (i * 2) (M.length+1-i) dc ⟨vb,0,none⟩ 1 sc _ _ x.cells.toList ze4.und kR hq (by rw [hmin];rfl) (fun j v hj=>by
   rw [Addr.add_lit,za2,hqv,Nat.zero_add]
   simpa [zgd] using hj) (by simp [hE1l,hX,hY]<;>omega) hXo
  rw [this,hmin]
  congr 2
  have e:=zf4 E1 Y (E2++C) x.cells.toList (by rw [hX,hY])
  rw [hE1l] at e
  simp only [List.append_assoc] at e ⊢
  rw [e]
 have hnew:encL SCell.cells (M.take i++x::M.drop i)=E1++(x.cells.toList++E2):=by rw [zek,ze5,hE1,hE2]
 have FIN:Aside (∀ W:World,blk W g=some (.cells (E1++(x.cells.toList++(E2++C))).toArray 61)->Below lo w W->zge lo (M.take i++x::M.drop i) w (.returned (.slice (some ⟨g,0,none⟩) (M.length+1) c)) W):=by
  intro W hW hBW
  have hlen:(M.take i++x::M.drop i).length=M.length+1:=by rw [List.length_append,List.length_cons,List.length_take,List.length_drop];omega
  refine ⟨⟨some ⟨g,0,none⟩,M.length+1,c⟩,rfl,?_,hBW⟩
  have:=Row.of_blk (lo:=lo) (hi:=W.heap.size) (enc:=SCell.cells) (k:=2) (L:=M.take i++x::M.drop i) (cap:=c) hW hlo (zaa hW).2.2 (by rw [hlen];exact hroom) hm (by
   have:=hs
   simp only [List.size_toArray,List.length_append,hE1l,hY,hB,hX,hE2l] at this ⊢
   omega) (by
   rw [hnew,hlen]
   have e:(M.length+1) * 2=(E1++(x.cells.toList++E2)).length:=by rw [List.length_append,List.length_append,hE1l,hX,hE2l];omega
   rw [e]
   have e2:(E1++(x.cells.toList++(E2++C)))=(E1++(x.cells.toList++E2))++C:=by simp
   show (E1++(x.cells.toList++(E2++C))).take _=_
   rw [e2,List.take_left]) (fun _=>rfl)
  rw [hlen] at this
  exact this
 have q1:∀ d os,blk (Go.Sort.grow (redrawn w d) os) g=some (.cells (E1++(Y++(B++C))).toArray 61):=fun d os=>((below_regrown w d os).block g hsz).trans hb
 clear hcur hE2 hE1 hT hEY hE2o hb hs ht hnew hE hE2l hE1l hX hXo hY hB h hkB hne
 have f1:¬((i:Int)=(M.length:Int)):=oM
 have f2:((i:Int)==(M.length:Int))=false:=by rw [beq_eq_false_iff_ne];exact f1
 have f3:i<=M.length:=oM
 have f4:i≠c:=oM
 have f5:c≠i+1:=oM
 have f6:IntKind.i64.wrap ((i:Int)+1)=(i:Int)+1:=by rw [IntKind.wrap_i64];omega
 have f7:(0:Int)<=(i:Int)+1:=oM
 have f8:(i:Int)+1<=(M.length:Int)+1:=oM
 have f9:c≠i:=oM
 have f10:(i:Int)<=(M.length:Int)+1:=oM
 go_enter func116,ntmps116
 go_wp2_with (simp only [hov])
 refine zad 8 kR kR ?_
 simp only [tkd]
 repeat (quiet_step (fail))
 refine wpQuiet_nil ?_
 intro wq hwq
 have hBq:Aside (Below w.heap.size w wq):=by obtain ⟨p,rfl⟩:=hwq;exact below_regrown _ _ _
 have hgq:Aside (blk wq g=some (.cells (E1++(Y++(B++C))).toArray 61)):=(hBq.out.block g hsz).trans A1.out
 have hxq:Aside (blk wq vb=some (.cells x.cells 61)):=(hBq.out.block vb (zaa hv).2.2).trans hv
 clear hwq q1 hv
 have HZ:Aside (g<wq.heap.size):=(zaa hgq.out).2.2
 refine zeo _ rfl _ _ 25 25 rfl _ _ rfl rfl (hcp1.out _ _ _ _ hgq.out) ?_
 go_wp2_with (refine zeo _ rfl _ _ 25 25 rfl _ _ rfl rfl (hcp2.out _ _ _ _ (blk_setBlk_same _ _ _ _ HZ.out) ((blk_setBlk_other _ _ _ _ _ HV.out).trans hxq.out)) ?_)
 go_ret
 refine FIN.out _ (blk_setBlk_same _ _ _ _ HZ.out) ?_
 exact zae (hBq.out.mono (Nat.le_of_lt (Nat.lt_of_le_of_lt hlo hsz))) hlo
end
section
open Go.RowKit
theorem ztv:∀ (M:List SCell) (a:Int),(∀ j,∀ hj:j<M.length,M[j].at_≠a)->getC M a=0
 | [],_,_=>rfl
 | c::r,a,h=>by
  have h0:c.at_≠a:=h 0 sI
  have hr:∀ j,∀ hj:j<r.length,r[j].at_≠a:=fun j hj=>by have:=h (j+1) (by simpa using hj);simpa using this
  have ha:(r.any fun d=>d.at_==a)=false:=by
   rw [List.any_eq_false]
   intro d hd
   obtain ⟨j,hj,rfl⟩:=List.getElem_of_mem hd
   simpa using hr j hj
  unfold getC
  rw [ha,if_neg sI,if_neg h0]
theorem znj:∀ (M:List SCell) (a:Int) (i:Nat) (hi:i<M.length),M[i].at_=a->(∀ j,∀ hj:j<M.length,i<j->M[j].at_≠a)->getC M a=M[i].val
 | [],_,i,hi,_,_=>by simp at hi
 | c::r,a,0,hi,h,hn=>by
  have ha:(r.any fun d=>d.at_==a)=false:=by
   rw [List.any_eq_false]
   intro d hd
   obtain ⟨j,hj,rfl⟩:=List.getElem_of_mem hd
   have:=hn (j+1) (by simpa using hj) oM
   simpa using this
  unfold getC
  rw [ha,if_neg sI,if_pos (by simpa using h)]
  rfl
 | c::r,a,i+1,hi,h,hn=>by
  have hi':i<r.length:=by simpa using hi
  have ha:(r.any fun d=>d.at_==a)=true:=by
   rw [List.any_eq_true]
   exact ⟨r[i],List.getElem_mem hi',by simpa using h⟩
  unfold getC
  rw [ha,if_pos rfl]
  have:=znj r a i hi' (by simpa using h) (fun j hj hij=>by have:=hn (j+1) (by simpa using hj) oM;simpa using this)
  simpa using this
theorem ztx {lo hi:Nat} {s:Sl} {M:List SCell} (a:Int) (w:World) (h:Row w lo hi 61 2 SCell.cells s M) (hL:M.length<=1000000) :
  Calls prog 18 #[.slice s.p s.n s.c,.int .u16 a] w fun e w'=>e=.returned (.int .u8 (getC M a))/\w=w':=by
 have hn:=h.len
 obtain ⟨p,n,c⟩:=s
 dsimp only at hn
 subst hn
 have H:Aside (Row w lo hi 61 2 SCell.cells ⟨p,M.length,c⟩ M):=h
 clear h
 go_enter func18,ntmps18
 go_wp2_with fail
 go_loopg [5] M.length (fun kx s5 wr=>∃ k:Nat,s5=.int .i64 ((k:Int)-1)/\k<=M.length/\k<=kx/\wr=w/\Aside (∀ j,∀ hj:j<M.length,k<=j->M[j].at_≠a))
 case atStart=>exact ⟨M.length,rfl,oM,oM,rfl,(fun j hj h=>by omega:∀ j,∀ hj:j<M.length,M.length<=j->M[j].at_≠a)⟩
 case round=>
  obtain ⟨k,rfl,hk,hkx,rfl,hI⟩:=hrel
  by_cases hk0:k=0
  ·subst hk0
   have hg:=ztv M a (fun j hj=>hI.out j hj oM)
   have HG:=hid hg
   clear hg
   go_wp2_with fail
   go_ret
   exact ⟨by rw [HG.out];rfl,rfl⟩
  ·obtain ⟨j,rfl⟩:∃ j,k=j+1:=⟨k-1,oM⟩
   have hlt:j<M.length:=oM
   have e1:((j+1:Nat):Int)-1=(j:Int):=oM
   rw [e1]
   obtain ⟨g,hp,_,_,_,hc⟩:=H.out.fld (fun _=>rfl) j hlt
   dsimp only at hp
   subst hp
   obtain ⟨⟨ra,rv⟩,hr⟩:∃ r,M[j]=r:=⟨_,rfl⟩
   rw [hr] at hc
   have c0:wr.cell? ⟨g,j * 2,none⟩=some (.int .u16 ra):=hc 0 oM
   have c1:wr.cell? ⟨g,j * 2+1,none⟩=some (.int .u8 rv):=hc 1 oM
   have R:Aside (M[j]=⟨ra,rv⟩):=hr
   clear hr hc e1
   by_cases ha:ra=a
   ·have hb:(ra==a)=true:=beq_iff_eq.2 ha
    have hg:getC M a=rv:=by rw [znj M a j hlt (by rw [R.out];exact ha) (fun i hi hij=>hI.out i hi oM),R.out]
    have HG:=hid hg
    clear hg ha
    go_wp2_with fail
    go_ret
    exact ⟨by rw [HG.out];rfl,rfl⟩
   ·have hb:(ra==a)=false:=beq_eq_false_iff_ne.2 ha
    have HA:=hid ha
    clear ha
    go_wp2_with fail
    go_roundg j
    case measure=>omega
    case rel=>exact ⟨j,by simp,oM,oM,rfl,(fun i hi hij=>by
     by_cases e:i=j
     ·subst e;rw [R.out];exact HA.out
     ·exact hI.out i hi oM:∀ i,∀ hi:i<M.length,j<=i->M[i].at_≠a)⟩
end
end Go.Proofs.YtlmbamdkklkliaaGreat
