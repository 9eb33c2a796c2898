/- Part of the proof that a law holds at every input. No conditions. -/
import Derived.Deep.AppendLies
import Derived.Deep.DeepCutAuto
import Derived.Test.YtlmbamdkklkliaaGreatK46
namespace Go.Proofs.YtlmbamdkklkliaaGreat
set_option linter.unusedVariables false
set_option linter.unusedSimpArgs false
set_option linter.unusedSectionVars false
set_option maxRecDepth 100000
set_option maxHeartbeats 16000000
open Go.Proofs.Tryz
open Lib (hid)
open Go.IntWalk (iteOmega)
section
open Go.RowKit
theorem zs5 {α:Type} (W:List α) (m:Nat) (h:2+m<=W.length):∃ Y B C,W=Y++(B++C)/\Y.length=2/\B.length=m:=
 ⟨W.take 2,(W.drop 2).take m,(W.drop 2).drop m,by rw [List.take_append_drop,List.take_append_drop],by simp;omega,by simp;omega⟩
section
variable {lo hi:Nat} {s:Sl} {M:List SCell} (i:Nat) (x:SCell) (vb:Nat) (w:World) (h:Row w lo hi 61 2 SCell.cells s M) (hL:M.length<=900000) (hv:blk w vb=some (.cells x.cells 61))
include lo hi s M i x vb w h hL hv
theorem zos (hi':i<M.length) (hfull:s.c<=M.length) (hlo:lo<=w.heap.size) :
  Calls prog 116 #[.slice s.p s.n s.c,.int .i64 i,.slice (some ⟨vb,0,none⟩) 1 1] w (zge lo (M.take i++x::M.drop i) w):=by
 obtain ⟨g,cur,hp,_,hhi,hsz,hb,hc,hm,hs,ht⟩:=h.at oM
 have hn:=h.len
 obtain ⟨p,n,c⟩:=s
 dsimp only at hn hc hp hfull hm hs ⊢
 subst hn
 subst hp
 obtain rfl:c=M.length:=oM
 obtain ⟨E1,hE1⟩:∃ E,encL SCell.cells (M.take i)=E:=⟨_,rfl⟩
 obtain ⟨E2,hE2⟩:∃ E,encL SCell.cells (M.drop i)=E:=⟨_,rfl⟩
 have hT:=zin (enc:=SCell.cells) (k:=2) (fun _=>rfl) M i oM
 rw [hE1,hE2] at hT
 have hE1l:E1.length=i * 2:=by rw [<- hE1,zcc (k:=2) (fun _=>rfl),List.length_take];omega
 have hE2l:E2.length=(M.length-i) * 2:=by rw [<- hE2,zcc (k:=2) (fun _=>rfl),List.length_drop]
 have hE2o:∀ u ∈ E2,u.oneCell'=true:=by rw [<- hE2];exact zmi SCell.one _
 have hX:x.cells.toList.length=2:=rfl
 have hXo:∀ u ∈ x.cells.toList,u.oneCell'=true:=fun u hu=>(Array.all_eq_true_iff_forall_mem.1 (SCell.one x)) u (by simpa using hu)
 have hcl:cur.toList=E1++E2:=by
  have h1:cur.toList.length=M.length * 2:=by simpa using hs
  rw [List.take_of_length_le oM] at ht
  rw [ht,<- hT.1,<- hT.2,List.take_append_drop]
 obtain rfl:cur=(E1++E2).toArray:=by rw [<- hcl]
 obtain ⟨ti,tz,hi0,hz0,hsz0,hby0,hzs0⟩:=ze4.info
 obtain ⟨G,hG⟩:∃ G,grownCap w (M.length+1) M.length 61=G:=⟨_,rfl⟩
 have hGn:M.length+1<=G:=by rw [<- hG];exact grownCap_ge w _ _ _
 have hGm:G<=maxLen:=by rw [<- hG];exact grownCap_le_maxLen w _ _ _ (by unfold maxLen;omega)
 have hik:i+(M.length+1-i)=M.length+1:=oM
 have hold:(Builtin.firstCells ti.size i (.slice (some ⟨g,0,none⟩) i M.length)).run prog w.drew=.ok E1.toArray w.drew:=by
  rw [hsz0]
  exact run_firstCells_some w.drew 2 i ⟨g,0,none⟩ i M.length E1 hE1l (fun j v hj=>by
   rw [Addr.add_lit,Nat.zero_add]
   show w.cell? _=_
   rw [za2,hb]
   have hjl:=(List.getElem?_eq_some_iff.1 hj).1
   simp only [zgd,List.getElem?_toArray]
   rw [List.getElem?_append_left hjl]
   exact hj)
 obtain ⟨Y,B,C,hW,hY,hB⟩:=zs5 ((Builtin.zeroCells tz.cells (M.length+1-i)++Builtin.zeroCells tz.cells (G-(M.length+1))).toList) ((M.length-i) * 2) (by simp [Builtin.zeroCells,hzs0];omega)
 have hCl:C.length=(G-(M.length+1)) * 2:=by
  have:=congrArg List.length hW
  simp [Builtin.zeroCells,hzs0,hY,hB] at this
  omega
 have hrow:(E1.toArray++Builtin.zeroCells tz.cells (M.length+1-i)++Builtin.zeroCells tz.cells (G-(M.length+1)))=(E1++(Y++(B++C))).toArray:=by
  apply Array.toList_inj.1
  rw [<- hW]
  simp
 have hrz:∀ ty,(Builtin.append_ #[25,3] ty #[.slice (some ⟨g,0,none⟩) i M.length,.int .i64 ((M.length:Int)+1-(i:Int))]).run prog w=.ok (.slice (some ⟨w.heap.size,0,none⟩) (M.length+1) G) (w.drew.alloc (.cells (E1++(Y++(B++C))).toArray 61)):=fun ty=>by
  have hfit:(M.length+1) * ti.bytes<=140737488355328:=Nat.le_trans (Nat.mul_le_mul (by omega:M.length+1<=1000000) hby0) dC
  have hf2:(M.length+1-i) * ti.bytes<=281474976710656:=Nat.le_trans (Nat.mul_le_mul (by omega:M.length+1-i<=1000000) hby0) dC
  have h1:=Lib.run_append_grow_zeros (P:=prog) w 25 3 ty 61 ti tz .i64 .i64 ze4.und kR hi0 hz0 (some ⟨g,0,none⟩) i M.length E1 hold (M.length+1-i) oM oM oM oM hf2 (by rw [hik];exact growslice_fits oM hfit)
  rw [hik,hG,hrow] at h1
  rw [show (M.length:Int)+1-(i:Int)=((M.length+1-i:Nat):Int) by omega]
  exact h1
 obtain ⟨N,hN⟩:∃ N,w.heap.size=N:=⟨_,rfl⟩
 obtain ⟨W1,hW1⟩:∃ W1,w.drew.alloc (.cells (E1++(Y++(B++C))).toArray 61)=W1:=⟨_,rfl⟩
 rw [hW1,hN] at hrz
 have BW:Aside (Below N w W1):=by
  show Below N w W1
  rw [<- hW1,<- hN];exact (Below.drew (Below.refl _ _)).alloc nL _
 have F1:Aside (blk W1 N=some (.cells (E1++(Y++(B++C))).toArray 61)):=by
  show blk W1 N=_
  rw [<- hW1];exact zab _ _ _ hN.symm
 have FX:Aside (blk W1 vb=some (.cells x.cells 61)):=(BW.out.block vb (by rw [<- hN];exact (zaa hv).2.2)).trans hv
 have FG:Aside (blk W1 g=some (.cells (E1++E2).toArray 61)):=(BW.out.block g (by rw [<- hN];exact hsz)).trans hb
 have HNv:Aside (vb≠N/\g≠N/\N<W1.heap.size/\lo<=N):=⟨by have:=(zaa hv).2.2;omega,oM,(zaa F1.out).2.2,oM⟩
 have hcp1:Aside (∀ (ty:TypeId) (dc sc),(Builtin.copy_ #[25,25] ty #[.slice (some ⟨N,i * 2,none⟩) (M.length+1-i) dc,.slice (some ⟨vb,0,none⟩) 1 sc]).run prog W1=.ok (goInt (1:Nat)) (zai W1 N (E1++(x.cells.toList++(B++C))).toArray 61)):=by
  intro ty dc sc
  have hmin:Nat.min 1 (M.length+1-i)=1:=by simp only [Nat.min_def];split<;>omega
  have:=zfd (P:=prog) 2 W1 25 25 ty 61 N (i * 2) (M.length+1-i) dc ⟨vb,0,none⟩ 1 sc _ _ x.cells.toList ze4.und kR F1.out (by rw [hmin];rfl) (fun j v hj=>by
   rw [Addr.add_lit,za2,FX.out,Nat.zero_add]
   simpa [zgd] using hj) (by simp [hE1l,hX,hY]<;>omega) hXo
  rw [this,hmin]
  congr 2
  have e:=zf4 E1 Y (B++C) x.cells.toList (by rw [hX,hY])
  rw [hE1l] at e
  simp only [List.append_assoc] at e ⊢
  rw [e]
 have hcp2:Aside (∀ (wq:World) (ty dc sc),blk wq N=some (.cells (E1++(x.cells.toList++(B++C))).toArray 61)->blk wq g=some (.cells (E1++E2).toArray 61)->(Builtin.copy_ #[25,25] ty #[.slice (some ⟨N,(i+1) * 2,none⟩) (M.length-i) dc,.slice (some ⟨g,i * 2,none⟩) (M.length-i) sc]).run prog wq=.ok (goInt (M.length-i:Nat)) (zai wq N (E1++(x.cells.toList++(E2++C))).toArray 61)):=by
  intro wq ty dc sc hq hqg
  have hmin:Nat.min (M.length-i) (M.length-i)=M.length-i:=by simp only [Nat.min_def];split<;>omega
  have:=zfd (P:=prog) 2 wq 25 25 ty 61 N ((i+1) * 2) (M.length-i) dc ⟨g,i * 2,none⟩ (M.length-i) sc _ _ E2 ze4.und kR hq (by rw [hmin,hE2l]) (fun j v hj=>by
   rw [Addr.add_lit,za2,hqg]
   simp only [zgd,List.getElem?_toArray]
   rw [List.getElem?_append_right oM,hE1l,Nat.add_sub_cancel_left]
   exact hj) (by simp only [List.size_toArray,List.length_append,hE1l,hE2l,hX,hB];omega) hE2o
  rw [this,hmin]
  congr 2
  have e:=zf4 (E1++x.cells.toList) B C E2 (by rw [hE2l,hB])
  have e2:(E1++x.cells.toList).length=(i+1) * 2:=by rw [List.length_append,hE1l,hX];omega
  rw [e2] at e
  simp only [List.append_assoc] at e ⊢
  rw [e]
 have hnew:encL SCell.cells (M.take i++x::M.drop i)=E1++(x.cells.toList++E2):=by rw [zek,ze5,hE1,hE2]
 have FIN:Aside (∀ W:World,blk W N=some (.cells (E1++(x.cells.toList++(E2++C))).toArray 61)->Below lo w W->zge lo (M.take i++x::M.drop i) w (.returned (.slice (some ⟨N,0,none⟩) (M.length+1) G)) W):=by
  intro W hW hBW
  have hlen:(M.take i++x::M.drop i).length=M.length+1:=by rw [List.length_append,List.length_cons,List.length_take,List.length_drop];omega
  refine ⟨⟨some ⟨N,0,none⟩,M.length+1,G⟩,rfl,?_,hBW⟩
  have:=Row.of_blk (lo:=lo) (hi:=W.heap.size) (enc:=SCell.cells) (k:=2) (L:=M.take i++x::M.drop i) (cap:=G) hW oM (zaa hW).2.2 (by rw [hlen];exact hGn) hGm (by
   simp only [List.size_toArray,List.length_append,hE1l,hX,hE2l,hCl]
   omega) (by
   rw [hnew,hlen]
   have e:(M.length+1) * 2=(E1++(x.cells.toList++E2)).length:=by rw [List.length_append,List.length_append,hE1l,hX,hE2l];omega
   rw [e]
   have e2:(E1++(x.cells.toList++(E2++C)))=(E1++(x.cells.toList++E2))++C:=by simp
   show (E1++(x.cells.toList++(E2++C))).take _=_
   rw [e2,List.take_left]) (fun _=>rfl)
  rw [hlen] at this
  exact this
 have f1:¬((i:Int)=(M.length:Int)):=oM
 have f2:((i:Int)==(M.length:Int))=false:=by rw [beq_eq_false_iff_ne];exact f1
 have f3:i<=M.length:=oM
 have f4:M.length≠i:=oM
 have f6:IntKind.i64.wrap ((i:Int)+1)=(i:Int)+1:=by rw [IntKind.wrap_i64];omega
 have f7:(0:Int)<=(i:Int)+1:=oM
 have f8:(i:Int)+1<=(M.length:Int)+1:=oM
 have f9:G≠i:=oM
 have f10:G≠i+1:=oM
 have f11:(i:Int)<=(M.length:Int)+1:=oM
 clear hE2 hE1 hT hE2o hb hs ht hnew hE2l hE1l hX hXo hY hB h hcl hi0 hz0 hsz0 hby0 hzs0 hG hold hrow hCl hW hW1 hN hv hGn hGm hik
 go_enter func116,ntmps116
 go_wp2_with (first|(at_builtin;refine Lib.wpList_append_run _ rfl _ _ _ _ rfl _ _ rfl rfl _ _ (hrz _) ?_)|(refine zeo _ rfl _ _ 25 25 rfl _ _ rfl rfl (hcp1.out _ _ _) ?_))
 refine wpNm (fun W hW=>?_)
 have G1:Aside (blk W N=some (.cells (E1++(x.cells.toList++(B++C))).toArray 61)):=by show blk W N=_;rw [hW];exact blk_setBlk_same _ _ _ _ HNv.out.2.2.1
 have G2:Aside (blk W g=some (.cells (E1++E2).toArray 61)):=by show blk W g=_;rw [hW];exact (blk_setBlk_other _ _ _ _ _ HNv.out.2.1).trans FG.out
 have G3:Aside (Below lo w W):=by show Below lo w W;rw [hW];exact zae (BW.out.mono HNv.out.2.2.2) HNv.out.2.2.2
 clear hW
 refine zad 8 kR kR ?_
 simp only [tkd]
 repeat (quiet_step (fail))
 refine wpQuiet_nil ?_
 intro wq hwq
 have hBq:Below W.heap.size W wq:=by obtain ⟨p,rfl⟩:=hwq;exact below_regrown _ _ _
 have Q1:Aside (blk wq N=some (.cells (E1++(x.cells.toList++(B++C))).toArray 61)):=(hBq.block N (zaa G1.out).2.2).trans G1.out
 have Q2:Aside (blk wq g=some (.cells (E1++E2).toArray 61)):=(hBq.block g (zaa G2.out).2.2).trans G2.out
 have Q3:Aside (Below lo w wq):=zaf hBq G3.out (Nat.le_trans (Nat.le_of_lt (Nat.lt_of_le_of_lt HNv.out.2.2.2 (zaa G1.out).2.2)) nL)
 clear hwq hBq
 refine zeo _ rfl _ _ 25 25 rfl _ _ rfl rfl (hcp2.out _ _ _ _ Q1.out Q2.out) ?_
 go_wp2_with fail
 go_ret
 refine FIN.out _ (blk_setBlk_same _ _ _ _ (zaa Q1.out).2.2) ?_
 exact zae Q3.out HNv.out.2.2.2
theorem zrh (hvb:hi<=vb) (hi':i<=M.length) (hlo:lo<=w.heap.size) :
  Calls prog 116 #[.slice s.p s.n s.c,.int .i64 i,.slice (some ⟨vb,0,none⟩) 1 1] w (zge lo (M.take i++x::M.drop i) w):=by
 rcases Nat.lt_or_ge i M.length with h1|h1
 ·rcases Nat.lt_or_ge M.length s.c with h2|h2
  ·exact zor i x vb w h hL hv hvb h1 h2
  ·exact zos i x vb w h hL hv h1 h2 hlo
 ·obtain rfl:i=M.length:=oM
  have:=zrg x vb w h hL hlo hv
  rw [List.take_length,List.drop_length]
  exact this
end

end
section
open Go.RowKit
theorem zrv {lo hi:Nat} {s:Sl} {M:List SCell} (i:Nat) (w:World) (h:Row w lo hi 61 2 SCell.cells s M) (hL:M.length<=900000) (hi':i<M.length) :
  Calls prog 115 #[.slice s.p s.n s.c,.int .i64 i,.int .i64 ((i:Int)+1)] w (zge lo (M.take i++M.drop (i+1)) w):=by
 obtain ⟨g,cur,hp,hlo,hhi,hsz,hb,hc,hm,hs,ht⟩:=h.at oM
 have hn:=h.len
 obtain ⟨p,n,c⟩:=s
 dsimp only at hn hc hp hm hs ⊢
 subst hn
 subst hp
 obtain ⟨E1,hE1⟩:∃ E,encL SCell.cells (M.take i)=E:=⟨_,rfl⟩
 obtain ⟨E3,hE3⟩:∃ E,encL SCell.cells (M.drop (i+1))=E:=⟨_,rfl⟩
 have hT:=zin (enc:=SCell.cells) (k:=2) (fun _=>rfl) M i oM
 have hT3:=zin (enc:=SCell.cells) (k:=2) (fun _=>rfl) M (i+1) oM
 have hE1l:E1.length=i * 2:=by rw [<- hE1,zcc (k:=2) (fun _=>rfl),List.length_take];omega
 have hE3l:E3.length=(M.length-(i+1)) * 2:=by rw [<- hE3,zcc (k:=2) (fun _=>rfl),List.length_drop]
 have hE3o:∀ u ∈ E3,u.oneCell'=true:=by rw [<- hE3];exact zmi SCell.one _
 have hcl:cur.toList.length=c * 2:=by simpa using hs
 have ht1:cur.toList.take (i * 2)=E1:=by rw [<- hE1,<- hT.1,<- ht,List.take_take,Nat.min_eq_left oM]
 have ht3:(cur.toList.take (M.length * 2)).drop ((i+1) * 2)=E3:=by rw [<- hE3,<- hT3.2,<- ht]
 obtain ⟨ti,tz,hi0,hz0,hsz0,hby0,hzs0⟩:=ze4.info
 obtain ⟨D2,D,hD,hD2⟩:∃ D2 D,cur.toList.drop (i * 2+E3.length)=D2++D/\D2.length=2:=⟨(cur.toList.drop (i * 2+E3.length)).take 2,(cur.toList.drop (i * 2+E3.length)).drop 2,(List.take_append_drop _ _).symm,by simp;omega⟩
 have hDl:D.length=c * 2-M.length * 2:=by
  have:=congrArg List.length hD
  simp only [List.length_drop,List.length_append,hD2,hE3l] at this
  omega
 have hap:Aside (∀ (wq:World) (ty:TypeId) (o d:Nat),blk wq g=some (.cells cur 61)->(o=(i+1) * 2\/i+1=M.length)->(Builtin.append_ #[25,25] ty #[.slice (some ⟨g,0,none⟩) i c,.slice (some ⟨g,o,none⟩) (M.length-(i+1)) d]).run prog wq=.ok (.slice (some ⟨g,0,none⟩) (M.length-1) c) (zai wq g (E1++(E3++(D2++D))).toArray 61)):=by
  intro wq ty o d hq ho
  have:=run_append_room (P:=prog) wq 25 ty 61 ti ze4.und hi0 g i c cur hq ⟨g,o,none⟩ (M.length-(i+1)) d E3 (by rw [hsz0,hE3l]) (fun j u hj=>by
   have hjl:j<E3.length:=(List.getElem?_eq_some_iff.1 hj).1
   rcases ho with rfl|ho
   ·rw [Addr.add_lit,za2,hq]
    simp only [zgd]
    rw [<- ht3,List.getElem?_drop,List.getElem?_take] at hj
    split at hj
    ·simpa using hj
    ·cases hj
   ·omega) hE3o oM (by rw [hsz0,hE3l];omega)
  rw [this,hsz0,ziw hq,ht1,hD]
  congr 2
  ·congr 1;omega
  ·simp
 have hcr:Aside (∀ (wq:World),blk wq g=some (.cells (E1++(E3++(D2++D))).toArray 61)->∃ Z:List Value,Z.length=2/\∀ (ty:TypeId) (d:Nat),(Builtin.clear_ #[25] ty #[.slice (some ⟨g,(M.length-1) * 2,none⟩) 1 d]).run prog wq=.ok (.tuple #[]) (zai wq g (E1++(E3++(Z++D))).toArray 61)):=by
  intro wq hq
  have hz:∀ w,(zeroValue 61).run prog w=.ok (.agg SCell.zero.cells) w:=SCell.zeroValue
  refine ⟨(Builtin.zeroCells (Value.agg SCell.zero.cells).cells 1).toList,kR,fun ty d=>?_⟩
  have:=zkw (P:=prog) 2 1 wq 25 61 ty (.agg SCell.zero.cells) ze4.und hz rfl (by intro v hv;exact (Array.all_eq_true_iff_forall_mem.1 (show (Builtin.zeroCells (Value.agg SCell.zero.cells).cells 1).all (fun v=>v.oneCell')=true by kernel_rfl)) v (by simpa using hv)) g ((M.length-1) * 2) d oM _ _ hq (by simp only [List.size_toArray,List.length_append,hE1l,hE3l,hD2,hDl];omega)
  rw [this]
  congr 2
  have e:=zf4 (E1++E3) D2 D (Builtin.zeroCells (Value.agg SCell.zero.cells).cells 1).toList (by rw [hD2];kernel_rfl)
  have e2:(E1++E3).length=(M.length-1) * 2:=by rw [List.length_append,hE1l,hE3l];omega
  have hz2:(Builtin.zeroCells (Value.agg SCell.zero.cells).cells 1).toList.length=1 * 2:=kR
  rw [e2,hz2] at e
  simp only [List.append_assoc] at e ⊢
  exact congrArg List.toArray e
 have hnew:encL SCell.cells (M.take i++M.drop (i+1))=E1++E3:=by rw [zek,hE1,hE3]
 have FIN:Aside (∀ (W:World) (Z:List Value),Z.length=2->blk W g=some (.cells (E1++(E3++(Z++D))).toArray 61)->Below lo w W->zge lo (M.take i++M.drop (i+1)) w (.returned (.slice (some ⟨g,0,none⟩) (M.length-1) c)) W):=by
  intro W Z hZ hW hBW
  have hlen:(M.take i++M.drop (i+1)).length=M.length-1:=by rw [List.length_append,List.length_take,List.length_drop];omega
  refine ⟨⟨some ⟨g,0,none⟩,M.length-1,c⟩,rfl,?_,hBW⟩
  have:=Row.of_blk (lo:=lo) (hi:=W.heap.size) (enc:=SCell.cells) (k:=2) (L:=M.take i++M.drop (i+1)) (cap:=c) hW hlo (zaa hW).2.2 (by rw [hlen];omega) hm (by
   simp only [List.size_toArray,List.length_append,hE1l,hE3l,hZ,hDl]
   omega) (by
   rw [hnew,hlen]
   have e:(M.length-1) * 2=(E1++E3).length:=by rw [List.length_append,hE1l,hE3l];omega
   rw [e]
   show (E1++(E3++(Z++D))).take _=_
   rw [<- List.append_assoc,List.take_left]) (fun _=>rfl)
  rw [hlen] at this
  exact this
 have A1:Aside (blk w g=some (.cells cur 61)):=hb
 clear hE1 hE3 hT hT3 hE1l hE3l hE3o hcl ht1 ht3 hi0 hz0 hsz0 hby0 hzs0 hD hD2 hDl hnew hb hs ht h
 have f1:((i:Int)==(i:Int)+1)=false:=by rw [beq_eq_false_iff_ne];omega
 have f2:(0:Int)<=(i:Int)+1:=oM
 have f3:(i:Int)+1<=(M.length:Int):=oM
 have f4:(i:Int)<=(i:Int)+1:=oM
 have f5:i<=M.length:=oM
 have f6:c≠i:=oM
 have f7:((M.length-1:Nat):Int)=(M.length:Int)-1:=oM
 have f8:M.length<=c:=hc
 have f9:M.length-(M.length-1)=1:=oM
 have f10:i<=c:=oM
 have f11:(i:Int)+1<=(c:Int):=oM
 have f12:i+1<=M.length:=oM
 go_enter func115,ntmps115
 go_wp2_with fail
 by_cases hci:c=i+1
 ·subst hci
  have g0:M.length-(i+1)=0:=oM
  have hap1:Aside (∀ (wq:World) (ty:TypeId),blk wq g=some (.cells cur 61)->(Builtin.append_ #[25,25] ty #[.slice (some ⟨g,0,none⟩) i (i+1),.slice (some ⟨g,0,none⟩) 0 0]).run prog wq=.ok (.slice (some ⟨g,0,none⟩) (M.length-1) (i+1)) (zai wq g (E1++(E3++(D2++D))).toArray 61)):=fun wq ty hq=>by
   have:=hap.out wq ty 0 0 hq (.inr oM)
   rw [g0] at this
   exact this
  clear g0
  have g1:M.length<=i+1:=oM
  go_wp2_with fail
  refine zad 6 kR kR ?_
  simp only [tkd]
  repeat (quiet_step (fail))
  refine wpQuiet_nil ?_
  intro wq hwq
  have hBq:Below w.heap.size w wq:=by obtain ⟨p,rfl⟩:=hwq;exact below_regrown _ _ _
  have Q1:Aside (blk wq g=some (.cells cur 61)):=(hBq.block g hsz).trans A1.out
  have Q2:Aside (Below lo w wq):=hBq.mono (Nat.le_of_lt (Nat.lt_of_le_of_lt hlo hsz))
  clear hwq hBq
  obtain ⟨Z,hZ,hclr⟩:=hcr.out (zai wq g (E1++(E3++(D2++D))).toArray 61) (blk_setBlk_same _ _ _ _ (zaa Q1.out).2.2)
  refine Lib.wpList_append_run _ rfl _ _ 25 25 rfl _ _ rfl rfl _ _ (hap1.out wq _ Q1.out) ?_
  go_wp2_with (refine zgt _ rfl _ 25 rfl _ rfl (hclr _ _) ?_)
  go_ret
  refine FIN.out _ Z hZ (by simp [go_sem,(zaa Q1.out).2.2]) ?_
  exact zae Q2.out hlo
 ·go_wp2_with fail
  refine zad 6 kR kR ?_
  simp only [tkd]
  repeat (quiet_step (fail))
  refine wpQuiet_nil ?_
  intro wq hwq
  have hBq:Below w.heap.size w wq:=by obtain ⟨p,rfl⟩:=hwq;exact below_regrown _ _ _
  have Q1:Aside (blk wq g=some (.cells cur 61)):=(hBq.block g hsz).trans A1.out
  have Q2:Aside (Below lo w wq):=hBq.mono (Nat.le_of_lt (Nat.lt_of_le_of_lt hlo hsz))
  clear hwq hBq
  obtain ⟨Z,hZ,hclr⟩:=hcr.out (zai wq g (E1++(E3++(D2++D))).toArray 61) (blk_setBlk_same _ _ _ _ (zaa Q1.out).2.2)
  refine Lib.wpList_append_run _ rfl _ _ 25 25 rfl _ _ rfl rfl _ _ (hap.out wq _ _ _ Q1.out (.inl rfl)) ?_
  go_wp2_with (refine zgt _ rfl _ 25 rfl _ rfl (hclr _ _) ?_)
  go_ret
  refine FIN.out _ Z hZ (by simp [go_sem,(zaa Q1.out).2.2]) ?_
  exact zae Q2.out hlo
end
section
open Go.RowKit
theorem z1o {M:List SCell} {i:Nat} {a v:Int} (h:M[i]?.map (·.at_)=some a) (hi:i<M.length):M.set i ⟨a,v⟩=M.set i { M[i] with val:=v }:=by
 rw [List.getElem?_eq_getElem hi] at h
 simp only [Option.map_some,Option.some.injEq] at h
 rw [<- h]
theorem zyp {lo hi:Nat} {s:Sl} {M:List SCell} (a v:Int) (w:World) (h:Row w lo hi 61 2 SCell.cells s M) (hM:isMem M=true) (hL:M.length<=800000) (hhi:hi<=w.heap.size) :
  Calls prog 91 #[.slice s.p s.n s.c,.int .u16 a,.int .u8 v] w (zge w.heap.size (putC M a v) w):=by
 have VA:=zk8 w h oM hhi
 rw [hM] at VA
 have SE:Aside (∀ w',Below w.heap.size w w'->Calls prog 112 #[.slice s.p s.n s.c,.int .u16 a,putV] w' fun e w''=>e=.returned (.tuple #[.int .i64 (lbC M a),.bool (zd8 M a)])/\Below w'.heap.size w' w''):=fun w' hB=>zq1 a w' (h.thru hB hhi) hM oM (Nat.le_trans hhi hB.size)
 have CL:Aside (∀ w',Below w.heap.size w w'->Calls prog 28 #[.slice s.p s.n s.c] w' (zft 61 2 SCell.cells M w')):=fun w' hB=>zhn w' (h.thru hB hhi) oM
 have hle:=zxv M a
 have hix:=zsz M a v
 obtain ⟨i,hi'⟩:∃ i,lbC M a=i:=⟨_,rfl⟩
 rw [hi'] at hle hix SE
 have T0:zd8 M a=true->i<M.length/\M[i]?.map (·.at_)=some a:=by
  intro ht
  unfold zd8 at ht
  rw [hi'] at ht
  cases hq:M[i]? with
  | none=>rw [hq] at ht;cases ht
  | some c=>rw [hq] at ht;exact ⟨(List.getElem?_eq_some_iff.1 hq).1,by simpa using ht⟩
 have hw:IntKind.i64.wrap ((i:Int)+1)=(i:Int)+1:=by rw [IntKind.wrap_i64];omega
 clear h hM hi'
 by_cases hv:v=0
 ·subst hv
  cases ht:zd8 M a with
  | false=>
   have P:Aside (putC M a 0=M):=by show putC M a 0=M;rw [hix,ht];simp
   rw [ht] at SE
   clear hix T0 ht
   go_enter func91,ntmps91
   go_wp2_with (first|(go_at_call 60;(refine VA.mono ?_);rintro e w1 ⟨rfl,hB1⟩)|(go_at_call 112;(refine (SE.out _ hB1).mono ?_);rintro e w2 ⟨rfl,hB2⟩;replace hB2:=zaf hB2 hB1 hB1.size)|(go_at_call 28;(refine (CL.out _ hB2).mono ?_);intro e w3 hcl;obtain ⟨s1,rfl,hrow,hB3⟩:=hcl))
   go_ret
   rw [P.out]
   exact ⟨s1,rfl,hrow.lo_mono hB2.size,zaf hB3 hB2 hB2.size⟩
  | true=>
   obtain ⟨hlt,_⟩:=T0 ht
   have P:Aside (putC M a 0=M.take i++M.drop (i+1)):=by show putC M a 0=_;rw [hix,ht];simp
   rw [ht] at SE
   clear hix T0 ht
   go_enter func91,ntmps91
   go_wp2_with (first|(go_at_call 60;(refine VA.mono ?_);rintro e w1 ⟨rfl,hB1⟩)|(go_at_call 112;(refine (SE.out _ hB1).mono ?_);rintro e w2 ⟨rfl,hB2⟩;replace hB2:=zaf hB2 hB1 hB1.size)|(go_at_call 28;(refine (CL.out _ hB2).mono ?_);intro e w3 hcl;obtain ⟨s1,rfl,hrow,hB3⟩:=hcl)|(go_at_call 115;(refine (zrv i _ hrow oM hlt).mono ?_);intro e w4 hdl;obtain ⟨s2,rfl,hrow4,hB4⟩:=hdl))
   go_ret
   rw [P.out]
   exact ⟨s2,rfl,hrow4.lo_mono hB2.size,(zaf hB3 hB2 hB2.size).trans (hB4.mono hB2.size)⟩
 ·have hv0:(v==0)=false:=beq_eq_false_iff_ne.2 hv
  cases ht:zd8 M a with
  | true=>
   obtain ⟨hlt,hat⟩:=T0 ht
   have P:Aside (putC M a v=M.set i { M[i] with val:=v }):=by show putC M a v=_;rw [hix,ht,if_neg hv,if_pos rfl];exact z1o hat hlt
   have HLT:Aside (i<M.length):=hlt
   rw [ht] at SE
   clear hix T0 ht hv hat
   go_enter func91,ntmps91
   go_upto_region 10 with (first|(go_at_call 60;(refine VA.mono ?_);rintro e w1 ⟨rfl,hB1⟩)|(go_at_call 112;(refine (SE.out _ hB1).mono ?_);rintro e w2 ⟨rfl,hB2⟩;replace hB2:=zaf hB2 hB1 hB1.size)|(go_at_call 28;(refine (CL.out _ hB2).mono ?_);intro e w3 hcl;obtain ⟨s1,rfl,hrow,hB3⟩:=hcl))
   obtain ⟨g,cur,hp1,hg1,hg2,hg3,hgb,hgc,hgm,hgs,hgt⟩:=hrow.at oM
   have hn1:=hrow.len
   obtain ⟨p1,n1,c1⟩:=s1
   dsimp only at hp1 hn1 hgc hgm hgs hgt hrow ⊢
   subst hp1
   subst hn1
   have gsz:i * 2+1<cur.size:=oM
   have gfr:w3.frozen? ⟨g,i * 2+1,none⟩=false:=(zaa hgb).2.1 _
   have gce:w3.cell? ⟨g,i * 2+1,none⟩=some cur[i * 2+1]:=by rw [(zaa hgb).1,Array.getElem?_eq_getElem gsz]
   go_wp2_with fail
   go_ret
   rw [P.out]
   have hr:=Row.put hrow (fun _=>rfl) rfl hgb i hlt 1 oM (.int .u8 v) { M[i] with val:=v } rfl
   refine ⟨⟨some ⟨g,0,none⟩,M.length,c1⟩,rfl,(hr.hi_mono (by rw [size_setBlk];exact Nat.le_refl _)).lo_mono hB2.size,?_⟩
   exact zae (zaf hB3 hB2 hB2.size) (Nat.le_trans hB2.size hg1)
  | false=>
   have P:Aside (putC M a v=M.take i++⟨a,v⟩::M.drop i):=by show putC M a v=_;rw [hix,ht,if_neg hv];simp
   rw [ht] at SE
   clear hix T0 ht hv
   go_enter func91,ntmps91
   go_wp2_with (first|(go_at_call 60;(refine VA.mono ?_);rintro e w1 ⟨rfl,hB1⟩)|(go_at_call 112;(refine (SE.out _ hB1).mono ?_);rintro e w2 ⟨rfl,hB2⟩;replace hB2:=zaf hB2 hB1 hB1.size)|(go_at_call 28;(refine (CL.out _ hB2).mono ?_);intro e w3 hcl;obtain ⟨s1,rfl,hrow,hB3⟩:=hcl)|(go_at_call 116;(refine (zrh i ⟨a,v⟩ w3.heap.size _ (hrow.thru ((Below.refl _ w3).alloc nL _) nL) oM (zab _ _ _ rfl) nL hle (by have:=hB3.size;simp;omega)).mono ?_);intro e w4 hdl;obtain ⟨s2,rfl,hrow4,hB4⟩:=hdl))
   go_ret
   rw [P.out]
   exact ⟨s2,rfl,hrow4.lo_mono hB2.size,((zaf hB3 hB2 hB2.size).alloc (Nat.le_trans hB2.size hB3.size) _).trans (hB4.mono hB2.size)⟩
end
section
open Go.RowKit
theorem zsw {lo hi lo' hi':Nat} {s s':Sl} {L:List SRegion} {M:List SCell} (a:Int) (w:World) (h:Row w lo hi 82 4 SRegion.cells s L) (hL:L.length<=1000000) (hhi:hi<=w.heap.size) (h':Row w lo' hi' 61 2 SCell.cells s' M) (hM:M.length<=1000000) (hhi':hi'<=w.heap.size) :
  Calls prog 82 #[.slice s.p s.n s.c,.slice s'.p s'.n s'.c,.int .u16 a] w fun e w'=>e=.returned (.int .u8 (zjj L M a))/\Below w.heap.size w w':=by
 have F:=zmg a w h hL hhi
 have G:Aside (∀ w1,Below w.heap.size w w1->Calls prog 102 #[.slice s'.p s'.n s'.c,.int .u16 a] w1 fun e w'=>e=.returned (.int .u8 (getC M a))/\Below w1.heap.size w1 w'):=fun w1 hB=>zwf a w1 (h'.thru hB hhi') hM (Nat.le_trans hhi' hB.size)
 clear h h'
 cases hf:zhs L a with
 | none=>
  have e1:zh6 L a = -1:=by simp [zh6,hf]
  have e2:zjj L M a=255:=by simp [zjj,hf]
  rw [e1] at F
  rw [e2]
  clear e1 e2 hf
  go_enter func82,ntmps82
  go_wp2_with (go_at_call 90;refine F.mono ?_;rintro e w' ⟨rfl,hB⟩)
  go_ret
  exact ⟨rfl,hB⟩
 | some i=>
  have e1:zh6 L a=(i:Int):=by simp [zh6,hf]
  have e2:zjj L M a=getC M a:=by simp [zjj,hf]
  rw [e1] at F
  rw [e2]
  clear e1 e2 hf
  have e3:decide ((i:Int)<0)=false:=by rw [decide_eq_false_iff_not];omega
  go_enter func82,ntmps82
  go_wp2_with (first|(go_at_call 90;refine F.mono ?_;rintro e w1 ⟨rfl,hB⟩)|(go_at_call 102;(refine (G.out _ hB).mono ?_);rintro e w2 ⟨rfl,hB2⟩))
  go_ret
  exact ⟨rfl,zaf hB2 hB hB.size⟩
theorem zk4 {lo hi lo' hi':Nat} {s s':Sl} {L:List SRegion} {M:List SCell} (a v:Int) (w:World) (h:Row w lo hi 82 4 SRegion.cells s L) (hL:L.length<=1000000) (hhi:hi<=w.heap.size) (h':Row w lo' hi' 61 2 SCell.cells s' M) (hM:isMem M=true) (hML:M.length<=800000) (hhi':hi'<=w.heap.size) :
  Calls prog 57 #[.slice s.p s.n s.c,.slice s'.p s'.n s'.c,.int .u16 a,.int .u8 v] w (zge w.heap.size (zen L M a v) w):=by
 have F:=zmg a w h hL hhi
 have PU:Aside (∀ w1,Below w.heap.size w w1->Calls prog 91 #[.slice s'.p s'.n s'.c,.int .u16 a,.int .u8 v] w1 (zge w1.heap.size (putC M a v) w1)):=fun w1 hB=>zyp a v w1 (h'.thru hB hhi') hM hML (Nat.le_trans hhi' hB.size)
 have NO:Aside (∀ w1,Below w.heap.size w w1->Calls prog 92 #[.slice s'.p s'.n s'.c] w1 (zft 61 2 SCell.cells M w1)):=fun w1 hB=>ztd w1 (h'.thru hB hhi') hM oM (Nat.le_trans hhi' hB.size)
 clear h'
 cases hf:zhs L a with
 | none=>
  have e1:zh6 L a = -1:=by simp [zh6,hf]
  have e2:zen L M a v=M:=by simp [zen,hf]
  rw [e1] at F
  rw [e2]
  clear e1 e2 hf h
  go_enter func57,ntmps57
  go_wp2_with (first|(go_at_call 90;refine F.mono ?_;rintro e w1 ⟨rfl,hB⟩)|(go_at_call 92;(refine (NO.out _ hB).mono ?_);intro e w3 hcl;obtain ⟨s1,rfl,hrow,hB3⟩:=hcl))
  go_ret
  exact ⟨s1,rfl,hrow.lo_mono hB.size,zaf hB3 hB hB.size⟩
 | some i=>
  have hi1:=zmh L a i hf
  have e1:zh6 L a=(i:Int):=by simp [zh6,hf]
  have e2:zen L M a v=if (L[i]).ram=true then putC M a v else M:=by simp [zen,hf,hi1]
  rw [e1] at F
  obtain ⟨x,hx⟩:∃ x,(L[i]).ram=x:=⟨_,rfl⟩
  have X:Aside ((L[i]).ram=x):=hx
  rw [hx] at e2
  have hn:=h.len
  obtain ⟨p,n,c⟩:=s
  dsimp only at hn F ⊢
  subst hn
  have G:∀ w',Below w.heap.size w w'->∃ g,p=some ⟨g,0,none⟩/\w'.cell? ⟨g,i * 4+2,none⟩=some (.bool x):=fun w' hB=>by
   obtain ⟨g,hp,_,_,_,hc⟩:=(h.thru hB hhi).fld (fun _=>rfl) i hi1
   exact ⟨g,hp,by rw [hc 2 oM,<- hx];rfl⟩
  obtain ⟨g,hp,_⟩:=G w (Below.refl _ _)
  subst hp
  replace G:∀ w',Below w.heap.size w w'->w'.cell? ⟨g,i * 4+2,none⟩=some (.bool x):=fun w' hB=>by
   obtain ⟨g',hp,hc⟩:=G w' hB
   simp only [Option.some.injEq,Addr.mk.injEq,and_true] at hp
   rw [hp];exact hc
  clear e1 hf h hx
  have e3:(0:Int)<=(i:Int):=oM
  cases x
  ·rw [if_neg sI] at e2
   rw [e2]
   clear e2
   go_enter func57,ntmps57
   go_wp2_with (first|(go_at_call 90;refine F.mono ?_;rintro e w1 ⟨rfl,hB⟩;have hg:=G _ hB)|(go_at_call 92;(refine (NO.out _ hB).mono ?_);intro e w3 hcl;obtain ⟨s1,rfl,hrow,hB3⟩:=hcl))
   go_ret
   exact ⟨s1,rfl,hrow.lo_mono hB.size,zaf hB3 hB hB.size⟩
  ·rw [if_pos rfl] at e2
   rw [e2]
   clear e2
   go_enter func57,ntmps57
   go_wp2_with (first|(go_at_call 90;refine F.mono ?_;rintro e w1 ⟨rfl,hB⟩;have hg:=G _ hB)|(go_at_call 91;(refine (PU.out _ hB).mono ?_);intro e w3 hcl;obtain ⟨s1,rfl,hrow,hB3⟩:=hcl))
   go_ret
   exact ⟨s1,rfl,hrow.lo_mono hB.size,hB.trans (hB3.mono hB.size)⟩
end
section
open Go.RowKit
def zuu (lo mb T:Nat) (X:Array Value) (m:SMachine) (L:List SRegion) (M:List SCell) (O:List SOutput) (c:SCycle) (w:World) (e:Ending) (w':World):Prop:=
 e=.returned (.tuple #[])/\∃ ms os:Sl,blk w' mb=some (.cells (catX ({ m with sys := { zc0 m.board m.sys c with memory:=ms,outs:=os } }:SMachine).cells X) T)/\Row w' 0 w'.heap.size 61 2 SCell.cells ms (zdq L M c)/\Row w' lo w'.heap.size 110 2 SOutput.cells os (zf3 O c)/\Kept lo mb [110] w w'
theorem zr6 (m:SMachine) (X:Array Value) (T mb:Nat) (c:SCycle) (w:World) (hm:blk w mb=some (.cells (catX m.cells X) T)) {lo hi:Nat} {L:List SRegion} (hreg:Row w lo hi 82 4 SRegion.cells m.board.regions L) (hL:L.length<=1000000) (hhi:hi<=w.heap.size) {hi2:Nat} {M:List SCell} (hmem:Row w 0 hi2 61 2 SCell.cells m.sys.memory M) (hM:isMem M=true) (hML:M.length<=800000) (hhi2:hi2<=w.heap.size) {lo3:Nat} {O:List SOutput} (hout:Row w lo3 w.heap.size 110 2 SOutput.cells m.sys.outs O) (hO:O.length<=900000) (hlo3:lo3<=mb) (hT:T≠82/\T≠61/\T≠110) (hca:0<=c.at_/\c.at_<=65535) (hcd:0<=c.data/\c.data<=255) (hq0:0<=m.sys.pic.isr) (hq1:m.sys.pic.isr<=255) (hk:c.kind≠7) :
  Calls prog 54 #[.pointer (some ⟨mb,0,none⟩),.agg c.cells] w (zuu lo3 mb T X m L M O c w):=by
 have E1:zc0 m.board m.sys c=m.sys:=by unfold zc0;rw [if_neg hk]
 have E2:zdq L M c=zen L M c.at_ c.data:=by unfold zdq;rw [if_neg hk]
 have E3:zf3 O c=O:=by unfold zf3;rw [if_neg hk]
 have hk7:(c.kind==7)=false:=beq_eq_false_iff_ne.2 hk
 obtain ⟨hT1,hT2,hT3⟩:=hT
 have ho:Aside (Row w lo3 w.heap.size 110 2 SOutput.cells m.sys.outs O):=hout
 have hlt:=zak hm
 have WR:Aside (∀ w1,Below w.heap.size w w1->Calls prog 57 #[.slice m.board.regions.p m.board.regions.n m.board.regions.c,.slice m.sys.memory.p m.sys.memory.n m.sys.memory.c,.int .u16 c.at_,.int .u8 c.data] w1 (zge w1.heap.size (zen L M c.at_ c.data) w1)):=fun w1 hB=>zk4 _ _ w1 (hreg.thru hB hhi) hL (Nat.le_trans hhi hB.size) (hmem.thru hB hhi2) hM hML (Nat.le_trans hhi2 hB.size)
 have HM0:=hid hm
 have EE:Aside (zc0 m.board m.sys c=m.sys/\zdq L M c=zen L M c.at_ c.data/\zf3 O c=O):=⟨E1,E2,E3⟩
 clear hreg hmem hL hhi hM hML hhi2 hk E1 E2 E3 hout
 obtain ⟨gcm,gfm,gzm⟩:=zaa hm
 go_enter func54,ntmps54
 go_upto_region 2 with fail
 refine wpNm (fun W hW=>?_)
 have f0:blk W mb=some (.cells (catX m.cells X) T):=by rw [hW];exact sM
 have f1:blk W w.heap.size=some (.cells c.cells 43):=by rw [hW];exact sM
 have fz:mb<w.heap.size/\mb<W.heap.size/\w.heap.size<W.heap.size:=by rw [hW];(try simp only [szs] at *);omega
 have fB:Below w.heap.size w W:=by rw [hW];exact bL
 have FB:=hid fB
 clear hW gcm gfm gzm hm fB
 have q0:∀ d os,blk (Go.Sort.grow (redrawn W d) os) mb=some (.cells (catX m.cells X) T):=fun d os=>((below_regrown W d os).block _ oM).trans aS
 have qc0:∀ d os ix,(Go.Sort.grow (redrawn W d) os).cell? ⟨mb,ix,none⟩=((catX m.cells X))[ix]? := fun d os ix=>(zaa (q0 d os)).1 ix
 have q1:∀ d os,blk (Go.Sort.grow (redrawn W d) os) w.heap.size=some (.cells c.cells 43):=fun d os=>((below_regrown W d os).block _ oM).trans aS
 have qc1:∀ d os ix,(Go.Sort.grow (redrawn W d) os).cell? ⟨w.heap.size,ix,none⟩=(c.cells)[ix]? := fun d os ix=>(zaa (q1 d os)).1 ix
 refine zat 15 (fun k=>k==0||k==1||k==2||k==3||k==4||k==6||k==7||k==8||k==9||k==11||k==13) kR kR (fun _ _ _ d _ h=>by cases d<;>exact h) ?_
 simp only [tkd]
 repeat (first|(refine zb2 rfl (by rfl) ?_;apply Exists.intro;refine ⟨fun w=>?_,?_⟩;(go_simp;first|done|with_reducible rfl))|(refine zcp rfl (fun K hK=>?_);go_simp;first|(refine hK _ ?_;clear hK K)|(apply Exists.intro;refine ⟨fun _=>?_,hK _ ?_⟩;fail;clear hK K)))
 refine zda ?_
 intro wq hwq
 have hBq:Below W.heap.size W wq:=by obtain ⟨p,rfl⟩:=hwq;exact below_regrown _ _ _
 clear hwq q0 qc0 q1 qc1
 have gB:Below w.heap.size w wq:=zaf hBq FB.out FB.out.size
 have GB:=hid gB
 have gz:mb<w.heap.size/\w.heap.size<=wq.heap.size:=⟨hlt,gB.size⟩
 clear f0 f1 fz hBq gB
 go_wp2_with (go_at_call 57;(refine (WR.out _ GB.out).mono ?_);intro e w3 hrm;obtain ⟨s1,rfl,hrow,hB⟩:=hrm;have g3:blk w3 mb=some (.cells (catX m.cells X) T):=((GB.out.trans (hB.mono gz.2)).block _ hlt).trans HM0.out;have GB3:Aside (Below w.heap.size w w3):=(GB.out.trans (hB.mono gz.2));have gz3:mb<w3.heap.size:=zak g3;obtain ⟨gc3,gf3,gz4⟩:=zaa g3)
 go_end0
 have k3:=GB3.out
 refine ⟨rfl,s1,m.sys.outs,?_,?_,?_,?_⟩
 ·rw [EE.out.1];first|(simp [go_sem,↓iteOmega, *];done)|(simp [go_sem,↓iteOmega, *]<;>rfl)
 ·rw [EE.out.2.1]
  refine (Row.hi_mono (Row.set hrow g3 hT2) (by rw [size_setBlk];exact Nat.le_refl _)).lo_mono (Nat.zero_le _)
 ·rw [EE.out.2.2]
  exact Row.hi_mono (Row.set ((ho.out.thru k3 nL)) g3 hT3) (by rw [size_setBlk];exact k3.size)
 ·exact Kept.setM (Kept.of_below k3 oM) hlo3
end
section
open Go.RowKit
theorem zr5 (m:SMachine) (X:Array Value) (T mb:Nat) (c:SCycle) (w:World) (hm:blk w mb=some (.cells (catX m.cells X) T)) {lo hi:Nat} {L:List SRegion} (hreg:Row w lo hi 82 4 SRegion.cells m.board.regions L) (hL:L.length<=1000000) (hhi:hi<=w.heap.size) {hi2:Nat} {M:List SCell} (hmem:Row w 0 hi2 61 2 SCell.cells m.sys.memory M) (hM:isMem M=true) (hML:M.length<=800000) (hhi2:hi2<=w.heap.size) {lo3:Nat} {O:List SOutput} (hout:Row w lo3 w.heap.size 110 2 SOutput.cells m.sys.outs O) (hO:O.length<=900000) (hlo3:lo3<=mb) (hT:T≠82/\T≠61/\T≠110) (hca:0<=c.at_/\c.at_<=65535) (hcd:0<=c.data/\c.data<=255) (hq0:0<=m.sys.pic.isr) (hq1:m.sys.pic.isr<=255) (hk:c.kind=7) :
  Calls prog 54 #[.pointer (some ⟨mb,0,none⟩),.agg c.cells] w (zuu lo3 mb T X m L M O c w):=by
 have hk7:(c.kind==7)=true:=by rw [hk];rfl
 obtain ⟨hT1,hT2,hT3⟩:=hT
 have hlt:=zak hm
 have HM0:=hid hm
 have HK:=hid hk
 have HME:=hid hmem
 have HO:=hid hout
 clear hreg hmem hL hhi hM hML hk hout
 obtain ⟨gcm,gfm,gzm⟩:=zaa hm
 obtain ⟨pt,hpt⟩:∃ q,IntKind.u8.wrap c.at_=q:=⟨_,rfl⟩
 have p1:c.at_%256=pt:=by rw [<- hpt,IntKind.wrap_u8]
 have HPT:=hid hpt
 clear hpt
 go_enter func54,ntmps54
 go_upto_region 4 with fail
 refine wpNm (fun W hW=>?_)
 have f0:blk W mb=some (.cells (catX m.cells X) T):=by rw [hW];exact sM
 have f1:blk W w.heap.size=some (.cells c.cells 43):=by rw [hW];exact sM
 have fz:mb<w.heap.size/\mb<W.heap.size/\w.heap.size<W.heap.size:=by rw [hW];(try simp only [szs] at *);omega
 have fB:Below w.heap.size w W:=by rw [hW];exact bL
 have hro:Row W lo3 W.heap.size 110 2 SOutput.cells m.sys.outs O:=(HO.out.thru fB nL).hi_mono fB.size
 have FB:=hid fB
 have HRO:=hid hro
 have F0:=hid f0
 have F1:=hid f1
 have FZ:=hid fz
 clear hW gcm gfm gzm hm fB hro
 obtain ⟨gcm,gfm,gzm⟩:=zaa f0
 obtain ⟨gcc,gfc,gzc⟩:=zaa f1
 go_cut [4] (fun s4 wx=>s4=.int .u8 pt/\∃ ou:Sl,blk wx mb=some (.cells (catX ({ m with sys := { m.sys with outs:=ou } }:SMachine).cells X) T)/\blk wx w.heap.size=some (.cells c.cells 43)/\Row wx lo3 wx.heap.size 110 2 SOutput.cells ou (O++[⟨pt,c.data⟩])/\Kept lo3 mb [110] W wx)
 case first=>
  go_region_law ((refine zbr rfl _ _ 50 (by rfl) (((HRO.out.thru ((Below.refl _ W).drew) nL).thru ((Below.refl _ W.drew).alloc nL _) nL)) (fun _=>rfl) SOutput.one oM SOutput.info (by rfl) [(⟨pt,c.data⟩:SOutput)] W.heap.size (⟨pt,c.data⟩:SOutput).cells 110 1 1 (by rfl) (zab _ _ _ rfl) (by simp [encL]) rfl oM oM sO ?_;intro s' w2 hrow hgr;have hat:=hgr.kept mb _ _ (by exact hT3) ((blk_alloc_past _ mb _ FZ.out.2.1).trans F0.out);have hac:=hgr.kept w.heap.size _ _ dC ((blk_alloc_past _ w.heap.size _ FZ.out.2.2).trans F1.out);obtain ⟨hcl1,hfr1,hlt1⟩:=zaa hat))
  all_goals go_wp2_with fail
  all_goals
   go_meet
   refine ⟨rfl,s',?_,?_,?_,?_⟩
   ·first|(simp [go_sem,↓iteOmega, *];done)|(simp [go_sem,↓iteOmega, *]<;>rfl)
   ·simp [go_sem,↓iteOmega, *]
   ·exact Row.hi_mono (Row.set hrow hat hT3) (by rw [size_setBlk];exact Nat.le_refl _)
   ·exact Kept.setM ((Kept.alloc _ (Kept.drew Kept.refl) sO).trans (Kept.of_grew hgr sI)) hlo3
 obtain ⟨rfl,ou,g0,g1,hrw,hkp⟩:=hcut
 have KW:Aside (Kept lo3 mb [110] w wc):=(Kept.of_below FB.out oM).trans hkp
 have RW:Aside (Row wc lo3 wc.heap.size 110 2 SOutput.cells ou (O++[⟨pt,c.data⟩])):=hrw
 have RM:Aside (Row wc 0 hi2 61 2 SCell.cells m.sys.memory M):=HME.out.kept KW.out HM0.out hT2 dC
 have gz:w.heap.size<wc.heap.size/\mb<w.heap.size:=⟨zak g1,hlt⟩
 have GZ:Aside (w.heap.size<wc.heap.size/\mb<w.heap.size):=gz
 clear hkp hrw gcm gfm gzm gcc gfc gzc f0 f1 fz F0 F1 FZ
 obtain ⟨gc0,gf0,gz0⟩:=zaa g0
 obtain ⟨gc1,gf1,gz1⟩:=zaa g1
 obtain ⟨ok,hok⟩:∃ q,zld m.board pt=q:=⟨_,rfl⟩
 obtain ⟨hv,hhv⟩:∃ q,(zjb m.board pt==1)=q:=⟨_,rfl⟩
 obtain ⟨dn,hdn⟩:∃ q,dmaN m.board pt=q:=⟨_,rfl⟩
 have HOK:=hid hok
 have HHV:=hid hhv
 have HDN:=hid hdn
 have E:zc0 m.board m.sys c=if ok=true then { m.sys with pic:=zht m.sys.pic hv c.data } else if dn<4 then { m.sys with dma:=zfy m.sys.dma dn c.data } else m.sys:=by
  unfold zc0;rw [if_pos HK.out,HPT.out,hok,hhv,hdn]
 have E2:zdq L M c=M:=by unfold zdq;rw [if_pos HK.out]
 have E3:zf3 O c=O++[⟨pt,c.data⟩]:=by unfold zf3;rw [if_pos HK.out,HPT.out]
 have EE:Aside (zdq L M c=M/\zf3 O c=O++[⟨pt,c.data⟩]):=⟨E2,E3⟩
 have p2:(pt-m.board.dmaPort)%256=dn:=by rw [<- hdn];unfold dmaN;rw [IntKind.wrap_u8]
 have dn0:0<=dn:=oM
 clear hok hhv hdn E2 E3
 have fin:∀ w5 s5,zc0 m.board m.sys c=s5->Kept lo3 mb [] wc w5->blk w5 mb=some (.cells (catX ({ m with sys := { s5 with memory:=m.sys.memory,outs:=ou } }:SMachine).cells X) T)->zuu lo3 mb T X m L M O c w (.returned (.tuple #[])) w5:=fun w5 s5 hs hk0 h5=>
  have hk:Kept lo3 mb [110] wc w5:=hk0.more sI
  ⟨rfl,m.sys.memory,ou,by rw [hs];exact h5,by rw [EE.out.1];exact ((RM.out.kept hk g0 hT2 dC).hi_mono (Nat.le_trans hhi2 (Nat.le_trans (Nat.le_of_lt GZ.out.1) hk.size))),by rw [EE.out.2];exact (RW.out.kept hk0 g0 hT3 sI).hi_mono hk.size,KW.out.trans hk⟩
 have FIN:=hid fin
 clear fin
 cases ok
 ·by_cases h4:dn<4
  ·have ES:zc0 m.board m.sys c = { m.sys with dma:=zfy m.sys.dma dn c.data }:=by rw [E,if_neg sI,if_pos h4]
   have EH:=hid ES
   clear E ES
   go_upto_region 10 with (first|(go_at_call 84;(refine (zf7 ({ m with sys := { m.sys with outs:=ou } }:SMachine) X T mb pt _ sM).mono ?_);rw [HOK.out,HHV.out];rintro e w' ⟨rfl,rfl⟩))
   have q0:∀ d os,blk (Go.Sort.grow (redrawn wc d) os) mb=some (.cells (catX ({ m with sys := { m.sys with outs:=ou } }:SMachine).cells X) T):=fun d os=>((below_regrown wc d os).block _ oM).trans aS
   have qc0:∀ d os ix,(Go.Sort.grow (redrawn wc d) os).cell? ⟨mb,ix,none⟩=((catX ({ m with sys := { m.sys with outs:=ou } }:SMachine).cells X))[ix]? := fun d os ix=>(zaa (q0 d os)).1 ix
   have q1:∀ d os,blk (Go.Sort.grow (redrawn wc d) os) w.heap.size=some (.cells c.cells 43):=fun d os=>((below_regrown wc d os).block _ oM).trans aS
   have qc1:∀ d os ix,(Go.Sort.grow (redrawn wc d) os).cell? ⟨w.heap.size,ix,none⟩=(c.cells)[ix]? := fun d os ix=>(zaa (q1 d os)).1 ix
   refine zad 11 kR kR ?_
   simp only [tkd]
   repeat (quiet_step (first|(go_at_call 89;exact Calls.regrown_of (zno _ _ _ _ hcd.1 hcd.2))))
   refine wpQuiet_nil ?_
   intro wq hwq
   have hBq:Below wc.heap.size wc wq:=by obtain ⟨p,rfl⟩:=hwq;exact below_regrown _ _ _
   clear hwq q0 qc0 q1 qc1
   have k0:blk wq mb=some (.cells (catX ({ m with sys := { m.sys with outs:=ou } }:SMachine).cells X) T):=(hBq.block _ oM).trans g0
   have kk:Kept lo3 mb [] wc wq:=Kept.of_below hBq oM
   clear hBq g0 g1 gc0 gf0 gz0 gc1 gf1 gz1
   obtain ⟨gc0,gf0,gz0⟩:=zaa k0
   go_wp2_with fail
   go_end0
   refine FIN.out _ _ EH.out (by exact Kept.setM kk hlo3) ?_
   first|(simp [go_sem,↓iteOmega, *];done)|(simp [go_sem,↓iteOmega, *]<;>rfl)
  ·have ES:zc0 m.board m.sys c=m.sys:=by rw [E,if_neg sI,if_neg h4]
   have EH:=hid ES
   clear E ES
   go_wp2_with (first|(go_at_call 84;(refine (zf7 ({ m with sys := { m.sys with outs:=ou } }:SMachine) X T mb pt _ sM).mono ?_);rw [HOK.out,HHV.out];rintro e w' ⟨rfl,rfl⟩))
   go_end0
   exact FIN.out _ _ EH.out Kept.refl g0
 ·have ES:zc0 m.board m.sys c = { m.sys with pic:=zht m.sys.pic hv c.data }:=by rw [E,if_pos rfl]
  have EH:=hid ES
  clear E ES
  go_upto_region 7 with (first|(go_at_call 84;(refine (zf7 ({ m with sys := { m.sys with outs:=ou } }:SMachine) X T mb pt _ sM).mono ?_);rw [HOK.out,HHV.out];rintro e w' ⟨rfl,rfl⟩))
  have q0:∀ d os,blk (Go.Sort.grow (redrawn wc d) os) mb=some (.cells (catX ({ m with sys := { m.sys with outs:=ou } }:SMachine).cells X) T):=fun d os=>((below_regrown wc d os).block _ oM).trans aS
  have qc0:∀ d os ix,(Go.Sort.grow (redrawn wc d) os).cell? ⟨mb,ix,none⟩=((catX ({ m with sys := { m.sys with outs:=ou } }:SMachine).cells X))[ix]? := fun d os ix=>(zaa (q0 d os)).1 ix
  have q1:∀ d os,blk (Go.Sort.grow (redrawn wc d) os) w.heap.size=some (.cells c.cells 43):=fun d os=>((below_regrown wc d os).block _ oM).trans aS
  have qc1:∀ d os ix,(Go.Sort.grow (redrawn wc d) os).cell? ⟨w.heap.size,ix,none⟩=(c.cells)[ix]? := fun d os ix=>(zaa (q1 d os)).1 ix
  refine zad 10 kR kR ?_
  simp only [tkd]
  repeat (quiet_step (first|(go_at_call 88;exact Calls.regrown_of (zqp _ _ _ _ hcd.1 hcd.2 hq0 hq1))))
  refine wpQuiet_nil ?_
  intro wq hwq
  have hBq:Below wc.heap.size wc wq:=by obtain ⟨p,rfl⟩:=hwq;exact below_regrown _ _ _
  clear hwq q0 qc0 q1 qc1
  have k0:blk wq mb=some (.cells (catX ({ m with sys := { m.sys with outs:=ou } }:SMachine).cells X) T):=(hBq.block _ oM).trans g0
  have kk:Kept lo3 mb [] wc wq:=Kept.of_below hBq oM
  clear hBq g0 g1 gc0 gf0 gz0 gc1 gf1 gz1
  obtain ⟨gc0,gf0,gz0⟩:=zaa k0
  go_wp2_with fail
  go_end0
  refine FIN.out _ _ EH.out (by exact Kept.setM kk hlo3) ?_
  first|(simp [go_sem,↓iteOmega, *];done)|(simp [go_sem,↓iteOmega, *]<;>rfl)
end
section
open Go.RowKit
section
variable (m:SMachine) (X:Array Value) (T mb:Nat) (i:SInput) (w:World) (hm:blk w mb=some (.cells (catX m.cells X) T)) {lo hi:Nat} {L:List SRegion} (hreg:Row w lo hi 82 4 SRegion.cells m.board.regions L) (hL:L.length<=1000000) (hhi:hi<=w.heap.size) {lo2 hi2:Nat} {M:List SCell} (hmem:Row w lo2 hi2 61 2 SCell.cells m.sys.memory M) (hM:M.length<=1000000) (hhi2:hi2<=w.heap.size)
include m X T mb i w hm lo hi L hreg hL hhi lo2 hi2 M hmem hM hhi2
theorem zvb (ha:accM m.sys.core.cycle.kind=true) :
  Calls prog 52 #[.pointer (some ⟨mb,0,none⟩),.agg i.cells] w fun e w'=>e=.returned (.int .u8 (zdp m.board L m.sys M i).2)/\blk w' mb=some (.cells (catX ({ m with sys:=(zdp m.board L m.sys M i).1 }:SMachine).cells X) T)/\w.grownBy w' (some mb):=by
 obtain ⟨gcm,gfm,gzm⟩:=zaa hm
 have HR:=hid hreg
 have HE:=hid hmem
 clear hreg hmem
 have W1:Aside (∀ w1,Below w.heap.size w w1->Calls prog 82 #[.slice m.board.regions.p m.board.regions.n m.board.regions.c,.slice m.sys.memory.p m.sys.memory.n m.sys.memory.c,.int .u16 m.sys.core.cycle.at_] w1 fun e w'=>e=.returned (.int .u8 (zjj L M m.sys.core.cycle.at_))/\Below w1.heap.size w1 w'):=fun w1 hB=>zsw _ w1 (HR.out.thru hB hhi) hL (Nat.le_trans hhi hB.size) (HE.out.thru hB hhi2) hM (Nat.le_trans hhi2 hB.size)
 have HA:=hid ha
 have EH:Aside (zdp m.board L m.sys M i=(m.sys,zjj L M m.sys.core.cycle.at_)):=by
  have e:zdp m.board L m.sys M i=(m.sys,zjj L M m.sys.core.cycle.at_):=by unfold zdp;dsimp only;rw [if_pos HA.out]
  exact e
 clear HR HE hL hhi hM hhi2
 go_enter func52,ntmps52
 go_upto_region 4 with (first|with_reducible refine Cpv (zf0 _ _) ?_)
 refine wpNm (fun W hW=>?_)
 have f0:blk W mb=some (.cells (catX m.cells X) T):=by rw [hW];exact sM
 have f1:blk W (w.heap.size+1)=some (.cells m.sys.core.cycle.cells 43):=by rw [hW];exact sM
 have fz:mb<w.heap.size/\mb<W.heap.size/\w.heap.size+1<W.heap.size:=by rw [hW];(try simp only [szs] at *);omega
 have fB:Below w.heap.size w W:=by rw [hW];exact bL
 have FB:=hid fB
 clear hW gcm gfm gzm hm fB
 have q0:∀ d os,blk (Go.Sort.grow (redrawn W d) os) mb=some (.cells (catX m.cells X) T):=fun d os=>((below_regrown W d os).block _ oM).trans aS
 have qc0:∀ d os ix,(Go.Sort.grow (redrawn W d) os).cell? ⟨mb,ix,none⟩=((catX m.cells X))[ix]? := fun d os ix=>(zaa (q0 d os)).1 ix
 have q1:∀ d os,blk (Go.Sort.grow (redrawn W d) os) (w.heap.size+1)=some (.cells m.sys.core.cycle.cells 43):=fun d os=>((below_regrown W d os).block _ oM).trans aS
 have qc1:∀ d os ix,(Go.Sort.grow (redrawn W d) os).cell? ⟨(w.heap.size+1),ix,none⟩=(m.sys.core.cycle.cells)[ix]? := fun d os ix=>(zaa (q1 d os)).1 ix
 refine zad 13 kR kR ?_
 simp only [tkd]
 repeat (quiet_step (first|(go_at_call 82;exact Calls.regrown_of (W1.out _ (FB.out.trans ((below_regrown _ _ _).mono oM))))))
 refine wpQuiet_nil ?_
 intro wq hwq
 have hBq:Below W.heap.size W wq:=by obtain ⟨p,rfl⟩:=hwq;exact below_regrown _ _ _
 clear hwq q0 qc0 q1 qc1
 have g0:blk wq mb=some (.cells (catX m.cells X) T):=(hBq.block _ oM).trans f0
 have gB:=zaf hBq FB.out FB.out.size
 go_wp2_with fail
 go_ret
 refine ⟨?_,?_,?_⟩
 ·rw [EH.out];rfl
 ·rw [EH.out];exact g0
 ·exact ⟨gB.os,gB.tape,gB.output,gB.size,fun k hk _=>gB.block k hk⟩
theorem zve (ha:accM m.sys.core.cycle.kind=false) (hk:m.sys.core.cycle.kind=8\/m.sys.core.cycle.kind=9) (hq0:0<=m.sys.pic.isr) (hq1:m.sys.pic.isr<=255) :
  Calls prog 52 #[.pointer (some ⟨mb,0,none⟩),.agg i.cells] w fun e w'=>e=.returned (.int .u8 (zdp m.board L m.sys M i).2)/\blk w' mb=some (.cells (catX ({ m with sys:=(zdp m.board L m.sys M i).1 }:SMachine).cells X) T)/\w.grownBy w' (some mb):=by
 obtain ⟨gcm,gfm,gzm⟩:=zaa hm
 have E0:accM m.sys.core.cycle.kind=false:=ha
 have HA:=hid ha
 clear E0 hreg hmem hL hhi hM hhi2
 have HK:=hid hk
 have hbk:(m.sys.core.cycle.kind==8)=true\/((m.sys.core.cycle.kind==8)=false/\(m.sys.core.cycle.kind==9)=true):=by
  rcases hk with h|h
  ·left;rw [h];rfl
  ·right;rw [h];exact ⟨rfl,rfl⟩
 clear hk
 cases hj:m.board.jam
 ·have EH:Aside (zdp m.board L m.sys M i=({ m.sys with pic:=(ackC m.sys.pic).1 },(ackC m.sys.pic).2)):=by
   have e:zdp m.board L m.sys M i=({ m.sys with pic:=(ackC m.sys.pic).1 },(ackC m.sys.pic).2):=by
    unfold zdp;dsimp only;rw [if_neg (by rw [HA.out];simp),if_pos HK.out,if_neg (by rw [hj];simp)]
   exact e
  rcases hbk with h8|⟨h8,h9⟩
  all_goals
   go_enter func52,ntmps52
   go_wp2_with (first|with_reducible refine Cpv (zf0 _ _) ?_|(go_at_call 83;with_reducible refine Cbv (zxp _ _ hq0 hq1) ?_;intro w' hB hb1 hb2 hb3 hs;(try simp only [szs] at hs hb1 hb2 hb3)))
   go_ret
   refine ⟨?_,?_,?_⟩
   ·rw [EH.out]<;>rfl
   ·rw [EH.out];first|(simp [go_sem,↓iteOmega, *];done)|(simp [go_sem,↓iteOmega, *]<;>rfl)
   ·(repeat' (first|(with_reducible exact zec)|(with_reducible assumption)|(with_reducible refine zeb ?_)|(with_reducible refine zfu ?_ ?_)|(with_reducible refine zdc _ ?_)|(with_reducible refine zed ?_)|(with_reducible refine zdl _ ?_)|(with_reducible refine zd2 ‹_› ?_)|((try simp only [szs] at *);omega)))
 ·have EH:Aside (zdp m.board L m.sys M i=(m.sys,i.port)):=by
   have e:zdp m.board L m.sys M i=(m.sys,i.port):=by
    unfold zdp;dsimp only;rw [if_neg (by rw [HA.out];simp),if_pos HK.out,if_pos hj]
   exact e
  rcases hbk with h8|⟨h8,h9⟩
  all_goals
   go_enter func52,ntmps52
   go_wp2_with (first|with_reducible refine Cpv (zf0 _ _) ?_)
   go_ret
   refine ⟨?_,?_,?_⟩
   ·rw [EH.out]<;>rfl
   ·rw [EH.out];first|(simp [go_sem,↓iteOmega, *];done)|(simp [go_sem,↓iteOmega, *]<;>rfl)
   ·(repeat' (first|(with_reducible exact zec)|(with_reducible assumption)|(with_reducible refine zeb ?_)|(with_reducible refine zfu ?_ ?_)|(with_reducible refine zdc _ ?_)|(with_reducible refine zed ?_)|(with_reducible refine zdl _ ?_)|(with_reducible refine zd2 ‹_› ?_)|((try simp only [szs] at *);omega)))
theorem zyn (ha:accM m.sys.core.cycle.kind=false) (hk:¬(m.sys.core.cycle.kind=8\/m.sys.core.cycle.kind=9)) (hq0:0<=m.sys.pic.isr) (hq1:m.sys.pic.isr<=255) (hd0:0<=m.sys.dma.at_) (hd1:m.sys.dma.at_<=65535) :
  Calls prog 52 #[.pointer (some ⟨mb,0,none⟩),.agg i.cells] w fun e w'=>e=.returned (.int .u8 (zdp m.board L m.sys M i).2)/\blk w' mb=some (.cells (catX ({ m with sys:=(zdp m.board L m.sys M i).1 }:SMachine).cells X) T)/\w.grownBy w' (some mb):=by
 obtain ⟨gcm,gfm,gzm⟩:=zaa hm
 have E0:accM m.sys.core.cycle.kind=false:=ha
 have HA:=hid ha
 clear E0 hreg hmem hL hhi hM hhi2
 have HK:=hid hk
 have h8:(m.sys.core.cycle.kind==8)=false:=beq_eq_false_iff_ne.2 (fun e=>hk (.inl e))
 have h9:(m.sys.core.cycle.kind==9)=false:=beq_eq_false_iff_ne.2 (fun e=>hk (.inr e))
 clear hk
 obtain ⟨pt,hpt⟩:∃ q,IntKind.u8.wrap m.sys.core.cycle.at_=q:=⟨_,rfl⟩
 obtain ⟨ok,hok⟩:∃ q,zld m.board pt=q:=⟨_,rfl⟩
 obtain ⟨hv,hhv⟩:∃ q,(zjb m.board pt==1)=q:=⟨_,rfl⟩
 obtain ⟨dn,hdn⟩:∃ q,dmaN m.board pt=q:=⟨_,rfl⟩
 have HOK:=hid hok
 have HHV:=hid hhv
 have HPT:=hid hpt
 have HDN:=hid hdn
 have E:zdp m.board L m.sys M i=if ok=true then ({ m.sys with pic:=(zdw m.sys.pic hv).1 },(zdw m.sys.pic hv).2) else if dn<4 then (m.sys,zgp m.sys.dma dn) else (m.sys,i.port):=by
  unfold zdp;dsimp only;rw [if_neg (by rw [HA.out];simp),if_neg HK.out,hpt,hok,hhv,hdn]
 have p1:m.sys.core.cycle.at_%256=pt:=by rw [<- hpt,IntKind.wrap_u8]
 have p2:(pt-m.board.dmaPort)%256=dn:=by rw [<- hdn];unfold dmaN;rw [IntKind.wrap_u8]
 have dn0:0<=dn:=oM
 clear hok hhv hpt hdn
 cases ok
 ·by_cases h4:dn<4
  ·have EH:Aside (zdp m.board L m.sys M i=(m.sys,zgp m.sys.dma dn)):=by
    have e:zdp m.board L m.sys M i=(m.sys,zgp m.sys.dma dn):=by rw [E,if_neg sI,if_pos h4]
    exact e
   clear E
   go_enter func52,ntmps52
   go_wp2_with (first|with_reducible refine Cpv (zf0 _ _) ?_|(go_at_call 84;(refine (zf7 m X T mb pt _ sM).mono ?_);rw [HOK.out,HHV.out];rintro e w' ⟨rfl,rfl⟩)|(go_at_call 86;with_reducible refine Cbv (zo0 _ _ _ hd0 hd1) ?_;intro w' hB hb1 hb2 hb3 hs;(try simp only [szs] at hs hb1 hb2 hb3)))
   go_ret
   refine ⟨?_,?_,?_⟩
   ·rw [EH.out]<;>rfl
   ·rw [EH.out];first|(simp [go_sem,↓iteOmega, *];done)|(simp [go_sem,↓iteOmega, *]<;>rfl)
   ·(repeat' (first|(with_reducible exact zec)|(with_reducible assumption)|(with_reducible refine zeb ?_)|(with_reducible refine zfu ?_ ?_)|(with_reducible refine zdc _ ?_)|(with_reducible refine zed ?_)|(with_reducible refine zdl _ ?_)|(with_reducible refine zd2 ‹_› ?_)|((try simp only [szs] at *);omega)))
  ·have EH:Aside (zdp m.board L m.sys M i=(m.sys,i.port)):=by
    have e:zdp m.board L m.sys M i=(m.sys,i.port):=by rw [E,if_neg sI,if_neg h4]
    exact e
   clear E
   go_enter func52,ntmps52
   go_wp2_with (first|with_reducible refine Cpv (zf0 _ _) ?_|(go_at_call 84;(refine (zf7 m X T mb pt _ sM).mono ?_);rw [HOK.out,HHV.out];rintro e w' ⟨rfl,rfl⟩))
   go_ret
   refine ⟨?_,?_,?_⟩
   ·rw [EH.out]<;>rfl
   ·rw [EH.out];first|(simp [go_sem,↓iteOmega, *];done)|(simp [go_sem,↓iteOmega, *]<;>rfl)
   ·(repeat' (first|(with_reducible exact zec)|(with_reducible assumption)|(with_reducible refine zeb ?_)|(with_reducible refine zfu ?_ ?_)|(with_reducible refine zdc _ ?_)|(with_reducible refine zed ?_)|(with_reducible refine zdl _ ?_)|(with_reducible refine zd2 ‹_› ?_)|((try simp only [szs] at *);omega)))
 ·have EH:Aside (zdp m.board L m.sys M i=({ m.sys with pic:=(zdw m.sys.pic hv).1 },(zdw m.sys.pic hv).2)):=by
   have e:zdp m.board L m.sys M i=({ m.sys with pic:=(zdw m.sys.pic hv).1 },(zdw m.sys.pic hv).2):=by rw [E,if_pos rfl]
   exact e
  clear E
  go_enter func52,ntmps52
  go_wp2_with (first|with_reducible refine Cpv (zf0 _ _) ?_|(go_at_call 84;(refine (zf7 m X T mb pt _ sM).mono ?_);rw [HOK.out,HHV.out];rintro e w' ⟨rfl,rfl⟩)|(go_at_call 85;with_reducible refine Cbv (zsx _ _ _ hq0 hq1) ?_;intro w' hB hb1 hb2 hb3 hs;(try simp only [szs] at hs hb1 hb2 hb3)))
  go_ret
  refine ⟨?_,?_,?_⟩
  ·rw [EH.out]<;>rfl
  ·rw [EH.out];first|(simp [go_sem,↓iteOmega, *];done)|(simp [go_sem,↓iteOmega, *]<;>rfl)
  ·(repeat' (first|(with_reducible exact zec)|(with_reducible assumption)|(with_reducible refine zeb ?_)|(with_reducible refine zfu ?_ ?_)|(with_reducible refine zdc _ ?_)|(with_reducible refine zed ?_)|(with_reducible refine zdl _ ?_)|(with_reducible refine zd2 ‹_› ?_)|((try simp only [szs] at *);omega)))
theorem zvd (hq0:0<=m.sys.pic.isr) (hq1:m.sys.pic.isr<=255) (hd0:0<=m.sys.dma.at_) (hd1:m.sys.dma.at_<=65535) :
  Calls prog 52 #[.pointer (some ⟨mb,0,none⟩),.agg i.cells] w fun e w'=>e=.returned (.int .u8 (zdp m.board L m.sys M i).2)/\blk w' mb=some (.cells (catX ({ m with sys:=(zdp m.board L m.sys M i).1 }:SMachine).cells X) T)/\w.grownBy w' (some mb):=by
 obtain ⟨gcm,gfm,gzm⟩:=zaa hm
 cases ha:accM m.sys.core.cycle.kind
 ·by_cases hk:m.sys.core.cycle.kind=8\/m.sys.core.cycle.kind=9
  ·exact zve m X T mb i w hm hreg hL hhi hmem hM hhi2 ha hk hq0 hq1
  ·exact zyn m X T mb i w hm hreg hL hhi hmem hM hhi2 ha hk hq0 hq1 hd0 hd1
 ·exact zvb m X T mb i w hm hreg hL hhi hmem hM hhi2 ha
end

end
section
open Go.RowKit
theorem zr7 (m:SMachine) (X:Array Value) (T mb:Nat) (c:SCycle) (w:World) (hm:blk w mb=some (.cells (catX m.cells X) T)) {lo hi:Nat} {L:List SRegion} (hreg:Row w lo hi 82 4 SRegion.cells m.board.regions L) (hL:L.length<=1000000) (hhi:hi<=w.heap.size) {hi2:Nat} {M:List SCell} (hmem:Row w 0 hi2 61 2 SCell.cells m.sys.memory M) (hM:isMem M=true) (hML:M.length<=800000) (hhi2:hi2<=w.heap.size) {lo3:Nat} {O:List SOutput} (hout:Row w lo3 w.heap.size 110 2 SOutput.cells m.sys.outs O) (hO:O.length<=900000) (hlo3:lo3<=mb) (hT:T≠82/\T≠61/\T≠110) (hca:0<=c.at_/\c.at_<=65535) (hcd:0<=c.data/\c.data<=255) (hq0:0<=m.sys.pic.isr) (hq1:m.sys.pic.isr<=255)  :
  Calls prog 54 #[.pointer (some ⟨mb,0,none⟩),.agg c.cells] w (zuu lo3 mb T X m L M O c w):=by
 by_cases hk:c.kind=7
 ·exact zr5 m X T mb c w hm hreg hL hhi hmem hM hML hhi2 hout hO hlo3 hT hca hcd hq0 hq1 hk
 ·exact zr6 m X T mb c w hm hreg hL hhi hmem hM hML hhi2 hout hO hlo3 hT hca hcd hq0 hq1 hk
end
end Go.Proofs.YtlmbamdkklkliaaGreat
