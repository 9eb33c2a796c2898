/- Part of the proof that a law holds at every input. No conditions. -/
import Derived.Test.YtlmbamdkklkliaaGreatK03
namespace Go.Proofs.YtlmbamdkklkliaaGreat
set_option linter.unusedVariables false
set_option linter.unusedSimpArgs false
set_option maxRecDepth 100000
set_option maxHeartbeats 16000000
section
open Go Go.RowKit Go.Sort
section
variable {P:Program} {ops:Array Oper} {md:Region.Mode} {C:World->Prop} {late:Nat->Bool}
def wpQL (P:Program) (ops:Array Oper) (C:World->Prop) (late:Nat->Bool) (Q:Act->Prop):Nat->List Oper->Act->Prop
 | _,[],a=>Q a
 | k,o::rest,a=>if late k=true then ∃ v,Yields P ops o v a/\wpQL P ops C late Q (k+1) rest (a.put o.dst v) else if Region.wanted o (yielded ops a.tmps) then o.quiet P a C (wpQL P ops C late Q (k+1) rest) else wpQL P ops C late Q (k+1) rest (a.put o.dst undef)
theorem zda {Q:Act->Prop} {a:Act} {k:Nat} (h:Q a):wpQL P ops C late Q k [] a:=h
section
variable {Q:Act->Prop} {a:Act} {o:Oper} {rest:List Oper} {k:Nat}
include Q a o rest k
theorem zsc (hl:late k=true) (hw:Region.wanted o (yielded ops a.tmps)=true) (v:Value) (hy:∀ w,(execOp a.eval o).run P w=.ok (.value v) w)
  (h:wpQL P ops C late Q (k+1) rest (a.put o.dst v)):wpQL P ops C late Q k (o::rest) a:=by
 unfold wpQL;rw [if_pos hl];exact ⟨v,.inl ⟨hw,hy⟩,h⟩
theorem zb2 (hl:late k=true) (hw:Region.wanted o (yielded ops a.tmps)=true)
  (h:∃ v:Value,(∀ w,(execOp a.eval o).run P w=.ok (.value v) w)/\wpQL P ops C late Q (k+1) rest (a.put o.dst v)):wpQL P ops C late Q k (o::rest) a:=
 h.elim fun v hv=>zsc hl hw v hv.1 hv.2
theorem zcp (hl:late k=false)
  (h:∀ K:Act->Prop,(∀ a,wpQL P ops C late Q (k+1) rest a->K a)->if Region.wanted o (yielded ops a.tmps) then o.quiet P a C K else K (a.put o.dst undef)):wpQL P ops C late Q k (o::rest) a:=by
 unfold wpQL;rw [if_neg (by rw [hl];simp)];exact h _ fun _ h=>h
end
def wpMx (P:Program) (md:Region.Mode) (ops:Array Oper) (C:World->Prop) (Q':Exit->Act->World->Prop) (n g:Nat) (L:Array Bool->Act->Prop):Nat->Array Bool->Act->Prop
 | 0,done,a=>L done a
 | f + 1, done, a => Region.ready md ops done ≠ [] /\ ∀ i ∈ Region.ready md ops done,
   (i<n->qOp P ops C i (wpMx P md ops C Q' n g L f (done.setIfInBounds i true)) a)/\(n<=i->∀ w,C w->wpOp P ops Q' i (wpAny P md ops Q' (f+g) (done.setIfInBounds i true)) a w)
theorem zhw {n g:Nat} {L:Array Bool->Act->Prop} {Q':Exit->Act->World->Prop} (hL:∀ done a w,C w->L done a->wpAny P md ops Q' g done a w) :
  ∀ (f:Nat) (done:Array Bool) (a:Act) (w:World),C w->wpMx P md ops C Q' n g L f done a->wpAny P md ops Q' (f+g) done a w
 | 0,done,a,w,hw,h=>by rw [Nat.zero_add];exact hL _ _ _ hw h
 | f+1,done,a,w,hw,h=>by
  rw [show f+1+g=(f+g)+1 by omega]
  refine ⟨fun h0=>absurd h0 h.1,fun i hi=>?_⟩
  rcases Nat.lt_or_ge i n with hin|hin
  ·exact wpOp_of_qOp hw (fun a' w' hw' h'=>zhw hL f _ a' w' hw' h') ((h.2 i hi).1 hin)
  ·exact (h.2 i hi).2 hin w hw
def zuz (md:Region.Mode) (ops:Array Oper) (late:Nat->Bool) (n:Nat):Bool:=
 (List.range ops.size).all fun j=>decide (j<n)||(List.range n).all fun i=>late i||Region.waitsFor md ops j i
theorem zqz {n i j:Nat} {done:Array Bool} (h:zuz md ops late n=true) (hi:i<n) (hl:late i=false) (hun:done.getD i true=false) (hj:n<=j):j ∉ Region.ready md ops done:=by
 intro hr
 obtain ⟨_,oj,hoj,hall⟩:=mem_ready.1 hr
 have hjs:j<ops.size:=(Array.getElem?_eq_some_iff.1 hoj).1
 have h1:=List.all_eq_true.1 h j (List.mem_range.2 hjs)
 simp only [Bool.or_eq_true,decide_eq_true_eq] at h1
 rcases h1 with h1|h1
 ·omega
 ·have h2:=List.all_eq_true.1 h1 i (List.mem_range.2 hi)
  simp only [hl,Bool.false_or] at h2
  obtain ⟨o',ho',e,he,hb,hon⟩:=Region.waitsFor_spec h2
  obtain rfl:o'=oj:=Option.some.inj (ho'.symm.trans hoj)
  have h3:=hall e he hb
  rw [hon,getD_both hun] at h3
  cases h3
theorem zqq {n g i:Nat} {oi:Oper} {v:Value} {L:Array Bool->Act->Prop} {Q':Exit->Act->World->Prop} (hi:ops[i]? = some oi) (hsel:∀ (j:Nat) (o:Oper) cs b,ops[j]? = some o->o.op≠.select cs b)
  (hQ:∀ c a w,Q' (.panic c) (a.put oi.dst v) w->Q' (.panic c) a w) (hL:∀ done a w,C w->L done a->wpAny P md ops Q' g done a w) (hg:0<g)
  (hs:zuz md ops late n=true) (hin:i<n) (hdone:∀ done a,L done a->∀ j ∈ Region.ready md ops done,n<=j) (f:Nat) :
  ∀ (done:Array Bool) (a:Act),
   (∀ j oj,ops[j]? = some oj->j≠i->done.getD j true=false->(∀ e ∈ oj.after,Region.binds md e=true->e.on≠i)->oi.apart ops oj=true) ->
   i ∈ Region.ready md ops done->(late i=true->Yields P ops oi v a)->YieldsIn P ops C oi v a ->
   wpMx P md ops C Q' n g L f (done.setIfInBounds i true) (a.put oi.dst v)->wpMx P md ops C Q' n g L (f+1) done a:=by
 have main:∀ (f:Nat) (done:Array Bool) (a:Act) (j:Nat),
   (∀ j oj,ops[j]? = some oj->j≠i->done.getD j true=false->(∀ e ∈ oj.after,Region.binds md e=true->e.on≠i)->oi.apart ops oj=true) ->
   i ∈ Region.ready md ops done->(late i=true->Yields P ops oi v a)->j ∈ Region.ready md ops done->j≠i->n<=j->(∀ w,C w->wpOp P ops Q' j (wpAny P md ops Q' f ((done.setIfInBounds i true).setIfInBounds j true)) (a.put oi.dst v) w) ->
   ∀ w,C w->wpOp P ops Q' j (wpAny P md ops Q' (f+1) (done.setIfInBounds j true)) a w:=by
  intro f done a j hfree hr hy hj hji hnj h w hw
  have hl:late i=true:=by
   cases hl:late i with
   | true=>rfl
   | false=>exact absurd hj (zqz hs hin hl (mem_ready.1 hr).1 hnj)
  obtain ⟨hjun,oj,hoj,hall⟩:=mem_ready.1 hj
  have hnot:∀ e ∈ oj.after,Region.binds md e=true->e.on≠i:=fun e he hb heq=>by
   have h1:=hall e he hb
   rw [heq,getD_both (mem_ready.1 hr).1] at h1
   cases h1
  have h2:=wpOp_put hoj (hfree j oj hoj hji hjun hnot) (fun cs b=>hsel i oi cs b hi) (fun cs b=>hsel j oj cs b hoj) hQ (hy hl) (h w hw)
  refine wpOp_mono (fun a' w' h3=>wpAny_first hi hsel hQ f (done.setIfInBounds j true) a' w' (fun k ok hk hki hun hno=>?_) (ready_mono hr (Ne.symm hji)) h3.1 ?_) h2
  ·refine hfree k ok hk hki ?_ hno
   by_cases hjk:j=k
   ·subst hjk;exact hjun
   ·rwa [getD_set_ne true hjk] at hun
  ·rw [Array.setIfInBounds_comm _ _ hji]
   exact h3.2
 induction f with
 | zero=>
  intro done a hfree hr hy hyc H
  refine ⟨fun h=>(by rw [h] at hr;cases hr),fun j hj=>⟨fun hjn=>?_,fun hnj=>?_⟩⟩
  ·by_cases hji:j=i
   ·subst hji;exact hyc.qOp hi H
   ·have:=hdone _ _ H j (ready_mono hj hji)
    omega
  ·have hji:j≠i:=oM
   obtain ⟨g',rfl⟩:∃ g',g=g'+1:=⟨g-1,oM⟩
   rw [Nat.zero_add]
   exact main g' done a j hfree hr hy hj hji hnj fun w hw=>(hL _ _ w hw H).2 j (ready_mono hj hji)
 | succ f ih=>
  intro done a hfree hr hy hyc H
  refine ⟨fun h=>(by rw [h] at hr;cases hr),fun j hj=>⟨fun hjn=>?_,fun hnj=>?_⟩⟩
  ·by_cases hji:j=i
   ·subst hji;exact hyc.qOp hi H
   ·obtain ⟨hjun,oj,hoj,hall⟩:=mem_ready.1 hj
    have hnot:∀ e ∈ oj.after,Region.binds md e=true->e.on≠i:=fun e he hb heq=>by
     have h1:=hall e he hb
     rw [heq,getD_both (mem_ready.1 hr).1] at h1
     cases h1
    have h1:=(H.2 j (ready_mono hj hji)).1 hjn
    have hap:=hfree j oj hoj hji hjun hnot
    have hsi:=fun cs b=>hsel i oi cs b hi
    have hsj:=fun cs b=>hsel j oj cs b hoj
    have h2:=qOp_put hoj hap hsi hsj hyc h1
    have h2':qOp P ops C j (fun a'=>(late i=true->Yields P ops oi v a')/\YieldsIn P ops C oi v a'/\wpMx P md ops C Q' n g L f ((done.setIfInBounds i true).setIfInBounds j true) (a'.put oi.dst v)) a:=by
     have h3:∀ u,(late i=true->Yields P ops oi v (a.put oj.dst u)):=fun u hl=>by
      obtain ⟨_,_,q3⟩:=Oper.apart_spec hap
      have hy':=hy hl
      unfold Yields at *
      rw [execOp_put oi hsi a oj.dst u q3,wanted_put oi a oj.dst u q3]
      exact hy'
     unfold qOp at h2 ⊢
     simp only [hoj] at h2 ⊢
     split
     ·rename_i hw
      simp only [hw,if_true] at h2
      obtain ⟨u,hu,hn⟩:=h2
      exact ⟨u,hu,h3 u,hn⟩
     ·rename_i hw
      simp only [hw] at h2
      exact ⟨h3 _,h2⟩
    refine qOp_mono (fun a' h3=>ih (done.setIfInBounds j true) a' (fun k ok hk hki hun hno=>?_) (ready_mono hr (Ne.symm hji)) h3.1 h3.2.1 ?_) h2'
    ·refine hfree k ok hk hki ?_ hno
     by_cases hjk:j=k
     ·subst hjk;exact hjun
     ·rwa [getD_set_ne true hjk] at hun
    ·rw [Array.setIfInBounds_comm _ _ hji]
     exact h3.2.2
  ·have hji:j≠i:=oM
   have h1:=(H.2 j (ready_mono hj hji)).2 hnj
   rw [show f+1+g=(f+g)+1 by omega]
   exact main (f+g) done a j hfree hr hy hj hji hnj h1
theorem zpm {n g:Nat} {Lq:Act->Prop} {Q':Exit->Act->World->Prop} (hsel:Region.noSelect ops=true) (hQ:∀ c a w d v,Q' (.panic c) (Act.put a d v) w->Q' (.panic c) a w)
  (hL:∀ done a w,C w->(Region.seqB md ops g n done=true/\Lq a)->wpAny P md ops Q' g done a w) (hg:0<g) (hs:zuz md ops late n=true) :
  ∀ (l:List Oper) (k:Nat) (done:Array Bool) (a:Act),(∀ j,j<l.length->l[j]? = ops[k+j]?)->k+l.length=n ->
  Region.lexHead md ops g l.length k done=true->wpQL P ops C late Lq k l a ->
  wpMx P md ops C Q' n g (fun done' a'=>Region.seqB md ops g n done'=true/\Lq a') l.length done a
 | [],k,done,a,hl,hk,hB,h=>by
  obtain rfl:k=n:=by simpa using hk
  exact ⟨by simpa [Region.lexHead] using hB,h⟩
 | o::l,k,done,a,hl,hk,hB,h=>by
  have h0:ops[k]? = some o:=by simpa using (hl 0 sI).symm
  simp only [List.length_cons,Region.lexHead,Bool.and_eq_true] at hB
  obtain ⟨⟨hr,hf⟩,hB'⟩:=hB
  have hkn:k<n:=by simp only [List.length_cons] at hk;omega
  have hr':k ∈ Region.ready md ops done:=by simpa using hr
  obtain ⟨v,hyl,hy,hK⟩:∃ v,(late k=true->Yields P ops o v a)/\YieldsIn P ops C o v a/\wpQL P ops C late Lq (k+1) l (a.put o.dst v):=by
   unfold wpQL at h
   by_cases hlk:late k=true
   ·rw [if_pos hlk] at h
    obtain ⟨v,hy,hK⟩:=h
    refine ⟨v,fun _=>hy,?_,hK⟩
    rcases hy with ⟨hw,hv⟩|⟨hw,rfl⟩
    ·refine .inl ⟨hw,fun w _=>?_⟩
     unfold Oper.quietAt
     rw [hv w]
     exact ⟨rfl,rfl⟩
    ·exact .inr ⟨hw,rfl⟩
   ·rw [if_neg hlk] at h
    have hst:qOp P ops C k (wpQL P ops C late Lq (k+1) l) a:=by unfold qOp;simp only [h0];exact h
    obtain ⟨v,hy,hK⟩:=yieldsIn_of_qOp h0 hst
    exact ⟨v,fun hl'=>absurd hl' hlk,hy,hK⟩
  exact zqq h0 (Region.noSelect_spec hsel) (fun c a w=>hQ c a w _ _) hL hg hs hkn (fun done' a' hL=>seqB_ready hL.1) l.length done a (Region.free_spec h0 hf) hr' hyl hy
   (zpm hsel hQ hL hg hs l (k+1) _ _ (fun j hj=>by have:=hl (j+1) sO;simpa [Nat.add_assoc,Nat.add_comm 1 j] using this) (by simp only [List.length_cons] at hk;omega) hB' hK)
def z14 (md:Region.Mode) (ops:Array Oper) (late:Nat->Bool) (n:Nat):Bool:=
 Region.noSelect ops&&decide (n<ops.size)&&zuz md ops late n&&Region.lexHead md ops (ops.size-n) n 0 (Array.replicate ops.size false)
theorem zat {id:Nat} {Q:Exit->Act->World->Prop} {a:Act} {w:World} {l:List Oper} (n:Nat) (late:Nat->Bool) (hm:P.follows .mixedOrders=true) (hB:z14 .any l.toArray late n=true)
  (hQ:∀ c a w d v,Q (.panic c) (Act.put a d v) w->Q (.panic c) a w)
  (h:wpQL P l.toArray (fun w'=>∃ p:Regrown,w'=grow (redrawn w p.d) p.os) late (fun a'=>∀ w',(∃ p:Regrown,w'=grow (redrawn w p.d) p.os)->wpList P l.toArray Q (l.drop n) a' w') 0 (l.take n) a) :
  (Code.region id l.toArray true).wp P Q a w:=by
 simp only [z14,Bool.and_eq_true,decide_eq_true_eq] at hB
 obtain ⟨⟨⟨hsel,hn⟩,hs⟩,hlex⟩:=hB
 have hn':n<l.length:=by simpa using hn
 have htl:(l.take n).length=n:=by simp;omega
 have hdl:(l.drop n).length=l.toArray.size-n:=by simp
 have hL:∀ (done:Array Bool) (a':Act) (w':World),(∃ p:Regrown,w'=grow (redrawn w p.d) p.os) ->
   (Region.seqB .any l.toArray (l.toArray.size-n) n done=true/\∀ w',(∃ p:Regrown,w'=grow (redrawn w p.d) p.os)->wpList P l.toArray Q (l.drop n) a' w')->wpAny P .any l.toArray Q (l.toArray.size-n) done a' w':=fun done a' w' hw' hL=>by
  have:=wpAny_of_seq (md:=.any) (Q':=Q) (l.drop n) n done a' w' (fun j=>by simp [List.getElem?_drop]) (by rw [hdl];exact hL.1) (hL.2 w' hw')
  rwa [hdl] at this
 have H:=zpm (md:=.any) (g:=l.toArray.size-n) (Q':=Q) hsel hQ hL oM hs (l.take n) 0 (Array.replicate l.toArray.size false) a (fun j hj=>by
  rw [htl] at hj
  simp [hj]) (by simpa using htl) (by rw [htl];exact hlex) h
 refine wp_region_any hm ?_
 have:=zhw hL _ _ _ { w with drawn:=w.drawn+1 } ⟨⟨w.drawn+1,#[]⟩,by rw [grow_empty];rfl⟩ H
 rw [htl,show n+(l.toArray.size-n)=l.toArray.size by omega] at this
 exact this
end
end
section
open Go Go.RowKit Go.Sort
section
variable {P:Program} {ops:Array Oper} {md:Region.Mode} {C:World->Prop} {late free:Nat->Bool}
def tlB (md:Region.Mode) (ops:Array Oper) (free:Nat->Bool):Nat->Nat->Array Bool->Bool
 | 0,_,done=>(Region.ready md ops done).isEmpty
 | g+1,k,done=>(if free k=true then (Region.ready md ops done).contains k&&Region.free md ops done k else decide (Region.ready md ops done=[k]))&&tlB md ops free g (k+1) (done.setIfInBounds k true)
def wpTl (P:Program) (ops:Array Oper) (free:Nat->Bool) (Q:Exit->Act->World->Prop):Nat->List Oper->Act->World->Prop
 | _,[],a,w=>Q .normal a w
 | k,o::rest,a,w=>if free k=true then ∃ v,Yields P ops o v a/\wpTl P ops free Q (k+1) rest (a.put o.dst v) w else if Region.wanted o (yielded ops a.tmps) then o.wp P a w (wpTl P ops free Q (k+1) rest) Q\/(o.asks P a w/\LetsOut Q) else wpTl P ops free Q (k+1) rest (a.put o.dst undef) w
section
variable {Q:Exit->Act->World->Prop} {a:Act} {w:World}
include Q a w
theorem zuw {k:Nat} (h:Q .normal a w):wpTl P ops free Q k [] a w:=h
theorem zsb {o:Oper} {rest:List Oper} {k:Nat} (hl:free k=true) (hg:o.guard=none)
  (h:∃ v:Value,(∀ w,(execOp a.eval o).run P w=.ok (.value v) w)/\wpTl P ops free Q (k+1) rest (a.put o.dst v) w):wpTl P ops free Q k (o::rest) a w:=by
 obtain ⟨v,h1,h2⟩:=h
 unfold wpTl
 rw [if_pos hl]
 exact ⟨v,.inl ⟨by simp [Region.wanted,hg],h1⟩,h2⟩
theorem zms {o:Oper} {rest:List Oper} {k:Nat} (hl:free k=false) (hg:o.guard=none)
  (h:∀ K:Act->World->Prop,(∀ a w,wpTl P ops free Q (k+1) rest a w->K a w)->o.wp P a w K Q):wpTl P ops free Q k (o::rest) a w:=by
 unfold wpTl
 rw [if_neg (by rw [hl];simp),if_pos (by simp [Region.wanted,hg])]
 exact .inl (h _ fun _ _ h=>h)
end
theorem zhv {Q':Exit->Act->World->Prop} (hsel:Region.noSelect ops=true) (hQ:∀ c a w d v,Q' (.panic c) (Act.put a d v) w->Q' (.panic c) a w):∀ (l:List Oper) (k:Nat) (done:Array Bool) (a:Act) (w:World),(∀ j,j<l.length->l[j]? = ops[k+j]?) ->
  tlB md ops free l.length k done=true->wpTl P ops free Q' k l a w->wpAny P md ops Q' l.length done a w
 | [],_,_,_,_,_,hB,h=>⟨by simpa [tlB] using hB,h⟩
 | o::l,k,done,a,w,hl,hB,h=>by
  have h0:ops[k]? = some o:=by simpa using (hl 0 sI).symm
  have hl':∀ j,j<l.length->l[j]? = ops[k+1+j]? := fun j hj=>by have:=hl (j+1) sO;simpa [Nat.add_assoc,Nat.add_comm 1 j] using this
  simp only [List.length_cons,tlB,Bool.and_eq_true] at hB
  unfold wpTl at h
  by_cases hf:free k=true
  ·rw [if_pos hf] at h hB
   simp only [Bool.and_eq_true] at hB
   obtain ⟨v,hy,hn⟩:=h
   exact wpAny_first h0 (Region.noSelect_spec hsel) (fun c a w=>hQ c a w _ _) l.length done a w (Region.free_spec h0 hB.1.2) (by simpa using hB.1.1) hy (zhv hsel hQ l (k+1) _ _ w hl' hB.2 hn)
  ·rw [if_neg hf] at h hB
   have hr:Region.ready md ops done=[k]:=by simpa using hB.1
   refine ⟨fun h1=>(by rw [hr] at h1;cases h1),fun i hi=>?_⟩
   rw [hr] at hi
   have hik:i=k:=by simpa using hi
   subst hik
   have hw:wpOp P ops Q' i (wpTl P ops free Q' (i+1) l) a w:=by unfold wpOp;simp only [h0];exact h
   exact wpOp_mono (fun a' w' h'=>zhv hsel hQ l (i+1) _ a' w' hl' hB.2 h') hw
def zu0 (md:Region.Mode) (ops:Array Oper) (late:Nat->Bool) (n:Nat):Bool:=
 (List.range ops.size).all fun j=>decide (j<n)||((List.range n).all fun i=>late i||Region.waitsFor md ops j i)||(List.range j).any fun i=>decide (n<=i)&&Region.waitsFor md ops j i
def InvD (ops:Array Oper) (late:Nat->Bool) (n:Nat) (done:Array Bool):Prop:=
 done.size=ops.size/\∀ i,i<n->late i=false->done.getD i true=false->∀ j,n<=j->j<ops.size->done.getD j true=false
theorem InvD.set {n j:Nat} {done:Array Bool} (h:InvD ops late n done) (hj:j<n):InvD ops late n (done.setIfInBounds j true):=by
 refine ⟨by rw [Array.size_setIfInBounds];exact h.1,fun i hi hl hd k hk hks=>?_⟩
 have hij:j≠i:=fun e=>by
  subst e
  rw [Array.getD_eq_getD_getElem?,Array.getElem?_setIfInBounds,if_pos rfl] at hd
  split at hd<;>simp at hd
 rw [getD_set_ne true hij] at hd
 rw [getD_set_ne true oM]
 exact h.2 i hi hl hd k hk hks
theorem zq0 {n i j:Nat} {done:Array Bool} (h:zu0 md ops late n=true) (hi:i<n) (hl:late i=false) (hun:done.getD i true=false) (hj:n<=j) (hinv:InvD ops late n done):j ∉ Region.ready md ops done:=by
 intro hr
 obtain ⟨_,oj,hoj,hall⟩:=mem_ready.1 hr
 have hjs:j<ops.size:=(Array.getElem?_eq_some_iff.1 hoj).1
 have h1:=List.all_eq_true.1 h j (List.mem_range.2 hjs)
 simp only [Bool.or_eq_true,decide_eq_true_eq] at h1
 have key:∀ i,done.getD i true=false->Region.waitsFor md ops j i=true->False:=fun i hu hw=>by
  obtain ⟨o',ho',e,he,hb,hon⟩:=Region.waitsFor_spec hw
  obtain rfl:o'=oj:=Option.some.inj (ho'.symm.trans hoj)
  have h3:=hall e he hb
  rw [hon,getD_both hu] at h3
  cases h3
 rcases h1 with (h1|h1)|h1
 ·omega
 ·have h2:=List.all_eq_true.1 h1 i (List.mem_range.2 hi)
  simp only [hl,Bool.false_or] at h2
  exact key i hun h2
 ·obtain ⟨k,hk,h2⟩:=List.any_eq_true.1 h1
  simp only [Bool.and_eq_true,decide_eq_true_eq] at h2
  have hkj:=List.mem_range.1 hk
  exact key k (hinv.2 i hi hl hun k h2.1 oM) h2.2
theorem znw {n g i:Nat} {oi:Oper} {v:Value} {L:Array Bool->Act->Prop} {Q':Exit->Act->World->Prop} (hi:ops[i]? = some oi) (hsel:∀ (j:Nat) (o:Oper) cs b,ops[j]? = some o->o.op≠.select cs b)
  (hQ:∀ c a w,Q' (.panic c) (a.put oi.dst v) w->Q' (.panic c) a w) (hL:∀ done a w,C w->L done a->wpAny P md ops Q' g done a w) (hg:0<g)
  (hs:zu0 md ops late n=true) (hin:i<n) (hdone:∀ done a,L done a->∀ j ∈ Region.ready md ops done,n<=j) (f:Nat) :
  ∀ (done:Array Bool) (a:Act),InvD ops late n done ->
   (∀ j oj,ops[j]? = some oj->j≠i->done.getD j true=false->(∀ e ∈ oj.after,Region.binds md e=true->e.on≠i)->oi.apart ops oj=true) ->
   i ∈ Region.ready md ops done->(late i=true->Yields P ops oi v a)->YieldsIn P ops C oi v a ->
   wpMx P md ops C Q' n g L f (done.setIfInBounds i true) (a.put oi.dst v)->wpMx P md ops C Q' n g L (f+1) done a:=by
 have main:∀ (f:Nat) (done:Array Bool) (a:Act) (j:Nat),InvD ops late n done ->
   (∀ j oj,ops[j]? = some oj->j≠i->done.getD j true=false->(∀ e ∈ oj.after,Region.binds md e=true->e.on≠i)->oi.apart ops oj=true) ->
   i ∈ Region.ready md ops done->(late i=true->Yields P ops oi v a)->j ∈ Region.ready md ops done->j≠i->n<=j->(∀ w,C w->wpOp P ops Q' j (wpAny P md ops Q' f ((done.setIfInBounds i true).setIfInBounds j true)) (a.put oi.dst v) w) ->
   ∀ w,C w->wpOp P ops Q' j (wpAny P md ops Q' (f+1) (done.setIfInBounds j true)) a w:=by
  intro f done a j hinv hfree hr hy hj hji hnj h w hw
  have hl:late i=true:=by
   cases hl:late i with
   | true=>rfl
   | false=>exact absurd hj (zq0 hs hin hl (mem_ready.1 hr).1 hnj hinv)
  obtain ⟨hjun,oj,hoj,hall⟩:=mem_ready.1 hj
  have hnot:∀ e ∈ oj.after,Region.binds md e=true->e.on≠i:=fun e he hb heq=>by
   have h1:=hall e he hb
   rw [heq,getD_both (mem_ready.1 hr).1] at h1
   cases h1
  have h2:=wpOp_put hoj (hfree j oj hoj hji hjun hnot) (fun cs b=>hsel i oi cs b hi) (fun cs b=>hsel j oj cs b hoj) hQ (hy hl) (h w hw)
  refine wpOp_mono (fun a' w' h3=>wpAny_first hi hsel hQ f (done.setIfInBounds j true) a' w' (fun k ok hk hki hun hno=>?_) (ready_mono hr (Ne.symm hji)) h3.1 ?_) h2
  ·refine hfree k ok hk hki ?_ hno
   by_cases hjk:j=k
   ·subst hjk;exact hjun
   ·rwa [getD_set_ne true hjk] at hun
  ·rw [Array.setIfInBounds_comm _ _ hji]
   exact h3.2
 induction f with
 | zero=>
  intro done a hinv hfree hr hy hyc H
  refine ⟨fun h=>(by rw [h] at hr;cases hr),fun j hj=>⟨fun hjn=>?_,fun hnj=>?_⟩⟩
  ·by_cases hji:j=i
   ·subst hji;exact hyc.qOp hi H
   ·have:=hdone _ _ H j (ready_mono hj hji)
    omega
  ·have hji:j≠i:=oM
   obtain ⟨g',rfl⟩:∃ g',g=g'+1:=⟨g-1,oM⟩
   rw [Nat.zero_add]
   exact main g' done a j hinv hfree hr hy hj hji hnj fun w hw=>(hL _ _ w hw H).2 j (ready_mono hj hji)
 | succ f ih=>
  intro done a hinv hfree hr hy hyc H
  refine ⟨fun h=>(by rw [h] at hr;cases hr),fun j hj=>⟨fun hjn=>?_,fun hnj=>?_⟩⟩
  ·by_cases hji:j=i
   ·subst hji;exact hyc.qOp hi H
   ·obtain ⟨hjun,oj,hoj,hall⟩:=mem_ready.1 hj
    have hnot:∀ e ∈ oj.after,Region.binds md e=true->e.on≠i:=fun e he hb heq=>by
     have h1:=hall e he hb
     rw [heq,getD_both (mem_ready.1 hr).1] at h1
     cases h1
    have h1:=(H.2 j (ready_mono hj hji)).1 hjn
    have hap:=hfree j oj hoj hji hjun hnot
    have hsi:=fun cs b=>hsel i oi cs b hi
    have hsj:=fun cs b=>hsel j oj cs b hoj
    have h2:=qOp_put hoj hap hsi hsj hyc h1
    have h2':qOp P ops C j (fun a'=>(late i=true->Yields P ops oi v a')/\YieldsIn P ops C oi v a'/\wpMx P md ops C Q' n g L f ((done.setIfInBounds i true).setIfInBounds j true) (a'.put oi.dst v)) a:=by
     have h3:∀ u,(late i=true->Yields P ops oi v (a.put oj.dst u)):=fun u hl=>by
      obtain ⟨_,_,q3⟩:=Oper.apart_spec hap
      have hy':=hy hl
      unfold Yields at *
      rw [execOp_put oi hsi a oj.dst u q3,wanted_put oi a oj.dst u q3]
      exact hy'
     unfold qOp at h2 ⊢
     simp only [hoj] at h2 ⊢
     split
     ·rename_i hw
      simp only [hw,if_true] at h2
      obtain ⟨u,hu,hn⟩:=h2
      exact ⟨u,hu,h3 u,hn⟩
     ·rename_i hw
      simp only [hw] at h2
      exact ⟨h3 _,h2⟩
    refine qOp_mono (fun a' h3=>ih (done.setIfInBounds j true) a' (hinv.set hjn) (fun k ok hk hki hun hno=>?_) (ready_mono hr (Ne.symm hji)) h3.1 h3.2.1 ?_) h2'
    ·refine hfree k ok hk hki ?_ hno
     by_cases hjk:j=k
     ·subst hjk;exact hjun
     ·rwa [getD_set_ne true hjk] at hun
    ·rw [Array.setIfInBounds_comm _ _ hji]
     exact h3.2.2
  ·have hji:j≠i:=oM
   have h1:=(H.2 j (ready_mono hj hji)).2 hnj
   rw [show f+1+g=(f+g)+1 by omega]
   exact main (f+g) done a j hinv hfree hr hy hj hji hnj h1
def zig (md:Region.Mode) (ops:Array Oper) (free:Nat->Bool) (g:Nat):Nat->Nat->Array Bool->Bool
 | 0,k,done=>tlB md ops free g k done
 | f+1,k,done=>(Region.ready md ops done).contains k&&Region.free md ops done k&&zig md ops free g f (k+1) (done.setIfInBounds k true)
theorem zsh {g k:Nat} {done:Array Bool} (hf:free k=false) (h:tlB md ops free g k done=true):∀ j ∈ Region.ready md ops done,k<=j:=by
 cases g with
 | zero=>intro j hj;simp only [tlB,List.isEmpty_iff] at h;rw [h] at hj;cases hj
 | succ g=>
  intro j hj
  simp only [tlB,hf,Bool.and_eq_true] at h
  have h1:Region.ready md ops done=[k]:=by simpa using h.1
  rw [h1] at hj
  have:j=k:=by simpa using hj
  omega
theorem zmt {n g:Nat} {Lq:Act->Prop} {Q':Exit->Act->World->Prop} (hsel:Region.noSelect ops=true) (hQ:∀ c a w d v,Q' (.panic c) (Act.put a d v) w->Q' (.panic c) a w)
  (hL:∀ done a w,C w->(tlB md ops free g n done=true/\Lq a)->wpAny P md ops Q' g done a w) (hg:0<g) (hs:zu0 md ops late n=true) (hfn:free n=false) :
  ∀ (l:List Oper) (k:Nat) (done:Array Bool) (a:Act),(∀ j,j<l.length->l[j]? = ops[k+j]?)->k+l.length=n ->
  zig md ops free g l.length k done=true->InvD ops late n done->wpQL P ops C late Lq k l a ->
  wpMx P md ops C Q' n g (fun done' a'=>tlB md ops free g n done'=true/\Lq a') l.length done a
 | [],k,done,a,hl,hk,hB,hinv,h=>by
  obtain rfl:k=n:=by simpa using hk
  exact ⟨by simpa [zig] using hB,h⟩
 | o::l,k,done,a,hl,hk,hB,hinv,h=>by
  have h0:ops[k]? = some o:=by simpa using (hl 0 sI).symm
  simp only [List.length_cons,zig,Bool.and_eq_true] at hB
  obtain ⟨⟨hr,hf⟩,hB'⟩:=hB
  have hkn:k<n:=by simp only [List.length_cons] at hk;omega
  have hr':k ∈ Region.ready md ops done:=by simpa using hr
  obtain ⟨v,hyl,hy,hK⟩:∃ v,(late k=true->Yields P ops o v a)/\YieldsIn P ops C o v a/\wpQL P ops C late Lq (k+1) l (a.put o.dst v):=by
   unfold wpQL at h
   by_cases hlk:late k=true
   ·rw [if_pos hlk] at h
    obtain ⟨v,hy,hK⟩:=h
    refine ⟨v,fun _=>hy,?_,hK⟩
    rcases hy with ⟨hw,hv⟩|⟨hw,rfl⟩
    ·refine .inl ⟨hw,fun w _=>?_⟩
     unfold Oper.quietAt
     rw [hv w]
     exact ⟨rfl,rfl⟩
    ·exact .inr ⟨hw,rfl⟩
   ·rw [if_neg hlk] at h
    have hst:qOp P ops C k (wpQL P ops C late Lq (k+1) l) a:=by unfold qOp;simp only [h0];exact h
    obtain ⟨v,hy,hK⟩:=yieldsIn_of_qOp h0 hst
    exact ⟨v,fun hl'=>absurd hl' hlk,hy,hK⟩
  exact znw h0 (Region.noSelect_spec hsel) (fun c a w=>hQ c a w _ _) hL hg hs hkn (fun done' a' hL=>zsh hfn hL.1) l.length done a hinv (Region.free_spec h0 hf) hr' hyl hy
   (zmt hsel hQ hL hg hs hfn l (k+1) _ _ (fun j hj=>by have:=hl (j+1) sO;simpa [Nat.add_assoc,Nat.add_comm 1 j] using this) (by simp only [List.length_cons] at hk;omega) hB' (hinv.set hkn) hK)
def z2d (md:Region.Mode) (ops:Array Oper) (late free:Nat->Bool) (n:Nat):Bool:=
 Region.noSelect ops&&decide (n<ops.size)&&zu0 md ops late n && !free n&&zig md ops free (ops.size-n) n 0 (Array.replicate ops.size false)
theorem zhp {id:Nat} {Q:Exit->Act->World->Prop} {a:Act} {w:World} {l:List Oper} (n:Nat) (late free:Nat->Bool) (hm:P.follows .mixedOrders=true) (hB:z2d .any l.toArray late free n=true)
  (hQ:∀ c a w d v,Q (.panic c) (Act.put a d v) w->Q (.panic c) a w)
  (h:wpQL P l.toArray (fun w'=>∃ p:Regrown,w'=grow (redrawn w p.d) p.os) late (fun a'=>∀ w',(∃ p:Regrown,w'=grow (redrawn w p.d) p.os)->wpTl P l.toArray free Q n (l.drop n) a' w') 0 (l.take n) a) :
  (Code.region id l.toArray true).wp P Q a w:=by
 simp only [z2d,Bool.and_eq_true,decide_eq_true_eq,Bool.not_eq_true'] at hB
 obtain ⟨⟨⟨⟨hsel,hn⟩,hs⟩,hfn⟩,hlex⟩:=hB
 have hn':n<l.length:=by simpa using hn
 have htl:(l.take n).length=n:=by simp;omega
 have hdl:(l.drop n).length=l.toArray.size-n:=by simp
 have hL:∀ (done:Array Bool) (a':Act) (w':World),(∃ p:Regrown,w'=grow (redrawn w p.d) p.os) ->
   (tlB .any l.toArray free (l.toArray.size-n) n done=true/\∀ w',(∃ p:Regrown,w'=grow (redrawn w p.d) p.os)->wpTl P l.toArray free Q n (l.drop n) a' w')->wpAny P .any l.toArray Q (l.toArray.size-n) done a' w':=fun done a' w' hw' hL=>by
  have:=zhv (md:=.any) (Q':=Q) hsel hQ (l.drop n) n done a' w' (fun j _=>by simp [List.getElem?_drop]) (by rw [hdl];exact hL.1) (hL.2 w' hw')
  rwa [hdl] at this
 have H:=zmt (md:=.any) (g:=l.toArray.size-n) (Q':=Q) hsel hQ hL oM hs hfn (l.take n) 0 (Array.replicate l.toArray.size false) a (fun j hj=>by
  rw [htl] at hj
  simp [hj]) (by simpa using htl) (by rw [htl];exact hlex) ⟨by simp,fun i _ _ _ j _ hj=>by rw [Array.getD_eq_getD_getElem?,Array.getElem?_replicate,if_pos hj];rfl⟩ h
 refine wp_region_any hm ?_
 have:=zhw hL _ _ _ { w with drawn:=w.drawn+1 } ⟨⟨w.drawn+1,#[]⟩,by rw [grow_empty];rfl⟩ H
 rw [htl,show n+(l.toArray.size-n)=l.toArray.size by omega] at this
 exact this
end
end
end Go.Proofs.YtlmbamdkklkliaaGreat
