/- Part of the proof that a law holds at every input. No conditions. -/
import Derived.BigQuiet
import Derived.Deep.QuietTactic
import Derived.Lib.QuietBelow
import Derived.StillTail
import Derived.Test.YtlmbamdkklkliaaGreatK02
namespace Go.Proofs.YtlmbamdkklkliaaGreat
set_option linter.unusedVariables false
set_option linter.unusedSimpArgs false
set_option maxRecDepth 100000
set_option maxHeartbeats 16000000
open Go.Proofs.Tryz
section
open Go Go.RowKit Go.Sort
section
variable {P:Program} {ops:Array Oper} {md:Region.Mode} {C:World->Prop}

def wpHd (P:Program) (md:Region.Mode) (ops:Array Oper) (C:World->Prop) (n:Nat) (L:Array Bool->Act->Prop):Nat->Array Bool->Act->Prop
  | 0,done,a=>L done a
  | f+1,done,a=>Region.ready md ops done≠[]/\∀ i ∈ Region.ready md ops done,i<n/\qOp P ops C i (wpHd P md ops C n L f (done.setIfInBounds i true)) a
theorem zjs {n g:Nat} {L:Array Bool->Act->Prop} {Q':Exit->Act->World->Prop} (hL:∀ done a w,C w->L done a->wpAny P md ops Q' g done a w) :
    ∀ (f:Nat) (done:Array Bool) (a:Act) (w:World),C w->wpHd P md ops C n L f done a->wpAny P md ops Q' (f+g) done a w
  | 0,done,a,w,hw,h=>by rw [Nat.zero_add];exact hL _ _ _ hw h
  | f + 1, done, a, w, hw, h => by
    rw [show f+1+g=(f+g)+1 by omega]
    exact ⟨fun h0=>absurd h0 h.1,fun i hi=>wpOp_of_qOp hw (fun a' w' hw' h'=>zjs hL f _ a' w' hw' h') (h.2 i hi).2⟩
theorem zqr {n i:Nat} {oi:Oper} {v:Value} {L:Array Bool->Act->Prop} (hi:ops[i]? = some oi) (hsel:∀ (j:Nat) (o:Oper) cs b,ops[j]? = some o->o.op≠.select cs b)
    (hs:Region.sinkB md ops n=true) (hc:Region.chainB md ops n=true) (hn:n<ops.size) (hin:i<n) (hdone:∀ done a,L done a->∀ j ∈ Region.ready md ops done,n<=j) (f:Nat) :
    ∀ (done : Array Bool) (a : Act), HeadInv md ops n done ->
      (∀ j oj,ops[j]? = some oj->j≠i->done.getD j true=false->(∀ e ∈ oj.after,Region.binds md e=true->e.on≠i)->oi.apart ops oj=true) ->
      i ∈ Region.ready md ops done->YieldsIn P ops C oi v a ->
      wpHd P md ops C n L f (done.setIfInBounds i true) (a.put oi.dst v)->wpHd P md ops C n L (f+1) done a:=by
  induction f with
  | zero =>
    intro done a inv _ hr hy H
    refine ⟨fun h=>(by rw [h] at hr;cases hr),fun j hj=>?_⟩
    have hjn:j<n:=Nat.lt_of_not_le fun h=>tail_waits hs hc hn inv _ i rfl hin (mem_ready.1 hr).1 j h hj
    refine ⟨hjn,?_⟩
    by_cases hji:j=i
    · subst hji;exact hy.qOp hi H
    · have := hdone _ _ H j (ready_mono hj hji)
      omega
  | succ f ih =>
    intro done a inv hfree hr hy H
    refine ⟨fun h=>(by rw [h] at hr;cases hr),fun j hj=>?_⟩
    have hjn:j<n:=Nat.lt_of_not_le fun h=>tail_waits hs hc hn inv _ i rfl hin (mem_ready.1 hr).1 j h hj
    refine ⟨hjn,?_⟩
    by_cases hji:j=i
    · subst hji;exact hy.qOp hi H
    · obtain ⟨hjun, oj, hoj, hall⟩ := mem_ready.1 hj
      have hnot:∀ e ∈ oj.after,Region.binds md e=true->e.on≠i:=fun e he hb heq=>by
        have h1:=hall e he hb
        rw [heq,getD_both (mem_ready.1 hr).1] at h1
        cases h1
      refine qOp_mono (fun a' h3=>ih (done.setIfInBounds j true) a' (inv.set hj hjn) (fun k ok hk hki hun hno=>?_) (ready_mono hr (Ne.symm hji)) h3.1 ?_)
        (qOp_put hoj (hfree j oj hoj hji hjun hnot) (fun cs b=>hsel i oi cs b hi) (fun cs b=>hsel j oj cs b hoj) hy (H.2 j (ready_mono hj hji)).2)
      · refine hfree k ok hk hki ?_ hno
        by_cases hjk:j=k
        · subst hjk;exact hjun
        · rwa [getD_set_ne true hjk] at hun
      · rw [Array.setIfInBounds_comm _ _ hji]
        exact h3.2
theorem zpn {n g:Nat} {Lq:Act->Prop} (hsel:Region.noSelect ops=true) (hs:Region.sinkB md ops n=true) (hc:Region.chainB md ops n=true) (hn:n<ops.size) :
    ∀ (l:List Oper) (k:Nat) (done:Array Bool) (a:Act),(∀ j,j<l.length->l[j]? = ops[k+j]?)->k+l.length=n->HeadInv md ops n done ->
    Region.lexHead md ops g l.length k done=true->wpQuiet P ops C Lq l a ->
    wpHd P md ops C n (fun done' a'=>Region.seqB md ops g n done'=true/\Lq a') l.length done a
  | [], k, done, a, hl, hk, _, hB, h => by
    obtain rfl:k=n:=by simpa using hk
    exact ⟨by simpa [Region.lexHead] using hB,h⟩
  | o :: l, k, done, a, hl, hk, inv, hB, h => by
    have h0:ops[k]? = some o:=by simpa using (hl 0 sI).symm
    simp only [List.length_cons,Region.lexHead,Bool.and_eq_true] at hB
    obtain ⟨⟨hr,hf⟩,hB'⟩:=hB
    have hkn:k<n:=by simp only [List.length_cons] at hk;omega
    have hr':k ∈ Region.ready md ops done:=by simpa using hr
    have hst:qOp P ops C k (wpQuiet P ops C Lq l) a:=by unfold qOp;simp only [h0];exact h
    obtain ⟨v,hy,hK⟩:=yieldsIn_of_qOp h0 hst
    exact zqr h0 (Region.noSelect_spec hsel) hs hc hn hkn (fun done' a' hL=>seqB_ready hL.1) l.length done a inv (Region.free_spec h0 hf) hr' hy
      (zpn hsel hs hc hn l (k+1) _ _ (fun j hj=>by have:=hl (j+1) sO;simpa [Nat.add_assoc,Nat.add_comm 1 j] using this) (by simp only [List.length_cons] at hk;omega) (inv.set hr' hkn) hB' hK)

theorem zad {id:Nat} {Q:Exit->Act->World->Prop} {a:Act} {w:World} {l:List Oper} (n:Nat) (hm:P.follows .mixedOrders=true) (hB:Region.lexTailB .any l.toArray n=true)
    (h:wpQuiet P l.toArray (fun w'=>∃ p:Regrown,w'=grow (redrawn w p.d) p.os) (fun a'=>∀ w',(∃ p:Regrown,w'=grow (redrawn w p.d) p.os)->wpList P l.toArray Q (l.drop n) a' w') (l.take n) a) :
    (Code.region id l.toArray true).wp P Q a w:=by
  simp only [Region.lexTailB,Bool.and_eq_true,decide_eq_true_eq] at hB
  obtain ⟨⟨⟨⟨hsel,hn⟩,hs⟩,hc⟩,hlex⟩:=hB
  have htl : (l.take n).length = n := by have : n < l.length := by simpa using hn
                                         simp;omega
  have hdl:(l.drop n).length=l.toArray.size-n:=by simp
  have inv0:HeadInv .any l.toArray n (Array.replicate l.toArray.size false):=
    ⟨by simp,fun j oj _ hl=>(by rw [getD_replicate_false] at hl;cases hl),fun t _ ht=>getD_in (by simpa using ht) (getD_replicate_false _ _)⟩
  have H:=zpn (md:=.any) (g:=l.toArray.size-n) hsel hs hc hn (l.take n) 0 _ a (fun j hj=>by
    rw [htl] at hj
    simp [hj]) (by simpa using htl) inv0 (by rw [htl];exact hlex) h
  refine wp_region_any hm ?_
  have:=zjs (C:=fun w'=>∃ p:Regrown,w'=grow (redrawn w p.d) p.os) (Q':=Q) (g:=l.toArray.size-n) (fun done a' w' hw' hL=>by
    have:=wpAny_of_seq (md:=.any) (Q':=Q) (l.drop n) n done a' w' (fun j=>by simp [List.getElem?_drop]) (by rw [hdl];exact hL.1) (hL.2 w' hw')
    rwa [hdl] at this) _ _ _ { w with drawn:=w.drawn+1 } ⟨⟨w.drawn+1,#[]⟩,by rw [grow_empty];rfl⟩ H
  rw [htl, show n + (l.toArray.size - n) = l.toArray.size by have : n < l.toArray.size := hn
                                                             omega] at this
  exact this
end

end
section
open Go
def undone (done:Array Bool):Nat->Nat
  | 0=>0
  | n+1=>undone done n+if done.getD n true=true then 0 else 1
theorem zjv {d1 d2:Array Bool}:∀ n,(∀ i,i<n->d1.getD i true=d2.getD i true)->undone d1 n=undone d2 n
  | 0,_=>rfl
  | n + 1, h => by
    unfold undone
    rw [zjv n (fun i hi=>h i oM),h n oM]
theorem zk9 {done:Array Bool} {i:Nat} (hu:done.getD i true=false):∀ n,i<n->undone done n=undone (done.setIfInBounds i true) n+1
  | 0,h=>absurd h oM
  | n + 1, h => by
    unfold undone
    by_cases hi:i=n
    · subst hi
      rw [zjv (d1:=done.setIfInBounds i true) (d2:=done) i (fun j hj=>getD_set_ne true oM),hu]
      have h1:(done.setIfInBounds i true).getD i true=true:=by
        rw [Array.getD_eq_getD_getElem?,Array.getElem?_setIfInBounds,if_pos rfl]
        split<;>rfl
      rw [h1]
      rfl
    · rw [zk9 hu n oM, getD_set_ne true hi]
      omega
theorem zhx {done:Array Bool}:∀ n,undone done n=0->∀ i,i<n->done.getD i true=true
  | 0,_,i,hi=>absurd hi oM
  | n + 1, h, i, hi => by
    unfold undone at h
    by_cases he:i=n
    · subst he
      by_cases hd:done.getD i true=true
      · exact hd
      · rw [if_neg hd] at h;omega
    · exact zhx n oM i oM
theorem zla {done:Array Bool}:∀ n,0<undone done n->∃ i,i<n/\done.getD i true=false/\∀ j,j<i->done.getD j true=true
  | 0,h=>absurd h (by unfold undone;omega)
  | n + 1, h => by
    by_cases h0:0<undone done n
    · obtain ⟨i, h1, h2, h3⟩ := zla n h0
      exact ⟨i,oM,h2,h3⟩
    · have hz := zhx (done := done) n oM
      unfold undone at h
      by_cases hd:done.getD n true=true
      · rw [if_pos hd] at h;omega
      · exact ⟨n,oM,by simpa using hd,hz⟩
def puts (done:Array Bool) (vs:Nat->Value):Nat->List Oper->Act->Act
  | _,[],a=>a
  | k,o::l,a=>puts done vs (k+1) l (if done.getD k true=true then a.put o.dst (vs k) else a)
def zeq (vs:Nat->Value):Nat->List Oper->Act->Act
  | _,[],a=>a
  | k,o::l,a=>zeq vs (k+1) l (a.put o.dst (vs k))
def upd (vs:Nat->Value) (i:Nat) (v:Value):Nat->Value:=fun j=>if j=i then v else vs j
theorem zm0 {d1 d2:Array Bool} {v1 v2:Nat->Value}:∀ (l:List Oper) (k:Nat) (a:Act),(∀ j,k<=j->j<k+l.length->d1.getD j true=d2.getD j true/\v1 j=v2 j)->puts d1 v1 k l a=puts d2 v2 k l a
  | [],_,_,_=>rfl
  | o :: l, k, a, h => by
    unfold puts
    obtain ⟨h1,h2⟩:=h k nL sI
    rw [h1,h2]
    exact zm0 l (k+1) _ fun j hj hj'=>h j oM (by simp only [List.length_cons];omega)
section
variable {done:Array Bool} {vs:Nat->Value}
include done vs
theorem zpv:∀ (l:List Oper) (k:Nat) (a:Act),(∀ j,k<=j->j<k+l.length->done.getD j true=true)->puts done vs k l a=zeq vs k l a
  | [],_,_,_=>rfl
  | o :: l, k, a, h => by
    unfold puts zeq
    rw [if_pos (h k nL sI)]
    exact zpv l (k+1) _ fun j hj hj'=>h j oM (by simp only [List.length_cons];omega)
theorem zm1:∀ (l:List Oper) (k:Nat) (a:Act),(∀ j,k<=j->j<k+l.length->done.getD j true=false)->puts done vs k l a=a
  | [],_,_,_=>rfl
  | o :: l, k, a, h => by
    unfold puts
    rw [if_neg (by rw [h k nL sI];decide)]
    exact zm1 l (k+1) _ fun j hj hj'=>h j oM (by simp only [List.length_cons];omega)
theorem zpu {d:Option Tmp} {v:Value}:∀ (l:List Oper) (k:Nat) (a:Act),(∀ o ∈ l,o.dst≠d\/d=none)->puts done vs k l (a.put d v)=(puts done vs k l a).put d v
  | [],_,_,_=>rfl
  | o :: l, k, a, h => by
    unfold puts
    rw [<- zpu l (k+1) _ (fun o ho=>h o (List.mem_cons_of_mem _ ho))]
    congr 1
    split
    · rcases h o (List.mem_cons_self ..) with h1 | h1
      · cases hd : d with
        | none=>rfl
        | some x =>
          cases ho:o.dst with
          | none=>rfl
          | some y=>exact Act.put_comm a _ _ (fun x' hx' e=>h1 (by rw [ho,hd];cases hx';exact e))
      · subst h1;rfl
    · rfl
theorem zpt {v:Value} {i:Nat} {oi:Oper}:∀ (l:List Oper) (k:Nat) (a:Act),k<=i->l[i-k]? = some oi->done.getD i true=false ->
    (∀ j o,l[j]? = some o->j≠i-k->o.dst≠oi.dst\/oi.dst=none)->puts (done.setIfInBounds i true) (upd vs i v) k l a=(puts done vs k l a).put oi.dst v
  | [],_,_,_,h,_,_=>by simp at h
  | o :: l, k, a, hk, h, hu, hd => by
    unfold puts
    by_cases he:k=i
    · subst he
      simp only [Nat.sub_self,List.getElem?_cons_zero,Option.some.injEq] at h
      subst h
      have h1:(done.setIfInBounds k true).getD k true=true:=by
        rw [Array.getD_eq_getD_getElem?,Array.getElem?_setIfInBounds,if_pos rfl]
        split<;>rfl
      rw [if_pos h1,if_neg (by rw [hu];decide),<- zpu l (k+1) a (fun x hx=>by
        obtain ⟨j,hj⟩:=List.getElem?_of_mem hx
        exact hd (j+1) x (by simpa using hj) oM),show upd vs k v k=v by simp [upd]]
      exact zm0 l (k+1) _ fun j hj _=>⟨getD_set_ne true oM,by simp [upd];omega⟩
    · rw [getD_set_ne true (Ne.symm he), show upd vs i v k = vs k by simp [upd, he]]
      have h':l[i-(k+1)]? = some oi:=by
        rw [show i-k=(i-(k+1))+1 by omega] at h
        simpa using h
      exact zpt l (k+1) _ oM h' hu fun j o hj hne=>hd (j+1) o (by simpa using hj) oM
end
theorem zoy (a:Act) (d:Option Tmp) (v:Value) (s:Tmp) (h:d≠some s):(a.put d v).eval (.tmp s)=a.eval (.tmp s):=by
  cases d with
  | none=>rfl
  | some x=>simp [go_sem,Act.put,Act.eval];grind
theorem zax {a:Act} {s:Tmp} {v:Value} (h:a.eval (.tmp s)=v):a.tmps[s]?.getD undef=v:=by
  subst h
  simp [go_sem,Act.eval]
theorem zvl (a:Act) (d:Option Tmp) (v:Value):(a.put d v).tmps.size=a.tmps.size:=by
  cases d with
  | none=>rfl
  | some x=>simp [Act.put]
theorem zgk {done:Array Bool} {vs:Nat->Value} {s:Tmp}:∀ (l:List Oper) (k:Nat) (a:Act),(∀ o ∈ l,o.dst≠some s)->(puts done vs k l a).eval (.tmp s)=a.eval (.tmp s)
  | [],_,_,_=>rfl
  | o :: l, k, a, h => by
    unfold puts
    rw [zgk l (k+1) _ (fun o ho=>h o (List.mem_cons_of_mem _ ho))]
    split
    · exact zoy _ _ _ _ (h o (List.mem_cons_self ..))
    · rfl
section
variable {P:Program} {ops:Array Oper} {md:Region.Mode}
def z2r (md:Region.Mode) (l:List Oper) (n:Nat):Bool:=
  (List.range n).all fun i=>match l[i]? with
    | some o=>o.guard.isNone&&(o.after.all fun e => !Region.binds md e||decide (e.on<i))&&(List.range n).all fun j=>decide (i=j)||(match l[j]? with|some o'=>decide (o'.dst≠o.dst)||o.dst.isNone|none=>true)
    | none=>false
def zni (n m:Nat):Array Bool:=Array.replicate n true++Array.replicate (m-n) false
def ordB (md:Region.Mode) (l:List Oper) (n:Nat):Bool:=
  decide (n<l.length)&&z2r md l n&&Region.sinkB md l.toArray n&&Region.chainB md l.toArray n&&Region.seqB md l.toArray (l.length-n) n (zni n l.length)
theorem zi5 {l:List Oper} {n:Nat} (h:z2r md l n=true) {i:Nat} (hi:i<n):∃ o,l[i]? = some o/\o.guard=none/\(∀ e ∈ o.after,Region.binds md e=true->e.on<i)/\∀ j o',j<n->l[j]? = some o'->j≠i->o'.dst≠o.dst\/o.dst=none:=by
  have h1:=List.all_eq_true.1 h i (List.mem_range.2 hi)
  cases ho:l[i]? with
  | none=>simp [ho] at h1
  | some o =>
    simp only [ho,Bool.and_eq_true] at h1
    obtain ⟨⟨h2,h3⟩,h4⟩:=h1
    refine ⟨o,rfl,by simpa using h2,fun e he hb=>?_,fun j o' hj ho' hne=>?_⟩
    · obtain ⟨x, hx, rfl⟩ := Array.mem_iff_getElem.1 he
      have:=Array.all_eq_true.1 h3 x hx
      simpa [hb] using this
    · have := List.all_eq_true.1 h4 j (List.mem_range.2 hj)
      simp only [ho',Bool.or_eq_true,decide_eq_true_eq,Option.isNone_iff_eq_none] at this
      rcases this with h5|h5
      · exact absurd h5.symm hne
      · exact h5
theorem zsd {l:List Oper} {n:Nat} {Q:Exit->Act->World->Prop} {a0:Act} {V:Nat->Value->World->Prop} {G:Nat->World->Prop}
    (hB:ordB md l n=true) (hsz:∀ o ∈ l.take n,∀ d,o.dst=some d->d<a0.tmps.size)
    (hstep:∀ i o f a w,i<n->l[i]? = some o->(∀ s,(∀ x ∈ l.take n,x.dst≠some s)->a.eval (.tmp s)=a0.eval (.tmp s))->G (f+1) w ->
      (∀ j od d,j<n->(∃ e ∈ o.after,Region.binds md e=true/\e.on=j)->l[j]? = some od->od.dst=some d->V j (a.eval (.tmp d)) w) ->
      ∀ K:Act->World->Prop,(∀ v w',V i v w'->G f w'->(∀ j u,V j u w->V j u w')->K (a.put o.dst v) w')->o.wp P a w K Q)
    (hfin:∀ vs w,G 0 w->(∀ j,j<n->V j (vs j) w)->wpList P l.toArray Q (l.drop n) (zeq vs 0 (l.take n) a0) w) :
    ∀ (f : Nat) (done : Array Bool) (vs : Nat -> Value) (w : World), HeadInv md l.toArray n done -> undone done n = f -> G f w -> (∀ j, j < n -> done.getD j true = true -> V j (vs j) w) ->
      wpAny P md l.toArray Q (f+(l.length-n)) done (puts done vs 0 (l.take n) a0) w:=by
  simp only [ordB,Bool.and_eq_true,decide_eq_true_eq] at hB
  obtain ⟨⟨⟨⟨hn,hb⟩,hs⟩,hc⟩,hq⟩:=hB
  have htl:(l.take n).length=n:=by simp;omega
  have htake:∀ j,j<n->(l.take n)[j]? = l[j]? := fun j hj=>by rw [List.getElem?_take,if_pos hj]
  intro f
  induction f with
  | zero =>
    intro done vs w hinv hu hG hV
    have hall:=zhx n hu
    have hd:done=zni n l.length:=by
      apply Array.ext
      · rw [hinv.size];simp [zni];omega
      · intro i h1 h2
        have hsz:i<l.length:=by have:=hinv.size;simp at this;omega
        by_cases hin:i<n
        · have := hall i hin
          simp only [Array.getD_eq_getD_getElem?,Array.getElem?_eq_getElem h1,Option.getD_some] at this
          rw [this]
          simp [zni,hin]
        · have := hinv.tail i oM (by simpa using hsz)
          simp only [Array.getD_eq_getD_getElem?,Array.getElem?_eq_getElem h1,Option.getD_some] at this
          rw [this]
          simp [zni,Array.getElem_append,hin]
    rw [Nat.zero_add,zpv _ 0 _ (fun j _ hj=>hall j (by rw [htl] at hj;omega))]
    have hdl:(l.drop n).length=l.length-n:=by simp
    have:=wpAny_of_seq (md:=md) (P:=P) (Q':=Q) (ops:=l.toArray) (l.drop n) n done (zeq vs 0 (l.take n) a0) w (fun j=>by simp [List.getElem?_drop]) (by rw [hdl,hd];exact hq) (hfin vs w hG (fun j hj=>hV j hj (hall j hj)))
    rwa [hdl] at this
  | succ f ih =>
    intro done vs w hinv hu hG hV
    rw [show f+1+(l.length-n)=(f+(l.length-n))+1 by omega]
    obtain ⟨i0,hi0,hu0,hlt0⟩:=zla (done:=done) n oM
    have hready:i0 ∈ Region.ready md l.toArray done:=by
      obtain ⟨o,ho,_,haf,_⟩:=zi5 hb hi0
      refine mem_ready.2 ⟨hu0,o,by simpa using ho,fun e he hbd=>?_⟩
      have h1:=haf e he hbd
      have h2:=hlt0 e.on h1
      have h3:e.on<done.size:=by rw [hinv.size];simp;omega
      simp only [Array.getD_eq_getD_getElem?,Array.getElem?_eq_getElem h3,Option.getD_some] at h2 ⊢
      exact h2
    refine ⟨fun h=>(by rw [h] at hready;cases hready),fun i hi=>?_⟩
    have hin:i<n:=Nat.lt_of_not_le fun h=>tail_waits hs hc (by simpa using hn) hinv _ i0 rfl hi0 hu0 i h hi
    obtain ⟨o,ho,hg,haf,hdst⟩:=zi5 hb hin
    obtain ⟨hui,o2,ho2,hall⟩:=mem_ready.1 hi
    have heq:o2=o:=Option.some.inj (ho2.symm.trans (by simpa using ho))
    subst heq
    have hdone:∀ j,j<n->done.getD j false=true->done.getD j true=true:=fun j hj h=>by
      have h3:j<done.size:=by rw [hinv.size];simp;omega
      simp only [Array.getD_eq_getD_getElem?,Array.getElem?_eq_getElem h3,Option.getD_some] at h ⊢
      exact h
    have hev:∀ j od d,j<n->l[j]? = some od->od.dst=some d->done.getD j true=true->(puts done vs 0 (l.take n) a0).eval (.tmp d)=vs j:=fun j od d hj hod hd hdn=>by
      obtain ⟨od',hod',_,_,hdd⟩:=zi5 hb hj
      obtain rfl:od=od':=Option.some.inj (hod.symm.trans hod')
      have key:∀ (L:List Oper) (k:Nat) (a:Act),d<a.tmps.size->k<=j->L[j-k]? = some od->(∀ x o',L[x]? = some o'->x≠j-k->o'.dst≠some d)->(puts done vs k L a).eval (.tmp d)=vs j:=by
        intro L
        induction L with
        | nil=>intro k a _ _ h;simp at h
        | cons o1 L ihL =>
          intro k a hda hk h hne
          unfold puts
          by_cases hkj:k=j
          · subst hkj
            simp only [Nat.sub_self,List.getElem?_cons_zero,Option.some.injEq] at h
            subst h
            rw [if_pos hdn,zgk L (k+1) _ (fun x hx=>by
              obtain ⟨y,hy⟩:=List.getElem?_of_mem hx
              exact hne (y+1) x (by simpa using hy) oM),hd]
            simp [go_sem,Act.put,Act.eval,hda]
          · refine ihL (k + 1) _ (by split <;> simpa [zvl] using hda) oM ?_ fun x o' hx hxn => hne (x + 1) o' (by simpa using hx) oM
            rw [show j-k=(j-(k+1))+1 by omega] at h
            simpa using h
      refine key _ 0 _ (hsz od (List.mem_of_getElem? ((htake j hj).trans hod)) d hd) (Nat.zero_le _) (by rw [Nat.sub_zero,htake j hj];exact hod) fun x o' hx hxn=>?_
      have hxn':x<n:=by
        have:=(List.getElem?_eq_some_iff.1 hx).1
        rw [htl] at this
        exact this
      rcases hdd x o' hxn' (by rw [<- htake x hxn'];exact hx) oM with h1|h1
      · rw [hd] at h1;exact h1
      · rw [hd] at h1;cases h1
    unfold wpOp
    rw [ho2]
    simp only [Region.wanted,hg,if_true]
    left
    refine hstep i o2 f _ w hin ho (fun s hs'=>zgk _ _ _ hs') hG (fun j od d hj ⟨e,he,hbd,hon⟩ hod hd=>?_) _ fun v w' hVi hGf hst=>?_
    · have h1 := hdone j hj (by rw [<- hon]; exact hall e he hbd)
      rw [hev j od d hj hod hd h1]
      exact hV j hj h1
    · rw [<- zpt (done := done) (vs := vs) (v := v) (i := i) (oi := o2) (l.take n) 0 a0 (Nat.zero_le _) (by rw [Nat.sub_zero, htake i hin]; exact ho) hui (fun j o' hj hne => by
        have hjn:j<n:=by
          have:=(List.getElem?_eq_some_iff.1 hj).1
          rw [htl] at this
          exact this
        exact hdst j o' hjn (by rw [<- htake j hjn];exact hj) oM)]
      refine ih _ _ w' (hinv.set hi hin) (by have:=zk9 hui n hin;omega) hGf fun j hj hd=>?_
      by_cases hji:j=i
      · subst hji
        simp only [upd,if_true]
        exact hVi
      · simp only [upd, if_neg hji]
        rw [getD_set_ne true (Ne.symm hji)] at hd
        exact hst j _ (hV j hj hd)
theorem zde {id:Nat} {l:List Oper} {Q:Exit->Act->World->Prop} {a:Act} {w:World} (n:Nat) (hm:P.follows .mixedOrders=true) (hB:ordB .any l n=true) (hsz:(l.take n).all (fun o=>match o.dst with|some d=>decide (d<a.tmps.size)|none=>true)=true) (V:Nat->Value->World->Prop) (G:Nat->World->Prop)
    (h0:G n { w with drawn:=w.drawn+1 }) (hmono:∀ f w',G (f+1) w'->G f w')
    (hstep:∀ i o f a' w',i<n->l[i]? = some o->(∀ s,(l.take n).all (fun x=>decide (x.dst≠some s))=true->a'.eval (.tmp s)=a.eval (.tmp s))->G (f+1) w'->G f w' ->
      (∀ j d,decide (j<n)&&(o.after.any fun e=>Region.binds .any e&&e.on==j)&&decide ((l[j]?).bind (·.dst)=some d)=true->V j (a'.eval (.tmp d)) w') ->
      ∀ K:Act->World->Prop,(∀ v w2,V i v w2->G f w2->(∀ j u,V j u w'->V j u w2)->K (a'.put o.dst v) w2)->o.wp P a' w' K Q)
    (hfin:∀ vs w',G 0 w'->(∀ j,j<n->V j (vs j) w')->wpList P l.toArray Q (l.drop n) (zeq vs 0 (l.take n) a) w') :
    (Code.region id l.toArray true).wp P Q a w:=by
  have hn:n<l.length:=by simp only [ordB,Bool.and_eq_true,decide_eq_true_eq] at hB;exact hB.1.1.1.1
  refine wp_region_any hm ?_
  have hfalse:∀ j,j<l.length->(Array.replicate l.length false).getD j true=false:=fun j hj=>by
    rw [Array.getD_eq_getD_getElem?,Array.getElem?_replicate,if_pos hj];rfl
  have hun:∀ m,m<=l.length->undone (Array.replicate l.length false) m=m:=by
    intro m
    induction m with
    | zero=>intro _;rfl
    | succ m ih=>intro hm;unfold undone;rw [ih oM,hfalse m oM];rfl
  have inv0:HeadInv .any l.toArray n (Array.replicate l.length false):=
    ⟨by simp,fun j oj _ hl=>(by rw [getD_replicate_false] at hl;cases hl),fun t _ ht=>hfalse t (by simpa using ht)⟩
  have:=zsd (md:=.any) (P:=P) (Q:=Q) (a0:=a) (V:=V) (G:=G) hB (fun o ho d hd=>by have:=List.all_eq_true.1 hsz o ho;rw [hd] at this;simpa using this)
    (fun i o f a' w' hi hio hfr hG hV K hK=>hstep i o f a' w' hi hio (fun s hs=>hfr s fun x hx=>by have:=List.all_eq_true.1 hs x hx;simpa using this) hG (hmono f w' hG)
      (fun j d hd=>by
        simp only [Bool.and_eq_true,decide_eq_true_eq] at hd
        obtain ⟨⟨hj,he⟩,hb⟩:=hd
        obtain ⟨e,he1,he2⟩:=Array.any_eq_true'.1 he
        simp only [Bool.and_eq_true,beq_iff_eq] at he2
        obtain ⟨od,hod,hdd⟩:=Option.bind_eq_some_iff.1 hb
        exact hV j od d hj ⟨e,he1,he2.1,he2.2⟩ hod hdd) K hK)
    hfin n (Array.replicate l.length false) (fun _=>undef) { w with drawn:=w.drawn+1 } inv0 (hun n oM) h0 (fun j hj hd=>by rw [hfalse j oM] at hd;cases hd)
  rw [zm1 _ 0 _ (fun j _ hj=>hfalse j (by simp at hj;omega)),show n+(l.length-n)=l.length by omega] at this
  simpa using this
theorem zas {o:Oper} {a:Act} {w w2:World} {v:Value} {K:Act->World->Prop} {Q:Exit->Act->World->Prop} (h:(execOp a.eval o).run P w=.ok (.value v) w2) (hK:K (a.put o.dst v) w2):o.wp P a w K Q:=by
  unfold Oper.wp
  rw [h]
  exact hK
theorem zct {o:Oper} {a:Act} {w w2:World} {f:FuncId} {xs:Array Value} {K:Act->World->Prop} {Q:Exit->Act->World->Prop} (h:(execOp a.eval o).run P w=.ok (.enter f xs) w2) (hc:Calls P f xs w2 fun e w3=>∃ v,e=.returned v/\K (a.put o.dst v) w3):o.wp P a w K Q:=by
  unfold Oper.wp
  rw [h]
  exact hc.mono fun e w3 ⟨v,he,hK⟩=>by subst he;exact hK
end
end
section
open Go.RowKit
end
section
open Go.RowKit
theorem zpg (b:Bool) (k:Int) (w:World) (h:0<=k) (h':k<=7):Calls prog 204 #[.bool b,.int .i64 k] w fun e w'=>e=.returned (.int .u8 (bitB b k))/\w=w':=by
  obtain rfl|rfl|rfl|rfl|rfl|rfl|rfl|rfl:k=0\/k=1\/k=2\/k=3\/k=4\/k=5\/k=6\/k=7:=oM
  all_goals
  ( cases b <;>
    ( go_enter func204, ntmps204
      go_wp2
      go_ret
      exact ⟨rfl,rfl⟩))
theorem zqv (chip b:Int) (on:Bool) (w:World) (hc:(chip==2)=on) (h:0<=b) (h':b<=255) :
    Calls prog 200 #[.int .i64 chip,.int .u8 b] w fun e w'=>e=.returned (.agg #[.bool (tb b 128),.bool (tb b 64),.bool (on&&tb b 32),.bool (tb b 16),.bool (tb b 4),.bool (on&&tb b 2),.bool (tb b 1)])/\Below w.heap.size w w':=by
  cases on
  all_goals
    go_enter func200,ntmps200
    go_wp2
    go_returns
    exact ⟨rfl,by go_grown⟩
theorem zet (r:Int) (w:World) (h:0<=r) (h':r<=255) :
    Calls prog 193 #[.int .u8 r] w fun e w'=>e=.returned (.agg #[.bool (decide (128<=r)),.bool (r==0),.bool false,.bool false,.bool (par r),.bool false,.bool false])/\w.alloc (.cells #[.bool (decide (128<=r)),.bool (r==0),.bool false,.bool false,.bool (par r),.bool false,.bool false] 36)=w':=by
  go_enter func193,ntmps193
  go_wp2_with (first|(go_at_call 205;refine (zq5 _ _ oM oM).mono ?_;rintro e w' ⟨rfl,rfl⟩))
  go_returns
  exact ⟨rfl,rfl⟩
theorem zvq (chip:Int) (on s z k ac p v cy:Bool) (w:World) (hc:(chip==2)=on) :
    Calls prog 191 #[.int .i64 chip,.agg #[.bool s,.bool z,.bool k,.bool ac,.bool p,.bool v,.bool cy]] w fun e w'=>e=.returned (.int .u8 (zvu on s z k ac p v cy))/\Below w.heap.size w w':=by
  cases on
  · go_enter func191, ntmps191
    go_wp2
    go_quiet ((go_at_call 204;exact zmz (zpg _ _ _ oM oM)))
    go_wp2
    go_returns
    exact ⟨rfl,zho (by go_grown) _⟩
  · go_enter func191, ntmps191
    go_wp2
    go_quiet ((go_at_call 204;exact zmz (zpg _ _ _ oM oM)))
    go_wp2
    go_quiet ((go_at_call 204;exact zsy (zpg _ _ _ oM oM)))
    go_wp2
    go_returns
    exact ⟨rfl,zho (zho (by go_grown) _) _⟩
end
end Go.Proofs.YtlmbamdkklkliaaGreat
