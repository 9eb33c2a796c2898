/- Part of the proof that a law holds at every input. No conditions. -/
import Derived.Test.YtlmbamdkklkliaaGreatK21
import Derived.Test.YtlmbamdkklkliaaGreatK22
namespace Go.Proofs.YtlmbamdkklkliaaGreat
set_option linter.unusedVariables false
set_option linter.unusedSimpArgs false
set_option linter.unusedSectionVars false
set_option maxRecDepth 100000
set_option maxHeartbeats 16000000
open Go.Proofs.Tryz
open Lib (hid)
section
open Go.RowKit
theorem zod {w:World} {nb k:Nat} {s:Sl} {V:List Int} (h:NumAt w nb s V k) (hk:k<=800000000) (n:Nat) (h1:n<=100) :
  Calls prog 65 #[.pointer (some ⟨nb,0,none⟩),.int .i64 n] w (znu nb s V k (1+5 * n) 82 4 SRegion.cells (fun L=>L.length<=n/\∀ r ∈ L,zes r=true) w):=by
 have H0:=hid h
 go_enter func65,ntmps65
 go_wp2_with (go_at_call 38;(refine (zav aS oM _ oM oM).mono ?_);rintro e w2 ⟨v,rfl,hv0,hv1,hN2,hG2⟩)
 obtain ⟨N,hN⟩:∃ N:Nat,v=N:=⟨v.toNat,oM⟩
 subst hN
 go_loopg [5,6] N (fun kx s5 s6 wr=>∃ (j:Nat) (q:Sl) (L:List SRegion) (k':Nat),s6=.int .i64 j/\s5=.slice q.p q.n q.c/\j<=kx/\j+L.length<=n/\k'<=k+1+5 * L.length/\Aside (∀ r ∈ L,zes r=true)/\Aside (Bld w wr nb s V k' 82 4 SRegion.cells q L))
 case atStart=>exact ⟨N,⟨none,0,0⟩,[],k+1,rfl,rfl,oM,by simp;omega,by simp,((by intro r hr;simp at hr):∀ r ∈ ([]:List SRegion),zes r=true),(⟨hN2,hG2,Row.nil _ _ _ _ _ _⟩:Bld w w2 nb s V (k+1) 82 4 SRegion.cells ⟨none,0,0⟩ [])⟩
 case round=>
  obtain ⟨j,q,L,k',rfl,rfl,hj,hjl,hk',hok,hBL⟩:=hrel
  by_cases hj0:j=0
  ·subst hj0
   go_wp2_with fail
   go_ret
   exact ⟨q,L,k',rfl,⟨oM,hok.out⟩,hBL.out,oM⟩
  ·have hjI:(0:Int)<(j:Int):=oM
   go_upto_region 6 with (go_at_call 94;(refine (zux hBL.out.num oM).mono ?_);rintro e w4 ⟨fr,k4,rfl,⟨hf0,hf1⟩,hN4,hk4,hG4⟩)
   have hnb4:=zak hN4.m
   have hB4:Aside (Bld w w4 nb s V k4 82 4 SRegion.cells q L):=hBL.out.step dC hN4 hG4
   clear hBL
   go_cut [8] (fun s8 wx=>∃ sz:Int,s8=.int .i64 sz/\0<=sz/\sz<=65535/\Aside (Bld w wx nb s V (k4+1) 82 4 SRegion.cells q L))
   case first=>
    go_wp2_with (go_at_call 38;(refine (zav (hN4.thru bL) oM _ oM oM).mono ?_);rintro e w6 ⟨v6,rfl,hw0,hw1,hN6,hG6⟩;have ka:blk w6 w4.heap.size=some (.cells #[.int .i64 0,.int .i64 3,.int .i64 15,.int .i64 255,.int .i64 4095,.int .i64 65535] 3):=(hG6.block _ sI (fun e=>absurd (Option.some.inj e) oM)).trans (zab _ _ _ rfl);obtain ⟨gca,gfa,gza⟩:=zaa ka;have hr:v6=0\/v6=1\/v6=2\/v6=3\/v6=4\/v6=5:=oM;obtain rfl|rfl|rfl|rfl|rfl|rfl:=hr)
    all_goals
     go_meet
     exact ⟨_,rfl,oM,oM,((hB4.out.alloc _).step dC hN6 hG6)⟩
   obtain ⟨sz,rfl,hs0,hs1,hB6⟩:=hcut
   have hN6:=hB6.out.num
   have hnb6:=zak hN6.m
   have hnbw:nb<wc.heap.size:=hnb6
   go_wp2_with (first|(go_at_call 38;(refine (zav (hN7.thru bL) oM _ oM oM).mono ?_);rintro e w8 ⟨v8,rfl,hx0,hx1,hN8,hG8⟩;have hG8B:Bld w w8 nb s V (k4+1+1+1) 82 4 SRegion.cells q L:=((hB6.out.step dC hN7 hG7).alloc _).step dC hN8 hG8;have ka:blk w8 w7.heap.size=some (.cells #[.int .i64 0,.int .i64 0,.int .i64 1,.int .i64 2,.int .i64 5] 3):=(hG8.block _ sI (fun e=>absurd (Option.some.inj e) (by have:=hG7.size;omega))).trans (zab _ _ _ rfl);obtain ⟨gca,gfa,gza⟩:=zaa ka;have hr:v8=0\/v8=1\/v8=2\/v8=3\/v8=4:=oM;obtain rfl|rfl|rfl|rfl|rfl:=hr)|(go_at_call 38;(refine (zav hN6 oM _ oM oM).mono ?_);rintro e w7 ⟨v7,rfl,hy0,hy1,hN7,hG7⟩)|(at_builtin;refine zbi rfl _ _ 24 rfl ((hG8B).alloc _).row (fun _=>rfl) SRegion.one oM SRegion.info rfl [_] (Row.one (lo:=0) _ (zab _ _ _ rfl) (fun _=>rfl) (Nat.zero_le _)) rfl sO (by have:=hG8B.grown.size;simp;omega) ?_;intro s9 w9 hrow9 hgr9))
   all_goals
    go_roundg (j-1)
    case measure=>omega
    case rel=>
     refine ⟨j-1,s9,_,k4+1+1+1,?_,rfl,Nat.le_refl _,?_,?_,?_,Bld.append H0.out (hG8B.alloc _).num (hG8B.alloc _).grown hrow9 hgr9.grew.below⟩
     ·congr 1;omega
     ·simp;omega
     ·simp;omega
     ·intro r hr
      rcases List.mem_append.1 hr with hr|hr
      ·exact hok.out r hr
      ·rw [List.mem_singleton] at hr
       subst hr
       unfold zes
       simp
       omega
end
section
open Go.RowKit
theorem zyz {w:World} {nb k:Nat} {s:Sl} {V:List Int} (h:NumAt w nb s V k) (hk:k<=700000000) :
  Calls prog 37 #[.pointer (some ⟨nb,0,none⟩)] w (znu nb s V k 12 82 4 SRegion.cells (fun L=>L.length<=3/\∀ r ∈ L,zes r=true) w):=by
 have H0:=hid h
 go_enter func37,ntmps37
 go_wp2_with (first|(go_at_call 65;(refine (zod h oM 2 oM).mono ?_);rintro e w2 ⟨q,L,k2,rfl,⟨hl,hok⟩,hB2,hk2⟩;have HOK:Aside (∀ r ∈ L,zes r=true):=hok;clear hok)|(go_at_call 38;(refine (zav hB2.num oM _ oM oM).mono ?_);rintro e w3 ⟨v,rfl,hv0,hv1,hN3,hG3⟩;have hB3:=hB2.step dC hN3 hG3;have hr:v=0\/v=1\/v=2:=oM;obtain rfl|rfl|rfl:=hr)|(at_builtin;refine zbi rfl _ _ 24 rfl (hB3.alloc _).row (fun _=>rfl) SRegion.one oM SRegion.info rfl [_] (Row.one (lo:=0) _ (zab _ _ _ rfl) (fun _=>rfl) (Nat.zero_le _)) rfl sO (by have:=hB3.grown.size;simp;omega) ?_;intro s9 w9 hrow9 hgr9))
 all_goals
  go_ret
  refine ⟨s9,_,k2+1,rfl,⟨by simp;omega,fun r hr=>?_⟩,Bld.append H0.out (hB3.alloc _).num (hB3.alloc _).grown hrow9 hgr9.grew.below,oM⟩
  rcases List.mem_append.1 hr with hr|hr
  ·exact HOK.out r hr
  ·rw [List.mem_singleton] at hr
   subst hr
   rfl
end
section
open Go.RowKit
section
variable {n0 b:Nat} {P:SPlan} {G:List Int} {C:List SCycle} (w:World) (hP:PlanAt n0 b P G C w) (hC:C.length<=800) (hr:P.c.regs.Ok) (hG:G.length<=1000000) (hgb:∀ x ∈ G,0<=x/\x<=255)
include n0 b P G C w hP hC hr hG hgb
theorem zwp (hn:(P.i.kind==24)=false/\(P.i.kind==25)=false/\(P.i.kind==26)=false/\(P.i.kind==27)=false/\(P.i.kind==45)=false/\(P.i.kind==30)=false/\(P.i.kind==31)=false/\(P.i.kind==32)=false/\(P.i.kind==37)=false/\(P.i.kind==18)=false/\(P.i.kind==40)=false/\(P.i.kind==42)=false/\(P.i.kind==41)=false/\(P.i.kind==43)=false/\(P.i.kind==44)=false) :
  Calls prog 147 #[.pointer (some ⟨b,0,none⟩)] w (zb5 n0 b P G (C++zcq P) w):=by
 obtain ⟨hcl,hfr,hlt⟩:=zaa hP.at_
 have hat:=hP.at_
 obtain ⟨hn24,hn25,hn26,hn27,hn45,hn30,hn31,hn32,hn37,hn18,hn40,hn42,hn41,hn43,hn44⟩:=hn
 go_enter func147,ntmps147
 go_wp2_with fail
 go_end0
 refine ⟨rfl,Below.refl _ _,P.cycles,?_⟩
 simpa [zcq,beq_eq_false_iff_ne.1 hn24,beq_eq_false_iff_ne.1 hn25,beq_eq_false_iff_ne.1 hn26,beq_eq_false_iff_ne.1 hn27,beq_eq_false_iff_ne.1 hn45,beq_eq_false_iff_ne.1 hn30,beq_eq_false_iff_ne.1 hn31,beq_eq_false_iff_ne.1 hn32,beq_eq_false_iff_ne.1 hn37,beq_eq_false_iff_ne.1 hn18,beq_eq_false_iff_ne.1 hn40,beq_eq_false_iff_ne.1 hn42,beq_eq_false_iff_ne.1 hn41,beq_eq_false_iff_ne.1 hn43,beq_eq_false_iff_ne.1 hn44,zbb,zbo,zaw,zbd,zao,zbc,zay,zau] using hP
theorem zt5 :
  Calls prog 147 #[.pointer (some ⟨b,0,none⟩)] w (zb5 n0 b P G (C++zcq P) w):=by
 by_cases k24:P.i.kind=24
 ·exact zw0 w hP hC hr hG hgb k24
 by_cases k25:P.i.kind=25
 ·cases ht:zcn P
  ·exact zue w hP hC hr hG hgb k25 ht
  ·exact zud w hP hC hr hG hgb k25 ht
 by_cases k26:P.i.kind=26
 ·cases ht:zcn P
  ·exact zuc w hP hC hr hG hgb k26 ht
  ·exact zub w hP hC hr hG hgb k26 ht
 by_cases k27:P.i.kind=27
 ·exact zwz w hP hC hr hG hgb k27
 by_cases k45:P.i.kind=45
 ·cases ht:zcn P
  ·exact zt7 w hP hC hr hG hgb k45 ht
  ·exact zt6 w hP hC hr hG hgb k45 ht
 by_cases k30:P.i.kind=30
 ·by_cases hp:P.i.pair=3
  ·exact zua w hP hC hr hG hgb k30 hp
  ·exact zwy w hP hC hr hG hgb k30 (beq_eq_false_iff_ne.2 hp)
 by_cases k31:P.i.kind=31
 ·exact zwx w hP hC hr hG hgb k31
 by_cases k32:P.i.kind=32
 ·by_cases hc:P.c.chip=2
  ·exact zt9 w hP hC hr hG hgb k32 hc
  ·exact zww w hP hC hr hG hgb k32 (beq_eq_false_iff_ne.2 hc)
 by_cases k37:P.i.kind=37
 ·by_cases hc:P.c.chip=2
  ·exact zt8 w hP hC hr hG hgb k37 hc
  ·exact zwv w hP hC hr hG hgb k37 (beq_eq_false_iff_ne.2 hc)
 by_cases k18:P.i.kind=18
 ·exact zw1 w hP hC hr hG hgb k18
 by_cases k40:P.i.kind=40
 ·exact zwu w hP hC hr hG hgb k40
 by_cases k42:P.i.kind=42
 ·exact zws w hP hC hr hG hgb k42
 by_cases k41:P.i.kind=41
 ·exact zwt w hP hC hr hG hgb k41
 by_cases k43:P.i.kind=43
 ·exact zwr w hP hC hr hG hgb k43
 by_cases k44:P.i.kind=44
 ·exact zwq w hP hC hr hG hgb k44
 exact zwp w hP hC hr hG hgb ⟨beq_eq_false_iff_ne.2 k24,beq_eq_false_iff_ne.2 k25,beq_eq_false_iff_ne.2 k26,beq_eq_false_iff_ne.2 k27,beq_eq_false_iff_ne.2 k45,beq_eq_false_iff_ne.2 k30,beq_eq_false_iff_ne.2 k31,beq_eq_false_iff_ne.2 k32,beq_eq_false_iff_ne.2 k37,beq_eq_false_iff_ne.2 k18,beq_eq_false_iff_ne.2 k40,beq_eq_false_iff_ne.2 k42,beq_eq_false_iff_ne.2 k41,beq_eq_false_iff_ne.2 k43,beq_eq_false_iff_ne.2 k44⟩
end
theorem zo3 (P:SPlan) (G:List Int):0<=zfz P G/\zfz P G<=255:=by
 unfold zfz;split
 ·exact ⟨zg0 _ _ _,zg1 _ _ _⟩
 ·exact ⟨zex _ _ _,zey _ _ _⟩
theorem zkp {n0 b:Nat} {P:SPlan} {G:List Int} {C:List SCycle} (w:World) (hP:PlanAt n0 b P G C w) (hG:G.length<=1000000) (hgb:∀ x ∈ G,0<=x/\x<=255) :
  Calls prog 143 #[.pointer (some ⟨b,0,none⟩)] w fun e w'=>e=.returned (.int .u8 (zfz P G))/\Below w.heap.size w w':=by
 obtain ⟨hcl,hfr,hlt⟩:=zaa hP.at_
 have hat:=hP.at_
 have b1:=zd4 hgb 1
 have c1:=zcy w hP 1 oM hG
 by_cases hk:P.i.kind=14
 all_goals
  go_enter func143,ntmps143
  go_wp2_with fail
  refine c1.mono ?_;rintro e w' ⟨rfl,rfl⟩
  go_wp2_with fail
  have hcB:∀ (d:Nat) (os:Array Obj),blk (Go.Sort.grow (redrawn w d) os) b=some (.cells P.cells 198):=fun d os=>((below_regrown w d os).block b hlt).trans hat
  have hc:∀ (i d:Nat) (os:Array Obj),(Go.Sort.grow (redrawn w d) os).cell? ⟨b,i,none⟩=P.cells[i]? := fun i d os=>(zaa (hcB d os)).1 i
  refine wp_region_quiet_below kR kR ?_
  repeat (quiet_step (first|(go_at_call 162;exact Calls.regrown_of (zme _ _ _ _ b1.1 b1.2))|(go_at_call 163;exact Calls.regrown_of (zmj _ _ _ _ b1.1 b1.2))))
  refine wpQuiet_nil ?_
  intro _ hw'
  obtain ⟨⟨dq,osq⟩,hw''⟩:=hw'
  subst hw''
  go_wp2_with fail
  go_ret
  exact ⟨by simp [zfz, *],below_regrown _ dq osq⟩
end
end Go.Proofs.YtlmbamdkklkliaaGreat
