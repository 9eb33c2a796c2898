/- Part of the proof that a law holds at every input. No conditions. -/
import Derived.Deep.CutBlock
import Derived.Test.YtlmbamdkklkliaaGreatK43
import Derived.Test.YtlmbamdkklkliaaGreatK46
import Derived.Test.YtlmbamdkklkliaaGreatK47
namespace Go.Proofs.YtlmbamdkklkliaaGreat
set_option linter.unusedVariables false
set_option linter.unusedSimpArgs false
set_option linter.unusedSectionVars false
set_option maxRecDepth 100000
set_option maxHeartbeats 16000000
open Go.Proofs.Tryz
open Lib (hid)
open Go.IntWalk (iteOmega)
section
open Go.RowKit
theorem zcg {w w':World} {nb g:Nat} {o:Obj} (h:w.grownBy w' (some nb)) (hb:blk w g=some o) (hn:g≠nb):blk w' g=some o:=(h.block g (zak hb) (fun e=>hn (Option.some.inj e))).trans hb
theorem zvn {w:World} {nb k:Nat} {s:Sl} {V:List Int} (h:NumAt w nb s V k) (hk:k<=500000000) (n:Nat) (h1:n<=1000) :
  Calls prog 40 #[.pointer (some ⟨nb,0,none⟩),.int .i64 n] w (znu nb s V k (1+20 * n) 5 1 encB (fun B=>B.length<=12 * n/\∀ y ∈ B,0<=y/\y<=255) w):=by
 have H0:=hid h
 go_enter func40,ntmps40
 go_wp2_with (go_at_call 38;(refine (zav aS oM _ oM oM).mono ?_);rintro e w2 ⟨v,rfl,hv0,hv1,hN2,hG2⟩)
 obtain ⟨N,hN⟩:∃ N:Nat,v=N:=⟨v.toNat,oM⟩
 subst hN
 go_loopg [5,6] N (fun kx s5 s6 wr=>∃ (j r:Nat) (q:Sl) (B:List Int) (k':Nat),s6=.int .i64 j/\s5=.slice q.p q.n q.c/\j<=kx/\j+r<=n/\B.length<=12 * r/\k'<=k+1+20 * r/\Aside (∀ y ∈ B,0<=y/\y<=255)/\Aside (Bld w wr nb s V k' 5 1 encB q B))
 case atStart=>exact ⟨N,0,⟨none,0,0⟩,[],k+1,rfl,rfl,oM,oM,by simp,by simp,((by intro r hr;simp at hr):∀ r ∈ ([]:List Int),0<=r/\r<=255),(⟨hN2,hG2,Row.nil _ _ _ _ _ _⟩:Bld w w2 nb s V (k+1) 5 1 encB ⟨none,0,0⟩ [])⟩
 case round=>
  obtain ⟨j,r,q,B,k',rfl,rfl,hj,hjr,hBr,hk',hby,hBL⟩:=hrel
  by_cases hj0:j=0
  ·subst hj0
   go_wp2_with fail
   go_ret
   exact ⟨q,B,k',rfl,⟨oM,hby.out⟩,hBL.out,oM⟩
  ·have hjI : (0 : Int) < (j : Int) := oM
   go_upto_block 1 with fail
   go_cut [5] (fun s5 wx=>∃ (q':Sl) (B':List Int) (k5:Nat),s5=.slice q'.p q'.n q'.c/\B'.length<=B.length+12/\k5<=k'+20/\Aside (∀ y ∈ B',0<=y/\y<=255)/\Aside (Bld w wx nb s V k5 5 1 encB q' B'))
   case first=>
    go_upto_block 2 with (go_at_call 38;(refine (zav hBL.out.num oM _ oM oM).mono ?_);rintro e w4 ⟨v,rfl,hv0,hv1,hN4,hG4⟩)
    have hB4:Aside (Bld w w4 nb s V (k'+1) 5 1 encB q B):=hBL.out.step dC hN4 hG4
    have hnb4:=zak hN4.m
    clear hBL hN4 hG4
    by_cases c0:v=0
    ·subst c0
     go_upto_region 8 with fail
     refine zde 15 kR kR kR (fun j v w2=>match j with|0=>v=.slice q.p q.n q.c|1=>∃ g,v=.slice (some ⟨g,0,none⟩) 4 4/\blk w2 g=some (.cells #[.int .u8 33,.int .u8 49,.int .u8 1,.int .u8 17] 5)/\g≠nb|2=>v=.pointer (some ⟨nb,0,none⟩)|3=>∃ x:Int,v=.int .i64 x/\0<=x/\x<4|4=>∃ (g x:Nat),v=.pointer (some ⟨g,x,none⟩)/\x<4/\blk w2 g=some (.cells #[.int .u8 33,.int .u8 49,.int .u8 1,.int .u8 17] 5)/\g≠nb|5=>∃ y:Int,v=.int .u8 y/\0<=y/\y<=255|6=>v=.pointer (some ⟨nb,0,none⟩)|7=>∃ x:Int,v=.int .i64 x/\0<=x/\x<256|8=>∃ y:Int,v=.int .u8 y/\0<=y/\y<=255|9=>∃ g,v=.slice (some ⟨g,0,none⟩) 4 4/\blk w2 g=some (.cells #[.int .u8 0,.int .u8 0,.int .u8 1,.int .u8 255] 5)/\g≠nb|10=>v=.pointer (some ⟨nb,0,none⟩)|11=>∃ x:Int,v=.int .i64 x/\0<=x/\x<4|12=>∃ (g x:Nat),v=.pointer (some ⟨g,x,none⟩)/\x<4/\blk w2 g=some (.cells #[.int .u8 0,.int .u8 0,.int .u8 1,.int .u8 255] 5)/\g≠nb|13=>∃ y:Int,v=.int .u8 y/\0<=y/\y<=255|14=>∃ (g:Nat) (a b c:Int),v=.slice (some ⟨g,0,none⟩) 3 3/\blk w2 g=some (.cells #[.int .u8 a,.int .u8 b,.int .u8 c] 5)/\g≠nb/\(0<=a/\a<=255)/\(0<=b/\b<=255)/\0<=c/\c<=255|_=>True) (fun f w2=>∃ k5,NumAt w2 nb s V k5/\k5+f<=k'+1+15/\w4.grownBy w2 (some nb)) ?_ ?_ ?_ ?_
     ·exact ⟨k'+1,hB4.out.num.thru ((Below.refl _ w4).drew),oM,zcr ((Below.refl _ w4).drew)⟩
     ·exact fun f w2 ⟨k5,h1,h2,h3⟩=>⟨k5,h1,oM,h3⟩
     ·intro i o f a' w2 hi hio hfr hG3 hG2 hV K hK
      have hc:i=0\/i=1\/i=2\/i=3\/i=4\/i=5\/i=6\/i=7\/i=8\/i=9\/i=10\/i=11\/i=12\/i=13\/i=14:=oM
      rcases hc with rfl|rfl|rfl|rfl|rfl|rfl|rfl|rfl|rfl|rfl|rfl|rfl|rfl|rfl|rfl
      ·obtain rfl:=Option.some.inj hio
       have e0:a'.tmps[5]?.getD undef=.slice q.p q.n q.c:=zax (hfr 5 kR)
       exact zas (w2:=w2) (by simp [execOp,go_sem,↓iteOmega, *]) (hK _ _ rfl hG2 fun _ _ h=>h)
      ·obtain rfl:=Option.some.inj hio
       obtain ⟨k5,hN5,hk5,hg5⟩:=id hG2
       have hnb:=zak hN5.m
       have hga:w2.grownBy (w2.alloc (.cells #[.int .u8 33,.int .u8 49,.int .u8 1,.int .u8 17] 5)) (some nb):=zcr ((Below.refl _ w2).alloc nL _)
       exact zas (w2:=w2.alloc (.cells #[.int .u8 33,.int .u8 49,.int .u8 1,.int .u8 17] 5)) (v:=.slice (some ⟨w2.heap.size,0,none⟩) 4 4) (by simp [execOp,go_sem,↓iteOmega, *]) (hK _ _ ⟨w2.heap.size,rfl,zab _ _ _ rfl,oM⟩ ⟨k5,hN5.thru ((Below.refl _ w2).alloc nL _),hk5,za8 hg5 hga⟩ (fun j u h=>match j,h with|0,h=>h|1,h=>(fun ⟨g,h1,h2,h3⟩=>⟨g,h1,zcg hga h2 h3,h3⟩) h|2,h=>h|3,h=>h|4,h=>(fun ⟨g,x,h1,h2,h3,h4⟩=>⟨g,x,h1,h2,zcg hga h3 h4,h4⟩) h|5,h=>h|6,h=>h|7,h=>h|8,h=>h|9,h=>(fun ⟨g,h1,h2,h3⟩=>⟨g,h1,zcg hga h2 h3,h3⟩) h|10,h=>h|11,h=>h|12,h=>(fun ⟨g,x,h1,h2,h3,h4⟩=>⟨g,x,h1,h2,zcg hga h3 h4,h4⟩) h|13,h=>h|14,h=>(fun ⟨g,a,b,c,h1,h2,h3,h4⟩=>⟨g,a,b,c,h1,zcg hga h2 h3,h3,h4⟩) h|_+15,h=>h))
      ·obtain rfl:=Option.some.inj hio
       have e0:a'.tmps[0]?.getD undef=.pointer (some ⟨nb,0,none⟩):=zax (hfr 0 kR)
       exact zas (w2:=w2) (by simp [execOp,go_sem,↓iteOmega, *]) (hK _ _ rfl hG2 fun _ _ h=>h)
      ·obtain rfl:=Option.some.inj hio
       have e0:a'.tmps[34]?.getD undef=.pointer (some ⟨nb,0,none⟩):=zax (hV 2 34 kR)
       obtain ⟨k5,hN5,hk5,hg5⟩:=hG3
       exact zct (w2:=w2) (by simp [execOp,go_sem,↓iteOmega, *]) ((zav hN5 oM 4 oM oM).mono fun e w3 ⟨x,hx,h0,h1,hN6,hg6⟩=>⟨_,hx,hK _ _ ⟨x,rfl,h0,h1⟩ ⟨_,hN6,oM,za8 hg5 hg6⟩ (fun j u h=>match j,h with|0,h=>h|1,h=>(fun ⟨g,h1,h2,h3⟩=>⟨g,h1,zcg hg6 h2 h3,h3⟩) h|2,h=>h|3,h=>h|4,h=>(fun ⟨g,x,h1,h2,h3,h4⟩=>⟨g,x,h1,h2,zcg hg6 h3 h4,h4⟩) h|5,h=>h|6,h=>h|7,h=>h|8,h=>h|9,h=>(fun ⟨g,h1,h2,h3⟩=>⟨g,h1,zcg hg6 h2 h3,h3⟩) h|10,h=>h|11,h=>h|12,h=>(fun ⟨g,x,h1,h2,h3,h4⟩=>⟨g,x,h1,h2,zcg hg6 h3 h4,h4⟩) h|13,h=>h|14,h=>(fun ⟨g,a,b,c,h1,h2,h3,h4⟩=>⟨g,a,b,c,h1,zcg hg6 h2 h3,h3,h4⟩) h|_+15,h=>h)⟩)
      ·obtain rfl:=Option.some.inj hio
       obtain ⟨g,e0,hb0,hn0⟩:∃ g,a'.eval (.tmp 33)=.slice (some ⟨g,0,none⟩) 4 4/\blk w2 g=some (.cells #[.int .u8 33,.int .u8 49,.int .u8 1,.int .u8 17] 5)/\g≠nb:=hV 1 33 kR
       obtain ⟨x,e1,h0,h1⟩:∃ x:Int,a'.eval (.tmp 35)=.int .i64 x/\0<=x/\x<4:=hV 3 35 kR
       replace e0:=zax e0
       replace e1:=zax e1
       obtain ⟨y,rfl⟩:∃ y:Nat,x=y:=⟨x.toNat,oM⟩
       exact zas (w2:=w2) (by simp [execOp,go_sem,↓iteOmega, *]) (hK _ _ ⟨g,y,rfl,oM,hb0,hn0⟩ hG2 fun _ _ h=>h)
      ·obtain rfl:=Option.some.inj hio
       obtain ⟨g,x,e0,hx,hb0,hn0⟩:∃ (g x:Nat),a'.eval (.tmp 36)=.pointer (some ⟨g,x,none⟩)/\x<4/\blk w2 g=some (.cells #[.int .u8 33,.int .u8 49,.int .u8 1,.int .u8 17] 5)/\g≠nb:=hV 4 36 kR
       replace e0:=zax e0
       obtain ⟨gc,gf,gz⟩:=zaa hb0
       have hr:x=0\/x=1\/x=2\/x=3:=oM
       rcases hr with rfl|rfl|rfl|rfl
       ·exact zas (w2:=w2) (v:=.int .u8 33) (by simp [execOp,go_sem,↓iteOmega, *]) (hK _ _ ⟨(33:Int),rfl,dC,dC⟩ hG2 fun _ _ h=>h)
       ·exact zas (w2:=w2) (v:=.int .u8 49) (by simp [execOp,go_sem,↓iteOmega, *]) (hK _ _ ⟨(49:Int),rfl,dC,dC⟩ hG2 fun _ _ h=>h)
       ·exact zas (w2:=w2) (v:=.int .u8 1) (by simp [execOp,go_sem,↓iteOmega, *]) (hK _ _ ⟨(1:Int),rfl,dC,dC⟩ hG2 fun _ _ h=>h)
       ·exact zas (w2:=w2) (v:=.int .u8 17) (by simp [execOp,go_sem,↓iteOmega, *]) (hK _ _ ⟨(17:Int),rfl,dC,dC⟩ hG2 fun _ _ h=>h)
      ·obtain rfl:=Option.some.inj hio
       have e0:a'.tmps[0]?.getD undef=.pointer (some ⟨nb,0,none⟩):=zax (hfr 0 kR)
       exact zas (w2:=w2) (by simp [execOp,go_sem,↓iteOmega, *]) (hK _ _ rfl hG2 fun _ _ h=>h)
      ·obtain rfl:=Option.some.inj hio
       have e0:a'.tmps[38]?.getD undef=.pointer (some ⟨nb,0,none⟩):=zax (hV 6 38 kR)
       obtain ⟨k5,hN5,hk5,hg5⟩:=hG3
       exact zct (w2:=w2) (by simp [execOp,go_sem,↓iteOmega, *]) ((zav hN5 oM 256 oM oM).mono fun e w3 ⟨x,hx,h0,h1,hN6,hg6⟩=>⟨_,hx,hK _ _ ⟨x,rfl,h0,h1⟩ ⟨_,hN6,oM,za8 hg5 hg6⟩ (fun j u h=>match j,h with|0,h=>h|1,h=>(fun ⟨g,h1,h2,h3⟩=>⟨g,h1,zcg hg6 h2 h3,h3⟩) h|2,h=>h|3,h=>h|4,h=>(fun ⟨g,x,h1,h2,h3,h4⟩=>⟨g,x,h1,h2,zcg hg6 h3 h4,h4⟩) h|5,h=>h|6,h=>h|7,h=>h|8,h=>h|9,h=>(fun ⟨g,h1,h2,h3⟩=>⟨g,h1,zcg hg6 h2 h3,h3⟩) h|10,h=>h|11,h=>h|12,h=>(fun ⟨g,x,h1,h2,h3,h4⟩=>⟨g,x,h1,h2,zcg hg6 h3 h4,h4⟩) h|13,h=>h|14,h=>(fun ⟨g,a,b,c,h1,h2,h3,h4⟩=>⟨g,a,b,c,h1,zcg hg6 h2 h3,h3,h4⟩) h|_+15,h=>h)⟩)
      ·obtain rfl:=Option.some.inj hio
       obtain ⟨x,e0,h0,h1⟩:∃ x:Int,a'.eval (.tmp 39)=.int .i64 x/\0<=x/\x<256:=hV 7 39 kR
       replace e0:=zax e0
       have e1:IntKind.u8.wrap x=x:=by rw [IntKind.wrap_u8];omega
       exact zas (w2:=w2) (v:=.int .u8 x) (by simp [execOp,go_sem,↓iteOmega, *]) (hK _ _ ⟨x,rfl,h0,oM⟩ hG2 fun _ _ h=>h)
      ·obtain rfl:=Option.some.inj hio
       obtain ⟨k5,hN5,hk5,hg5⟩:=id hG2
       have hnb:=zak hN5.m
       have hga:w2.grownBy (w2.alloc (.cells #[.int .u8 0,.int .u8 0,.int .u8 1,.int .u8 255] 5)) (some nb):=zcr ((Below.refl _ w2).alloc nL _)
       exact zas (w2:=w2.alloc (.cells #[.int .u8 0,.int .u8 0,.int .u8 1,.int .u8 255] 5)) (v:=.slice (some ⟨w2.heap.size,0,none⟩) 4 4) (by simp [execOp,go_sem,↓iteOmega, *]) (hK _ _ ⟨w2.heap.size,rfl,zab _ _ _ rfl,oM⟩ ⟨k5,hN5.thru ((Below.refl _ w2).alloc nL _),hk5,za8 hg5 hga⟩ (fun j u h=>match j,h with|0,h=>h|1,h=>(fun ⟨g,h1,h2,h3⟩=>⟨g,h1,zcg hga h2 h3,h3⟩) h|2,h=>h|3,h=>h|4,h=>(fun ⟨g,x,h1,h2,h3,h4⟩=>⟨g,x,h1,h2,zcg hga h3 h4,h4⟩) h|5,h=>h|6,h=>h|7,h=>h|8,h=>h|9,h=>(fun ⟨g,h1,h2,h3⟩=>⟨g,h1,zcg hga h2 h3,h3⟩) h|10,h=>h|11,h=>h|12,h=>(fun ⟨g,x,h1,h2,h3,h4⟩=>⟨g,x,h1,h2,zcg hga h3 h4,h4⟩) h|13,h=>h|14,h=>(fun ⟨g,a,b,c,h1,h2,h3,h4⟩=>⟨g,a,b,c,h1,zcg hga h2 h3,h3,h4⟩) h|_+15,h=>h))
      ·obtain rfl:=Option.some.inj hio
       have e0:a'.tmps[0]?.getD undef=.pointer (some ⟨nb,0,none⟩):=zax (hfr 0 kR)
       exact zas (w2:=w2) (by simp [execOp,go_sem,↓iteOmega, *]) (hK _ _ rfl hG2 fun _ _ h=>h)
      ·obtain rfl:=Option.some.inj hio
       have e0:a'.tmps[42]?.getD undef=.pointer (some ⟨nb,0,none⟩):=zax (hV 10 42 kR)
       obtain ⟨k5,hN5,hk5,hg5⟩:=hG3
       exact zct (w2:=w2) (by simp [execOp,go_sem,↓iteOmega, *]) ((zav hN5 oM 4 oM oM).mono fun e w3 ⟨x,hx,h0,h1,hN6,hg6⟩=>⟨_,hx,hK _ _ ⟨x,rfl,h0,h1⟩ ⟨_,hN6,oM,za8 hg5 hg6⟩ (fun j u h=>match j,h with|0,h=>h|1,h=>(fun ⟨g,h1,h2,h3⟩=>⟨g,h1,zcg hg6 h2 h3,h3⟩) h|2,h=>h|3,h=>h|4,h=>(fun ⟨g,x,h1,h2,h3,h4⟩=>⟨g,x,h1,h2,zcg hg6 h3 h4,h4⟩) h|5,h=>h|6,h=>h|7,h=>h|8,h=>h|9,h=>(fun ⟨g,h1,h2,h3⟩=>⟨g,h1,zcg hg6 h2 h3,h3⟩) h|10,h=>h|11,h=>h|12,h=>(fun ⟨g,x,h1,h2,h3,h4⟩=>⟨g,x,h1,h2,zcg hg6 h3 h4,h4⟩) h|13,h=>h|14,h=>(fun ⟨g,a,b,c,h1,h2,h3,h4⟩=>⟨g,a,b,c,h1,zcg hg6 h2 h3,h3,h4⟩) h|_+15,h=>h)⟩)
      ·obtain rfl:=Option.some.inj hio
       obtain ⟨g,e0,hb0,hn0⟩:∃ g,a'.eval (.tmp 41)=.slice (some ⟨g,0,none⟩) 4 4/\blk w2 g=some (.cells #[.int .u8 0,.int .u8 0,.int .u8 1,.int .u8 255] 5)/\g≠nb:=hV 9 41 kR
       obtain ⟨x,e1,h0,h1⟩:∃ x:Int,a'.eval (.tmp 43)=.int .i64 x/\0<=x/\x<4:=hV 11 43 kR
       replace e0:=zax e0
       replace e1:=zax e1
       obtain ⟨y,rfl⟩:∃ y:Nat,x=y:=⟨x.toNat,oM⟩
       exact zas (w2:=w2) (by simp [execOp,go_sem,↓iteOmega, *]) (hK _ _ ⟨g,y,rfl,oM,hb0,hn0⟩ hG2 fun _ _ h=>h)
      ·obtain rfl:=Option.some.inj hio
       obtain ⟨g,x,e0,hx,hb0,hn0⟩:∃ (g x:Nat),a'.eval (.tmp 44)=.pointer (some ⟨g,x,none⟩)/\x<4/\blk w2 g=some (.cells #[.int .u8 0,.int .u8 0,.int .u8 1,.int .u8 255] 5)/\g≠nb:=hV 12 44 kR
       replace e0:=zax e0
       obtain ⟨gc,gf,gz⟩:=zaa hb0
       have hr:x=0\/x=1\/x=2\/x=3:=oM
       rcases hr with rfl|rfl|rfl|rfl
       ·exact zas (w2:=w2) (v:=.int .u8 0) (by simp [execOp,go_sem,↓iteOmega, *]) (hK _ _ ⟨(0:Int),rfl,dC,dC⟩ hG2 fun _ _ h=>h)
       ·exact zas (w2:=w2) (v:=.int .u8 0) (by simp [execOp,go_sem,↓iteOmega, *]) (hK _ _ ⟨(0:Int),rfl,dC,dC⟩ hG2 fun _ _ h=>h)
       ·exact zas (w2:=w2) (v:=.int .u8 1) (by simp [execOp,go_sem,↓iteOmega, *]) (hK _ _ ⟨(1:Int),rfl,dC,dC⟩ hG2 fun _ _ h=>h)
       ·exact zas (w2:=w2) (v:=.int .u8 255) (by simp [execOp,go_sem,↓iteOmega, *]) (hK _ _ ⟨(255:Int),rfl,dC,dC⟩ hG2 fun _ _ h=>h)
      ·obtain rfl:=Option.some.inj hio
       obtain ⟨a,ea,a0,a1⟩:∃ y:Int,a'.eval (.tmp 37)=.int .u8 y/\0<=y/\y<=255:=hV 5 37 kR
       replace ea:=zax ea
       obtain ⟨b,eb,b0,b1⟩:∃ y:Int,a'.eval (.tmp 40)=.int .u8 y/\0<=y/\y<=255:=hV 8 40 kR
       replace eb:=zax eb
       obtain ⟨c,ec,c0,c1⟩:∃ y:Int,a'.eval (.tmp 45)=.int .u8 y/\0<=y/\y<=255:=hV 13 45 kR
       replace ec:=zax ec
       obtain ⟨k5,hN5,hk5,hg5⟩:=id hG2
       have hnb:=zak hN5.m
       have hga:w2.grownBy (w2.alloc (.cells #[.int .u8 a,.int .u8 b,.int .u8 c] 5)) (some nb):=zcr ((Below.refl _ w2).alloc nL _)
       exact zas (w2:=w2.alloc (.cells #[.int .u8 a,.int .u8 b,.int .u8 c] 5)) (v:=.slice (some ⟨w2.heap.size,0,none⟩) 3 3) (by simp [execOp,go_sem,↓iteOmega, *]) (hK _ _ ⟨w2.heap.size,a,b,c,rfl,zab _ _ _ rfl,oM,⟨a0,a1⟩,⟨b0,b1⟩,c0,c1⟩ ⟨k5,hN5.thru ((Below.refl _ w2).alloc nL _),hk5,za8 hg5 hga⟩ (fun j u h=>match j,h with|0,h=>h|1,h=>(fun ⟨g,h1,h2,h3⟩=>⟨g,h1,zcg hga h2 h3,h3⟩) h|2,h=>h|3,h=>h|4,h=>(fun ⟨g,x,h1,h2,h3,h4⟩=>⟨g,x,h1,h2,zcg hga h3 h4,h4⟩) h|5,h=>h|6,h=>h|7,h=>h|8,h=>h|9,h=>(fun ⟨g,h1,h2,h3⟩=>⟨g,h1,zcg hga h2 h3,h3⟩) h|10,h=>h|11,h=>h|12,h=>(fun ⟨g,x,h1,h2,h3,h4⟩=>⟨g,x,h1,h2,zcg hga h3 h4,h4⟩) h|13,h=>h|14,h=>(fun ⟨g,a,b,c,h1,h2,h3,h4⟩=>⟨g,a,b,c,h1,zcg hga h2 h3,h3,h4⟩) h|_+15,h=>h))
     ·intro vs w2 hG2 hV2
      simp only [tkd,zeq]
      obtain ⟨k5,hN5,hk5,hg5⟩:=hG2
      have v0:vs 0=.slice q.p q.n q.c:=hV2 0 oM
      obtain ⟨g1,v1,z1⟩:∃ g,vs 1=.slice (some ⟨g,0,none⟩) 4 4/\blk w2 g=some (.cells #[.int .u8 33,.int .u8 49,.int .u8 1,.int .u8 17] 5)/\g≠nb:=hV2 1 oM
      have v2:vs 2=.pointer (some ⟨nb,0,none⟩):=hV2 2 oM
      obtain ⟨x3,v3,z3⟩:∃ x:Int,vs 3=.int .i64 x/\0<=x/\x<4:=hV2 3 oM
      obtain ⟨g4,x4,v4,z4⟩:∃ (g x:Nat),vs 4=.pointer (some ⟨g,x,none⟩)/\x<4/\blk w2 g=some (.cells #[.int .u8 33,.int .u8 49,.int .u8 1,.int .u8 17] 5)/\g≠nb:=hV2 4 oM
      obtain ⟨y5,v5,z5⟩:∃ y:Int,vs 5=.int .u8 y/\0<=y/\y<=255:=hV2 5 oM
      have v6:vs 6=.pointer (some ⟨nb,0,none⟩):=hV2 6 oM
      obtain ⟨x7,v7,z7⟩:∃ x:Int,vs 7=.int .i64 x/\0<=x/\x<256:=hV2 7 oM
      obtain ⟨y8,v8,z8⟩:∃ y:Int,vs 8=.int .u8 y/\0<=y/\y<=255:=hV2 8 oM
      obtain ⟨g9,v9,z9⟩:∃ g,vs 9=.slice (some ⟨g,0,none⟩) 4 4/\blk w2 g=some (.cells #[.int .u8 0,.int .u8 0,.int .u8 1,.int .u8 255] 5)/\g≠nb:=hV2 9 oM
      have v10:vs 10=.pointer (some ⟨nb,0,none⟩):=hV2 10 oM
      obtain ⟨x11,v11,z11⟩:∃ x:Int,vs 11=.int .i64 x/\0<=x/\x<4:=hV2 11 oM
      obtain ⟨g12,x12,v12,z12⟩:∃ (g x:Nat),vs 12=.pointer (some ⟨g,x,none⟩)/\x<4/\blk w2 g=some (.cells #[.int .u8 0,.int .u8 0,.int .u8 1,.int .u8 255] 5)/\g≠nb:=hV2 12 oM
      obtain ⟨y13,v13,z13⟩:∃ y:Int,vs 13=.int .u8 y/\0<=y/\y<=255:=hV2 13 oM
      obtain ⟨g14,a,b,c,v14,hb14,hn14,⟨a0,a1⟩,⟨b0,b1⟩,c0,c1⟩:∃ (g:Nat) (a b c:Int),vs 14=.slice (some ⟨g,0,none⟩) 3 3/\blk w2 g=some (.cells #[.int .u8 a,.int .u8 b,.int .u8 c] 5)/\g≠nb/\(0<=a/\a<=255)/\(0<=b/\b<=255)/\0<=c/\c<=255:=hV2 14 oM
      simp only [v0,v1,v2,v3,v4,v5,v6,v7,v8,v9,v10,v11,v12,v13,v14]
      clear hV2 v0 v1 v2 v3 v4 v5 v6 v7 v8 v9 v10 v11 v12 v13 v14
      simp only [Act.put,List.setIfInBounds_toArray,List.set_cons_succ,List.set_cons_zero]
      have hBB:=hB4.out.step dC hN5 hg5
      refine zbi rfl _ _ 28 rfl hBB.row (fun _=>rfl) oneB oM zgn rfl [a,b,c] (Row.litA (lo:=0) [a,b,c] #[.int .u8 a,.int .u8 b,.int .u8 c] hb14 (fun _=>rfl) rfl (by simp [maxLen]) (Nat.zero_le _)) rfl sO hBB.grown.size ?_
      intro s9 w9 hrow9 hgr9
      simp only [Act.put,List.setIfInBounds_toArray,List.set_cons_succ,List.set_cons_zero]
      go_wp2_with fail
      go_meet
      refine ⟨s9,_,k5,rfl,by simp only [List.length_append,List.length_cons,List.length_nil];omega,oM,?_,Bld.append H0.out hN5 hBB.grown hrow9 hgr9.grew.below⟩
      intro y hy
      rcases List.mem_append.1 hy with hy|hy
      ·exact hby.out y hy
      ·simp only [List.mem_cons,List.not_mem_nil,or_false] at hy
       omega
    ·have d0 : (v == 0) = false := beq_eq_false_iff_ne.2 c0
     by_cases c1:v=1
     ·subst c1
      go_wp2_with (first|(go_at_call 39;(refine (zjo (hB4.out).num oM).mono ?_);rintro e w5 ⟨b,kw5,rfl,⟨b0,b1⟩,hNw5,hkw5,hGw5⟩;have hB5:Bld w w5 nb s V _ 5 1 encB q B:=(hB4.out).step dC hNw5 hGw5)|(go_at_call 38;(refine (zav (hB5).num oM _ oM oM).mono ?_);rintro e w6 ⟨x,rfl,x0,x1,hNw6,hGw6⟩;have hB6:Bld w w6 nb s V _ 5 1 encB q B:=(hB5).step dC hNw6 hGw6;have ex:IntKind.u8.wrap x=x:=(by rw [IntKind.wrap_u8];omega))|(at_builtin;refine zbi rfl _ _ 28 rfl (hB6.alloc _).row (fun _=>rfl) oneB oM zgn rfl [62,b,211,x] (Row.litA (lo:=0) [62,b,211,x] _ (zab _ _ _ rfl) (fun _=>rfl) rfl (by simp [maxLen]) (Nat.zero_le _)) rfl sO (by have:=hB6.grown.size;simp;omega) ?_;intro s9 w9 hrow9 hgr9))
      go_meet
      refine ⟨s9,_,_,rfl,by simp only [List.length_append,List.length_cons,List.length_nil];omega,oM,?_,Bld.append H0.out (hB6.alloc _).num (hB6.alloc _).grown hrow9 hgr9.grew.below⟩
      intro y hy
      rcases List.mem_append.1 hy with hy|hy
      ·exact hby.out y hy
      ·simp only [List.mem_cons,List.not_mem_nil,or_false] at hy
       omega
     ·have d1:(v==1)=false:=beq_eq_false_iff_ne.2 c1
      by_cases c2:v=2
      ·subst c2
       go_wp2_with (at_builtin;refine zbi rfl _ _ 28 rfl (hB4.out.alloc _).row (fun _=>rfl) oneB oM zgn rfl [251] (Row.litA (lo:=0) [251] _ (zab _ _ _ rfl) (fun _=>rfl) rfl (by simp [maxLen]) (Nat.zero_le _)) rfl sO (by have:=hB4.out.grown.size;simp;omega) ?_;intro s9 w9 hrow9 hgr9)
       go_meet
       refine ⟨s9,_,_,rfl,by simp only [List.length_append,List.length_cons,List.length_nil];omega,oM,?_,Bld.append H0.out (hB4.out.alloc _).num (hB4.out.alloc _).grown hrow9 hgr9.grew.below⟩
       intro y hy
       rcases List.mem_append.1 hy with hy|hy
       ·exact hby.out y hy
       ·simp only [List.mem_cons,List.not_mem_nil,or_false] at hy
        omega
      ·have d2:(v==2)=false:=beq_eq_false_iff_ne.2 c2
       by_cases c3:v=3
       ·subst c3
        go_wp2_with (first|(go_at_call 39;(refine (zjo (hB5).num oM).mono ?_);rintro e w6 ⟨b,kw6,rfl,⟨b0,b1⟩,hNw6,hkw6,hGw6⟩;have hB6:Bld w w6 nb s V _ 5 1 encB q B:=(hB5).step dC hNw6 hGw6)|(go_at_call 38;(refine (zav (hB4.out).num oM _ oM oM).mono ?_);rintro e w5 ⟨x,rfl,x0,x1,hNw5,hGw5⟩;have hB5:Bld w w5 nb s V _ 5 1 encB q B:=(hB4.out).step dC hNw5 hGw5;have ex:IntKind.u8.wrap (16+x)=16+x:=(by rw [IntKind.wrap_u8];omega))|(at_builtin;refine zbi rfl _ _ 28 rfl (hB6.alloc _).row (fun _=>rfl) oneB oM zgn rfl [62,16+x,211,0,62,b,211,1,62,0,211,1] (Row.litA (lo:=0) [62,16+x,211,0,62,b,211,1,62,0,211,1] _ (zab _ _ _ rfl) (fun _=>rfl) rfl (by simp [maxLen]) (Nat.zero_le _)) rfl sO (by have:=hB6.grown.size;simp;omega) ?_;intro s9 w9 hrow9 hgr9))
        go_meet
        refine ⟨s9,_,_,rfl,by simp only [List.length_append,List.length_cons,List.length_nil];omega,oM,?_,Bld.append H0.out (hB6.alloc _).num (hB6.alloc _).grown hrow9 hgr9.grew.below⟩
        intro y hy
        rcases List.mem_append.1 hy with hy|hy
        ·exact hby.out y hy
        ·simp only [List.mem_cons,List.not_mem_nil,or_false] at hy
         omega
       ·have d3:(v==3)=false:=beq_eq_false_iff_ne.2 c3
        go_wp2_with (first|(go_at_call 41;(refine (zi1 (hB4.out).num oM).mono ?_);rintro e w5 ⟨o,kw5,rfl,⟨o0,o1⟩,hNw5,hkw5,hGw5⟩;have hB5:Bld w w5 nb s V _ 5 1 encB q B:=(hB4.out).step dC hNw5 hGw5)|(go_at_call 38;(refine (zav ((hB6.alloc (.cells #[.int .u8 0,.int .u8 0,.int .u8 1,.int .u8 255] 5))).num oM _ oM oM).mono ?_);rintro e w7 ⟨y,rfl,y0,y1,hNw7,hGw7⟩;have hB7:Bld w w7 nb s V _ 5 1 encB q B:=((hB6.alloc (.cells #[.int .u8 0,.int .u8 0,.int .u8 1,.int .u8 255] 5))).step dC hNw7 hGw7;have ka:blk w7 w6.heap.size=some (.cells #[.int .u8 0,.int .u8 0,.int .u8 1,.int .u8 255] 5):=(hGw7.block _ sI (fun e=>absurd (Option.some.inj e) (by have:=zak hB6.num.m;omega))).trans (zab _ _ _ rfl);obtain ⟨gca,gfa,gza⟩:=zaa ka;have hr:y=0\/y=1\/y=2\/y=3:=oM;obtain rfl|rfl|rfl|rfl:=hr)|(go_at_call 38;(refine (zav (hB5).num oM _ oM oM).mono ?_);rintro e w6 ⟨x,rfl,x0,x1,hNw6,hGw6⟩;have hB6:Bld w w6 nb s V _ 5 1 encB q B:=(hB5).step dC hNw6 hGw6;have ex:IntKind.u8.wrap x=x:=(by rw [IntKind.wrap_u8];omega))|(at_builtin;refine zbi rfl _ _ 28 rfl (hB7.alloc _).row (fun _=>rfl) oneB oM zgn rfl [o,x,_] (Row.litA (lo:=0) [o,x,_] _ (zab _ _ _ rfl) (fun _=>rfl) rfl (by simp [maxLen]) (Nat.zero_le _)) rfl sO (by have:=hB7.grown.size;simp;omega) ?_;intro s9 w9 hrow9 hgr9))
        all_goals
         go_meet
         refine ⟨s9,_,_,rfl,by simp only [List.length_append,List.length_cons,List.length_nil];omega,oM,?_,Bld.append H0.out (hB7.alloc _).num (hB7.alloc _).grown hrow9 hgr9.grew.below⟩
         intro y hy
         rcases List.mem_append.1 hy with hy|hy
         ·exact hby.out y hy
         ·simp only [List.mem_cons,List.not_mem_nil,or_false] at hy
          omega
   obtain ⟨q',B',k5,rfl,hbl,hk5,hby',hB'⟩:=hcut
   go_wp2_with fail
   go_roundg (j-1)
   case measure=>omega
   case rel=>exact ⟨j-1,r+1,q',B',k5,by congr 1;omega,rfl,oM,oM,oM,oM,hby',hB'⟩
end
section
open Go.RowKit
theorem zvz {w:World} {lo rb:Nat} {r:SRecorder} {q:RecM} {I:List SItem} (h:RecAt w lo rb r q I) (hlo:lo<=rb) (x:SMoment) {G:List Int} (hg:Row w 0 w.heap.size 5 1 encB x.before.got G) (hG:G.length<=900000) (hgb:∀ y ∈ G,0<=y/\y<=255) (hr:x.before.cpu.regs.Ok) (hd:0<=x.data/\x.data<=255) (hcd:0<=x.before.cycle.data/\x.before.cycle.data<=255)
  (hT:q.tr.length<=800000) (hI:I.length<=800000) (hE:q.ev.length<=800000) (hC:q.cp.length<=800000) (hst:1<=x.pins.state/\x.pins.state<=10) (hne:2<=x.pins.state->x.pins.state<=7->0<I.length) :
  Calls prog 22 #[.pointer (some ⟨rb,0,none⟩),.agg x.cells] w (Noted lo rb r (zgl q x G r.machine.sys.core.cpu) I w):=by
 have hm:=h.m
 have hlt:=zak hm
 have H:=hid h
 have HG:=hid hg
 have HAD:Aside (∀ w1,Row w1 0 w1.heap.size 5 1 encB x.before.got G->Calls prog 44 #[.agg x.before.cells,.agg x.lines.cells,.int .u8 x.data] w1 (zb4 x.before G x.lines x.data w1)):=fun w1 hg1=>zut x.before G x.lines x.data w1 hg1 hG hgb hr hd hcd
 have HB:Aside (q.tr.length<=800000/\I.length<=800000/\q.ev.length<=800000/\q.cp.length<=800000/\G.length<=900000):=⟨hT,hI,hE,hC,hG⟩
 have HST:Aside ((1<=x.pins.state/\x.pins.state<=10)/\(2<=x.pins.state->x.pins.state<=7->0<I.length)):=⟨hst,hne⟩
 obtain ⟨gcm,gfm,gzm⟩:=zaa hm
 clear h hg hG hgb hr hd hcd hI hE hC hst hne
 go_enter func22,ntmps22
 go_upto_region 1 with fail
 refine wpNm (fun W hW=>?_)
 have f0:blk W rb=some (.cells r.cells 93):=by rw [hW];exact sM
 have fx:blk W w.heap.size=some (.cells x.cells 96):=by rw [hW];exact sM
 have hBW:Below w.heap.size w W:=by rw [hW];exact bL
 have BW:=hid hBW
 have HW:Aside (RecAt W lo rb r q I):=H.out.thru hBW hlo
 have HT:Aside (Row W lo W.heap.size 76 17 SPins.cells r.run.trace q.tr):=HW.out.tr
 have F0:=hid f0
 have hWz:=hBW.size
 clear hW hBW gcm gfm gzm hm
 obtain ⟨gcm,gfm,gzm⟩:=zaa f0
 obtain ⟨gcx,gfx,gzx⟩:=zaa fx
 go_cut [] (fun wx=>∃ ou:Sl,blk wx rb=some (.cells ({ r with run := { r.run with trace:=ou } }:SRecorder).cells 93)/\blk wx w.heap.size=some (.cells x.cells 96)/\Row wx lo wx.heap.size 76 17 SPins.cells ou (q.tr++[x.pins])/\Kept lo rb [76] W wx)
 case first=>
  go_region_law ((refine zbr rfl _ _ 31 (by rfl) ((HT.out.thru ((Below.refl _ W).drew) nL).thru ((Below.refl _ W.drew).alloc nL _) nL) (fun _=>rfl) SPins.one oM SPins.info (by rfl) [(x.pins:SPins)] W.heap.size (x.pins:SPins).cells 76 1 1 (by rfl) (zab _ _ _ rfl) (by simp [encL]) rfl oM oM sO ?_;intro s' w2 hrow hgr;have hat:=hgr.kept rb _ _ dC ((blk_alloc_past _ rb _ (zak F0.out)).trans F0.out);have hkfx:=hgr.kept w.heap.size _ _ dC ((blk_alloc_past _ _ _ (zak fx)).trans fx);obtain ⟨hcl1,hfr1,hlt1⟩:=zaa hat))
  all_goals go_wp2_with fail
  all_goals
   go_meet
   refine ⟨s',?_,?_,?_,?_⟩
   ·first|(simp [go_sem,↓iteOmega, *];done)|(simp [go_sem,↓iteOmega, *]<;>rfl)
   ·exact (blk_setBlk_other _ _ _ _ _ (by have:=zak fx;omega)).trans hkfx
   ·exact Row.hi_mono (Row.set hrow hat dC) (by rw [size_setBlk];exact Nat.le_refl _)
   ·exact Kept.setM ((Kept.alloc _ (Kept.drew Kept.refl) sO).trans (Kept.of_grew hgr sI)) hlo
 obtain ⟨ou,g0,gx,rt,hk⟩:=hcut
 obtain ⟨r1,hr1⟩:∃ r1,({ r with run := { r.run with trace:=ou } }:SRecorder)=r1:=⟨_,rfl⟩
 have ra1:=HW.out.trace hk g0 rt
 rw [hr1] at ra1 g0
 have e1:r1.machine=r.machine:=by rw [<- hr1]
 have E1:=hid e1
 have RA1:=hid ra1
 have K1:Aside (Kept lo rb [76,154,63,41] w wc):=(Kept.of_below BW.out oM).trans (hk.more sI)
 have hz1:=hk.size
 clear hr1 rt hk ra1 f0 fx gcm gfm gzm gcx gfx gzx hT e1
 obtain ⟨gcm,gfm,gzm⟩:=zaa g0
 obtain ⟨gcx,gfx,gzx⟩:=zaa gx
 have GX:=hid gx
 have GZ:Aside (rb<wc.heap.size/\w.heap.size<wc.heap.size/\w.heap.size<=wc.heap.size):=⟨gzm,gzx,oM⟩
 obtain ⟨q1,hq1⟩:∃ q1,({ q with tr:=q.tr++[x.pins] }:RecM)=q1:=⟨_,rfl⟩
 have HQ1:=hid hq1
 have RA2:Aside (RecAt wc lo rb r1 q1 I):=by
  have e:RecAt wc lo rb r1 q1 I:=by rw [<- hq1];exact RA1.out
  exact e
 have HQB:Aside (q1.ev.length<=800000/\q1.cp.length<=800000):=by
  have e:q1.ev.length<=800000/\q1.cp.length<=800000:=by rw [<- hq1];exact ⟨HB.out.2.2.1,HB.out.2.2.2.1⟩
  exact e
 have GR:Aside (Row wc 0 wc.heap.size 5 1 encB x.before.got G):=(HG.out.kept K1.out H.out.m dC dC).hi_mono K1.out.size
 clear hq1
 obtain ⟨v1,hv1⟩:∃ v,(x.pins.state==10)=v:=⟨_,rfl⟩
 have hv1n:(x.pins.state != 10) = !v1:=by rw [bne,hv1]
 have HV1:=hid hv1
 go_upto_if 23 with fail
 refine wpNm (fun V hV=>?_)
 have n0:blk V rb=some (.cells r1.cells 93):=by rw [hV];exact sM
 have nx:blk V w.heap.size=some (.cells x.cells 96):=by rw [hV];exact sM
 have nc:blk V wc.heap.size=some (.cells SChange.zero.cells 121):=by rw [hV];exact sM
 have hBV:Below wc.heap.size wc V:=by rw [hV];exact bL
 obtain ⟨cb,hcb⟩:∃ cb,wc.heap.size=cb:=⟨_,rfl⟩
 have BV:=hid hBV
 have hcr:cb≠rb:=by have:=GZ.out.1;omega
 have hxr:w.heap.size≠rb:=oM
 have hcx:cb≠w.heap.size:=by have:=GZ.out.2.1;omega
 rw [hcb] at nc ⊢
 have NV:Aside (NoteAt w lo rb r x G [] w.heap.size cb SChange.zero ⟨none,0,0⟩ V r1 q1 I):=⟨E1.out,RA2.out.thru hBV hlo,nx,nc,Row.nil _ _ _ _ _ _,(GR.out.thru hBV nL).hi_mono hBV.size,K1.out.trans (Kept.of_below hBV oM)⟩
 have HCB:Aside (wc.heap.size=cb):=hcb
 clear hV hBV g0 gx gcm gfm gzm gcx gfx gzx hcb
 obtain ⟨gcm,gfm,gzm⟩:=zaa n0
 obtain ⟨gcx,gfx,gzx⟩:=zaa nx
 obtain ⟨gcc,gfc,gzc⟩:=zaa nc
 go_cut [] (fun wx=>∃ (ch:SChange) (sx:Sl) (Gx:List Int),(v1=true->ch=SChange.zero)/\(v1=false->ch=advX x.before G x.lines x.data sx/\Gx=xG x.before G x.data)/\NoteAt w lo rb r x G Gx w.heap.size cb ch sx wx r1 q1 I)
 case first=>
  cases v1
  ·rw [Bool.not_false] at hv1n
   go_wp2_with (go_at_call 44;(refine (HAD.out _ NV.out.got).mono ?_);intro e w3 hadv;obtain ⟨s1,sx,rfl,hr1,hr2,hB3⟩:=hadv;obtain ⟨c1,hc1⟩:∃ c1,({ advC x.before G x.lines x.data with got:=s1 }:SCore)=c1:=⟨_,rfl⟩;obtain ⟨ch,hch⟩:∃ ch,advX x.before G x.lines x.data sx=ch:=⟨_,rfl⟩;rw [hc1,hch];have HCH:=hid hch;clear hc1 hch;have m3:blk w3 cb=some (.cells SChange.zero.cells 121):=(hB3.block cb gzc).trans nc;obtain ⟨gc3,gf3,gz3⟩:=zaa m3)
   go_meet
   have n3:=NV.out.thru hB3 hlo hxr hcr
   have hz3:=HCB.out
   exact ⟨ch,sx,xG x.before G x.data,fun h=>(by cases h),fun _=>⟨HCH.out.symm,rfl⟩,n3.setCh (hr2.lo_mono (Nat.zero_le _)) (fun e=>hcx e.symm) hcr (by have:=GZ.out.2.2;omega) hlo (by have:=GZ.out.1;omega)⟩
  ·rw [Bool.not_true] at hv1n
   go_wp2_with fail
   go_meet
   exact ⟨SChange.zero,⟨none,0,0⟩,[],fun _=>rfl,fun h=>(by cases h),NV.out⟩
 obtain ⟨ch,sx,Gx,c10,c11,na⟩:=hcut
 have n0:=na.tell.m
 have nx:=na.bx
 have nc:=na.bc
 have NA:=hid na
 have C10:=hid c10
 have C11:=hid c11
 clear na c10 c11 gcm gfm gzm gcx gfx gzx gcc gfc gzc hv1n
 obtain ⟨gcm,gfm,gzm⟩:=zaa n0
 obtain ⟨gcx,gfx,gzx⟩:=zaa nx
 obtain ⟨gcc,gfc,gzc⟩:=zaa nc
 have IT:Aside (Calls prog 45 #[.pointer (some ⟨rb,0,none⟩),.agg x.cells,.agg ch.cycle.cells] wc (zjg lo rb r1 I wc)):=zwa r1 rb x ch.cycle wc n0 NA.out.tell.it (by have:=HB.out.2.1;omega) hlo HST.out.1 HST.out.2
 go_upto_region 5 with fail
 go_cut [] (fun wx=>∃ (r2:SRecorder) (I2:List SItem),NoteAt w lo rb r x G Gx w.heap.size cb ch sx wx r2 q1 I2/\0<I2.length/\I2.length<=I.length+1)
 case first=>
  go_wp2_with (go_at_call 45;(refine IT.out.mono ?_);rintro e w3 ⟨rfl,it,I',i0,i1,i2,i3,hk⟩)
  go_meet
  exact ⟨_,I',NA.out.step hk sI (NA.out.tell.items hk i0 i1) rfl hxr hcr,i2,i3⟩
 obtain ⟨r2,I2,na,i2,i3⟩:=hcut
 clear n0 nx nc gcm gfm gzm gcx gfx gzx gcc gfc gzc
 have n0:=na.tell.m
 have nx:=na.bx
 have nc:=na.bc
 have NB:=hid na
 have HI2:Aside (0<I2.length/\I2.length<=I.length+1):=⟨i2,i3⟩
 clear na i2 i3
 obtain ⟨gcm,gfm,gzm⟩:=zaa n0
 obtain ⟨gcx,gfx,gzx⟩:=zaa nx
 obtain ⟨gcc,gfc,gzc⟩:=zaa nc
 obtain ⟨b,hb⟩:∃ b,ch.ended=b:=⟨_,rfl⟩
 have HBE:=hid hb
 go_upto_block 0 with fail
 go_cut [] (fun wx=>∃ r3:SRecorder,NoteAt w lo rb r x G Gx w.heap.size cb ch sx wx r3 (zgf q1 x G r.machine.sys.core.cpu) I2)
 case first=>
  cases v1
  ·have hns:¬x.pins.state=10:=fun e=>by have:=HV1.out;rw [e] at this;cases this
   have TE:Aside (zgf q1 x G r.machine.sys.core.cpu=endR q1 x G):=by
    have e:zgf q1 x G r.machine.sys.core.cpu=endR q1 x G:=by unfold zgf;rw [if_neg hns]
    exact e
   have hsg:=z1d x.before G x.lines x.data sx
   rw [<- (C11.out rfl).1] at hsg
   have HSG:Aside (({ ch with got:=⟨none,0,0⟩ }:SChange)=chX x G/\(ch.ended=true->ch.got=sx)):=hsg
   have hen:(chX x G).ended=b:=by rw [<- HSG.out.1];exact hb
   have HEN:=hid hen
   clear hns hsg hen
   cases b
   ·go_wp2_with fail
    go_meet
    exact ⟨r2,by rw [TE.out];unfold endR;rw [HEN.out,if_neg sI];exact NB.out⟩
   ·have hcg:ch.got=sx:=HSG.out.2 hb
    have hlat:(chX x G).latched=ch.latched:=by rw [<- HSG.out.1]
    have hcpu:(chX x G).cpu=ch.cpu:=by rw [<- HSG.out.1]
    have HRW:Aside (Row wc 0 wc.heap.size 5 1 encB ch.got (xG x.before G x.data)):=by
     have e:Row wc 0 wc.heap.size 5 1 encB ch.got (xG x.before G x.data):=by rw [hcg,<- (C11.out rfl).2];exact NB.out.row
     exact e
    have EVN:Aside (∀ (k:Int) w1,Below wc.heap.size wc w1->zkd x.before.source=k->Calls prog 48 #[.pointer (some ⟨rb,0,none⟩),.agg (latched ({ SEvent.zero with kind:=k,source:=x.before.source,bytes:=ch.got,lines:=x.lines }:SEvent) ch.latched).cells,.agg ch.cpu.cells] w1 (Told lo rb r2 (addE q1 ⟨endE x G,xG x.before G x.data⟩ (chX x G).cpu) I2 w1)):=fun k w1 hB hk=>by
     rw [hcpu]
     exact zhb (NB.out.tell.thru hB hlo) _ ⟨endE x G,xG x.before G x.data⟩ _ (by unfold endE;rw [hlat,hk];rfl) ((HRW.out.thru hB nL).hi_mono hB.size) (by have:=HQB.out.1;omega) (by have:=HQB.out.2;omega) hlo
    have ER:Aside (endR q1 x G=addE q1 ⟨endE x G,xG x.before G x.data⟩ (chX x G).cpu):=by
     have e:endR q1 x G=addE q1 ⟨endE x G,xG x.before G x.data⟩ (chX x G).cpu:=by unfold endR;rw [HEN.out,if_pos rfl]
     exact e
    clear hcg hlat hcpu
    have hk3:(x.before.source=0/\zkd x.before.source=1)\/(x.before.source≠0/\x.before.source=5/\zkd x.before.source=2)\/(x.before.source≠0/\x.before.source≠5/\zkd x.before.source=3):=by
     unfold zkd
     by_cases h0:x.before.source=0
     ·exact .inl ⟨h0,if_pos h0⟩
     ·by_cases h5:x.before.source=5
      ·exact .inr (.inl ⟨h0,h5,by rw [if_neg h0,if_pos h5]⟩)
      ·exact .inr (.inr ⟨h0,h5,by rw [if_neg h0,if_neg h5]⟩)
    have KF:Aside (∀ w3,Below wc.heap.size wc w3->∀ r3,r3.machine=r2.machine->∀ w4,RecAt w4 lo rb r3 (addE q1 ⟨endE x G,xG x.before G x.data⟩ (chX x G).cpu) I2->Kept lo rb [63,41] w3 w4->∃ r3:SRecorder,NoteAt w lo rb r x G Gx w.heap.size cb ch sx w4 r3 (zgf q1 x G r.machine.sys.core.cpu) I2):=fun w3 hB r3 hm w4 hr hk=>⟨r3,by rw [TE.out,ER.out];exact (NB.out.thru hB hlo hxr hcr).step hk sI hr hm hxr hcr⟩
    obtain ⟨h0,hk0⟩|⟨h0,h5,hk0⟩|⟨h0,h5,hk0⟩:=hk3
    ·have KE:=hid hk0
     have hs0:(x.before.source==0)=true:=beq_iff_eq.2 h0
     clear hk0 h0
     go_wp2_with (first|(go_at_call 47;(refine (zfo _ _ _).mono ?_);rintro e w4 ⟨rfl,hB4⟩;have hz4:=hB4.size;have m1:blk w4 cb=some (.cells ch.cells 121):=(hB4.block cb gzc).trans nc;have m2:blk w4 w.heap.size=some (.cells x.cells 96):=(hB4.block w.heap.size gzx).trans nx;obtain ⟨gc4,gf4,gz4⟩:=zaa m1;obtain ⟨gc5,gf5,gz5⟩:=zaa m2)|(go_at_call 48;(refine (EVN.out _ _ bL KE.out).mono ?_);rintro e w5 ⟨rfl,r3,e1,e2,e3⟩))
     go_meet
     exact KF.out _ bL r3 e1 _ e2 e3
    ·have KE:=hid hk0
     have hs0:(x.before.source==0)=false:=beq_eq_false_iff_ne.2 h0
     have hs5:(x.before.source==5)=true:=beq_iff_eq.2 h5
     clear hk0 h0 h5
     go_wp2_with (first|(go_at_call 47;(refine (zfo _ _ _).mono ?_);rintro e w4 ⟨rfl,hB4⟩;have hz4:=hB4.size;have m1:blk w4 cb=some (.cells ch.cells 121):=(hB4.block cb gzc).trans nc;have m2:blk w4 w.heap.size=some (.cells x.cells 96):=(hB4.block w.heap.size gzx).trans nx;obtain ⟨gc4,gf4,gz4⟩:=zaa m1;obtain ⟨gc5,gf5,gz5⟩:=zaa m2)|(go_at_call 48;(refine (EVN.out _ _ bL KE.out).mono ?_);rintro e w5 ⟨rfl,r3,e1,e2,e3⟩))
     go_meet
     exact KF.out _ bL r3 e1 _ e2 e3
    ·have KE:=hid hk0
     have hs0:(x.before.source==0)=false:=beq_eq_false_iff_ne.2 h0
     have hs5:(x.before.source==5)=false:=beq_eq_false_iff_ne.2 h5
     clear hk0 h0 h5
     go_wp2_with (first|(go_at_call 47;(refine (zfo _ _ _).mono ?_);rintro e w4 ⟨rfl,hB4⟩;have hz4:=hB4.size;have m1:blk w4 cb=some (.cells ch.cells 121):=(hB4.block cb gzc).trans nc;have m2:blk w4 w.heap.size=some (.cells x.cells 96):=(hB4.block w.heap.size gzx).trans nx;obtain ⟨gc4,gf4,gz4⟩:=zaa m1;obtain ⟨gc5,gf5,gz5⟩:=zaa m2)|(go_at_call 48;(refine (EVN.out _ _ bL KE.out).mono ?_);rintro e w5 ⟨rfl,r3,e1,e2,e3⟩))
     go_meet
     exact KF.out _ bL r3 e1 _ e2 e3
  ·have hss:x.pins.state=10:=beq_iff_eq.1 HV1.out
   have TE:Aside (zgf q1 x G r.machine.sys.core.cpu=zgw q1 x G r.machine.sys.core.cpu):=by
    have e:zgf q1 x G r.machine.sys.core.cpu=zgw q1 x G r.machine.sys.core.cpu:=by unfold zgf;rw [if_pos hss]
    exact e
   have RS:Aside (Calls prog 46 #[.pointer (some ⟨rb,0,none⟩),.agg x.cells] wc (Told lo rb r2 (zgw q1 x G r2.machine.sys.core.cpu) I2 wc)):=zsq NB.out.tell hlo (by have:=HQB.out.1;omega) (by have:=HQB.out.2;omega) x NB.out.got HB.out.2.2.2.2
   clear hss
   go_wp2_with (go_at_call 46;(refine RS.out.mono ?_);rintro e w3 ⟨rfl,r3,e1,e2,e3⟩)
   go_meet
   exact ⟨r3,by rw [TE.out];rw [NB.out.mach] at e2;exact NB.out.step e3 sI e2 e1 hxr hcr⟩
 obtain ⟨r3,na⟩:=hcut
 clear n0 nx nc gcm gfm gzm gcx gfx gzx gcc gfc gzc hb
 have n0:=na.tell.m
 have nx:=na.bx
 have NC:=hid na
 clear na
 obtain ⟨gcm,gfm,gzm⟩:=zaa n0
 obtain ⟨gcx,gfx,gzx⟩:=zaa nx
 obtain ⟨q3,hq3⟩:∃ q3,zgf q1 x G r.machine.sys.core.cpu=q3:=⟨_,rfl⟩
 have HQ3:=hid hq3
 have hq3l:=zsi q1 x G r.machine.sys.core.cpu
 rw [hq3] at hq3l
 have HQL:=hid hq3l
 clear hq3 hq3l
 have NM:Aside (zgl q x G r.machine.sys.core.cpu=dmaR q3 x):=by
  have e:zgl q x G r.machine.sys.core.cpu=dmaR q3 x:=by unfold zgl;rw [HQ1.out,HQ3.out]
  exact e
 have RA3:Aside (RecAt wc lo rb r3 q3 I2):=by
  have e:RecAt wc lo rb r3 q3 I2:=by rw [<- HQ3.out];exact NC.out.tell
  exact e
 cases hw:x.wrote
 ·go_wp2_with fail
  go_end0
  exact ⟨rfl,r3,I2,NC.out.mach,by rw [NM.out];unfold dmaR;rw [if_neg (by rw [hw];simp)];exact RA3.out,HI2.out.1,HI2.out.2,NC.out.kept⟩
 ·go_upto_region 18 with fail
  have q0:∀ d os,blk (Go.Sort.grow (redrawn wc d) os) w.heap.size=some (.cells x.cells 96):=fun d os=>((below_regrown wc d os).block _ oM).trans aS
  have qc0:∀ d os ix,(Go.Sort.grow (redrawn wc d) os).cell? ⟨w.heap.size,ix,none⟩=(x.cells)[ix]? := fun d os ix=>(zaa (q0 d os)).1 ix
  have q1:∀ d os,blk (Go.Sort.grow (redrawn wc d) os) rb=some (.cells r3.cells 93):=fun d os=>((below_regrown wc d os).block _ oM).trans aS
  have qc1:∀ d os ix,(Go.Sort.grow (redrawn wc d) os).cell? ⟨rb,ix,none⟩=(r3.cells)[ix]? := fun d os ix=>(zaa (q1 d os)).1 ix
  refine zad 8 kR kR ?_
  simp only [tkd]
  repeat (quiet_step (fail))
  refine wpQuiet_nil ?_
  intro wq hwq
  have hBq:Below wc.heap.size wc wq:=by obtain ⟨p,rfl⟩:=hwq;exact below_regrown _ _ _
  clear hwq q0 qc0 q1 qc1
  have EVQ:Aside (Calls prog 48 #[.pointer (some ⟨rb,0,none⟩),.agg ({ SEvent.zero with kind:=5,cell:=x.cell }:SEvent).cells,.agg r3.last.cells] wq (Told lo rb r3 (addE q3 ⟨dmaE x,[]⟩ q3.last) I2 wq)):=by
   rw [RA3.out.last]
   exact zhb (RA3.out.thru hBq hlo) _ ⟨dmaE x,[]⟩ _ rfl (Row.nil _ _ _ _ _ _) (by have:=HQL.out.1;have:=HQB.out.1;omega) (by have:=HQL.out.2;have:=HQB.out.2;omega) hlo
  have HBQ:=hid hBq
  clear hBq n0 nx
  go_wp2_with (go_at_call 48;(refine EVQ.out.mono ?_);rintro e w3 ⟨rfl,r4,e1,e2,e3⟩)
  go_end0
  exact ⟨rfl,r4,I2,e1.trans NC.out.mach,by rw [NM.out];unfold dmaR;rw [if_pos hw];exact e2,HI2.out.1,HI2.out.2,NC.out.kept.trans ((Kept.of_below HBQ.out (by have:=NC.out.kept.size;omega)).trans (e3.more sI))⟩
end
section
open Go.RowKit
@[go_sem ↓] theorem SSystem.run_build (ρ:Operand->Value) (dst:Option Tmp) (parts:Array (Nat × Operand)) (ty:TypeId) (pos:String) (aft:Array Edge) (gd:Option (Nat × Bool)) (w:World) (h:(SSystem.fill SSystem.zero (parts.toList.map fun p=>(p.1,ρ p.2))).isSome=true) :
  (execOp ρ ⟨dst,.build 52 parts,ty,pos,aft,gd⟩).run prog w=.ok (.value (.agg ((SSystem.fill SSystem.zero (parts.toList.map fun p=>(p.1,ρ p.2))).getD #[]))) w:=zfv (fields:=zcm prog 52) (places:=SSystem.places) (fun w=>SSystem.zeroValue w) kR (fun w=>kR) ρ dst parts ty pos aft gd w h
structure BoardOk (w:World) (B:SBoard) (L:List SRegion) (M:List SCell):Prop where
 chip:B.chip=1\/B.chip=2
 regs:Row w 0 w.heap.size 82 4 SRegion.cells B.regions L
 image:Row w 0 w.heap.size 61 2 SCell.cells B.image M
 few:L.length<=16
 each:∀ x ∈ L,zes x=true
 waits:0<=B.iowaits/\B.iowaits<=100
 mem:MemOk M
 len:M.length<=100000
theorem BoardOk.thru {w w':World} {B:SBoard} {L:List SRegion} {M:List SCell} (h:BoardOk w B L M) (hB:Below w.heap.size w w'):BoardOk w' B L M:=
 ⟨h.chip,(h.regs.thru hB nL).hi_mono hB.size,(h.image.thru hB nL).hi_mono hB.size,h.few,h.each,h.waits,h.mem,h.len⟩
theorem znx {B:SBoard} {L:List SRegion} {M:List SCell} (w:World) (h:BoardOk w B L M) :
  Calls prog 26 #[.agg B.cells] w fun e w'=>e=.returned (.int .i64 0)/\Below w.heap.size w w':=by
 have VR:Aside (∀ w1,Below w.heap.size w w1->Calls prog 59 #[.slice B.regions.p B.regions.n B.regions.c] w1 fun e w'=>e=.returned (.int .i64 0)/\Below w1.heap.size w1 w'):=fun w1 hB=>zqu w1 (h.regs.thru hB nL) h.few h.each hB.size
 have VM:Aside (∀ w1,Below w.heap.size w w1->Calls prog 60 #[.slice B.image.p B.image.n B.image.c] w1 fun e w'=>e=.returned (.bool true)/\Below w1.heap.size w1 w'):=fun w1 hB=>by
  have e:=zk8 w1 (h.image.thru hB nL) (by have:=h.len;omega) hB.size
  rw [h.mem.isMem] at e
  exact e
 obtain ⟨hw0,hw1⟩:=h.waits
 have hc:=h.chip
 clear h
 have hi0:¬B.iowaits<0:=oM
 have hi1:¬ 100<B.iowaits:=oM
 obtain hc|hc:=hc
 all_goals
  go_enter func26,ntmps26
  go_upto_region 3 with fail
  refine wpNm (fun W hW=>?_)
  have f0:blk W w.heap.size=some (.cells B.cells 27):=by rw [hW];exact sM
  have hBW:Below w.heap.size w W:=by rw [hW];exact bL
  clear hW
  obtain ⟨gc0,gf0,gz0⟩:=zaa f0
  go_wp2_with (first|(go_at_call 59;(refine (VR.out _ bL).mono ?_);rintro e w2 ⟨rfl,hB2⟩;have hz2:=hB2.size;have f2:blk w2 w.heap.size=some (.cells B.cells 27):=(hB2.block _ gz0).trans f0;obtain ⟨gc2,gf2,gz2⟩:=zaa f2)|(go_at_call 60;(refine (VM.out _ bL).mono ?_);rintro e w3 ⟨rfl,hB3⟩;have hz3:=hB3.size))
  go_ret
  exact ⟨rfl,zaf hB3 (zaf hB2 hBW hBW.size) oM⟩
def z3i (B:SBoard) (M:List SCell) (w:World) (e:Ending) (w':World):Prop:=
 ∃ ms:Sl,e=.returned (.tuple #[.agg ({ newS B with memory:=ms }:SSystem).cells,.int .i64 0])/\Row w' w.heap.size w'.heap.size 61 2 SCell.cells ms M/\Below w.heap.size w w'
theorem snew {w':World} {b:Nat} {B:SBoard} (h:blk w' b=some (.cells B.cells 27)):w'.cell? ⟨b,0,none⟩=some (.int .i64 B.chip)/\w'.cell? ⟨b,6,none⟩=some (.slice B.image.p B.image.n B.image.c):=by
 rw [(zaa h).1,(zaa h).1]
 constructor<;>simp [go_sem]
theorem zxt {B:SBoard} {L:List SRegion} {M:List SCell} (w:World) (h:BoardOk w B L M):Calls prog 12 #[.agg B.cells] w (z3i B M w):=by
 have VD:Aside (∀ w1,Below w.heap.size w w1->Calls prog 26 #[.agg B.cells] w1 fun e w'=>e=.returned (.int .i64 0)/\Below w1.heap.size w1 w'):=fun w1 hB=>znx w1 (h.thru hB)
 have CL:Aside (∀ w1,Below w.heap.size w w1->Calls prog 28 #[.slice B.image.p B.image.n B.image.c] w1 (zft 61 2 SCell.cells M w1)):=fun w1 hB=>zhn w1 (h.image.thru hB nL) (by have:=h.len;omega)
 clear h
 go_enter func12,ntmps12
 go_upto_region 4 with (go_at_call 26;(refine (VD.out _ bL).mono ?_);rintro e w2 ⟨rfl,hB2⟩;have hz2:=hB2.size;have f2:blk w2 w.heap.size=some (.cells B.cells 27):=(hB2.block _ (by (try simp only [szs]);omega)).trans (by first|exact (blk_alloc_past _ _ _ sI).trans (zab _ _ _ rfl)|(simp [go_sem,↓iteOmega, *]));obtain ⟨gc2,gf2,gz2⟩:=zaa f2)
 refine wpNm (fun W hW=>?_)
 have f0:blk W w.heap.size=some (.cells B.cells 27):=by rw [hW];exact f2
 have f1:blk W (w.heap.size+1)=some (.cells SSystem.zero.cells 52):=by rw [hW];exact (hB2.block _ (by (try simp only [szs]);omega)).trans (by first|exact zab _ _ _ sI|(simp [go_sem,↓iteOmega, *]))
 have hBW:Below w.heap.size w W:=by rw [hW];exact bL
 have BW:=hid hBW
 have hWz:=hBW.size
 have gz0:=zak f0
 have gz1:=zak f1
 clear hW hB2 hz2 f2 gc2 gf2 gz2
 have F0:=hid f0
 obtain ⟨gc0,gf0,_⟩:=zaa f0
 obtain ⟨gc1,gf1,_⟩:=zaa f1
 go_region_held3 ((fun w'=>w'.cell? ⟨w.heap.size,0,none⟩=some (.int .i64 B.chip)/\w'.cell? ⟨w.heap.size,6,none⟩=some (.slice B.image.p B.image.n B.image.c))) (first|exact snew f0|exact snew m3|exact snew m4|exact snew m5|exact snew ((blk_setBlk_other _ _ _ _ _ oM).trans m5)) (first|(go_at_call 27;(refine (zo4 _ _).mono ?_);rintro e w3 ⟨rfl,hB3⟩;replace hB3:=zks hB3;have m3:blk w3 w.heap.size=some (.cells B.cells 27):=(hB3.block _ gz0).trans F0.out;have n3:blk w3 (w.heap.size+1)=some (.cells SSystem.zero.cells 52):=(hB3.block _ gz1).trans f1;have hz3:=hB3.size;obtain ⟨gc3,gf3,_⟩:=zaa m3)|(go_at_call 28;(refine (CL.out _ bL).mono ?_);intro e w4 hcl;obtain ⟨ms,rfl,hrow,hB4⟩:=hcl;have m4:blk w4 w.heap.size=some (.cells B.cells 27):=(hB4.block _ oM).trans m3;have n4:blk w4 (w.heap.size+1)=some (.cells SSystem.zero.cells 52):=(hB4.block _ oM).trans n3;have hz4:=hB4.size;obtain ⟨gc4,gf4,_⟩:=zaa m4)|(go_at_call 29;(refine (picNew_any _).mono ?_);rintro e w5 ⟨rfl,hB5⟩;have m5:blk w5 w.heap.size=some (.cells B.cells 27):=(hB5.block _ oM).trans m4;have n5:blk w5 (w.heap.size+1)=some (.cells SSystem.zero.cells 52):=(hB5.block _ oM).trans n4;have hz5:=hB5.size;obtain ⟨gc5,gf5,gz5⟩:=zaa n5))
 all_goals go_wp2_with fail
 all_goals
  have kb:blk (zai w5 (w.heap.size+1) ({ newS B with memory:=ms }:SSystem).cells 52) (w.heap.size+1)=some (.cells ({ newS B with memory:=ms }:SSystem).cells 52):=blk_setBlk_same _ _ _ _ (zak n5)
  refine za1 (n:=62) (v:=.agg ({ newS B with memory:=ms }:SSystem).cells) (u:=.int .i64 0) rfl kR kR rfl rfl ((congrArg (fun o=>okO 62 o 0) kb).trans (SSystem.okl_whole _ _ _)) ((congrArg (fun o=>valO 62 o 0) kb).trans (SSystem.ld_whole _ _ _)) rfl ⟨ms,rfl,?_,?_⟩
  ·exact (Row.hi_mono (Row.set (hrow.thru hB5 nL) n5 dC) (by rw [size_setBlk];exact hz5)).lo_mono oM
  ·exact zae (zaf hB5 (zaf hB4 (zaf hB3 hBW hBW.size) oM) oM) oM
end
section
open Go.RowKit
theorem zop {M:List SCell} (h:MemOk M):zgs M:=fun c hc=>(h.ok c hc).2
theorem zma (a:Int) (B:List Int) (hB:∀ y ∈ B,0<=y/\y<=255):zgs (znc a B)/\(znc a B).length<=B.length:=by
 obtain ⟨h1,h2⟩:=zp3 (zhd a B B.length) (znr a B hB _)
 refine ⟨zop h1,Nat.le_trans h2 ?_⟩
 unfold zhd
 simp
theorem Bld.set {α:Type} {w0 w:World} {nb k k0 b:Nat} {s:Sl} {V:List Int} {e t:TypeId} {m:Nat} {enc:α->Array Value} {q:Sl} {L:List α} {A A':Array Value} (h0:NumAt w0 nb s V k0) (hB:Bld w0 w nb s V k e m enc q L) (hat:blk w b=some (.cells A t)) (ht:t≠e) (hb:w0.heap.size<=b):Bld w0 (zai w b A' t) nb s V k e m enc q L:=
 have hN:=zj8 h0 hB.num hB.grown (zae (Below.refl _ _) hb)
 ⟨hN.1,hN.2,(Row.set hB.row hat ht).hi_mono (by rw [size_setBlk];exact Nat.le_refl _)⟩
theorem Bld.of {α:Type} {w0 w w2:World} {nb k2:Nat} {s:Sl} {V:List Int} {e:TypeId} {m:Nat} {enc:α->Array Value} {q:Sl} {L:List α} (hg:w0.grownBy w (some nb)) (h:Bld w w2 nb s V k2 e m enc q L):Bld w0 w2 nb s V k2 e m enc q L:=
 ⟨h.num,za8 hg h.grown,h.row.lo_mono hg.size⟩
def MadeB (nb:Nat) (s:Sl) (V:List Int) (k c:Nat) (w:World) (e:Ending) (w':World):Prop:=
 ∃ (B:SBoard) (L:List SRegion) (M:List SCell) (k':Nat),e=.returned (.agg B.cells)/\BoardOk w' B L M/\NumAt w' nb s V k'/\k'<=k+c/\w.grownBy w' (some nb)
theorem zoo {w:World} {nb k:Nat} {s:Sl} {V:List Int} (h:NumAt w nb s V k) (hk:k<=400000000) :
  Calls prog 20 #[.pointer (some ⟨nb,0,none⟩)] w (MadeB nb s V k 1000 w):=by
 have H0:=hid h
 have hnb:=zak h.m
 go_enter func20,ntmps20
 go_upto_region 2 with (first|(go_at_call 36;(refine (zxf (h.thru bL) oM).mono ?_);rintro e w2 ⟨ch,k2,rfl,hch,hN2,hk2,hG2⟩;have fz2:blk w2 w.heap.size=some (.cells SBoard.zero.cells 27):=zcg hG2 (by first|exact zab _ _ _ rfl|simp [go_sem,↓iteOmega, *]) oM)|(go_at_call 37;(refine (zyz hN2 oM).mono ?_);rintro e w3 ⟨qR,LR,k3,rfl,⟨hlR,hokR⟩,hB3,hk3⟩;have fz3:blk w3 w.heap.size=some (.cells SBoard.zero.cells 27):=zcg hB3.grown fz2 oM)|(go_at_call 38;(refine (zav hN4 oM _ oM oM).mono ?_);rintro e w5 ⟨v5,rfl,hy0,hy1,hN5,hG5⟩;have fz5:blk w5 w.heap.size=some (.cells SBoard.zero.cells 27):=zcg hG5 fz4 oM)|(go_at_call 38;(refine (zav hB3.num oM _ oM oM).mono ?_);rintro e w4 ⟨v4,rfl,hx0,hx1,hN4,hG4⟩;have fz4:blk w4 w.heap.size=some (.cells SBoard.zero.cells 27):=zcg hG4 fz3 oM))
 have hB5:Bld w w5 nb s V (k3+1+1) 82 4 SRegion.cells qR LR:=Bld.of (za8 (zcr bL) hG2) ((hB3.step dC hN4 hG4).step dC hN5 hG5)
 have HOKR:Aside (∀ r ∈ LR,zes r=true):=hokR
 have hz5:=hB5.grown.size
 have hzl:=zak fz5
 clear hN2 hG2 fz2 hB3 fz3 hN4 hG4 fz4 hN5 hG5 hokR
 refine wpNm (fun W hW=>?_)
 have fB:blk W w5.heap.size=some (.cells ({ SBoard.zero with chip:=ch,regions:=qR,iowaits:=v4,dmaPort:=4,jam:=(v5==0) }:SBoard).cells 27):=by rw [hW];exact sM
 have fz:blk W w.heap.size=some (.cells SBoard.zero.cells 27):=by rw [hW];exact sM
 have hbW:Below w5.heap.size w5 W:=by rw [hW];exact bL
 have hBW:Aside (Bld w W nb s V (k3+1+1) 82 4 SRegion.cells qR LR):=hB5.below hbW
 clear hW hbW fz5 hB5
 obtain ⟨Bd,hBd,hb1,hb2,hb3⟩:∃ Bd:SBoard,({ SBoard.zero with chip:=ch,regions:=qR,iowaits:=v4,dmaPort:=4,jam:=(v5==0) }:SBoard)=Bd/\Bd.chip=ch/\Bd.regions=qR/\Bd.iowaits=v4:=⟨_,rfl,rfl,rfl,rfl⟩
 rw [hBd] at fB
 obtain ⟨g3,hg3⟩:∃ g,g=w5.heap.size:=⟨_,rfl⟩
 rw [<- hg3]
 rw [<- hg3] at fB
 have hgz:w.heap.size<g3:=oM
 clear hg3
 have HBD:Aside (Bd.chip=ch/\Bd.regions=qR/\Bd.iowaits=v4):=⟨hb1,hb2,hb3⟩
 clear hb1 hb2 hb3
 clear hBd
 go_upto_if 18 with (go_at_call 38;(refine (zav hBW.out.num oM _ oM oM).mono ?_);rintro e w6 ⟨v6,rfl,hu0,hu1,hN6,hG6⟩;have f6:=zcg hG6 fB oM;have fz6:=zcg hG6 fz oM)
 have hB6:=hBW.out.step dC hN6 hG6
 go_cut [] (fun wx=>∃ (Bd':SBoard) (k':Nat),Aside (Bd'.chip=ch/\Bd'.regions=qR/\Bd'.iowaits=v4)/\blk wx g3=some (.cells Bd'.cells 27)/\blk wx w.heap.size=some (.cells SBoard.zero.cells 27)/\k'<=k3+5/\Aside (Bld w wx nb s V k' 82 4 SRegion.cells qR LR))
 case first=>
  by_cases hv:v6=0
  ·subst hv
   go_wp2_with (first|(go_at_call 39;(refine (zjo hB7.num oM).mono ?_);rintro e w8 ⟨y8,k8,rfl,hy8,hN8,hk8,hG8⟩;have f8:=zcg hG8 f7 oM;have fz8:=zcg hG8 fz7 oM;have hB8:=hB7.step dC hN8 hG8;obtain ⟨gc8,gf8,gz8⟩:=zaa f8)|(go_at_call 39;(refine (zjo hB6.num oM).mono ?_);rintro e w7 ⟨y7,k7,rfl,hy7,hN7,hk7,hG7⟩;have f7:=zcg hG7 f6 oM;have fz7:=zcg hG7 fz6 oM;have hB7:=hB6.step dC hN7 hG7))
   go_meet
   refine ⟨_,_,?_,blk_setBlk_same _ _ _ _ ?_,?_,?_,(by first|exact Bld.set H0.out hB8 f8 dC oM|exact Bld.set H0.out (Bld.set H0.out hB8 f8 dC oM) (blk_setBlk_same _ _ _ _ gz8) dC oM)⟩
   ·exact HBD.out
   ·(try simp only [size_setBlk])
    exact gz8
   ·(repeat rw [blk_setBlk_other _ _ _ _ _ oM])
    exact fz8
   ·omega
  ·have hvb:(v6==0)=false:=beq_eq_false_iff_ne.2 hv
   go_wp2_with fail
   go_meet
   exact ⟨Bd,_,HBD,f6,fz6,oM,hB6⟩
 obtain ⟨Bd',k4,HBE,fU,fzU,hk4,hBU⟩:=hcut
 have HU:Aside (NumAt wc nb s V k4):=hBU.out.num
 clear fB fz hBW
 go_upto_region 5 with (first|(go_at_call 40;(refine (zvn hBU.out.num oM 12 oM).mono ?_);rintro e w7 ⟨q7,P7,k7,rfl,⟨hl7,hb7⟩,hB7,hk7⟩)|(go_at_call 17;(refine (zi2 0 w7 hB7.row hb7 oM nL).mono ?_);rintro e w8 ⟨ms,rfl,hrow8,hb8⟩))
 have hB8:Bld wc w8 nb s V k7 61 2 SCell.cells ms (znc 0 P7):=⟨hB7.num.thru hb8,zfh hB7.grown hb8,hrow8.lo_mono hB7.grown.size⟩
 have hC8:=zma 0 P7 hb7
 obtain ⟨C0,hC0⟩:∃ C,znc 0 P7=C:=⟨_,rfl⟩
 rw [hC0] at hB8 hC8
 obtain ⟨hC9,hC10⟩:=hC8
 have HC9:Aside (zgs C0):=hC9
 clear hC0 hrow8 hb8 hB7 hb7 hC9
 go_wp2_with (go_at_call 38;(refine (zav hB8.num oM _ oM oM).mono ?_);rintro e w9 ⟨v9,rfl,hu0,hu1,hN9,hG9⟩)
 have hB9:Bld wc w9 nb s V (k7+1) 61 2 SCell.cells ms C0:=hB8.step dC hN9 hG9
 obtain ⟨N,hN⟩:∃ N:Nat,v9=N:=⟨v9.toNat,oM⟩
 subst hN
 clear hB8 hN9 hG9
 go_loopg [4,5] N (fun kx s4 s5 wr=>∃ (j:Nat) (q:Sl) (C:List SCell) (k':Nat),s5=.int .i64 j/\s4=.slice q.p q.n q.c/\j<=kx/\j<=3/\C.length+3 * j<=200/\k'+40 * j<=k4+400/\Aside (zgs C)/\Aside (Bld wc wr nb s V k' 61 2 SCell.cells q C))
 case atStart=>exact ⟨N,ms,C0,k7+1,rfl,rfl,oM,oM,oM,oM,HC9,hB9⟩
 case round=>
  obtain ⟨j,q,C,k',rfl,rfl,hj,hj3,hCl,hk',hokC,hBL⟩:=hrel
  by_cases hj0:j=0
  ·subst hj0
   have fr3:=zcg hBL.out.grown fU oM
   have frz:=zcg hBL.out.grown fzU oM
   go_wp2_with (go_at_call 35;(refine (zle wr hBL.out.row oM hokC.out nL).mono ?_);rintro e wN ⟨ms2,rfl,hrowN,hbN⟩;have fN:blk wN g3=some (.cells Bd'.cells 27):=(hbN.block _ (zak fr3)).trans fr3;have fzN:blk wN w.heap.size=some (.cells SBoard.zero.cells 27):=(hbN.block _ (zak frz)).trans frz;obtain ⟨gcN,gfN,gzN⟩:=zaa fN;obtain ⟨gcz,gfz,gzz⟩:=zaa fzN)
   obtain ⟨c1,c2,c3⟩:=HBE.out
   have hgN:w.grownBy wN (some nb):=zfh (za8 hBU.out.grown hBL.out.grown) hbN
   have hNN:=hBL.out.num.thru hbN
   have hR1:Row wN w.heap.size wN.heap.size 82 4 SRegion.cells qR LR:=((rowGrown hBU.out.row hBU.out.num.m dC hBL.out.grown).thru hbN nL).hi_mono hbN.size
   have hM:=zp3 C hokC.out
   have hfz2:∀ A,blk (zai wN g3 A 27) w.heap.size=some (.cells SBoard.zero.cells 27):=fun A=>(blk_setBlk_other _ _ _ _ _ oM).trans fzN
   refine SBoard.ret { Bd' with image:=ms2 } rfl rfl ?_ rfl ⟨{ Bd' with image:=ms2 },LR,zjk C,k',rfl,⟨?_,?_,?_,?_,HOKR.out,?_,hM.1,?_⟩,(zj8 H0.out hNN hgN ?_).1,oM,(zj8 H0.out hNN hgN ?_).2⟩
   ·exact blk_setBlk_same _ _ _ _ (by rw [size_setBlk];exact gzz)
   ·show Bd'.chip=1\/Bd'.chip=2
    rw [c1]
    exact hch
   ·show Row _ _ _ _ _ _ Bd'.regions _
    rw [c2]
    exact Row.hi_mono (Row.set (Row.set (hR1.lo_mono (Nat.zero_le _)) fN dC) (hfz2 _) dC) (by simp only [size_setBlk];exact Nat.le_refl _)
   ·exact Row.hi_mono (Row.set (Row.set (hrowN.lo_mono (Nat.zero_le _)) fN dC) (hfz2 _) dC) (by simp only [size_setBlk];exact Nat.le_refl _)
   ·omega
   ·show 0<=Bd'.iowaits/\Bd'.iowaits<=100
    rw [c3]
    omega
   ·have:=hM.2
    omega
   ·exact bL
   ·exact bL
  ·have hjI:(0:Int)<(j:Int):=oM
   go_upto_region 8 with fail
   refine zde 11 kR kR kR (fun j v w2=>match j with|0=>v=.slice q.p q.n q.c|1=>∃ g,v=.slice (some ⟨g,0,none⟩) 6 6/\blk w2 g=some (.cells #[.int .i64 36,.int .i64 60,.int .i64 52,.int .i64 44,.int .i64 56,.int .i64 32] 3)/\g≠nb|2=>v=.pointer (some ⟨nb,0,none⟩)|3=>∃ x:Int,v=.int .i64 x/\0<=x/\x<6|4=>∃ (g x:Nat),v=.pointer (some ⟨g,x,none⟩)/\x<6/\blk w2 g=some (.cells #[.int .i64 36,.int .i64 60,.int .i64 52,.int .i64 44,.int .i64 56,.int .i64 32] 3)/\g≠nb|5=>∃ y:Int,v=.int .i64 y/\0<=y/\y<=100|6=>∃ y:Int,v=.int .u16 y/\0<=y/\y<=100|7=>v=.pointer (some ⟨nb,0,none⟩)|8=>∃ y:Int,v=.int .u8 y/\0<=y/\y<=255|9=>∃ (g:Nat) (a:Int),v=.slice (some ⟨g,0,none⟩) 3 3/\blk w2 g=some (.cells #[.int .u8 a,.int .u8 251,.int .u8 201] 5)/\g≠nb/\0<=a/\a<=255|10=>∃ (ms:Sl) (M:List SCell),v=.slice ms.p ms.n ms.c/\Row w2 0 w2.heap.size 61 2 SCell.cells ms M/\zgs M/\M.length<=3|_=>True) (fun f w2=>∃ k5,NumAt w2 nb s V k5/\k5+3 * f<=k'+33/\wr.grownBy w2 (some nb)) ?_ ?_ ?_ ?_
   ·exact ⟨k',hBL.out.num.thru ((Below.refl _ wr).drew),oM,zcr ((Below.refl _ wr).drew)⟩
   ·exact fun f w2 ⟨k5,h1,h2,h3⟩=>⟨k5,h1,oM,h3⟩
   ·intro i o f a' w2 hi hio hfr hG3 hG2 hV K hK
    have hc:i=0\/i=1\/i=2\/i=3\/i=4\/i=5\/i=6\/i=7\/i=8\/i=9\/i=10:=oM
    rcases hc with rfl|rfl|rfl|rfl|rfl|rfl|rfl|rfl|rfl|rfl|rfl
    ·obtain rfl:=Option.some.inj hio
     have e0:a'.tmps[4]?.getD undef=.slice q.p q.n q.c:=zax (hfr 4 kR)
     exact zas (w2:=w2) (by simp [execOp,go_sem,↓iteOmega, *]) (hK _ _ rfl hG2 fun _ _ h=>h)
    ·obtain rfl:=Option.some.inj hio
     obtain ⟨k5,hN5,hk5,hg5⟩:=id hG2
     have hnb:=zak hN5.m
     have hbw:Below w2.heap.size w2 (w2.alloc (.cells #[.int .i64 36,.int .i64 60,.int .i64 52,.int .i64 44,.int .i64 56,.int .i64 32] 3)):=(Below.refl _ w2).alloc nL _
     have hga:w2.grownBy (w2.alloc (.cells #[.int .i64 36,.int .i64 60,.int .i64 52,.int .i64 44,.int .i64 56,.int .i64 32] 3)) (some nb):=zcr hbw
     exact zas (w2:=w2.alloc (.cells #[.int .i64 36,.int .i64 60,.int .i64 52,.int .i64 44,.int .i64 56,.int .i64 32] 3)) (v:=.slice (some ⟨w2.heap.size,0,none⟩) 6 6) (by simp [execOp,go_sem,↓iteOmega, *]) (hK _ _ ⟨w2.heap.size,rfl,zab _ _ _ rfl,oM⟩ ⟨k5,hN5.thru hbw,hk5,za8 hg5 hga⟩ (fun j u h=>match j,h with|0,h=>h|1,h=>(fun ⟨g,h1,h2,h3⟩=>⟨g,h1,zcg hga h2 h3,h3⟩) h|2,h=>h|3,h=>h|4,h=>(fun ⟨g,x,h1,h2,h3,h4⟩=>⟨g,x,h1,h2,zcg hga h3 h4,h4⟩) h|5,h=>h|6,h=>h|7,h=>h|8,h=>h|9,h=>(fun ⟨g,a,h1,h2,h3,h4⟩=>⟨g,a,h1,zcg hga h2 h3,h3,h4⟩) h|10,h=>(fun ⟨ms,M,h1,h2,h3,h4⟩=>⟨ms,M,h1,(h2.thru hbw nL).hi_mono hbw.size,h3,h4⟩) h|_+11,h=>h))
    ·obtain rfl:=Option.some.inj hio
     have e0:a'.tmps[0]?.getD undef=.pointer (some ⟨nb,0,none⟩):=zax (hfr 0 kR)
     exact zas (w2:=w2) (by simp [execOp,go_sem,↓iteOmega, *]) (hK _ _ rfl hG2 fun _ _ h=>h)
    ·obtain rfl:=Option.some.inj hio
     have e0:a'.tmps[36]?.getD undef=.pointer (some ⟨nb,0,none⟩):=zax (hV 2 36 kR)
     obtain ⟨k5,hN5,hk5,hg5⟩:=hG3
     exact zct (w2:=w2) (by simp [execOp,go_sem,↓iteOmega, *]) ((zav hN5 oM 6 oM oM).mono fun e w3 ⟨x,hx,h0,h1,hN6,hg6⟩=>⟨_,hx,hK _ _ ⟨x,rfl,h0,h1⟩ ⟨_,hN6,oM,za8 hg5 hg6⟩ (fun j u h=>match j,h with|0,h=>h|1,h=>(fun ⟨g,h1,h2,h3⟩=>⟨g,h1,zcg hg6 h2 h3,h3⟩) h|2,h=>h|3,h=>h|4,h=>(fun ⟨g,x,h1,h2,h3,h4⟩=>⟨g,x,h1,h2,zcg hg6 h3 h4,h4⟩) h|5,h=>h|6,h=>h|7,h=>h|8,h=>h|9,h=>(fun ⟨g,a,h1,h2,h3,h4⟩=>⟨g,a,h1,zcg hg6 h2 h3,h3,h4⟩) h|10,h=>(fun ⟨ms,M,h1,h2,h3,h4⟩=>⟨ms,M,h1,rowGrown h2 hN5.m dC hg6,h3,h4⟩) h|_+11,h=>h)⟩)
    ·obtain rfl:=Option.some.inj hio
     obtain ⟨g,e0,hb0,hn0⟩:∃ g,a'.eval (.tmp 35)=.slice (some ⟨g,0,none⟩) 6 6/\blk w2 g=some (.cells #[.int .i64 36,.int .i64 60,.int .i64 52,.int .i64 44,.int .i64 56,.int .i64 32] 3)/\g≠nb:=hV 1 35 kR
     obtain ⟨x,e1,h0,h1⟩:∃ x:Int,a'.eval (.tmp 37)=.int .i64 x/\0<=x/\x<6:=hV 3 37 kR
     replace e0:=zax e0
     replace e1:=zax e1
     obtain ⟨y,rfl⟩:∃ y:Nat,x=y:=⟨x.toNat,oM⟩
     exact zas (w2:=w2) (by simp [execOp,go_sem,↓iteOmega, *]) (hK _ _ ⟨g,y,rfl,oM,hb0,hn0⟩ hG2 fun _ _ h=>h)
    ·obtain rfl:=Option.some.inj hio
     obtain ⟨g,x,e0,hx,hb0,hn0⟩:∃ (g x:Nat),a'.eval (.tmp 38)=.pointer (some ⟨g,x,none⟩)/\x<6/\blk w2 g=some (.cells #[.int .i64 36,.int .i64 60,.int .i64 52,.int .i64 44,.int .i64 56,.int .i64 32] 3)/\g≠nb:=hV 4 38 kR
     replace e0:=zax e0
     obtain ⟨gc,gf,gz⟩:=zaa hb0
     have hr:x=0\/x=1\/x=2\/x=3\/x=4\/x=5:=oM
     rcases hr with rfl|rfl|rfl|rfl|rfl|rfl
     ·exact zas (w2:=w2) (v:=.int .i64 36) (by simp [execOp,go_sem,↓iteOmega, *]) (hK _ _ ⟨(36:Int),rfl,dC,dC⟩ hG2 fun _ _ h=>h)
     ·exact zas (w2:=w2) (v:=.int .i64 60) (by simp [execOp,go_sem,↓iteOmega, *]) (hK _ _ ⟨(60:Int),rfl,dC,dC⟩ hG2 fun _ _ h=>h)
     ·exact zas (w2:=w2) (v:=.int .i64 52) (by simp [execOp,go_sem,↓iteOmega, *]) (hK _ _ ⟨(52:Int),rfl,dC,dC⟩ hG2 fun _ _ h=>h)
     ·exact zas (w2:=w2) (v:=.int .i64 44) (by simp [execOp,go_sem,↓iteOmega, *]) (hK _ _ ⟨(44:Int),rfl,dC,dC⟩ hG2 fun _ _ h=>h)
     ·exact zas (w2:=w2) (v:=.int .i64 56) (by simp [execOp,go_sem,↓iteOmega, *]) (hK _ _ ⟨(56:Int),rfl,dC,dC⟩ hG2 fun _ _ h=>h)
     ·exact zas (w2:=w2) (v:=.int .i64 32) (by simp [execOp,go_sem,↓iteOmega, *]) (hK _ _ ⟨(32:Int),rfl,dC,dC⟩ hG2 fun _ _ h=>h)
    ·obtain rfl:=Option.some.inj hio
     obtain ⟨x,e0,h0,h1⟩:∃ y:Int,a'.eval (.tmp 39)=.int .i64 y/\0<=y/\y<=100:=hV 5 39 kR
     replace e0:=zax e0
     have e1:IntKind.u16.wrap x=x:=by rw [IntKind.wrap_u16];omega
     exact zas (w2:=w2) (v:=.int .u16 x) (by simp [execOp,go_sem,↓iteOmega, *]) (hK _ _ ⟨x,rfl,h0,oM⟩ hG2 fun _ _ h=>h)
    ·obtain rfl:=Option.some.inj hio
     have e0:a'.tmps[0]?.getD undef=.pointer (some ⟨nb,0,none⟩):=zax (hfr 0 kR)
     exact zas (w2:=w2) (by simp [execOp,go_sem,↓iteOmega, *]) (hK _ _ rfl hG2 fun _ _ h=>h)
    ·obtain rfl:=Option.some.inj hio
     have e0:a'.tmps[41]?.getD undef=.pointer (some ⟨nb,0,none⟩):=zax (hV 7 41 kR)
     obtain ⟨k5,hN5,hk5,hg5⟩:=hG3
     exact zct (w2:=w2) (by simp [execOp,go_sem,↓iteOmega, *]) ((zi1 hN5 oM).mono fun e w3 ⟨x,k6,hx,⟨h0,h1⟩,hN6,hk6,hg6⟩=>⟨_,hx,hK _ _ ⟨x,rfl,h0,h1⟩ ⟨_,hN6,oM,za8 hg5 hg6⟩ (fun j u h=>match j,h with|0,h=>h|1,h=>(fun ⟨g,h1,h2,h3⟩=>⟨g,h1,zcg hg6 h2 h3,h3⟩) h|2,h=>h|3,h=>h|4,h=>(fun ⟨g,x,h1,h2,h3,h4⟩=>⟨g,x,h1,h2,zcg hg6 h3 h4,h4⟩) h|5,h=>h|6,h=>h|7,h=>h|8,h=>h|9,h=>(fun ⟨g,a,h1,h2,h3,h4⟩=>⟨g,a,h1,zcg hg6 h2 h3,h3,h4⟩) h|10,h=>(fun ⟨ms,M,h1,h2,h3,h4⟩=>⟨ms,M,h1,rowGrown h2 hN5.m dC hg6,h3,h4⟩) h|_+11,h=>h)⟩)
    ·obtain rfl:=Option.some.inj hio
     obtain ⟨a,ea,a0,a1⟩:∃ y:Int,a'.eval (.tmp 42)=.int .u8 y/\0<=y/\y<=255:=hV 8 42 kR
     replace ea:=zax ea
     obtain ⟨k5,hN5,hk5,hg5⟩:=id hG2
     have hnb:=zak hN5.m
     have hbw:Below w2.heap.size w2 (w2.alloc (.cells #[.int .u8 a,.int .u8 251,.int .u8 201] 5)):=(Below.refl _ w2).alloc nL _
     have hga:w2.grownBy (w2.alloc (.cells #[.int .u8 a,.int .u8 251,.int .u8 201] 5)) (some nb):=zcr hbw
     exact zas (w2:=w2.alloc (.cells #[.int .u8 a,.int .u8 251,.int .u8 201] 5)) (v:=.slice (some ⟨w2.heap.size,0,none⟩) 3 3) (by simp [execOp,go_sem,↓iteOmega, *]) (hK _ _ ⟨w2.heap.size,a,rfl,zab _ _ _ rfl,oM,a0,a1⟩ ⟨k5,hN5.thru hbw,hk5,za8 hg5 hga⟩ (fun j u h=>match j,h with|0,h=>h|1,h=>(fun ⟨g,h1,h2,h3⟩=>⟨g,h1,zcg hga h2 h3,h3⟩) h|2,h=>h|3,h=>h|4,h=>(fun ⟨g,x,h1,h2,h3,h4⟩=>⟨g,x,h1,h2,zcg hga h3 h4,h4⟩) h|5,h=>h|6,h=>h|7,h=>h|8,h=>h|9,h=>(fun ⟨g,a,h1,h2,h3,h4⟩=>⟨g,a,h1,zcg hga h2 h3,h3,h4⟩) h|10,h=>(fun ⟨ms,M,h1,h2,h3,h4⟩=>⟨ms,M,h1,(h2.thru hbw nL).hi_mono hbw.size,h3,h4⟩) h|_+11,h=>h))
    ·obtain rfl:=Option.some.inj hio
     obtain ⟨x,e0,h0,h1⟩:∃ y:Int,a'.eval (.tmp 40)=.int .u16 y/\0<=y/\y<=100:=hV 6 40 kR
     obtain ⟨g,a,e1,hb0,hn0,a0,a1⟩:∃ (g:Nat) (a:Int),a'.eval (.tmp 43)=.slice (some ⟨g,0,none⟩) 3 3/\blk w2 g=some (.cells #[.int .u8 a,.int .u8 251,.int .u8 201] 5)/\g≠nb/\0<=a/\a<=255:=hV 9 43 kR
     replace e0:=zax e0
     replace e1:=zax e1
     obtain ⟨k5,hN5,hk5,hg5⟩:=id hG2
     have hby:∀ y ∈ [a,251,201],0<=y/\y<=255:=by intro y hy;simp only [List.mem_cons,List.not_mem_nil,or_false] at hy;omega
     exact zct (w2:=w2) (by simp [execOp,go_sem,↓iteOmega, *]) ((zi2 x w2 (Row.litA (lo:=0) [a,251,201] #[.int .u8 a,.int .u8 251,.int .u8 201] hb0 (fun _=>rfl) rfl (by simp [maxLen]) (Nat.zero_le _)) hby sI (zak hb0)).mono fun e w3 ⟨ms,hx,hrow,hbw⟩=>⟨_,hx,hK _ _ ⟨ms,_,rfl,hrow.lo_mono (Nat.zero_le _),(zma x [a,251,201] hby).1,(zma x [a,251,201] hby).2⟩ ⟨k5,hN5.thru hbw,hk5,za8 hg5 (zcr hbw)⟩ (have hga:=zcr (p:=some nb) hbw;fun j u h=>match j,h with|0,h=>h|1,h=>(fun ⟨g,h1,h2,h3⟩=>⟨g,h1,zcg hga h2 h3,h3⟩) h|2,h=>h|3,h=>h|4,h=>(fun ⟨g,x,h1,h2,h3,h4⟩=>⟨g,x,h1,h2,zcg hga h3 h4,h4⟩) h|5,h=>h|6,h=>h|7,h=>h|8,h=>h|9,h=>(fun ⟨g,a,h1,h2,h3,h4⟩=>⟨g,a,h1,zcg hga h2 h3,h3,h4⟩) h|10,h=>(fun ⟨ms,M,h1,h2,h3,h4⟩=>⟨ms,M,h1,(h2.thru hbw nL).hi_mono hbw.size,h3,h4⟩) h|_+11,h=>h)⟩)
   ·intro vs w2 hG2 hV2
    simp only [tkd,zeq]
    obtain ⟨k5,hN5,hk5,hg5⟩:=hG2
    have v0:vs 0=.slice q.p q.n q.c:=hV2 0 oM
    obtain ⟨g1,v1,z1⟩:∃ g,vs 1=.slice (some ⟨g,0,none⟩) 6 6/\blk w2 g=some (.cells #[.int .i64 36,.int .i64 60,.int .i64 52,.int .i64 44,.int .i64 56,.int .i64 32] 3)/\g≠nb:=hV2 1 oM
    have v2:vs 2=.pointer (some ⟨nb,0,none⟩):=hV2 2 oM
    obtain ⟨x3,v3,z3⟩:∃ x:Int,vs 3=.int .i64 x/\0<=x/\x<6:=hV2 3 oM
    obtain ⟨g4,x4,v4,z4⟩:∃ (g x:Nat),vs 4=.pointer (some ⟨g,x,none⟩)/\x<6/\blk w2 g=some (.cells #[.int .i64 36,.int .i64 60,.int .i64 52,.int .i64 44,.int .i64 56,.int .i64 32] 3)/\g≠nb:=hV2 4 oM
    obtain ⟨x5,v5,z5⟩:∃ y:Int,vs 5=.int .i64 y/\0<=y/\y<=100:=hV2 5 oM
    obtain ⟨x6,v6,z6⟩:∃ y:Int,vs 6=.int .u16 y/\0<=y/\y<=100:=hV2 6 oM
    have v7:vs 7=.pointer (some ⟨nb,0,none⟩):=hV2 7 oM
    obtain ⟨x8,v8,z8⟩:∃ y:Int,vs 8=.int .u8 y/\0<=y/\y<=255:=hV2 8 oM
    obtain ⟨g9,a9,v9,z9⟩:∃ (g:Nat) (a:Int),vs 9=.slice (some ⟨g,0,none⟩) 3 3/\blk w2 g=some (.cells #[.int .u8 a,.int .u8 251,.int .u8 201] 5)/\g≠nb/\0<=a/\a<=255:=hV2 9 oM
    obtain ⟨ms,M,v10,hrM,hokM,hlM⟩:∃ (ms:Sl) (M:List SCell),vs 10=.slice ms.p ms.n ms.c/\Row w2 0 w2.heap.size 61 2 SCell.cells ms M/\zgs M/\M.length<=3:=hV2 10 oM
    simp only [v0,v1,v2,v3,v4,v5,v6,v7,v8,v9,v10]
    clear hV2 v0 v1 v2 v3 v4 v5 v6 v7 v8 v9 v10
    simp only [Act.put,List.setIfInBounds_toArray,List.set_cons_succ,List.set_cons_zero]
    have hBB:=hBL.out.step dC hN5 hg5
    refine zbi rfl _ _ 25 rfl hBB.row (fun _=>rfl) SCell.one oM ze4 rfl M hrM rfl oM hBB.grown.size ?_
    intro s9 w9 hrow9 hgr9
    simp only [Act.put,List.setIfInBounds_toArray,List.set_cons_succ,List.set_cons_zero]
    go_wp2_with fail
    go_roundg (j-1)
    case measure=>omega
    case rel=>
     refine ⟨j-1,s9,C++M,k5,by congr 1;omega,rfl,oM,oM,by simp only [List.length_append];omega,oM,?_,Bld.append HU.out hN5 hBB.grown hrow9 hgr9.grew.below⟩
     intro c hc
     rcases List.mem_append.1 hc with hc|hc
     ·exact hokC.out c hc
     ·exact hokM c hc
end
section
open Go.RowKit
def Made (n:Nat) (w:World) (e:Ending) (w':World):Prop:=
 ∃ (B:SBoard) (L:List SRegion) (M:List SCell) (q:Sl) (X:List Int),e=.returned (.tuple #[.agg B.cells,.slice q.p q.n q.c])/\BoardOk w' B L M/\Row w' 0 w'.heap.size 5 1 encB q X/\X.length<=4 * n/\(∀ y ∈ X,0<=y/\y<=255)/\Below w.heap.size w w'
theorem zhe {w w2:World} {nb B:Nat} (h:w.grownBy w2 (some nb)) (hB:B<=nb) (hz:B<=w.heap.size):Below B w w2:=⟨h.os,h.tape,h.output,h.size,fun b hb=>h.block b oM (fun e=>by have:=Option.some.inj e;omega)⟩
theorem zl9 (s:Sl) (V:List Int) (w:World) (h0:s.n=V.length) (h:∀ j (hj:j<V.length),∃ g off,s.p=some ⟨g,off,none⟩/\g<w.heap.size/\w.cell? ⟨g,off+j,none⟩=some (.int .i64 V[j])) (hL:V.length<=1000000) (n:Nat) (hn:n<=1000) :
  Calls prog 7 #[.slice s.p s.n s.c,.int .i64 n] w (Made n w):=by
 have HF:Aside (∀ w1,Below w.heap.size w w1->Calls prog 19 #[.slice s.p s.n s.c] w1 fun e w'=>e=.returned (.pointer (some ⟨w1.heap.size,0,none⟩))/\NumAt w' w1.heap.size s V 0/\Below w1.heap.size w1 w'):=fun w1 hB=>zwg s V w1 h0 (fun j hj=>by
  obtain ⟨g,off,e1,e2,e3⟩:=h j hj
  exact ⟨g,off,e1,Nat.lt_of_lt_of_le e2 hB.size,(zbx hB e2 _).trans e3⟩) hL
 clear h0 h hL
 go_enter func7,ntmps7
 go_upto_region 2 with (go_at_call 19;(refine (HF.out _ bL).mono ?_);rintro e w2 ⟨rfl,hN2,hb2⟩)
 have hN2':NumAt w2 (w.heap.size+1) s V 0:=by simpa using hN2
 have fR2:blk w2 w.heap.size=some (.cells SBoard.zero.cells 27):=(hb2.block _ sI).trans (zab _ _ _ rfl)
 have hbw2:Below w.heap.size w w2:=((Below.refl _ w).alloc nL _).trans (hb2.mono sI)
 clear hN2 hb2
 obtain ⟨nb,hnbE⟩:∃ nb,nb=w.heap.size+1:=⟨_,rfl⟩
 rw [<- hnbE] at hN2' ⊢
 have hnb1:w.heap.size<nb:=oM
 clear hnbE
 go_upto_region 3 with (go_at_call 20;(refine (zoo hN2' oM).mono ?_);rintro e w3 ⟨Bd,LR,M,k3,rfl,hBO,hN3,hk3,hG3⟩)
 refine wpNm (fun wr hwr=>?_)
 have fB0:blk wr w3.heap.size=some (.cells Bd.cells 27):=by rw [hwr];exact zab _ _ _ rfl
 have fR:blk wr w.heap.size=some (.cells SBoard.zero.cells 27):=by rw [hwr];exact (blk_alloc_past _ _ _ (by have:=hG3.size;have:=zak fR2;omega)).trans (zcg hG3 fR2 oM)
 have hbr:Below w3.heap.size w3 wr:=by rw [hwr];exact (Below.refl _ w3).alloc nL _
 have hN9:NumAt wr nb s V k3:=hN3.thru hbr
 have hBO9:BoardOk wr Bd LR M:=hBO.thru hbr
 have hbw9:Below w.heap.size w wr:=hbw2.trans ((zhe hG3 oM hbw2.size).trans (hbr.mono (by have:=hG3.size;have:=hbw2.size;omega)))
 have hgn0:w3.heap.size≠nb:=by have:=zak hN3.m;omega
 obtain ⟨g7,hg7⟩:∃ g,g=w3.heap.size:=⟨_,rfl⟩
 rw [<- hg7] at fB0 hgn0 ⊢
 have fB:=fB0
 have hgn:=hgn0
 have hrn:w.heap.size≠nb:=oM
 clear hg7 hwr fB0 hgn0 hBO hN3 hbr hN2' hG3 fR2 hbw2
 refine zde 4 kR kR kR (fun j v w2=>match j with|0=>v=.agg Bd.cells|1=>v=.pointer (some ⟨nb,0,none⟩)|2=>v=.int .i64 n|3=>∃ (q:Sl) (X:List Int),v=.slice q.p q.n q.c/\Row w2 0 w2.heap.size 5 1 encB q X/\X.length<=4 * n/\∀ y ∈ X,0<=y/\y<=255|_=>True) (fun f w2=>∃ k5,NumAt w2 nb s V k5/\k5+15000 * f<=61000/\wr.grownBy w2 (some nb)) ?_ ?_ ?_ ?_
 ·exact ⟨k3,hN9.thru ((Below.refl _ wr).drew),oM,zcr ((Below.refl _ wr).drew)⟩
 ·exact fun f w2 ⟨k5,h1,h2,h3⟩=>⟨k5,h1,oM,h3⟩
 ·intro i o f a' w2 hi hio hfr hG3 hG2 hV K hK
  have hc:i=0\/i=1\/i=2\/i=3:=oM
  rcases hc with rfl|rfl|rfl|rfl
  ·obtain rfl:=Option.some.inj hio
   have e0:a'.tmps[7]?.getD undef=.pointer (some ⟨g7,0,none⟩):=zax (hfr 7 kR)
   obtain ⟨k5,hN5,hk5,hg5⟩:=id hG2
   have f7:=zcg hg5 fB hgn
   exact zas (w2:=w2) (by simp [execOp,go_sem,↓iteOmega, *]) (hK _ _ rfl hG2 fun _ _ h=>h)
  ·obtain rfl:=Option.some.inj hio
   have e0:a'.tmps[6]?.getD undef=.pointer (some ⟨nb,0,none⟩):=zax (hfr 6 kR)
   exact zas (w2:=w2) (by simp [execOp,go_sem,↓iteOmega, *]) (hK _ _ rfl hG2 fun _ _ h=>h)
  ·obtain rfl:=Option.some.inj hio
   have e0:a'.tmps[1]?.getD undef=.int .i64 n:=zax (hfr 1 kR)
   exact zas (w2:=w2) (by simp [execOp,go_sem,↓iteOmega, *]) (hK _ _ rfl hG2 fun _ _ h=>h)
  ·obtain rfl:=Option.some.inj hio
   have e0:a'.tmps[13]?.getD undef=.pointer (some ⟨nb,0,none⟩):=zax (hV 1 13 kR)
   have e1:a'.tmps[14]?.getD undef=.int .i64 n:=zax (hV 2 14 kR)
   obtain ⟨k5,hN5,hk5,hg5⟩:=hG3
   exact zct (w2:=w2) (by simp [execOp,go_sem,↓iteOmega, *]) ((znb hN5 oM n hn).mono fun e w3 ⟨q,X,k6,hx,⟨hl,hb⟩,hB6,hk6⟩=>⟨_,hx,hK _ _ ⟨q,X,rfl,hB6.row.lo_mono (Nat.zero_le _),hl,hb⟩ ⟨k6,hB6.num,oM,za8 hg5 hB6.grown⟩ (fun j u h=>match j,h with|0,h=>h|1,h=>h|2,h=>h|3,h=>(fun ⟨q,X,h1,h2,h3⟩=>⟨q,X,h1,rowGrown h2 hN5.m dC hB6.grown,h3⟩) h|_+4,h=>h)⟩)
 ·intro vs w2 hG2 hV2
  simp only [tkd,zeq]
  obtain ⟨k5,hN5,hk5,hg5⟩:=hG2
  have v0:vs 0=.agg Bd.cells:=hV2 0 oM
  have v1:vs 1=.pointer (some ⟨nb,0,none⟩):=hV2 1 oM
  have v2:vs 2=.int .i64 n:=hV2 2 oM
  obtain ⟨q,X,v3,hrX,hlX,hbX⟩:∃ (q:Sl) (X:List Int),vs 3=.slice q.p q.n q.c/\Row w2 0 w2.heap.size 5 1 encB q X/\X.length<=4 * n/\∀ y ∈ X,0<=y/\y<=255:=hV2 3 oM
  simp only [v0,v1,v2,v3]
  clear hV2 v0 v1 v2 v3
  simp only [Act.put,List.setIfInBounds_toArray,List.set_cons_succ,List.set_cons_zero]
  have f4:=zcg hg5 fR hrn
  obtain ⟨gc4,gf4,gz4⟩:=zaa f4
  go_wp2_with fail
  have kb:blk (zai w2 w.heap.size Bd.cells 27) w.heap.size=some (.cells Bd.cells 27):=blk_setBlk_same _ _ _ _ gz4
  have hz9:=hbw9.size
  refine za1 (n:=7) (v:=.agg Bd.cells) (u:=.slice q.p q.n q.c) rfl kR kR rfl rfl ((congrArg (fun o=>okO 7 o 0) kb).trans (SBoard.okl_whole _ _ _)) ((congrArg (fun o=>valO 7 o 0) kb).trans (SBoard.ld_whole _ _ _)) rfl ⟨Bd,LR,M,q,X,rfl,⟨hBO9.chip,?_,?_,hBO9.few,hBO9.each,hBO9.waits,hBO9.mem,hBO9.len⟩,?_,hlX,hbX,?_⟩
  ·exact Row.hi_mono (Row.set (rowGrown hBO9.regs hN9.m dC hg5) f4 dC) (by rw [size_setBlk];exact Nat.le_refl _)
  ·exact Row.hi_mono (Row.set (rowGrown hBO9.image hN9.m dC hg5) f4 dC) (by rw [size_setBlk];exact Nat.le_refl _)
  ·exact Row.hi_mono (Row.set hrX f4 dC) (by rw [size_setBlk];exact Nat.le_refl _)
  ·exact hbw9.trans (zae (zhe hg5 oM hz9) nL)
end
section
open Go.RowKit
def ziq (v:SEvent):Bool:=
 v.kind==1||v.kind==2||v.kind==3
theorem zgq (v:SEvent) (w:World)  :
  Calls prog 9 #[.agg v.cells] w fun e w'=>e=.returned (.bool (ziq v))/\Below w.heap.size w w':=by
 all_goals
  go_enter func9,ntmps9
  go_wp2_with fail
  all_goals
   go_ret
   refine ⟨?_,bL⟩
   (try simp only [beq_iff_eq,beq_eq_false_iff_ne,ne_eq,bne_iff_ne,bne_eq_false_iff_eq] at *);first|(simp [go_sem,↓iteOmega,ziq, *]<;>first|omega|((repeat' split)<;>first|rfl|omega|simp_all))|(exfalso;omega)
def zg3 (b:SBoard):SCPU:=
 zfc { SCPU.zero with chip:=b.chip }
theorem zqx (b:SBoard) (w:World)  :
  Calls prog 11 #[.agg b.cells] w fun e w'=>e=.returned (.agg (zg3 b).cells)/\Below w.heap.size w w':=by
 all_goals
  go_enter func11,ntmps11
  go_wp2_with (first|(go_at_call 25;with_reducible refine Cbv (ziz _ _) ?_;intro w' hB hb1 hb2 hb3 hs;(try simp only [szs] at hs hb1 hb2 hb3)))
  all_goals
   refine SCPU.ret (zg3 b) rfl rfl ?_ rfl ⟨rfl,bL⟩
   (try simp only [beq_iff_eq,beq_eq_false_iff_ne,ne_eq,bne_iff_ne,bne_eq_false_iff_eq] at *);first|(simp [go_sem,↓iteOmega,zg3, *]<;>first|omega|((repeat' split)<;>first|rfl|omega|simp_all))|(exfalso;omega)
end
end Go.Proofs.YtlmbamdkklkliaaGreat
