/- Part of the proof that a law holds at every input. No conditions. -/
import Derived.Lib.Hide
import Derived.Test.YtlmbamdkklkliaaGreatK19
namespace Go.Proofs.YtlmbamdkklkliaaGreat
set_option linter.unusedVariables false
set_option linter.unusedSimpArgs false
set_option maxRecDepth 100000
set_option maxHeartbeats 16000000
open Go.Proofs.Tryz
open Lib (hid)
section
open Go.RowKit
structure PlanAt (n0 b:Nat) (P:SPlan) (G:List Int) (C:List SCycle) (w:World):Prop where
 at_:blk w b=some (.cells P.cells 198)
 lo:n0<=b
 got:Row w 0 n0 5 1 encB P.got G
 cyc:Row w n0 w.heap.size 43 4 SCycle.cells P.cycles C
section
variable {n0 b:Nat} {P:SPlan} {G:List Int} {C:List SCycle}
include n0 b P G C
theorem PlanAt.lt {w:World} (h:PlanAt n0 b P G C w):b<w.heap.size:=(zaa h.at_).2.2
theorem PlanAt.thru {w w':World} (h:PlanAt n0 b P G C w) (hb:Below w.heap.size w w'):PlanAt n0 b P G C w':=
 ⟨(hb.block b h.lt).trans h.at_,h.lo,h.got.thru hb (Nat.le_trans h.lo (Nat.le_of_lt h.lt)),(h.cyc.thru hb nL).hi_mono hb.size⟩
theorem zcy (w:World) (hP:PlanAt n0 b P G C w) (n:Nat) (hn:n<=1000) (hG:G.length<=1000000) :
  Calls prog 138 #[.pointer (some ⟨b,0,none⟩),.int .i64 n] w fun e w'=>e=.returned (.int .u8 (gAt G n))/\w=w':=by
 obtain ⟨hcl,hfr,hlt⟩:=zaa hP.at_
 have hgn:=hP.got.len
 by_cases h:n<G.length
 ·obtain ⟨g,hp,_,_,_,hcell⟩:=hP.got.cell (.int .u8) (fun _=>rfl) n h
  have hv:gAt G n=G[n]:=by simp [gAt,h]
  clear hP
  go_enter func138,ntmps138
  go_wp2_with fail
  go_ret
  exact ⟨by rw [hv];rfl,rfl⟩
 ·have hv:gAt G n=0:=by simp [gAt,Nat.not_lt.1 h]
  clear hP
  go_enter func138,ntmps138
  go_wp2_with fail
  go_ret
  exact ⟨by rw [hv];rfl,rfl⟩
end

end
section
open Go.RowKit
section
variable {n0 b:Nat} {P:SPlan} {G:List Int} {C:List SCycle} (w:World) (hP:PlanAt n0 b P G C w)
include n0 b P G C w hP
theorem zc9   :
  Calls prog 148 #[.pointer (some ⟨b,0,none⟩)] w fun e w'=>e=.returned (.int .u16 (zb1 P))/\Below w.heap.size w w':=by
 obtain ⟨hcl,hfr,hlt⟩:=zaa hP.at_
 have hat:=hP.at_
 clear hP
 go_enter func148,ntmps148
 go_wp2_with fail
 all_goals (first|(go_region;all_goals (go_wp2_with fail))|skip)
 all_goals
  go_ret
  refine ⟨?_,bL⟩
  first|rfl|(simp [zb1, *];done)|(simp [zb1, *]<;>rfl)
theorem zc4:Calls prog 166 #[.pointer (some ⟨b,0,none⟩)] w fun e w'=>e=.returned (.bool (zcn P))/\Below w.heap.size w w':=by
 obtain ⟨hcl,hfr,hlt⟩:=zaa hP.at_
 have hat:=hP.at_
 clear hP
 go_enter func166,ntmps166
 go_wp2_with fail
 have hcB:∀ (d:Nat) (os:Array Obj),blk (Go.Sort.grow (redrawn w d) os) b=some (.cells P.cells 198):=fun d os=>((below_regrown w d os).block b hlt).trans hat
 have hc:∀ (i d:Nat) (os:Array Obj),(Go.Sort.grow (redrawn w d) os).cell? ⟨b,i,none⟩=P.cells[i]? := fun i d os=>(zaa (hcB d os)).1 i
 refine wp_region_quiet_below kR kR ?_
 repeat (quiet_step (first|(go_at_call 190;exact Calls.regrown_of (zts _ _ _))))
 refine wpQuiet_nil ?_
 intro _ hw'
 obtain ⟨⟨dq,osq⟩,hw''⟩:=hw'
 subst hw''
 go_wp2_with fail
 go_ret
 exact ⟨rfl,below_regrown _ dq osq⟩
theorem zfw (n:Int)  :
  Calls prog 141 #[.pointer (some ⟨b,0,none⟩),.int .i64 n] w fun e w'=>e=.returned (.int .u8 (getR P.c.regs n))/\Below w.heap.size w w':=by
 obtain ⟨hcl,hfr,hlt⟩:=zaa hP.at_
 have hat:=hP.at_
 clear hP
 go_enter func141,ntmps141
 go_wp2_with (first|(go_at_call 161;with_reducible refine Cbv (zou _ _ _) ?_;intro w' hB hb1 hb2 hb3 hs;(try simp only [szs] at hs hb1 hb2 hb3)))
 all_goals (first|(go_region;all_goals (go_wp2_with (first|(go_at_call 161;with_reducible refine Cbv (zou _ _ _) ?_;intro w' hB hb1 hb2 hb3 hs;(try simp only [szs] at hs hb1 hb2 hb3)))))|skip)
 all_goals
  go_ret
  refine ⟨?_,bL⟩
  first|rfl|simp [*]
theorem za0 (n:Int) (hr:P.c.regs.Ok) :
  Calls prog 140 #[.pointer (some ⟨b,0,none⟩),.int .i64 n] w fun e w'=>e=.returned (.int .u16 (zc6 P.c.regs n))/\Below w.heap.size w w':=by
 obtain ⟨hcl,hfr,hlt⟩:=zaa hP.at_
 have hat:=hP.at_
 clear hP
 go_enter func140,ntmps140
 go_wp2_with (first|(go_at_call 160;with_reducible refine Cbv (zm9 _ _ _ hr) ?_;intro w' hB hb1 hb2 hb3 hs;(try simp only [szs] at hs hb1 hb2 hb3)))
 all_goals (first|(go_region;all_goals (go_wp2_with (first|(go_at_call 160;with_reducible refine Cbv (zm9 _ _ _ hr) ?_;intro w' hB hb1 hb2 hb3 hs;(try simp only [szs] at hs hb1 hb2 hb3)))))|skip)
 all_goals
  go_ret
  refine ⟨?_,bL⟩
  first|rfl|simp [*]
end
theorem zd4 {G:List Int} (h:∀ x ∈ G,0<=x/\x<=255) (n:Nat):0<=gAt G n/\gAt G n<=255:=by
 unfold gAt
 cases hx:G[n]? with
 | none=>simp
 | some x=>exact h x (List.mem_of_getElem? hx)
section
variable {n0 b:Nat} {P:SPlan} {G:List Int} {C:List SCycle} (w:World) (hP:PlanAt n0 b P G C w) (hG:G.length<=1000000) (hb:∀ x ∈ G,0<=x/\x<=255)
include n0 b P G C w hP hG hb
theorem zbp :
  Calls prog 164 #[.pointer (some ⟨b,0,none⟩),.int .i64 1] w fun e w'=>e=.returned (.int .u16 (zfp G 1))/\w=w':=by
 have b1:=zd4 hb 2
 have b2:=zd4 hb 1
 have c1:=zcy w hP 2 oM hG
 have c2:=zcy w hP 1 oM hG
 clear hP hb
 go_enter func164,ntmps164
 go_wp2_with fail
 refine c1.mono ?_;rintro e w' ⟨rfl,rfl⟩
 go_wp2_with fail
 refine c2.mono ?_;rintro e w' ⟨rfl,rfl⟩
 go_wp2_with fail
 refine (zhm _ _ _ b1.1 b1.2 b2.1 b2.2).mono ?_;rintro e w' ⟨rfl,rfl⟩
 go_wp2_with fail
 go_ret
 exact ⟨rfl,rfl⟩
theorem zrf :
  Calls prog 164 #[.pointer (some ⟨b,0,none⟩),.int .i64 3] w fun e w'=>e=.returned (.int .u16 (zfp G 3))/\w=w':=by
 have b1:=zd4 hb 4
 have b2:=zd4 hb 3
 have c1:=zcy w hP 4 oM hG
 have c2:=zcy w hP 3 oM hG
 clear hP hb
 go_enter func164,ntmps164
 go_wp2_with fail
 refine c1.mono ?_;rintro e w' ⟨rfl,rfl⟩
 go_wp2_with fail
 refine c2.mono ?_;rintro e w' ⟨rfl,rfl⟩
 go_wp2_with fail
 refine (zhm _ _ _ b1.1 b1.2 b2.1 b2.2).mono ?_;rintro e w' ⟨rfl,rfl⟩
 go_wp2_with fail
 go_ret
 exact ⟨rfl,rfl⟩
end

end
section
open Go.RowKit
def zb5 (n0 b:Nat) (P:SPlan) (G:List Int) (C:List SCycle) (w:World) (e:Ending) (w':World):Prop:=
 e=.returned (.tuple #[])/\Below n0 w w'/\∃ s:Sl,PlanAt n0 b { P with cycles:=s } G C w'
theorem zko:ElemInfo prog 196 43 4:=zei kR kR kR
section
variable {n0 b:Nat} {P:SPlan} {G:List Int} {C:List SCycle}
include n0 b P G C
theorem PlanAt.n0_le {w:World} (h:PlanAt n0 b P G C w):n0<=w.heap.size:=Nat.le_trans h.lo (Nat.le_of_lt h.lt)
theorem zcs (w:World) (hP:PlanAt n0 b P G C w) (hC:C.length<=1000) (k a d:Int) :
  Calls prog 139 #[.pointer (some ⟨b,0,none⟩),.int .i64 k,.int .u16 a,.int .u8 d] w (zb5 n0 b P G (C++[cyc k a d]) w):=by
 obtain ⟨hcl,hfr,hlt⟩:=zaa hP.at_
 have hat:=hP.at_
 have hn0:=hP.n0_le
 go_enter func139,ntmps139
 go_wp2_with (at_builtin;refine za7 rfl _ _ 196 rfl ((hP.thru ((Below.refl _ _).alloc nL _)).cyc) (fun _=>rfl) SCycle.one oM zko rfl [cyc k a d] w.heap.size (cyc k a d).cells 43 1 1 rfl (zab _ _ _ rfl) (by simp [encL]) rfl oM oM sO ?_;intro s' w1 hrow hgr;have hat1:=hgr.kept b _ _ dC ((blk_alloc_past w b _ hlt).trans hat);obtain ⟨hcl1,hfr1,hlt1⟩:=zaa hat1)
 go_end0
 have hB:Below n0 w (zai w1 b { P with cycles:=s' }.cells 198):=zae (((Below.refl _ _).alloc hn0 _).trans hgr.below) hP.lo
 exact ⟨rfl,hB,s',⟨blk_setBlk_same _ _ _ _ hlt1,hP.lo,hP.got.thru hB nL,by rw [size_setBlk];exact hrow.set hat1 dC⟩⟩
theorem zhi (w:World) (hP:PlanAt n0 b P G C w) (v:Int) (hC:C.length<=900) (hv:0<=v/\v<=65535) :
  Calls prog 121 #[.pointer (some ⟨b,0,none⟩),.int .u16 v] w (zb5 n0 b P G (C++zic P v) w):=by
 obtain ⟨hcl,hfr,hlt⟩:=zaa hP.at_
 have hat:=hP.at_
 go_enter func121,ntmps121
 go_wp2_with fail
 refine (zcs _ hP (by (try simp only [List.length_append,List.length_cons,List.length_nil]);omega) _ _ _).mono ?_
 rintro e w1 ⟨rfl,hB1,s1,hP1⟩
 obtain ⟨hcl1,hfr1,hlt1⟩:=zaa hP1.at_
 have hat1:=hP1.at_
 go_wp2_with fail
 refine (zcs _ hP1 (by (try simp only [List.length_append,List.length_cons,List.length_nil]);omega) _ _ _).mono ?_
 rintro e w2 ⟨rfl,hB2,s2,hP2⟩
 obtain ⟨hcl2,hfr2,hlt2⟩:=zaa hP2.at_
 have hat2:=hP2.at_
 go_wp2_with fail
 go_end0
 exact ⟨rfl,(hB1.trans hB2),s2,by simpa [zic] using hP2⟩
theorem zl4 (w:World) (hP:PlanAt n0 b P G C w)  (hC:C.length<=900)  :
  Calls prog 167 #[.pointer (some ⟨b,0,none⟩)] w (zb5 n0 b P G (C++popP P) w):=by
 obtain ⟨hcl,hfr,hlt⟩:=zaa hP.at_
 have hat:=hP.at_
 go_enter func167,ntmps167
 go_wp2_with fail
 refine (zcs _ hP (by (try simp only [List.length_append,List.length_cons,List.length_nil]);omega) _ _ _).mono ?_
 rintro e w1 ⟨rfl,hB1,s1,hP1⟩
 obtain ⟨hcl1,hfr1,hlt1⟩:=zaa hP1.at_
 have hat1:=hP1.at_
 go_wp2_with fail
 refine (zcs _ hP1 (by (try simp only [List.length_append,List.length_cons,List.length_nil]);omega) _ _ _).mono ?_
 rintro e w2 ⟨rfl,hB2,s2,hP2⟩
 obtain ⟨hcl2,hfr2,hlt2⟩:=zaa hP2.at_
 have hat2:=hP2.at_
 go_wp2_with fail
 go_end0
 exact ⟨rfl,(hB1.trans hB2),s2,by simpa [popP] using hP2⟩
theorem zia (w:World) (hP:PlanAt n0 b P G C w) (v:Int) (wr:Bool) (hC:C.length<=900)  :
  Calls prog 146 #[.pointer (some ⟨b,0,none⟩),.int .u16 v,.bool wr] w (zb5 n0 b P G (C++zgz P v wr) w):=by
 obtain ⟨hcl,hfr,hlt⟩:=zaa hP.at_
 have hat:=hP.at_
 go_enter func146,ntmps146
 cases wr
 all_goals
  go_wp2_with fail
  refine (zcs _ hP (by (try simp only [List.length_append,List.length_cons,List.length_nil]);omega) _ _ _).mono ?_
  rintro e w1 ⟨rfl,hB1,s1,hP1⟩
  obtain ⟨hcl1,hfr1,hlt1⟩:=zaa hP1.at_
  have hat1:=hP1.at_
  go_wp2_with fail
  refine (zcs _ hP1 (by (try simp only [List.length_append,List.length_cons,List.length_nil]);omega) _ _ _).mono ?_
  rintro e w2 ⟨rfl,hB2,s2,hP2⟩
  obtain ⟨hcl2,hfr2,hlt2⟩:=zaa hP2.at_
  have hat2:=hP2.at_
  go_wp2_with fail
  go_end0
  exact ⟨rfl,(hB1.trans hB2),s2,by simpa [zgz] using hP2⟩
end
theorem zap (P:SPlan) (n:Nat):(zf9 P n).length=n:=by induction n with|zero=>rfl|succ n ih=>simp [zf9,ih]
theorem zag (P:SPlan) (n:Nat):(zbf P n).length=n:=by induction n with|zero=>rfl|succ n ih=>simp [zbf,ih]
theorem zp6 {n0 b:Nat} {P:SPlan} {G:List Int} {C:List SCycle} (w:World) (hP:PlanAt n0 b P G C w) (n:Nat) (hn:n<=8) (hC:C.length<=900)  :
  Calls prog 169 #[.pointer (some ⟨b,0,none⟩),.int .i64 n] w (zb5 n0 b P G (C++zf9 P n) w):=by
 obtain ⟨hcl,hfr,hlt⟩:=zaa hP.at_
 have hat:=hP.at_
 go_enter func169,ntmps169
 go_wp2_with fail
 go_loopw [5] (fun i wr=>∃ (k:Nat) (s:Sl),k<=n/\i=.int .i64 (k)/\Below n0 w wr/\PlanAt n0 b { P with cycles:=s } G (C++zf9 P k) wr) (fun i wr=>n-(intOf i).toNat)
 case atStart=>exact ⟨0,P.cycles,Nat.zero_le _,by simp,Below.refl _ _,by simpa [zf9] using hP⟩
 case round=>
  obtain ⟨k,s,hk,rfl,hB0,hP0⟩:=hrel
  obtain ⟨hcl0,hfr0,hlt0⟩:=zaa hP0.at_
  have hat0:=hP0.at_
  have hl:=zap P k
  have HL:=hid hl
  clear hl hcl hfr hat
  by_cases hlt':k<n
  ·go_wp2_with fail
   refine (zcs _ hP0 (by rw [List.length_append,HL.out];omega) _ _ _).mono ?_
   rintro e w1 ⟨rfl,hB1,s1,hP1⟩
   obtain ⟨hcl1,hfr1,hlt1⟩:=zaa hP1.at_
   have hat1:=hP1.at_
   go_wp2_with fail
   go_roundw
   case rel=>exact ⟨k+1,s1,oM,by go_num,hB0.trans hB1,by simpa [zf9] using hP1⟩
   case measure=>simp [intOf];omega
  ·obtain rfl:k=n:=oM
   go_wp2_with fail
   go_end0
   exact ⟨rfl,hB0,s,hP0⟩
end
section
open Go.RowKit
section
variable {n0 b:Nat} {P:SPlan} {G:List Int} {C:List SCycle} (w:World) (hP:PlanAt n0 b P G C w)
include n0 b P G C w hP
theorem zi9 (n:Nat) (hn:n<=8) (hC:C.length<=900)  :
    Calls prog 142 #[.pointer (some ⟨b,0,none⟩),.int .i64 n] w (zb5 n0 b P G (C++zbf P n) w):=by
  obtain ⟨hcl,hfr,hlt⟩:=zaa hP.at_
  have hat:=hP.at_
  go_enter func142,ntmps142
  cases hinj:P.injected
  all_goals
    go_wp2_with fail
    go_loopw [4] (fun i wr=>∃ (k:Nat) (s:Sl),k<=n/\i=.int .i64 ((k:Int)+1)/\Below n0 w wr/\PlanAt n0 b { P with cycles:=s } G (C++zbf P k) wr) (fun i wr=>n+1-(intOf i).toNat)
    case atStart=>exact ⟨0,P.cycles,Nat.zero_le _,by simp,Below.refl _ _,by simpa [zbf] using hP⟩
    case round=>
      obtain ⟨k,s,hk,rfl,hB0,hP0⟩:=hrel
      obtain ⟨hcl0,hfr0,hlt0⟩:=zaa hP0.at_
      have hat0:=hP0.at_
      have hl:=zag P k
      have HL:=hid hl
      have HI:=hid hinj
      have hw:IntKind.u16.wrap ((k:Int)+1)=(k:Int)+1:=by rw [IntKind.wrap_u16];omega
      clear hl hcl hfr hat
      by_cases hlt':k<n
      · go_wp2_with fail
        refine (zcs _ hP0 (by rw [List.length_append,HL.out];omega) _ _ _).mono ?_
        rintro e w1 ⟨rfl,hB1,s1,hP1⟩
        obtain ⟨hcl1,hfr1,hlt1⟩:=zaa hP1.at_
        have hat1:=hP1.at_
        clear hw
        go_wp2_with fail
        go_roundw
        case rel=>exact ⟨k+1,s1,oM,by go_num,hB0.trans hB1,by simpa [zbf,zhk,HI.out] using hP1⟩
        case measure=>simp [intOf];omega
      · obtain rfl : k = n := oM
        go_wp2_with fail
        go_end0
        exact ⟨rfl,hB0,s,hP0⟩
theorem zdh (hC:C.length<=900):Calls prog 142 #[.pointer (some ⟨b,0,none⟩),.int .i64 1] w (zb5 n0 b P G (C++zbf P 1) w):=zi9 w hP 1 oM hC
theorem zkk (hC:C.length<=900):Calls prog 169 #[.pointer (some ⟨b,0,none⟩),.int .i64 1] w (zb5 n0 b P G (C++zf9 P 1) w):=zp6 w hP 1 oM hC
theorem zd5 (hC:C.length<=900):Calls prog 142 #[.pointer (some ⟨b,0,none⟩),.int .i64 2] w (zb5 n0 b P G (C++zbf P 2) w):=zi9 w hP 2 oM hC
theorem zkj (hC:C.length<=900):Calls prog 169 #[.pointer (some ⟨b,0,none⟩),.int .i64 2] w (zb5 n0 b P G (C++zf9 P 2) w):=zp6 w hP 2 oM hC
end
def z3l (n0 b:Nat) (P:SPlan) (G:List Int) (C:List SCycle) (w:World) (v:Bool) (e:Ending) (w':World):Prop:=
  e=.returned (.bool v)/\Below n0 w w'/\∃ s:Sl,PlanAt n0 b { P with cycles:=s } G C w'
theorem zmc {n0 b:Nat} {P:SPlan} {G:List Int} {C:List SCycle} (w:World) (hP:PlanAt n0 b P G C w) (hC:C.length<=900):Calls prog 165 #[.pointer (some ⟨b,0,none⟩)] w (z3l n0 b P G (C++zhr P) w (zcn P)):=by
  obtain ⟨hcl,hfr,hlt⟩:=zaa hP.at_
  have hat:=hP.at_
  obtain ⟨t,ht⟩:∃ t,zcn P=t:=⟨_,rfl⟩
  have hn0:=hP.n0_le
  have hj:zhr P=if t=false/\P.c.chip=2 then zbf P 1 else zbf P 2:=by rw [<- ht];rfl
  have HT:=hid ht
  have HJ:=hid hj
  have hc:(P.c.chip==2)=true\/(P.c.chip==2)=false:=by cases (P.c.chip==2)<;>simp
  clear ht hj
  cases t<;>rcases hc with hc|hc
  all_goals
    go_enter func165,ntmps165
    go_wp2_with fail
    refine (zc4 _ hP).mono ?_
    rintro e w0 ⟨rfl,hB0⟩
    rw [HT.out]
    have hP0:=hP.thru hB0
    obtain ⟨hcl0,hfr0,hlt0⟩:=zaa hP0.at_
    have hat0:=hP0.at_
    have hBn:=hB0.mono hn0
    go_wp2_with fail
    first
    | ((with_reducible refine (zdh _ hP0 oM).mono ?_)
       rintro e w1 ⟨rfl,hB1,s1,hP1⟩
       go_wp2_with fail
       go_ret
       refine ⟨by rw [HT.out];rfl,hBn.trans hB1,s1,?_⟩
       rw [HJ.out]
       simpa [beq_iff_eq.1 hc] using hP1)
    | ((with_reducible refine (zd5 _ hP0 oM).mono ?_)
       rintro e w1 ⟨rfl,hB1,s1,hP1⟩
       go_wp2_with fail
       go_ret
       refine ⟨by rw [HT.out];rfl,hBn.trans hB1,s1,?_⟩
       rw [HJ.out]
       first|simpa using hP1|simpa [beq_eq_false_iff_ne.1 hc] using hP1)
end
end Go.Proofs.YtlmbamdkklkliaaGreat
