/- Part of the proof that a law holds at every input. No conditions. -/
import Derived.Deep.RegionWith
import Derived.RegionTactic
import Derived.StillTailTactics
import Derived.Test.YtlmbamdkklkliaaGreatK20
namespace Go.Proofs.YtlmbamdkklkliaaGreat
set_option linter.unusedVariables false
set_option linter.unusedSimpArgs false
set_option linter.unusedSectionVars false
set_option maxRecDepth 100000
set_option maxHeartbeats 16000000
open Go.Proofs.Tryz
open Lib (hid)
section
open Go.RowKit
theorem zar (P:SPlan):(popP P).length=2:=rfl
theorem zaq (P:SPlan) (v:Int):(zic P v).length=2:=rfl
theorem zdd (P:SPlan) (hr:P.c.regs.Ok):0<=zb1 P/\zb1 P<=65535:=by
 unfold zb1;split
 ·exact hr.pc
 ·rw [IntKind.wrap_u16];omega
section
variable (P:SPlan) (s:Sl)
theorem zbb (v:Int):zic { P with cycles:=s } v=zic P v:=rfl
theorem zbo:popP { P with cycles:=s }=popP P:=rfl
theorem zaw (v:Int) (b:Bool):zgz { P with cycles:=s } v b=zgz P v b:=rfl
theorem zbd (n:Nat):zf9 { P with cycles:=s } n=zf9 P n:=by induction n with|zero=>rfl|succ n ih=>simp only [zf9,ih]
theorem zao (n:Nat):zbf { P with cycles:=s } n=zbf P n:=by
 induction n with
 | zero=>rfl
 | succ n ih=>simp only [zbf,ih];rfl
theorem zbc:zhr { P with cycles:=s }=zhr P:=by unfold zhr;rw [zao,zao];rfl
theorem zay:zcn { P with cycles:=s }=zcn P:=rfl
theorem zau:zb1 { P with cycles:=s }=zb1 P:=rfl
theorem zkm (G:List Int):zgb { P with cycles:=s } G=zgb P G:=by unfold zgb;rw [zao];rfl
theorem zlo (G:List Int):zfz { P with cycles:=s } G=zfz P G:=rfl
end
theorem zii (a b:Int) (h:0<=a/\a<=255) (h':0<=b/\b<=255):0<=ze9 a b/\ze9 a b<=65535:=by unfold ze9;omega
theorem zeg (r:SRegs) (n:Int) (hr:r.Ok):0<=zc6 r n/\zc6 r n<=65535:=by
 unfold zc6;split
 ·exact hr.sp
 ·exact zii _ _ (zfr r _ hr) (zfr r _ hr)
theorem zs1 (k:Int) (r:SRegs) (hr:r.Ok):0<=pswR k r/\pswR k r<=65535:=zii _ _ hr.a ⟨zpz k r.f,zp0 k r.f⟩
theorem zne (P:SPlan):(zhr P).length<=2:=by unfold zhr;split<;>simp [zag]
section
variable {n0 b:Nat} {P:SPlan} {G:List Int} {C:List SCycle} (w:World) (hP:PlanAt n0 b P G C w) (hC:C.length<=800) (hr:P.c.regs.Ok) (hG:G.length<=1000000) (hgb:∀ x ∈ G,0<=x/\x<=255)
include n0 b P G C w hP hC hr hG hgb
theorem zw0 (hk:P.i.kind=24) :
  Calls prog 147 #[.pointer (some ⟨b,0,none⟩)] w (zb5 n0 b P G (C++zcq P) w):=by
 obtain ⟨hcl,hfr,hlt⟩:=zaa hP.at_
 have hat:=hP.at_
 go_enter func147,ntmps147
 go_wp2_with fail
 refine (zmc _ hP oM).mono ?_
 rintro e w1 ⟨rfl,hB1,s1,hP1⟩
 obtain ⟨hcl1,hfr1,hlt1⟩:=zaa hP1.at_
 have hat1:=hP1.at_
 go_wp2_with fail
 go_end0
 refine ⟨rfl,hB1,s1,?_⟩
 simpa [zcq,hk,zbb,zbo,zaw,zbd,zao,zbc,zay,zau] using hP1
theorem zue (hk:P.i.kind=25) (ht:zcn P=false) :
  Calls prog 147 #[.pointer (some ⟨b,0,none⟩)] w (zb5 n0 b P G (C++zcq P) w):=by
 obtain ⟨hcl,hfr,hlt⟩:=zaa hP.at_
 have hat:=hP.at_
 have HT:=hid ht
 clear ht
 go_enter func147,ntmps147
 go_wp2_with fail
 refine (zmc _ hP oM).mono ?_
 rintro e w1 ⟨rfl,hB1,s1,hP1⟩
 obtain ⟨hcl1,hfr1,hlt1⟩:=zaa hP1.at_
 have hat1:=hP1.at_
 rw [HT.out]
 go_wp2_with fail
 go_end0
 refine ⟨rfl,hB1,s1,?_⟩
 simpa [zcq,hk,HT.out,zbb,zbo,zaw,zbd,zao,zbc,zay,zau] using hP1
theorem zuc (hk:P.i.kind=26) (ht:zcn P=false) :
  Calls prog 147 #[.pointer (some ⟨b,0,none⟩)] w (zb5 n0 b P G (C++zcq P) w):=by
 obtain ⟨hcl,hfr,hlt⟩:=zaa hP.at_
 have hat:=hP.at_
 have HT:=hid ht
 clear ht
 go_enter func147,ntmps147
 go_wp2_with fail
 refine (zc4 _ hP ).mono ?_
 rintro e w1 ⟨rfl,hB1⟩
 have hP1:=hP.thru hB1
 replace hB1:=hB1.mono hP.n0_le
 obtain ⟨hcl1,hfr1,hlt1⟩:=zaa hP1.at_
 have hat1:=hP1.at_
 rw [HT.out]
 go_wp2_with fail
 go_end0
 refine ⟨rfl,hB1,P.cycles,?_⟩
 simpa [zcq,hk,HT.out,zbb,zbo,zaw,zbd,zao,zbc,zay,zau] using hP1
theorem zt7 (hk:P.i.kind=45) (ht:zcn P=false) :
  Calls prog 147 #[.pointer (some ⟨b,0,none⟩)] w (zb5 n0 b P G (C++zcq P) w):=by
 obtain ⟨hcl,hfr,hlt⟩:=zaa hP.at_
 have hat:=hP.at_
 have HT:=hid ht
 clear ht
 go_enter func147,ntmps147
 go_wp2_with fail
 refine (zc4 _ hP ).mono ?_
 rintro e w1 ⟨rfl,hB1⟩
 have hP1:=hP.thru hB1
 replace hB1:=hB1.mono hP.n0_le
 obtain ⟨hcl1,hfr1,hlt1⟩:=zaa hP1.at_
 have hat1:=hP1.at_
 rw [HT.out]
 go_wp2_with fail
 go_end0
 refine ⟨rfl,hB1,P.cycles,?_⟩
 simpa [zcq,hk,HT.out,zbb,zbo,zaw,zbd,zao,zbc,zay,zau] using hP1
theorem zud (hk:P.i.kind=25) (ht:zcn P=true) :
  Calls prog 147 #[.pointer (some ⟨b,0,none⟩)] w (zb5 n0 b P G (C++zcq P) w):=by
 obtain ⟨hcl,hfr,hlt⟩:=zaa hP.at_
 have hat:=hP.at_
 have HT:=hid ht
 clear ht
 go_enter func147,ntmps147
 go_wp2_with fail
 refine (zmc _ hP oM).mono ?_
 rintro e w1 ⟨rfl,hB1,s1,hP1⟩
 obtain ⟨hcl1,hfr1,hlt1⟩:=zaa hP1.at_
 have hat1:=hP1.at_
 rw [HT.out]
 go_wp2_with fail
 refine (zc9 _ hP1 ).mono ?_
 rintro e w2 ⟨rfl,hB2⟩
 have hP2:=hP1.thru hB2
 replace hB2:=hB2.mono hP1.n0_le
 obtain ⟨hcl2,hfr2,hlt2⟩:=zaa hP2.at_
 have hat2:=hP2.at_
 go_wp2_with fail
 refine (zhi _ hP2 _ (by rw [List.length_append];have:=zne P;omega) (zdd P hr)).mono ?_
 rintro e w3 ⟨rfl,hB3,s3,hP3⟩
 obtain ⟨hcl3,hfr3,hlt3⟩:=zaa hP3.at_
 have hat3:=hP3.at_
 go_wp2_with fail
 go_end0
 refine ⟨rfl,((hB1.trans hB2).trans hB3),s3,?_⟩
 simpa [zcq,hk,HT.out,zbb,zbo,zaw,zbd,zao,zbc,zay,zau] using hP3
theorem zub (hk:P.i.kind=26) (ht:zcn P=true) :
  Calls prog 147 #[.pointer (some ⟨b,0,none⟩)] w (zb5 n0 b P G (C++zcq P) w):=by
 obtain ⟨hcl,hfr,hlt⟩:=zaa hP.at_
 have hat:=hP.at_
 have HT:=hid ht
 clear ht
 go_enter func147,ntmps147
 go_wp2_with fail
 refine (zc4 _ hP ).mono ?_
 rintro e w1 ⟨rfl,hB1⟩
 have hP1:=hP.thru hB1
 replace hB1:=hB1.mono hP.n0_le
 obtain ⟨hcl1,hfr1,hlt1⟩:=zaa hP1.at_
 have hat1:=hP1.at_
 rw [HT.out]
 go_wp2_with fail
 refine (zl4 _ hP1 (by (try simp only [List.length_append,List.length_cons,List.length_nil,zag,zap,zar,zaq]);omega)).mono ?_
 rintro e w2 ⟨rfl,hB2,s2,hP2⟩
 obtain ⟨hcl2,hfr2,hlt2⟩:=zaa hP2.at_
 have hat2:=hP2.at_
 go_wp2_with fail
 go_end0
 refine ⟨rfl,(hB1.trans hB2),s2,?_⟩
 simpa [zcq,hk,HT.out,zbb,zbo,zaw,zbd,zao,zbc,zay,zau] using hP2
theorem zt6 (hk:P.i.kind=45) (ht:zcn P=true) :
  Calls prog 147 #[.pointer (some ⟨b,0,none⟩)] w (zb5 n0 b P G (C++zcq P) w):=by
 obtain ⟨hcl,hfr,hlt⟩:=zaa hP.at_
 have hat:=hP.at_
 have HT:=hid ht
 clear ht
 go_enter func147,ntmps147
 go_wp2_with fail
 refine (zc4 _ hP ).mono ?_
 rintro e w1 ⟨rfl,hB1⟩
 have hP1:=hP.thru hB1
 replace hB1:=hB1.mono hP.n0_le
 obtain ⟨hcl1,hfr1,hlt1⟩:=zaa hP1.at_
 have hat1:=hP1.at_
 rw [HT.out]
 go_wp2_with fail
 refine (zc9 _ hP1 ).mono ?_
 rintro e w2 ⟨rfl,hB2⟩
 have hP2:=hP1.thru hB2
 replace hB2:=hB2.mono hP1.n0_le
 obtain ⟨hcl2,hfr2,hlt2⟩:=zaa hP2.at_
 have hat2:=hP2.at_
 go_wp2_with fail
 refine (zhi _ hP2 _ (by (try simp only [List.length_append,List.length_cons,List.length_nil,zag,zap,zar,zaq]);omega) (zdd P hr)).mono ?_
 rintro e w3 ⟨rfl,hB3,s3,hP3⟩
 obtain ⟨hcl3,hfr3,hlt3⟩:=zaa hP3.at_
 have hat3:=hP3.at_
 go_wp2_with fail
 go_end0
 refine ⟨rfl,((hB1.trans hB2).trans hB3),s3,?_⟩
 simpa [zcq,hk,HT.out,zbb,zbo,zaw,zbd,zao,zbc,zay,zau] using hP3
theorem zwz (hk:P.i.kind=27) :
  Calls prog 147 #[.pointer (some ⟨b,0,none⟩)] w (zb5 n0 b P G (C++zcq P) w):=by
 obtain ⟨hcl,hfr,hlt⟩:=zaa hP.at_
 have hat:=hP.at_
 go_enter func147,ntmps147
 go_wp2_with fail
 refine (zc9 _ hP ).mono ?_
 rintro e w1 ⟨rfl,hB1⟩
 have hP1:=hP.thru hB1
 replace hB1:=hB1.mono hP.n0_le
 obtain ⟨hcl1,hfr1,hlt1⟩:=zaa hP1.at_
 have hat1:=hP1.at_
 go_wp2_with fail
 refine (zhi _ hP1 _ (by (try simp only [List.length_append,List.length_cons,List.length_nil,zag,zap,zar,zaq]);omega) (zdd P hr)).mono ?_
 rintro e w2 ⟨rfl,hB2,s2,hP2⟩
 obtain ⟨hcl2,hfr2,hlt2⟩:=zaa hP2.at_
 have hat2:=hP2.at_
 go_wp2_with fail
 go_end0
 refine ⟨rfl,(hB1.trans hB2),s2,?_⟩
 simpa [zcq,hk,zbb,zbo,zaw,zbd,zao,zbc,zay,zau] using hP2
theorem zwx (hk:P.i.kind=31) :
  Calls prog 147 #[.pointer (some ⟨b,0,none⟩)] w (zb5 n0 b P G (C++zcq P) w):=by
 obtain ⟨hcl,hfr,hlt⟩:=zaa hP.at_
 have hat:=hP.at_
 go_enter func147,ntmps147
 go_wp2_with fail
 refine (zl4 _ hP (by (try simp only [List.length_append,List.length_cons,List.length_nil,zag,zap,zar,zaq]);omega)).mono ?_
 rintro e w1 ⟨rfl,hB1,s1,hP1⟩
 obtain ⟨hcl1,hfr1,hlt1⟩:=zaa hP1.at_
 have hat1:=hP1.at_
 go_wp2_with fail
 go_end0
 refine ⟨rfl,hB1,s1,?_⟩
 simpa [zcq,hk,zbb,zbo,zaw,zbd,zao,zbc,zay,zau] using hP1
theorem zw1 (hk:P.i.kind=18) :
  Calls prog 147 #[.pointer (some ⟨b,0,none⟩)] w (zb5 n0 b P G (C++zcq P) w):=by
 obtain ⟨hcl,hfr,hlt⟩:=zaa hP.at_
 have hat:=hP.at_
 go_enter func147,ntmps147
 go_wp2_with fail
 refine (zkj _ hP (by (try simp only [List.length_append,List.length_cons,List.length_nil,zag,zap,zar,zaq]);omega)).mono ?_
 rintro e w1 ⟨rfl,hB1,s1,hP1⟩
 obtain ⟨hcl1,hfr1,hlt1⟩:=zaa hP1.at_
 have hat1:=hP1.at_
 go_wp2_with fail
 go_end0
 refine ⟨rfl,hB1,s1,?_⟩
 simpa [zcq,hk,zbb,zbo,zaw,zbd,zao,zbc,zay,zau] using hP1
theorem zwu (hk:P.i.kind=40) :
  Calls prog 147 #[.pointer (some ⟨b,0,none⟩)] w (zb5 n0 b P G (C++zcq P) w):=by
 obtain ⟨hcl,hfr,hlt⟩:=zaa hP.at_
 have hat:=hP.at_
 go_enter func147,ntmps147
 go_wp2_with fail
 refine (zkj _ hP (by (try simp only [List.length_append,List.length_cons,List.length_nil,zag,zap,zar,zaq]);omega)).mono ?_
 rintro e w1 ⟨rfl,hB1,s1,hP1⟩
 obtain ⟨hcl1,hfr1,hlt1⟩:=zaa hP1.at_
 have hat1:=hP1.at_
 go_wp2_with fail
 go_end0
 refine ⟨rfl,hB1,s1,?_⟩
 simpa [zcq,hk,zbb,zbo,zaw,zbd,zao,zbc,zay,zau] using hP1
theorem zws (hk:P.i.kind=42) :
  Calls prog 147 #[.pointer (some ⟨b,0,none⟩)] w (zb5 n0 b P G (C++zcq P) w):=by
 obtain ⟨hcl,hfr,hlt⟩:=zaa hP.at_
 have hat:=hP.at_
 go_enter func147,ntmps147
 go_wp2_with fail
 refine (zkj _ hP (by (try simp only [List.length_append,List.length_cons,List.length_nil,zag,zap,zar,zaq]);omega)).mono ?_
 rintro e w1 ⟨rfl,hB1,s1,hP1⟩
 obtain ⟨hcl1,hfr1,hlt1⟩:=zaa hP1.at_
 have hat1:=hP1.at_
 go_wp2_with fail
 go_end0
 refine ⟨rfl,hB1,s1,?_⟩
 simpa [zcq,hk,zbb,zbo,zaw,zbd,zao,zbc,zay,zau] using hP1
theorem zwt (hk:P.i.kind=41) :
  Calls prog 147 #[.pointer (some ⟨b,0,none⟩)] w (zb5 n0 b P G (C++zcq P) w):=by
 obtain ⟨hcl,hfr,hlt⟩:=zaa hP.at_
 have hat:=hP.at_
 go_enter func147,ntmps147
 go_wp2_with fail
 refine (zkk _ hP (by (try simp only [List.length_append,List.length_cons,List.length_nil,zag,zap,zar,zaq]);omega)).mono ?_
 rintro e w1 ⟨rfl,hB1,s1,hP1⟩
 obtain ⟨hcl1,hfr1,hlt1⟩:=zaa hP1.at_
 have hat1:=hP1.at_
 go_wp2_with fail
 go_end0
 refine ⟨rfl,hB1,s1,?_⟩
 simpa [zcq,hk,zbb,zbo,zaw,zbd,zao,zbc,zay,zau] using hP1
theorem zwr (hk:P.i.kind=43) :
  Calls prog 147 #[.pointer (some ⟨b,0,none⟩)] w (zb5 n0 b P G (C++zcq P) w):=by
 obtain ⟨hcl,hfr,hlt⟩:=zaa hP.at_
 have hat:=hP.at_
 go_enter func147,ntmps147
 go_wp2_with fail
 refine (zdh _ hP (by (try simp only [List.length_append,List.length_cons,List.length_nil,zag,zap,zar,zaq]);omega)).mono ?_
 rintro e w1 ⟨rfl,hB1,s1,hP1⟩
 obtain ⟨hcl1,hfr1,hlt1⟩:=zaa hP1.at_
 have hat1:=hP1.at_
 go_wp2_with fail
 refine (zkk _ hP1 (by (try simp only [List.length_append,List.length_cons,List.length_nil,zag,zap,zar,zaq]);omega)).mono ?_
 rintro e w2 ⟨rfl,hB2,s2,hP2⟩
 obtain ⟨hcl2,hfr2,hlt2⟩:=zaa hP2.at_
 have hat2:=hP2.at_
 go_wp2_with fail
 go_end0
 refine ⟨rfl,(hB1.trans hB2),s2,?_⟩
 simpa [zcq,hk,zbb,zbo,zaw,zbd,zao,zbc,zay,zau] using hP2
theorem zwq (hk:P.i.kind=44) :
  Calls prog 147 #[.pointer (some ⟨b,0,none⟩)] w (zb5 n0 b P G (C++zcq P) w):=by
 obtain ⟨hcl,hfr,hlt⟩:=zaa hP.at_
 have hat:=hP.at_
 go_enter func147,ntmps147
 go_wp2_with fail
 refine (zdh _ hP (by (try simp only [List.length_append,List.length_cons,List.length_nil,zag,zap,zar,zaq]);omega)).mono ?_
 rintro e w1 ⟨rfl,hB1,s1,hP1⟩
 obtain ⟨hcl1,hfr1,hlt1⟩:=zaa hP1.at_
 have hat1:=hP1.at_
 go_wp2_with fail
 refine (zkk _ hP1 (by (try simp only [List.length_append,List.length_cons,List.length_nil,zag,zap,zar,zaq]);omega)).mono ?_
 rintro e w2 ⟨rfl,hB2,s2,hP2⟩
 obtain ⟨hcl2,hfr2,hlt2⟩:=zaa hP2.at_
 have hat2:=hP2.at_
 go_wp2_with fail
 go_end0
 refine ⟨rfl,(hB1.trans hB2),s2,?_⟩
 simpa [zcq,hk,zbb,zbo,zaw,zbd,zao,zbc,zay,zau] using hP2
theorem zwy (hk:P.i.kind=30) (hp:(P.i.pair==3)=false) :
  Calls prog 147 #[.pointer (some ⟨b,0,none⟩)] w (zb5 n0 b P G (C++zcq P) w):=by
 obtain ⟨hcl,hfr,hlt⟩:=zaa hP.at_
 have hat:=hP.at_
 go_enter func147,ntmps147
 go_wp2_with fail
 refine (za0 _ hP _ hr).mono ?_
 rintro e w1 ⟨rfl,hB1⟩
 have hP1:=hP.thru hB1
 replace hB1:=hB1.mono hP.n0_le
 obtain ⟨hcl1,hfr1,hlt1⟩:=zaa hP1.at_
 have hat1:=hP1.at_
 go_wp2_with fail
 refine (zhi _ hP1 _ (by (try simp only [List.length_append,List.length_cons,List.length_nil,zag,zap,zar,zaq]);omega) (zeg _ _ hr)).mono ?_
 rintro e w2 ⟨rfl,hB2,s2,hP2⟩
 obtain ⟨hcl2,hfr2,hlt2⟩:=zaa hP2.at_
 have hat2:=hP2.at_
 go_wp2_with fail
 go_end0
 refine ⟨rfl,(hB1.trans hB2),s2,?_⟩
 simpa [zcq,hk,zh1,beq_eq_false_iff_ne.1 hp,zbb,zbo,zaw,zbd,zao,zbc,zay,zau] using hP2
theorem zua (hk:P.i.kind=30) (hp:P.i.pair=3) :
  Calls prog 147 #[.pointer (some ⟨b,0,none⟩)] w (zb5 n0 b P G (C++zcq P) w):=by
 obtain ⟨hcl,hfr,hlt⟩:=zaa hP.at_
 have hat:=hP.at_
 go_enter func147,ntmps147
 go_wp2_with fail
 refine (za0 _ hP _ hr).mono ?_
 rintro e w1 ⟨rfl,hB1⟩
 have hP1:=hP.thru hB1
 replace hB1:=hB1.mono hP.n0_le
 obtain ⟨hcl1,hfr1,hlt1⟩:=zaa hP1.at_
 have hat1:=hP1.at_
 go_wp2_with fail
 have hcB:∀ (d:Nat) (os:Array Obj),blk (Go.Sort.grow (redrawn w1 d) os) b=some (.cells P.cells 198):=fun d os=>((below_regrown w1 d os).block b hlt1).trans hat1
 have hc:∀ (i d:Nat) (os:Array Obj),(Go.Sort.grow (redrawn w1 d) os).cell? ⟨b,i,none⟩=P.cells[i]? := fun i d os=>(zaa (hcB d os)).1 i
 refine wp_region_quiet_below kR kR ?_
 repeat (quiet_step (first|(go_at_call 168;exact Calls.regrown_of (zvm _ _ _ hr))))
 refine wpQuiet_nil ?_
 intro _ hw'
 obtain ⟨⟨dq,osq⟩,hw''⟩:=hw'
 subst hw''
 have hB2:=below_regrown w1 dq osq
 have hP2:=hP1.thru hB2
 replace hB2:=hB2.mono hP1.n0_le
 clear hcB hc
 obtain ⟨hcl2,hfr2,hlt2⟩:=zaa hP2.at_
 have hat2:=hP2.at_
 go_wp2_with fail
 refine (zhi _ hP2 _ (by (try simp only [List.length_append,List.length_cons,List.length_nil,zag,zap,zar,zaq]);omega) (zs1 _ _ hr)).mono ?_
 rintro e w3 ⟨rfl,hB3,s3,hP3⟩
 obtain ⟨hcl3,hfr3,hlt3⟩:=zaa hP3.at_
 have hat3:=hP3.at_
 go_wp2_with fail
 go_end0
 refine ⟨rfl,((hB1.trans hB2).trans hB3),s3,?_⟩
 simpa [zcq,hk,zh1,hp,zbb,zbo,zaw,zbd,zao,zbc,zay,zau] using hP3
theorem zwv (hk:P.i.kind=37) (hc:(P.c.chip==2)=false) :
  Calls prog 147 #[.pointer (some ⟨b,0,none⟩)] w (zb5 n0 b P G (C++zcq P) w):=by
 obtain ⟨hcl,hfr,hlt⟩:=zaa hP.at_
 have hat:=hP.at_
 go_enter func147,ntmps147
 go_wp2_with fail
 refine (zcs _ hP (by (try simp only [List.length_append,List.length_cons,List.length_nil,zag,zap,zar,zaq]);omega) _ _ _).mono ?_
 rintro e w1 ⟨rfl,hB1,s1,hP1⟩
 obtain ⟨hcl1,hfr1,hlt1⟩:=zaa hP1.at_
 have hat1:=hP1.at_
 go_wp2_with fail
 go_end0
 refine ⟨rfl,hB1,s1,?_⟩
 simpa [zcq,hk,beq_eq_false_iff_ne.1 hc,zbb,zbo,zaw,zbd,zao,zbc,zay,zau] using hP1
theorem zt8 (hk:P.i.kind=37) (hc:P.c.chip=2) :
  Calls prog 147 #[.pointer (some ⟨b,0,none⟩)] w (zb5 n0 b P G (C++zcq P) w):=by
 obtain ⟨hcl,hfr,hlt⟩:=zaa hP.at_
 have hat:=hP.at_
 go_enter func147,ntmps147
 go_wp2_with fail
 go_end0
 refine ⟨rfl,Below.refl _ _,P.cycles,?_⟩
 simpa [zcq,hk,hc,zbb,zbo,zaw,zbd,zao,zbc,zay,zau] using hP
end

end
section
open Go.RowKit
section
variable {n0 b:Nat} {P:SPlan} {G:List Int} {C:List SCycle}
include n0 b P G C
theorem PlanAt.drew {w:World} (h:PlanAt n0 b P G C w):PlanAt n0 b P G C w.drew:=
 ⟨h.at_,h.lo,h.got.keep fun _ _=>rfl,h.cyc.keep fun _ _=>rfl⟩
theorem zt9 (w:World) (hP:PlanAt n0 b P G C w) (hC:C.length<=800) (hr:P.c.regs.Ok) (hG:G.length<=1000000) (hgb:∀ x ∈ G,0<=x/\x<=255) (hk:P.i.kind=32) (hc:P.c.chip=2) :
  Calls prog 147 #[.pointer (some ⟨b,0,none⟩)] w (zb5 n0 b P G (C++zcq P) w):=by
 obtain ⟨hcl,hfr,hlt⟩:=zaa hP.at_
 have hat:=hP.at_
 go_enter func147,ntmps147
 go_wp2_with fail
 refine (zl4 _ hP (by (try simp only [List.length_append,List.length_cons,List.length_nil,zag,zap,zar,zaq]);omega)).mono ?_
 rintro e w1 ⟨rfl,hB1,s1,hP1⟩
 obtain ⟨hcl1,hfr1,hlt1⟩:=zaa hP1.at_
 have hat1:=hP1.at_
 go_wp2_with fail
 go_still_tail 14,kR
 change wpList _ _ _ _ _ w1.drew
 go_wp2_with fail
 refine (zcs _ hP1.drew (by (try simp only [List.length_append,List.length_cons,List.length_nil,zag,zap,zar,zaq]);omega) _ _ _).mono ?_
 rintro e w2 ⟨rfl,hB2,s2,hP2⟩
 obtain ⟨hcl2,hfr2,hlt2⟩:=zaa hP2.at_
 have hat2:=hP2.at_
 go_wp2_with fail
 go_still_tail 13,kR
 change wpList _ _ _ _ _ w2.drew
 go_wp2_with fail
 refine (zcs _ hP2.drew (by (try simp only [List.length_append,List.length_cons,List.length_nil,zag,zap,zar,zaq]);omega) _ _ _).mono ?_
 rintro e w3 ⟨rfl,hB3,s3,hP3⟩
 obtain ⟨hcl3,hfr3,hlt3⟩:=zaa hP3.at_
 have hat3:=hP3.at_
 go_wp2_with fail
 go_end0
 refine ⟨rfl,((hB1.trans (((Below.refl _ _).drew).trans hB2)).trans (((Below.refl _ _).drew).trans hB3)),s3,?_⟩
 simpa [zcq,hk,hc,cyc,popP,zbb,zbo,zaw,zbd,zao,zbc,zay,zau] using hP3
theorem zww (w:World) (hP:PlanAt n0 b P G C w) (hC:C.length<=800) (hr:P.c.regs.Ok) (hG:G.length<=1000000) (hgb:∀ x ∈ G,0<=x/\x<=255) (hk:P.i.kind=32) (hc:(P.c.chip==2)=false) :
  Calls prog 147 #[.pointer (some ⟨b,0,none⟩)] w (zb5 n0 b P G (C++zcq P) w):=by
 obtain ⟨hcl,hfr,hlt⟩:=zaa hP.at_
 have hat:=hP.at_
 go_enter func147,ntmps147
 go_wp2_with fail
 refine (zl4 _ hP (by (try simp only [List.length_append,List.length_cons,List.length_nil,zag,zap,zar,zaq]);omega)).mono ?_
 rintro e w1 ⟨rfl,hB1,s1,hP1⟩
 obtain ⟨hcl1,hfr1,hlt1⟩:=zaa hP1.at_
 have hat1:=hP1.at_
 go_wp2_with fail
 go_still_tail 14,kR
 change wpList _ _ _ _ _ w1.drew
 go_wp2_with fail
 refine (zcs _ hP1.drew (by (try simp only [List.length_append,List.length_cons,List.length_nil,zag,zap,zar,zaq]);omega) _ _ _).mono ?_
 rintro e w2 ⟨rfl,hB2,s2,hP2⟩
 obtain ⟨hcl2,hfr2,hlt2⟩:=zaa hP2.at_
 have hat2:=hP2.at_
 go_wp2_with fail
 go_still_tail 13,kR
 change wpList _ _ _ _ _ w2.drew
 go_wp2_with fail
 refine (zcs _ hP2.drew (by (try simp only [List.length_append,List.length_cons,List.length_nil,zag,zap,zar,zaq]);omega) _ _ _).mono ?_
 rintro e w3 ⟨rfl,hB3,s3,hP3⟩
 obtain ⟨hcl3,hfr3,hlt3⟩:=zaa hP3.at_
 have hat3:=hP3.at_
 obtain ⟨L3,hL3⟩:∃ L3,C++popP P++[cyc 5 (IntKind.u16.wrap (P.c.regs.sp+1)) P.c.regs.h]=L3:=⟨_,rfl⟩
 have hP3':PlanAt n0 b { P with cycles:=s3 } G (L3++[cyc 5 P.c.regs.sp P.c.regs.l]) w3:=by rw [<- hL3];exact hP3
 have hNb:L3.length<=900:=by rw [<- hL3];simp [zar];omega
 have HL:=hid hL3
 clear hL3 hP3 hcl1 hfr1 hat1 hcl2 hfr2 hat2 hcl hfr hat
 obtain ⟨N,hN⟩:∃ N,L3.length=N:=⟨_,rfl⟩
 have hn:s3.n=N+1:=by have:=hP3'.cyc.len;simp [hN] at this;exact this
 rw [hN] at hNb
 have HN:=hid hN
 clear hN
 obtain ⟨g,cur,hp,hlo,hhi,hsz,hbg,hcap,-,hcs,-⟩:=hP3'.cyc.at sI
 obtain ⟨hclg,hfrg,hltg⟩:=zaa hbg
 have hgb:g≠b:=fun e=>by subst e;rw [hat3] at hbg;simp only [Option.some.injEq,Obj.cells.injEq] at hbg;exact absurd hbg.2.1 dC
 have hin:N * 4+3<cur.size:=by
  have hcs':cur.size=s3.c * 4:=hcs
  have h1:N+1<=s3.c:=by have:=hcap;simp [HN.out] at this;exact this
  rw [hcs']
  have h2:(N+1) * 4<=s3.c * 4:=Nat.mul_le_mul_right 4 h1
  omega
 have hst:cur[N * 4+3]? = some cur[N * 4+3]:=Array.getElem?_eq_getElem hin
 have hw0:IntKind.i64.wrap (N:Int)=N:=IntWalk.i64_in _ oM
 have hw1:(0:Int)<=N:=oM
 have hw2:(N:Int)<N+1:=oM
 clear hcs hcap
 have hne:(P.c.chip != 2)=true:=by simpa [bne] using hc
 go_wp2_with fail
 go_region
 all_goals go_wp2_with fail
 all_goals
  go_end0
  have hB4:Below n0 w3 (zai w3 g (cur.setIfInBounds (N * 4+3) (.int .i64 5)) 43):=zae (Below.refl _ _) hlo
  have hB:Below n0 w (zai w3 g (cur.setIfInBounds (N * 4+3) (.int .i64 5)) 43):=((hB1.trans (((Below.refl _ _).drew).trans hB2)).trans (((Below.refl _ _).drew).trans hB3)).trans hB4
  have hget:(L3++[cyc 5 P.c.regs.sp P.c.regs.l])[N]'(by simp [HN.out])=cyc 5 P.c.regs.sp P.c.regs.l:=by simp [<- HN.out]
  have hrow:=hP3'.cyc.put (fun _=>rfl) hp hbg N (by simp [HN.out]) 3 oM (.int .i64 5) (⟨5,P.c.regs.sp,P.c.regs.l,5⟩:SCycle) (by rw [hget];rfl)
  have hset:(L3++[cyc 5 P.c.regs.sp P.c.regs.l]).set N ⟨5,P.c.regs.sp,P.c.regs.l,5⟩=C++zcq P:=by
   rw [<- HN.out,List.set_append_right _ _ nL,<- HL.out]
   simp [zcq,hk,beq_eq_false_iff_ne.1 hc]
  rw [hset] at hrow
  refine ⟨rfl,hB.drew,s3,PlanAt.drew ⟨(blk_setBlk_other _ _ _ _ _ (Ne.symm hgb)).trans hat3,hP.lo,hP.got.thru hB nL,?_⟩⟩
  rw [size_setBlk]
  exact hrow
end

end
end Go.Proofs.YtlmbamdkklkliaaGreat
