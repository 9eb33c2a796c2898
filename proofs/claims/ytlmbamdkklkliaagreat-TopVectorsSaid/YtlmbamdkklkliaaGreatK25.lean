/- Part of the proof that a law holds at every input. No conditions. -/
import Derived.Deep.DrawnRows
import Derived.Deep.RegionWith
import Derived.RegionTactic
import Derived.Test.YtlmbamdkklkliaaGreatK23
namespace Go.Proofs.YtlmbamdkklkliaaGreat
set_option linter.unusedVariables false
set_option linter.unusedSimpArgs false
set_option linter.unusedSectionVars false
set_option maxRecDepth 100000
set_option maxHeartbeats 16000000
open Go.Proofs.Tryz
open Lib (hid)
section
open Go.RowKit
section
variable {n0 b:Nat} {P:SPlan} {G:List Int} {C:List SCycle} (w:World) (hP:PlanAt n0 b P G C w) (hC:C.length<=800) (hr:P.c.regs.Ok) (hG:G.length<=1000000) (hgb:∀ x ∈ G,0<=x/\x<=255)
include n0 b P G C w hP hC hr hG hgb
theorem zz1 (hk:P.i.kind=4) :
  Calls prog 144 #[.pointer (some ⟨b,0,none⟩)] w (zb5 n0 b P G (C++zgb P G) w):=by
 obtain ⟨hcl,hfr,hlt⟩:=zaa hP.at_
 have hat:=hP.at_
 go_enter func144,ntmps144
 go_wp2_with fail
 refine (zd5 _ hP oM).mono ?_
 rintro e w1 ⟨rfl,hB1,s1,hP1⟩
 obtain ⟨hcl1,hfr1,hlt1⟩:=zaa hP1.at_
 have hat1:=hP1.at_
 go_wp2_with fail
 refine (zbp _ hP1 hG hgb).mono ?_
 rintro e w' ⟨rfl,rfl⟩
 go_wp2_with fail
 go_end0
 refine ⟨rfl,hB1,s1,?_⟩
 simpa [zgb,hk,zbb,zbo,zaw,zbd,zao,zbc,zay,zau] using hP1
theorem zz0 (hk:P.i.kind=5) :
  Calls prog 144 #[.pointer (some ⟨b,0,none⟩)] w (zb5 n0 b P G (C++zgb P G) w):=by
 obtain ⟨hcl,hfr,hlt⟩:=zaa hP.at_
 have hat:=hP.at_
 go_enter func144,ntmps144
 go_wp2_with fail
 refine (zd5 _ hP oM).mono ?_
 rintro e w1 ⟨rfl,hB1,s1,hP1⟩
 obtain ⟨hcl1,hfr1,hlt1⟩:=zaa hP1.at_
 have hat1:=hP1.at_
 go_wp2_with fail
 refine (zbp _ hP1 hG hgb).mono ?_
 rintro e w' ⟨rfl,rfl⟩
 go_wp2_with fail
 refine (zcs _ hP1 (by (try simp only [List.length_append,List.length_cons,List.length_nil,zag,zap,zar,zaq]);omega) _ _ _).mono ?_
 rintro e w3 ⟨rfl,hB3,s3,hP3⟩
 obtain ⟨hcl3,hfr3,hlt3⟩:=zaa hP3.at_
 have hat3:=hP3.at_
 go_wp2_with fail
 go_end0
 refine ⟨rfl,(hB1.trans hB3),s3,?_⟩
 simpa [zgb,hk,zbb,zbo,zaw,zbd,zao,zbc,zay,zau] using hP3
theorem zzz (hk:P.i.kind=6) :
  Calls prog 144 #[.pointer (some ⟨b,0,none⟩)] w (zb5 n0 b P G (C++zgb P G) w):=by
 obtain ⟨hcl,hfr,hlt⟩:=zaa hP.at_
 have hat:=hP.at_
 go_enter func144,ntmps144
 go_wp2_with fail
 refine (zd5 _ hP oM).mono ?_
 rintro e w1 ⟨rfl,hB1,s1,hP1⟩
 obtain ⟨hcl1,hfr1,hlt1⟩:=zaa hP1.at_
 have hat1:=hP1.at_
 go_wp2_with fail
 refine (zbp _ hP1 hG hgb).mono ?_
 rintro e w' ⟨rfl,rfl⟩
 go_wp2_with fail
 refine (zcs _ hP1 (by (try simp only [List.length_append,List.length_cons,List.length_nil,zag,zap,zar,zaq]);omega) _ _ _).mono ?_
 rintro e w3 ⟨rfl,hB3,s3,hP3⟩
 obtain ⟨hcl3,hfr3,hlt3⟩:=zaa hP3.at_
 have hat3:=hP3.at_
 go_wp2_with fail
 go_end0
 refine ⟨rfl,(hB1.trans hB3),s3,?_⟩
 simpa [zgb,hk,zbb,zbo,zaw,zbd,zao,zbc,zay,zau] using hP3
theorem zzy (hk:P.i.kind=7) :
  Calls prog 144 #[.pointer (some ⟨b,0,none⟩)] w (zb5 n0 b P G (C++zgb P G) w):=by
 obtain ⟨hcl,hfr,hlt⟩:=zaa hP.at_
 have hat:=hP.at_
 go_enter func144,ntmps144
 go_wp2_with fail
 refine (zd5 _ hP oM).mono ?_
 rintro e w1 ⟨rfl,hB1,s1,hP1⟩
 obtain ⟨hcl1,hfr1,hlt1⟩:=zaa hP1.at_
 have hat1:=hP1.at_
 go_wp2_with fail
 refine (zbp _ hP1 hG hgb).mono ?_
 rintro e w' ⟨rfl,rfl⟩
 go_wp2_with fail
 refine (zia _ hP1 _ _ (by (try simp only [List.length_append,List.length_cons,List.length_nil,zag,zap,zar,zaq]);omega)).mono ?_
 rintro e w3 ⟨rfl,hB3,s3,hP3⟩
 obtain ⟨hcl3,hfr3,hlt3⟩:=zaa hP3.at_
 have hat3:=hP3.at_
 go_wp2_with fail
 go_end0
 refine ⟨rfl,(hB1.trans hB3),s3,?_⟩
 simpa [zgb,hk,zbb,zbo,zaw,zbd,zao,zbc,zay,zau] using hP3
theorem zzx (hk:P.i.kind=8) :
  Calls prog 144 #[.pointer (some ⟨b,0,none⟩)] w (zb5 n0 b P G (C++zgb P G) w):=by
 obtain ⟨hcl,hfr,hlt⟩:=zaa hP.at_
 have hat:=hP.at_
 go_enter func144,ntmps144
 go_wp2_with fail
 refine (zd5 _ hP oM).mono ?_
 rintro e w1 ⟨rfl,hB1,s1,hP1⟩
 obtain ⟨hcl1,hfr1,hlt1⟩:=zaa hP1.at_
 have hat1:=hP1.at_
 go_wp2_with fail
 refine (zbp _ hP1 hG hgb).mono ?_
 rintro e w' ⟨rfl,rfl⟩
 go_wp2_with fail
 refine (zia _ hP1 _ _ (by (try simp only [List.length_append,List.length_cons,List.length_nil,zag,zap,zar,zaq]);omega)).mono ?_
 rintro e w3 ⟨rfl,hB3,s3,hP3⟩
 obtain ⟨hcl3,hfr3,hlt3⟩:=zaa hP3.at_
 have hat3:=hP3.at_
 go_wp2_with fail
 go_end0
 refine ⟨rfl,(hB1.trans hB3),s3,?_⟩
 simpa [zgb,hk,zbb,zbo,zaw,zbd,zao,zbc,zay,zau] using hP3
theorem zha (hk:P.i.kind=4\/P.i.kind=5\/P.i.kind=6\/P.i.kind=7\/P.i.kind=8) :
  Calls prog 144 #[.pointer (some ⟨b,0,none⟩)] w (zb5 n0 b P G (C++zgb P G) w):=by
 rcases hk with hk|hk|hk|hk|hk
 ·exact zz1 w hP hC hr hG hgb hk
 ·exact zz0 w hP hC hr hG hgb hk
 ·exact zzz w hP hC hr hG hgb hk
 ·exact zzy w hP hC hr hG hgb hk
 ·exact zzx w hP hC hr hG hgb hk
theorem zzr (hk:P.i.kind=2) (hs:P.i.src=6) :
  Calls prog 122 #[.pointer (some ⟨b,0,none⟩)] w (zb5 n0 b P G (C++zcl P G) w):=by
 obtain ⟨hcl,hfr,hlt⟩:=zaa hP.at_
 have hat:=hP.at_
 go_enter func122,ntmps122
 go_wp2_with fail
 refine (za0 _ hP _ hr).mono ?_
 rintro e w1 ⟨rfl,hB1⟩
 have hP1:=hP.thru hB1
 replace hB1:=hB1.mono hP.n0_le
 obtain ⟨hcl1,hfr1,hlt1⟩:=zaa hP1.at_
 have hat1:=hP1.at_
 go_wp2_with fail
 refine (zcs _ hP1 (by (try simp only [List.length_append,List.length_cons,List.length_nil,zag,zap,zar,zaq]);omega) _ _ _).mono ?_
 rintro e w2 ⟨rfl,hB2,s2,hP2⟩
 obtain ⟨hcl2,hfr2,hlt2⟩:=zaa hP2.at_
 have hat2:=hP2.at_
 go_wp2_with fail
 go_end0
 refine ⟨rfl,(hB1.trans hB2),s2,?_⟩
 simpa [zcl,hk,hs,zbb,zbo,zaw,zbd,zao,zbc,zay,zau] using hP2
theorem zzt (hk:P.i.kind=2) (hs:(P.i.src==6)=false) (hd:P.i.dst=6) :
  Calls prog 122 #[.pointer (some ⟨b,0,none⟩)] w (zb5 n0 b P G (C++zcl P G) w):=by
 obtain ⟨hcl,hfr,hlt⟩:=zaa hP.at_
 have hat:=hP.at_
 go_enter func122,ntmps122
 go_wp2_with fail
 refine (za0 _ hP _ hr).mono ?_
 rintro e w1 ⟨rfl,hB1⟩
 have hP1:=hP.thru hB1
 replace hB1:=hB1.mono hP.n0_le
 obtain ⟨hcl1,hfr1,hlt1⟩:=zaa hP1.at_
 have hat1:=hP1.at_
 go_wp2_with fail
 refine (zfw _ hP1 _).mono ?_
 rintro e w2 ⟨rfl,hB2⟩
 have hP2:=hP1.thru hB2
 replace hB2:=hB2.mono hP1.n0_le
 obtain ⟨hcl2,hfr2,hlt2⟩:=zaa hP2.at_
 have hat2:=hP2.at_
 go_wp2_with fail
 refine (zcs _ hP2 (by (try simp only [List.length_append,List.length_cons,List.length_nil,zag,zap,zar,zaq]);omega) _ _ _).mono ?_
 rintro e w3 ⟨rfl,hB3,s3,hP3⟩
 obtain ⟨hcl3,hfr3,hlt3⟩:=zaa hP3.at_
 have hat3:=hP3.at_
 go_wp2_with fail
 go_end0
 refine ⟨rfl,((hB1.trans hB2).trans hB3),s3,?_⟩
 simpa [zcl,hk,beq_eq_false_iff_ne.1 hs,hd,zbb,zbo,zaw,zbd,zao,zbc,zay,zau] using hP3
theorem zzs (hk:P.i.kind=2) (hs:(P.i.src==6)=false) (hd:(P.i.dst==6)=false) :
  Calls prog 122 #[.pointer (some ⟨b,0,none⟩)] w (zb5 n0 b P G (C++zcl P G) w):=by
 obtain ⟨hcl,hfr,hlt⟩:=zaa hP.at_
 have hat:=hP.at_
 go_enter func122,ntmps122
 go_wp2_with fail
 refine (za0 _ hP _ hr).mono ?_
 rintro e w1 ⟨rfl,hB1⟩
 have hP1:=hP.thru hB1
 replace hB1:=hB1.mono hP.n0_le
 obtain ⟨hcl1,hfr1,hlt1⟩:=zaa hP1.at_
 have hat1:=hP1.at_
 go_wp2_with fail
 go_end0
 refine ⟨rfl,hB1,P.cycles,?_⟩
 simpa [zcl,hk,beq_eq_false_iff_ne.1 hs,beq_eq_false_iff_ne.1 hd,zbb,zbo,zaw,zbd,zao,zbc,zay,zau] using hP1
theorem zzo (hk:P.i.kind=3) (hd:P.i.dst=6) :
  Calls prog 122 #[.pointer (some ⟨b,0,none⟩)] w (zb5 n0 b P G (C++zcl P G) w):=by
 obtain ⟨hcl,hfr,hlt⟩:=zaa hP.at_
 have hat:=hP.at_
 go_enter func122,ntmps122
 go_wp2_with fail
 refine (za0 _ hP _ hr).mono ?_
 rintro e w1 ⟨rfl,hB1⟩
 have hP1:=hP.thru hB1
 replace hB1:=hB1.mono hP.n0_le
 obtain ⟨hcl1,hfr1,hlt1⟩:=zaa hP1.at_
 have hat1:=hP1.at_
 go_wp2_with fail
 refine (zdh _ hP1 (by (try simp only [List.length_append,List.length_cons,List.length_nil,zag,zap,zar,zaq]);omega)).mono ?_
 rintro e w2 ⟨rfl,hB2,s2,hP2⟩
 obtain ⟨hcl2,hfr2,hlt2⟩:=zaa hP2.at_
 have hat2:=hP2.at_
 go_wp2_with fail
 refine (zcy _ hP2 1 oM hG).mono ?_
 rintro e w' ⟨rfl,rfl⟩
 go_wp2_with fail
 refine (zcs _ hP2 (by (try simp only [List.length_append,List.length_cons,List.length_nil,zag,zap,zar,zaq]);omega) _ _ _).mono ?_
 rintro e w4 ⟨rfl,hB4,s4,hP4⟩
 obtain ⟨hcl4,hfr4,hlt4⟩:=zaa hP4.at_
 have hat4:=hP4.at_
 go_wp2_with fail
 go_end0
 refine ⟨rfl,((hB1.trans hB2).trans hB4),s4,?_⟩
 simpa [zcl,hk,hd,zbb,zbo,zaw,zbd,zao,zbc,zay,zau] using hP4
theorem zzn (hk:P.i.kind=3) (hd:(P.i.dst==6)=false) :
  Calls prog 122 #[.pointer (some ⟨b,0,none⟩)] w (zb5 n0 b P G (C++zcl P G) w):=by
 obtain ⟨hcl,hfr,hlt⟩:=zaa hP.at_
 have hat:=hP.at_
 go_enter func122,ntmps122
 go_wp2_with fail
 refine (za0 _ hP _ hr).mono ?_
 rintro e w1 ⟨rfl,hB1⟩
 have hP1:=hP.thru hB1
 replace hB1:=hB1.mono hP.n0_le
 obtain ⟨hcl1,hfr1,hlt1⟩:=zaa hP1.at_
 have hat1:=hP1.at_
 go_wp2_with fail
 refine (zdh _ hP1 (by (try simp only [List.length_append,List.length_cons,List.length_nil,zag,zap,zar,zaq]);omega)).mono ?_
 rintro e w2 ⟨rfl,hB2,s2,hP2⟩
 obtain ⟨hcl2,hfr2,hlt2⟩:=zaa hP2.at_
 have hat2:=hP2.at_
 go_wp2_with fail
 go_end0
 refine ⟨rfl,(hB1.trans hB2),s2,?_⟩
 simpa [zcl,hk,beq_eq_false_iff_ne.1 hd,zbb,zbo,zaw,zbd,zao,zbc,zay,zau] using hP2
theorem zwn (hk:P.i.kind=12) (hs:P.i.src=6) :
  Calls prog 122 #[.pointer (some ⟨b,0,none⟩)] w (zb5 n0 b P G (C++zcl P G) w):=by
 obtain ⟨hcl,hfr,hlt⟩:=zaa hP.at_
 have hat:=hP.at_
 go_enter func122,ntmps122
 go_wp2_with fail
 refine (za0 _ hP _ hr).mono ?_
 rintro e w1 ⟨rfl,hB1⟩
 have hP1:=hP.thru hB1
 replace hB1:=hB1.mono hP.n0_le
 obtain ⟨hcl1,hfr1,hlt1⟩:=zaa hP1.at_
 have hat1:=hP1.at_
 go_wp2_with fail
 refine (zcs _ hP1 (by (try simp only [List.length_append,List.length_cons,List.length_nil,zag,zap,zar,zaq]);omega) _ _ _).mono ?_
 rintro e w2 ⟨rfl,hB2,s2,hP2⟩
 obtain ⟨hcl2,hfr2,hlt2⟩:=zaa hP2.at_
 have hat2:=hP2.at_
 go_wp2_with fail
 go_end0
 refine ⟨rfl,(hB1.trans hB2),s2,?_⟩
 simpa [zcl,hk,hs,zbb,zbo,zaw,zbd,zao,zbc,zay,zau] using hP2
theorem zwo (hk:P.i.kind=12) (hs:(P.i.src==6)=false) :
  Calls prog 122 #[.pointer (some ⟨b,0,none⟩)] w (zb5 n0 b P G (C++zcl P G) w):=by
 obtain ⟨hcl,hfr,hlt⟩:=zaa hP.at_
 have hat:=hP.at_
 go_enter func122,ntmps122
 go_wp2_with fail
 refine (za0 _ hP _ hr).mono ?_
 rintro e w1 ⟨rfl,hB1⟩
 have hP1:=hP.thru hB1
 replace hB1:=hB1.mono hP.n0_le
 obtain ⟨hcl1,hfr1,hlt1⟩:=zaa hP1.at_
 have hat1:=hP1.at_
 go_wp2_with fail
 go_end0
 refine ⟨rfl,hB1,P.cycles,?_⟩
 simpa [zcl,hk,beq_eq_false_iff_ne.1 hs,zbb,zbo,zaw,zbd,zao,zbc,zay,zau] using hP1
theorem zzu (hk:P.i.kind=13)  :
  Calls prog 122 #[.pointer (some ⟨b,0,none⟩)] w (zb5 n0 b P G (C++zcl P G) w):=by
 obtain ⟨hcl,hfr,hlt⟩:=zaa hP.at_
 have hat:=hP.at_
 go_enter func122,ntmps122
 go_wp2_with fail
 refine (za0 _ hP _ hr).mono ?_
 rintro e w1 ⟨rfl,hB1⟩
 have hP1:=hP.thru hB1
 replace hB1:=hB1.mono hP.n0_le
 obtain ⟨hcl1,hfr1,hlt1⟩:=zaa hP1.at_
 have hat1:=hP1.at_
 go_wp2_with fail
 refine (zdh _ hP1 (by (try simp only [List.length_append,List.length_cons,List.length_nil,zag,zap,zar,zaq]);omega)).mono ?_
 rintro e w2 ⟨rfl,hB2,s2,hP2⟩
 obtain ⟨hcl2,hfr2,hlt2⟩:=zaa hP2.at_
 have hat2:=hP2.at_
 go_wp2_with fail
 go_end0
 refine ⟨rfl,(hB1.trans hB2),s2,?_⟩
 simpa [zcl,hk,zbb,zbo,zaw,zbd,zao,zbc,zay,zau] using hP2
theorem zwm (hk:P.i.kind=14) (hd:P.i.dst=6) :
  Calls prog 122 #[.pointer (some ⟨b,0,none⟩)] w (zb5 n0 b P G (C++zcl P G) w):=by
 obtain ⟨hcl,hfr,hlt⟩:=zaa hP.at_
 have hat:=hP.at_
 go_enter func122,ntmps122
 go_wp2_with fail
 refine (za0 _ hP _ hr).mono ?_
 rintro e w1 ⟨rfl,hB1⟩
 have hP1:=hP.thru hB1
 replace hB1:=hB1.mono hP.n0_le
 obtain ⟨hcl1,hfr1,hlt1⟩:=zaa hP1.at_
 have hat1:=hP1.at_
 go_wp2_with fail
 refine (zcs _ hP1 (by (try simp only [List.length_append,List.length_cons,List.length_nil,zag,zap,zar,zaq]);omega) _ _ _).mono ?_
 rintro e w2 ⟨rfl,hB2,s2,hP2⟩
 obtain ⟨hcl2,hfr2,hlt2⟩:=zaa hP2.at_
 have hat2:=hP2.at_
 go_wp2_with fail
 refine (zkp _ hP2 hG hgb).mono ?_
 rintro e w3 ⟨rfl,hB3⟩
 have hP3:=hP2.thru hB3
 replace hB3:=hB3.mono hP2.n0_le
 obtain ⟨hcl3,hfr3,hlt3⟩:=zaa hP3.at_
 have hat3:=hP3.at_
 go_wp2_with fail
 refine (zcs _ hP3 (by (try simp only [List.length_append,List.length_cons,List.length_nil,zag,zap,zar,zaq]);omega) _ _ _).mono ?_
 rintro e w4 ⟨rfl,hB4,s4,hP4⟩
 obtain ⟨hcl4,hfr4,hlt4⟩:=zaa hP4.at_
 have hat4:=hP4.at_
 go_wp2_with fail
 go_end0
 refine ⟨rfl,(((hB1.trans hB2).trans hB3).trans hB4),s4,?_⟩
 simpa [zcl,hk,hd,zlo,zbb,zbo,zaw,zbd,zao,zbc,zay,zau] using hP4
theorem zwl (hk:P.i.kind=14) (hd:(P.i.dst==6)=false) :
  Calls prog 122 #[.pointer (some ⟨b,0,none⟩)] w (zb5 n0 b P G (C++zcl P G) w):=by
 obtain ⟨hcl,hfr,hlt⟩:=zaa hP.at_
 have hat:=hP.at_
 go_enter func122,ntmps122
 go_wp2_with fail
 refine (za0 _ hP _ hr).mono ?_
 rintro e w1 ⟨rfl,hB1⟩
 have hP1:=hP.thru hB1
 replace hB1:=hB1.mono hP.n0_le
 obtain ⟨hcl1,hfr1,hlt1⟩:=zaa hP1.at_
 have hat1:=hP1.at_
 go_wp2_with fail
 go_end0
 refine ⟨rfl,hB1,P.cycles,?_⟩
 simpa [zcl,hk,beq_eq_false_iff_ne.1 hd,zbb,zbo,zaw,zbd,zao,zbc,zay,zau] using hP1
theorem zwk (hk:P.i.kind=15) (hd:P.i.dst=6) :
  Calls prog 122 #[.pointer (some ⟨b,0,none⟩)] w (zb5 n0 b P G (C++zcl P G) w):=by
 obtain ⟨hcl,hfr,hlt⟩:=zaa hP.at_
 have hat:=hP.at_
 go_enter func122,ntmps122
 go_wp2_with fail
 refine (za0 _ hP _ hr).mono ?_
 rintro e w1 ⟨rfl,hB1⟩
 have hP1:=hP.thru hB1
 replace hB1:=hB1.mono hP.n0_le
 obtain ⟨hcl1,hfr1,hlt1⟩:=zaa hP1.at_
 have hat1:=hP1.at_
 go_wp2_with fail
 refine (zcs _ hP1 (by (try simp only [List.length_append,List.length_cons,List.length_nil,zag,zap,zar,zaq]);omega) _ _ _).mono ?_
 rintro e w2 ⟨rfl,hB2,s2,hP2⟩
 obtain ⟨hcl2,hfr2,hlt2⟩:=zaa hP2.at_
 have hat2:=hP2.at_
 go_wp2_with fail
 refine (zkp _ hP2 hG hgb).mono ?_
 rintro e w3 ⟨rfl,hB3⟩
 have hP3:=hP2.thru hB3
 replace hB3:=hB3.mono hP2.n0_le
 obtain ⟨hcl3,hfr3,hlt3⟩:=zaa hP3.at_
 have hat3:=hP3.at_
 go_wp2_with fail
 refine (zcs _ hP3 (by (try simp only [List.length_append,List.length_cons,List.length_nil,zag,zap,zar,zaq]);omega) _ _ _).mono ?_
 rintro e w4 ⟨rfl,hB4,s4,hP4⟩
 obtain ⟨hcl4,hfr4,hlt4⟩:=zaa hP4.at_
 have hat4:=hP4.at_
 go_wp2_with fail
 go_end0
 refine ⟨rfl,(((hB1.trans hB2).trans hB3).trans hB4),s4,?_⟩
 simpa [zcl,hk,hd,zlo,zbb,zbo,zaw,zbd,zao,zbc,zay,zau] using hP4
theorem zwj (hk:P.i.kind=15) (hd:(P.i.dst==6)=false) :
  Calls prog 122 #[.pointer (some ⟨b,0,none⟩)] w (zb5 n0 b P G (C++zcl P G) w):=by
 obtain ⟨hcl,hfr,hlt⟩:=zaa hP.at_
 have hat:=hP.at_
 go_enter func122,ntmps122
 go_wp2_with fail
 refine (za0 _ hP _ hr).mono ?_
 rintro e w1 ⟨rfl,hB1⟩
 have hP1:=hP.thru hB1
 replace hB1:=hB1.mono hP.n0_le
 obtain ⟨hcl1,hfr1,hlt1⟩:=zaa hP1.at_
 have hat1:=hP1.at_
 go_wp2_with fail
 go_end0
 refine ⟨rfl,hB1,P.cycles,?_⟩
 simpa [zcl,hk,beq_eq_false_iff_ne.1 hd,zbb,zbo,zaw,zbd,zao,zbc,zay,zau] using hP1
theorem z2j (hk:P.i.kind=4)  :
  Calls prog 122 #[.pointer (some ⟨b,0,none⟩)] w (zb5 n0 b P G (C++zcl P G) w):=by
 obtain ⟨hcl,hfr,hlt⟩:=zaa hP.at_
 have hat:=hP.at_
 go_enter func122,ntmps122
 go_wp2_with fail
 refine (za0 _ hP _ hr).mono ?_
 rintro e w1 ⟨rfl,hB1⟩
 have hP1:=hP.thru hB1
 replace hB1:=hB1.mono hP.n0_le
 obtain ⟨hcl1,hfr1,hlt1⟩:=zaa hP1.at_
 have hat1:=hP1.at_
 go_wp2_with fail
 refine (zha _ hP1 hC hr hG hgb (by simp [hk])).mono ?_
 rintro e w2 ⟨rfl,hB2,s2,hP2⟩
 obtain ⟨hcl2,hfr2,hlt2⟩:=zaa hP2.at_
 have hat2:=hP2.at_
 go_wp2_with fail
 go_end0
 refine ⟨rfl,(hB1.trans hB2),s2,?_⟩
 simpa [zcl,hk,zkm,zbb,zbo,zaw,zbd,zao,zbc,zay,zau] using hP2
theorem z2i (hk:P.i.kind=5)  :
  Calls prog 122 #[.pointer (some ⟨b,0,none⟩)] w (zb5 n0 b P G (C++zcl P G) w):=by
 obtain ⟨hcl,hfr,hlt⟩:=zaa hP.at_
 have hat:=hP.at_
 go_enter func122,ntmps122
 go_wp2_with fail
 refine (za0 _ hP _ hr).mono ?_
 rintro e w1 ⟨rfl,hB1⟩
 have hP1:=hP.thru hB1
 replace hB1:=hB1.mono hP.n0_le
 obtain ⟨hcl1,hfr1,hlt1⟩:=zaa hP1.at_
 have hat1:=hP1.at_
 go_wp2_with fail
 refine (zha _ hP1 hC hr hG hgb (by simp [hk])).mono ?_
 rintro e w2 ⟨rfl,hB2,s2,hP2⟩
 obtain ⟨hcl2,hfr2,hlt2⟩:=zaa hP2.at_
 have hat2:=hP2.at_
 go_wp2_with fail
 go_end0
 refine ⟨rfl,(hB1.trans hB2),s2,?_⟩
 simpa [zcl,hk,zkm,zbb,zbo,zaw,zbd,zao,zbc,zay,zau] using hP2
theorem z2h (hk:P.i.kind=6)  :
  Calls prog 122 #[.pointer (some ⟨b,0,none⟩)] w (zb5 n0 b P G (C++zcl P G) w):=by
 obtain ⟨hcl,hfr,hlt⟩:=zaa hP.at_
 have hat:=hP.at_
 go_enter func122,ntmps122
 go_wp2_with fail
 refine (za0 _ hP _ hr).mono ?_
 rintro e w1 ⟨rfl,hB1⟩
 have hP1:=hP.thru hB1
 replace hB1:=hB1.mono hP.n0_le
 obtain ⟨hcl1,hfr1,hlt1⟩:=zaa hP1.at_
 have hat1:=hP1.at_
 go_wp2_with fail
 refine (zha _ hP1 hC hr hG hgb (by simp [hk])).mono ?_
 rintro e w2 ⟨rfl,hB2,s2,hP2⟩
 obtain ⟨hcl2,hfr2,hlt2⟩:=zaa hP2.at_
 have hat2:=hP2.at_
 go_wp2_with fail
 go_end0
 refine ⟨rfl,(hB1.trans hB2),s2,?_⟩
 simpa [zcl,hk,zkm,zbb,zbo,zaw,zbd,zao,zbc,zay,zau] using hP2
theorem z2g (hk:P.i.kind=7)  :
  Calls prog 122 #[.pointer (some ⟨b,0,none⟩)] w (zb5 n0 b P G (C++zcl P G) w):=by
 obtain ⟨hcl,hfr,hlt⟩:=zaa hP.at_
 have hat:=hP.at_
 go_enter func122,ntmps122
 go_wp2_with fail
 refine (za0 _ hP _ hr).mono ?_
 rintro e w1 ⟨rfl,hB1⟩
 have hP1:=hP.thru hB1
 replace hB1:=hB1.mono hP.n0_le
 obtain ⟨hcl1,hfr1,hlt1⟩:=zaa hP1.at_
 have hat1:=hP1.at_
 go_wp2_with fail
 refine (zha _ hP1 hC hr hG hgb (by simp [hk])).mono ?_
 rintro e w2 ⟨rfl,hB2,s2,hP2⟩
 obtain ⟨hcl2,hfr2,hlt2⟩:=zaa hP2.at_
 have hat2:=hP2.at_
 go_wp2_with fail
 go_end0
 refine ⟨rfl,(hB1.trans hB2),s2,?_⟩
 simpa [zcl,hk,zkm,zbb,zbo,zaw,zbd,zao,zbc,zay,zau] using hP2
theorem z2f (hk:P.i.kind=8)  :
  Calls prog 122 #[.pointer (some ⟨b,0,none⟩)] w (zb5 n0 b P G (C++zcl P G) w):=by
 obtain ⟨hcl,hfr,hlt⟩:=zaa hP.at_
 have hat:=hP.at_
 go_enter func122,ntmps122
 go_wp2_with fail
 refine (za0 _ hP _ hr).mono ?_
 rintro e w1 ⟨rfl,hB1⟩
 have hP1:=hP.thru hB1
 replace hB1:=hB1.mono hP.n0_le
 obtain ⟨hcl1,hfr1,hlt1⟩:=zaa hP1.at_
 have hat1:=hP1.at_
 go_wp2_with fail
 refine (zha _ hP1 hC hr hG hgb (by simp [hk])).mono ?_
 rintro e w2 ⟨rfl,hB2,s2,hP2⟩
 obtain ⟨hcl2,hfr2,hlt2⟩:=zaa hP2.at_
 have hat2:=hP2.at_
 go_wp2_with fail
 go_end0
 refine ⟨rfl,(hB1.trans hB2),s2,?_⟩
 simpa [zcl,hk,zkm,zbb,zbo,zaw,zbd,zao,zbc,zay,zau] using hP2
theorem z2e (hk:P.i.kind=9)  :
  Calls prog 122 #[.pointer (some ⟨b,0,none⟩)] w (zb5 n0 b P G (C++zcl P G) w):=by
 obtain ⟨hcl,hfr,hlt⟩:=zaa hP.at_
 have hat:=hP.at_
 go_enter func122,ntmps122
 go_wp2_with fail
 refine (za0 _ hP _ hr).mono ?_
 rintro e w1 ⟨rfl,hB1⟩
 have hP1:=hP.thru hB1
 replace hB1:=hB1.mono hP.n0_le
 obtain ⟨hcl1,hfr1,hlt1⟩:=zaa hP1.at_
 have hat1:=hP1.at_
 go_wp2_with fail
 refine (za0 _ hP1 _ hr).mono ?_
 rintro e w2 ⟨rfl,hB2⟩
 have hP2:=hP1.thru hB2
 replace hB2:=hB2.mono hP1.n0_le
 obtain ⟨hcl2,hfr2,hlt2⟩:=zaa hP2.at_
 have hat2:=hP2.at_
 go_wp2_with fail
 refine (zcs _ hP2 (by (try simp only [List.length_append,List.length_cons,List.length_nil,zag,zap,zar,zaq]);omega) _ _ _).mono ?_
 rintro e w3 ⟨rfl,hB3,s3,hP3⟩
 obtain ⟨hcl3,hfr3,hlt3⟩:=zaa hP3.at_
 have hat3:=hP3.at_
 go_wp2_with fail
 go_end0
 refine ⟨rfl,((hB1.trans hB2).trans hB3),s3,?_⟩
 simpa [zcl,hk,zbb,zbo,zaw,zbd,zao,zbc,zay,zau] using hP3
theorem zzq (hk:P.i.kind=33)  :
  Calls prog 122 #[.pointer (some ⟨b,0,none⟩)] w (zb5 n0 b P G (C++zcl P G) w):=by
 obtain ⟨hcl,hfr,hlt⟩:=zaa hP.at_
 have hat:=hP.at_
 go_enter func122,ntmps122
 go_wp2_with fail
 refine (za0 _ hP _ hr).mono ?_
 rintro e w1 ⟨rfl,hB1⟩
 have hP1:=hP.thru hB1
 replace hB1:=hB1.mono hP.n0_le
 obtain ⟨hcl1,hfr1,hlt1⟩:=zaa hP1.at_
 have hat1:=hP1.at_
 go_wp2_with fail
 refine (zdh _ hP1 (by (try simp only [List.length_append,List.length_cons,List.length_nil,zag,zap,zar,zaq]);omega)).mono ?_
 rintro e w2 ⟨rfl,hB2,s2,hP2⟩
 obtain ⟨hcl2,hfr2,hlt2⟩:=zaa hP2.at_
 have hat2:=hP2.at_
 go_wp2_with fail
 refine (zcy _ hP2 1 oM hG).mono ?_
 rintro e w' ⟨rfl,rfl⟩
 go_wp2_with fail
 refine (zcy _ hP2 1 oM hG).mono ?_
 rintro e w' ⟨rfl,rfl⟩
 go_wp2_with fail
 refine (zhm _ _ _ (zd4 hgb 1).1 (zd4 hgb 1).2 (zd4 hgb 1).1 (zd4 hgb 1).2).mono ?_;rintro e w' ⟨rfl,rfl⟩
 go_wp2_with fail
 refine (zcs _ hP2 (by (try simp only [List.length_append,List.length_cons,List.length_nil,zag,zap,zar,zaq]);omega) _ _ _).mono ?_
 rintro e w5 ⟨rfl,hB5,s5,hP5⟩
 obtain ⟨hcl5,hfr5,hlt5⟩:=zaa hP5.at_
 have hat5:=hP5.at_
 go_wp2_with fail
 go_end0
 refine ⟨rfl,((hB1.trans hB2).trans hB5),s5,?_⟩
 simpa [zcl,hk,zbb,zbo,zaw,zbd,zao,zbc,zay,zau] using hP5
theorem zzp (hk:P.i.kind=34)  :
  Calls prog 122 #[.pointer (some ⟨b,0,none⟩)] w (zb5 n0 b P G (C++zcl P G) w):=by
 obtain ⟨hcl,hfr,hlt⟩:=zaa hP.at_
 have hat:=hP.at_
 go_enter func122,ntmps122
 go_wp2_with fail
 refine (za0 _ hP _ hr).mono ?_
 rintro e w1 ⟨rfl,hB1⟩
 have hP1:=hP.thru hB1
 replace hB1:=hB1.mono hP.n0_le
 obtain ⟨hcl1,hfr1,hlt1⟩:=zaa hP1.at_
 have hat1:=hP1.at_
 go_wp2_with fail
 refine (zdh _ hP1 (by (try simp only [List.length_append,List.length_cons,List.length_nil,zag,zap,zar,zaq]);omega)).mono ?_
 rintro e w2 ⟨rfl,hB2,s2,hP2⟩
 obtain ⟨hcl2,hfr2,hlt2⟩:=zaa hP2.at_
 have hat2:=hP2.at_
 go_wp2_with fail
 refine (zcy _ hP2 1 oM hG).mono ?_
 rintro e w' ⟨rfl,rfl⟩
 go_wp2_with fail
 refine (zcy _ hP2 1 oM hG).mono ?_
 rintro e w' ⟨rfl,rfl⟩
 go_wp2_with fail
 refine (zhm _ _ _ (zd4 hgb 1).1 (zd4 hgb 1).2 (zd4 hgb 1).1 (zd4 hgb 1).2).mono ?_;rintro e w' ⟨rfl,rfl⟩
 go_wp2_with fail
 refine (zcs _ hP2 (by (try simp only [List.length_append,List.length_cons,List.length_nil,zag,zap,zar,zaq]);omega) _ _ _).mono ?_
 rintro e w5 ⟨rfl,hB5,s5,hP5⟩
 obtain ⟨hcl5,hfr5,hlt5⟩:=zaa hP5.at_
 have hat5:=hP5.at_
 go_wp2_with fail
 go_end0
 refine ⟨rfl,((hB1.trans hB2).trans hB5),s5,?_⟩
 simpa [zcl,hk,zbb,zbo,zaw,zbd,zao,zbc,zay,zau] using hP5
theorem zzv (hk:P.i.kind=10)  :
  Calls prog 122 #[.pointer (some ⟨b,0,none⟩)] w (zb5 n0 b P G (C++zcl P G) w):=by
 obtain ⟨hcl,hfr,hlt⟩:=zaa hP.at_
 have hat:=hP.at_
 go_enter func122,ntmps122
 go_wp2_with fail
 refine (za0 _ hP _ hr).mono ?_
 rintro e w1 ⟨rfl,hB1⟩
 have hP1:=hP.thru hB1
 replace hB1:=hB1.mono hP.n0_le
 obtain ⟨hcl1,hfr1,hlt1⟩:=zaa hP1.at_
 have hat1:=hP1.at_
 go_wp2_with fail
 go_region_with (first|(go_at_call 140;(refine (za0 _ hP1.drew _ hr).mono ?_);rintro e w2 ⟨rfl,hB2⟩;have hP2:=hP1.drew.thru hB2;replace hB2:=hB2.mono hP1.drew.n0_le;obtain ⟨hcl2,hfr2,hlt2⟩:=zaa hP2.at_;have hat2:=hP2.at_)|(go_at_call 139;(refine (zcs _ hP2 (by (try simp only [List.length_append,List.length_cons,List.length_nil,zag,zap,zar,zaq]);omega) _ _ _).mono ?_);rintro e w3 ⟨rfl,hB3,s3,hP3⟩;obtain ⟨hcl3,hfr3,hlt3⟩:=zaa hP3.at_;have hat3:=hP3.at_))
 all_goals go_wp2_with fail
 all_goals go_end0
 all_goals exact ⟨rfl,hB1.trans (((Below.refl _ _).drew.trans hB2).trans hB3),s3,by simpa [zcl,hk,zaw] using hP3⟩
theorem zzm (hk:P.i.kind=46)  :
  Calls prog 122 #[.pointer (some ⟨b,0,none⟩)] w (zb5 n0 b P G (C++zcl P G) w):=by
 obtain ⟨hcl,hfr,hlt⟩:=zaa hP.at_
 have hat:=hP.at_
 go_enter func122,ntmps122
 go_wp2_with fail
 refine (za0 _ hP _ hr).mono ?_
 rintro e w1 ⟨rfl,hB1⟩
 have hP1:=hP.thru hB1
 replace hB1:=hB1.mono hP.n0_le
 obtain ⟨hcl1,hfr1,hlt1⟩:=zaa hP1.at_
 have hat1:=hP1.at_
 go_wp2_with fail
 go_region_with (first|(go_at_call 140;(refine (za0 _ hP1.drew _ hr).mono ?_);rintro e w2 ⟨rfl,hB2⟩;have hP2:=hP1.drew.thru hB2;replace hB2:=hB2.mono hP1.drew.n0_le;obtain ⟨hcl2,hfr2,hlt2⟩:=zaa hP2.at_;have hat2:=hP2.at_)|(go_at_call 146;(refine (zia _ hP2 _ _ (by (try simp only [List.length_append,List.length_cons,List.length_nil,zag,zap,zar,zaq]);omega)).mono ?_);rintro e w3 ⟨rfl,hB3,s3,hP3⟩;obtain ⟨hcl3,hfr3,hlt3⟩:=zaa hP3.at_;have hat3:=hP3.at_))
 all_goals go_wp2_with fail
 all_goals go_end0
 all_goals exact ⟨rfl,hB1.trans (((Below.refl _ _).drew.trans hB2).trans hB3),s3,by simpa [zcl,hk,zaw] using hP3⟩
theorem zzl (hk:P.i.kind=47)  :
  Calls prog 122 #[.pointer (some ⟨b,0,none⟩)] w (zb5 n0 b P G (C++zcl P G) w):=by
 obtain ⟨hcl,hfr,hlt⟩:=zaa hP.at_
 have hat:=hP.at_
 go_enter func122,ntmps122
 go_wp2_with fail
 refine (za0 _ hP _ hr).mono ?_
 rintro e w1 ⟨rfl,hB1⟩
 have hP1:=hP.thru hB1
 replace hB1:=hB1.mono hP.n0_le
 obtain ⟨hcl1,hfr1,hlt1⟩:=zaa hP1.at_
 have hat1:=hP1.at_
 go_wp2_with fail
 go_region_with (first|(go_at_call 140;(refine (za0 _ hP1.drew _ hr).mono ?_);rintro e w2 ⟨rfl,hB2⟩;have hP2:=hP1.drew.thru hB2;replace hB2:=hB2.mono hP1.drew.n0_le;obtain ⟨hcl2,hfr2,hlt2⟩:=zaa hP2.at_;have hat2:=hP2.at_)|(go_at_call 146;(refine (zia _ hP2 _ _ (by (try simp only [List.length_append,List.length_cons,List.length_nil,zag,zap,zar,zaq]);omega)).mono ?_);rintro e w3 ⟨rfl,hB3,s3,hP3⟩;obtain ⟨hcl3,hfr3,hlt3⟩:=zaa hP3.at_;have hat3:=hP3.at_))
 all_goals go_wp2_with fail
 all_goals go_end0
 all_goals exact ⟨rfl,hB1.trans (((Below.refl _ _).drew.trans hB2).trans hB3),s3,by simpa [zcl,hk,zaw] using hP3⟩
end

end
section
open Go.RowKit
theorem zz2 (P:SPlan) (s:Sl):zcq { P with cycles:=s }=zcq P:=by unfold zcq;simp only [zbc,zay,zbb,zbo,zau,zbd,zao,zh1];try rfl
section
variable {n0 b:Nat} {P:SPlan} {G:List Int} {C:List SCycle} (w:World) (hP:PlanAt n0 b P G C w)
include n0 b P G C w hP
theorem zzk (hC:C.length<=800) (hr:P.c.regs.Ok) (hG:G.length<=1000000) (hgb:∀ x ∈ G,0<=x/\x<=255) (hn:(P.i.kind==2)=false/\(P.i.kind==3)=false/\(P.i.kind==12)=false/\(P.i.kind==13)=false/\(P.i.kind==14)=false/\(P.i.kind==15)=false/\(P.i.kind==4)=false/\(P.i.kind==5)=false/\(P.i.kind==6)=false/\(P.i.kind==7)=false/\(P.i.kind==8)=false/\(P.i.kind==9)=false/\(P.i.kind==10)=false/\(P.i.kind==33)=false/\(P.i.kind==34)=false/\(P.i.kind==46)=false/\(P.i.kind==47)=false) :
  Calls prog 122 #[.pointer (some ⟨b,0,none⟩)] w (zb5 n0 b P G (C++zcl P G) w):=by
 obtain ⟨hcl,hfr,hlt⟩:=zaa hP.at_
 have hat:=hP.at_
 obtain ⟨hn2,hn3,hn12,hn13,hn14,hn15,hn4,hn5,hn6,hn7,hn8,hn9,hn10,hn33,hn34,hn46,hn47⟩:=hn
 go_enter func122,ntmps122
 go_wp2_with fail
 refine (za0 _ hP _ hr).mono ?_
 rintro e w1 ⟨rfl,hB1⟩
 have hP1:=hP.thru hB1
 replace hB1:=hB1.mono hP.n0_le
 obtain ⟨hcl1,hfr1,hlt1⟩:=zaa hP1.at_
 have hat1:=hP1.at_
 go_wp2_with fail
 refine (zt5 _ hP1 hC hr hG hgb).mono ?_
 rintro e w2 ⟨rfl,hB2,s2,hP2⟩
 obtain ⟨hcl2,hfr2,hlt2⟩:=zaa hP2.at_
 have hat2:=hP2.at_
 go_wp2_with fail
 go_end0
 refine ⟨rfl,(hB1.trans hB2),s2,?_⟩
 simpa [zcl,zz2,beq_eq_false_iff_ne.1 hn2,beq_eq_false_iff_ne.1 hn3,beq_eq_false_iff_ne.1 hn12,beq_eq_false_iff_ne.1 hn13,beq_eq_false_iff_ne.1 hn14,beq_eq_false_iff_ne.1 hn15,beq_eq_false_iff_ne.1 hn4,beq_eq_false_iff_ne.1 hn5,beq_eq_false_iff_ne.1 hn6,beq_eq_false_iff_ne.1 hn7,beq_eq_false_iff_ne.1 hn8,beq_eq_false_iff_ne.1 hn9,beq_eq_false_iff_ne.1 hn10,beq_eq_false_iff_ne.1 hn33,beq_eq_false_iff_ne.1 hn34,beq_eq_false_iff_ne.1 hn46,beq_eq_false_iff_ne.1 hn47,zbb,zbo,zaw,zbd,zao,zbc,zay,zau] using hP2
theorem zwi (hC:C.length<=800) (hr:P.c.regs.Ok) (hG:G.length<=1000000) (hgb:∀ x ∈ G,0<=x/\x<=255) :
  Calls prog 122 #[.pointer (some ⟨b,0,none⟩)] w (zb5 n0 b P G (C++zcl P G) w):=by
 by_cases k2:P.i.kind=2
 ·by_cases hs:P.i.src=6
  ·exact zzr w hP hC hr hG hgb k2 hs
  ·by_cases hd:P.i.dst=6
   ·exact zzt w hP hC hr hG hgb k2 (beq_eq_false_iff_ne.2 hs) hd
   ·exact zzs w hP hC hr hG hgb k2 (beq_eq_false_iff_ne.2 hs) (beq_eq_false_iff_ne.2 hd)
 by_cases k3:P.i.kind=3
 ·by_cases hd:P.i.dst=6
  ·exact zzo w hP hC hr hG hgb k3 hd
  ·exact zzn w hP hC hr hG hgb k3 (beq_eq_false_iff_ne.2 hd)
 by_cases k12:P.i.kind=12
 ·by_cases hs:P.i.src=6
  ·exact zwn w hP hC hr hG hgb k12 hs
  ·exact zwo w hP hC hr hG hgb k12 (beq_eq_false_iff_ne.2 hs)
 by_cases k13:P.i.kind=13
 ·exact zzu w hP hC hr hG hgb k13
 by_cases k14:P.i.kind=14
 ·by_cases hd:P.i.dst=6
  ·exact zwm w hP hC hr hG hgb k14 hd
  ·exact zwl w hP hC hr hG hgb k14 (beq_eq_false_iff_ne.2 hd)
 by_cases k15:P.i.kind=15
 ·by_cases hd:P.i.dst=6
  ·exact zwk w hP hC hr hG hgb k15 hd
  ·exact zwj w hP hC hr hG hgb k15 (beq_eq_false_iff_ne.2 hd)
 by_cases k4:P.i.kind=4
 ·exact z2j w hP hC hr hG hgb k4
 by_cases k5:P.i.kind=5
 ·exact z2i w hP hC hr hG hgb k5
 by_cases k6:P.i.kind=6
 ·exact z2h w hP hC hr hG hgb k6
 by_cases k7:P.i.kind=7
 ·exact z2g w hP hC hr hG hgb k7
 by_cases k8:P.i.kind=8
 ·exact z2f w hP hC hr hG hgb k8
 by_cases k9:P.i.kind=9
 ·exact z2e w hP hC hr hG hgb k9
 by_cases k10:P.i.kind=10
 ·exact zzv w hP hC hr hG hgb k10
 by_cases k33:P.i.kind=33
 ·exact zzq w hP hC hr hG hgb k33
 by_cases k34:P.i.kind=34
 ·exact zzp w hP hC hr hG hgb k34
 by_cases k46:P.i.kind=46
 ·exact zzm w hP hC hr hG hgb k46
 by_cases k47:P.i.kind=47
 ·exact zzl w hP hC hr hG hgb k47
 exact zzk w hP hC hr hG hgb ⟨beq_eq_false_iff_ne.2 k2,beq_eq_false_iff_ne.2 k3,beq_eq_false_iff_ne.2 k12,beq_eq_false_iff_ne.2 k13,beq_eq_false_iff_ne.2 k14,beq_eq_false_iff_ne.2 k15,beq_eq_false_iff_ne.2 k4,beq_eq_false_iff_ne.2 k5,beq_eq_false_iff_ne.2 k6,beq_eq_false_iff_ne.2 k7,beq_eq_false_iff_ne.2 k8,beq_eq_false_iff_ne.2 k9,beq_eq_false_iff_ne.2 k10,beq_eq_false_iff_ne.2 k33,beq_eq_false_iff_ne.2 k34,beq_eq_false_iff_ne.2 k46,beq_eq_false_iff_ne.2 k47⟩
theorem zvv (hG:G.length<=1000000):Calls prog 138 #[.pointer (some ⟨b,0,none⟩),.int .i64 0] w fun e w'=>e=.returned (.int .u8 (gAt G 0))/\w=w':=zcy w hP 0 oM hG
end
attribute [local go_sem ↓] Go.wp_at_zero Go.wp_at_succ
def Planned (c:SCPU) (source:Int) (sg:Sl) (G:List Int) (w:World) (e:Ending) (w':World):Prop:=
 ∃ b,e=.returned (.pointer (some ⟨b,0,none⟩))/\PlanAt w.heap.size b ⟨c,source==5,sg,zb7 c.chip (gAt G 0),⟨none,0,0⟩⟩ G [] w'/\Below w.heap.size w w'
theorem zfm (c:SCPU) (source:Int) (sg:Sl) (G:List Int) (w:World) (hg:Row w 0 w.heap.size 5 1 encB sg G) (hG:G.length<=1000000) (hgb:∀ x ∈ G,0<=x/\x<=255) :
  Calls prog 119 #[.agg c.cells,.int .i64 source,.slice sg.p sg.n sg.c] w (Planned c source sg G w):=by
 obtain ⟨P0,hP0⟩:∃ P0:SPlan,P0=⟨c,source==5,sg,SInstr.zero,⟨none,0,0⟩⟩:=⟨_,rfl⟩
 obtain ⟨W,hW⟩:∃ W,W=(w.alloc (.cells c.cells 41)).alloc (.cells P0.cells 198):=⟨_,rfl⟩
 have hBW:Below w.heap.size w W:=by rw [hW];exact ((Below.refl _ _).alloc nL _).alloc sI _
 have hPW:PlanAt w.heap.size (w.heap.size+1) P0 G [] W:=by
  subst hP0
  exact ⟨by rw [hW];exact zab _ _ _ sI,oM,hg.thru hBW nL,Row.nil _ _ _ _ _ _⟩
 have hd:=hPW.drew
 have b0:=zd4 hgb 0
 have HW:=hid hW
 have HP:=hid hP0
 clear hW hP0 hPW
 go_enter func119,ntmps119
 go_wp2_with fail
 go_region_with (first|(go_at_call 138;(refine (zvv _ (by have:=hd;rw [HW.out,HP.out] at this;exact this) hG).mono ?_);rintro e w' ⟨rfl,rfl⟩)|(go_at_call 97;(refine (zln _ _ _ b0.1 b0.2).mono ?_);rintro e w' ⟨rfl,hB⟩;obtain ⟨hb1,hb2,hb3⟩:=zdn hB;have hs:=hB.size;(try simp only [szs] at hs hb1 hb2 hb3)))
 all_goals go_wp2_with fail
 all_goals go_ret
 all_goals
  have hB':Below w.heap.size w w':=zaf hB ((((Below.refl _ _).alloc nL _).alloc sI _).drew) (by simp only [World.size_drew,World.size_alloc];omega)
  have hB2:=zae (A:=(SPlan.mk c (source==5) sg (zb7 c.chip (gAt G 0)) ⟨none,0,0⟩).cells) (t:=198) hB' (Nat.le_succ _)
  exact ⟨w.heap.size+1,rfl,⟨blk_setBlk_same _ _ _ _ oM,oM,hg.thru hB2 nL,Row.nil _ _ _ _ _ _⟩,hB2⟩
theorem Planned.elim {c:SCPU} {source:Int} {sg:Sl} {G:List Int} {w:World} {e:Ending} {w':World} (h:Planned c source sg G w e w') :
  ∃ b,e=.returned (.pointer (some ⟨b,0,none⟩))/\PlanAt w.heap.size b ⟨c,source==5,sg,zb7 c.chip (gAt G 0),⟨none,0,0⟩⟩ G [] w'/\Below w.heap.size w w':=h
end
end Go.Proofs.YtlmbamdkklkliaaGreat
