/- Part of the proof that a law holds at every input. No conditions. -/
import Derived.Test.YtlmbamdkklkliaaGreatK09
namespace Go.Proofs.YtlmbamdkklkliaaGreat
set_option linter.unusedVariables false
set_option linter.unusedSimpArgs false
set_option maxRecDepth 100000
set_option maxHeartbeats 16000000
open Go.Proofs.Tryz
open Go.IntWalk (iteOmega)
section
open Go.RowKit
theorem zn2:∀ n:Fin 256,bits .and .u8 n.val 3=n.val%4:=by decide +kernel
theorem zsg (n:Int) (h:0<=n) (h':n<=255):bits .and .u8 n 3=n%4:=by
 obtain ⟨k,rfl⟩:=Int.eq_ofNat_of_zero_le h
 exact zn2 ⟨k,oM⟩
theorem y_of (o:Int) (h2:o%8≠3\/2<=o / 8%8):(o / 8%8<2/\(o%8==3)=false)\/o / 8%8=2\/o / 8%8=3\/o / 8%8=4\/o / 8%8=5\/o / 8%8=6\/o / 8%8=7:=by
 rw [beq_eq_false_iff_ne];omega
def zh4 (o:Int):SInstr × Bool:=
 if o=8 then ((⟨40,1,0,0,0,0,0,0⟩:SInstr),true) else if o=16 then ((⟨41,1,0,0,0,0,0,0⟩:SInstr),true) else if o=24 then ((⟨42,1,0,0,0,0,0,0⟩:SInstr),true) else if o=32 then ((⟨38,1,0,0,0,0,0,0⟩:SInstr),true) else if o=40 then ((⟨43,2,0,0,0,0,0,0⟩:SInstr),true) else if o=48 then ((⟨39,1,0,0,0,0,0,0⟩:SInstr),true) else if o=56 then ((⟨44,2,0,0,0,0,0,0⟩:SInstr),true) else if o=203 then ((⟨45,1,0,0,0,0,10,0⟩:SInstr),true) else if o=217 then ((⟨46,1,0,0,0,0,0,0⟩:SInstr),true) else if o=221 then ((⟨24,3,0,0,0,0,8,0⟩:SInstr),true) else if o=237 then ((⟨47,1,0,0,0,0,0,0⟩:SInstr),true) else if o=253 then ((⟨24,3,0,0,0,0,9,0⟩:SInstr),true) else (SInstr.zero,false)
theorem zoj (o:Int) (w:World)  :
  Calls prog 123 #[.int .u8 o] w fun e w'=>e=.returned (.tuple #[.agg (zh4 o).1.cells,.bool (zh4 o).2])/\Below w.heap.size w w':=by
 all_goals
  go_enter func123,ntmps123
  go_wp2_with fail
  all_goals
   refine za1 (n:=8) (v:=.agg (zh4 o).1.cells) (u:=.bool (zh4 o).2) rfl kR kR ?_ rfl ?_ ?_ rfl ⟨rfl,by (repeat' (first|(with_reducible exact Below.refl _ _)|(with_reducible refine zae ?_ ?_)|(with_reducible refine Below.alloc ?_ ?_ _)|(with_reducible refine Below.drew ?_)|(with_reducible refine zaf ‹_› ?_ ?_)|((try simp only [World.size_alloc,size_setBlk,World.size_drew]);omega)))⟩
   all_goals ((try simp only [beq_iff_eq,beq_eq_false_iff_ne,ne_eq,bne_iff_ne,bne_eq_false_iff_eq] at *);first|(simp [go_sem,↓iteOmega,zh4, *]<;>first|omega|((repeat' split)<;>first|rfl|omega|simp_all))|(exfalso;omega))
def zea (o:Int):SInstr × Bool:=
 if o=0\/o=8\/o=16\/o=24\/o=32\/o=40\/o=48\/o=56 then ((⟨1,1,0,0,0,0,0,0⟩:SInstr),true) else if o=195\/o=203 then ((⟨24,3,0,0,0,0,11,0⟩:SInstr),true) else if o=201\/o=217 then ((⟨26,1,0,0,0,0,11,0⟩:SInstr),true) else if o=205\/o=221\/o=237\/o=253 then ((⟨25,3,0,0,0,0,11,0⟩:SInstr),true) else (SInstr.zero,false)
theorem zl6 (o:Int) (w:World)  :
  Calls prog 124 #[.int .u8 o] w fun e w'=>e=.returned (.tuple #[.agg (zea o).1.cells,.bool (zea o).2])/\Below w.heap.size w w':=by
 all_goals
  go_enter func124,ntmps124
  go_wp2_with fail
  all_goals
   refine za1 (n:=8) (v:=.agg (zea o).1.cells) (u:=.bool (zea o).2) rfl kR kR ?_ rfl ?_ ?_ rfl ⟨rfl,by (repeat' (first|(with_reducible exact Below.refl _ _)|(with_reducible refine zae ?_ ?_)|(with_reducible refine Below.alloc ?_ ?_ _)|(with_reducible refine Below.drew ?_)|(with_reducible refine zaf ‹_› ?_ ?_)|((try simp only [World.size_alloc,size_setBlk,World.size_drew]);omega)))⟩
   all_goals ((try simp only [beq_iff_eq,beq_eq_false_iff_ne,ne_eq,bne_iff_ne,bne_eq_false_iff_eq] at *);first|(simp [go_sem,↓iteOmega,zea, *]<;>first|omega|((repeat' split)<;>first|rfl|omega|simp_all))|(exfalso;omega))
section
variable (w:World)
include w
@[go_sem] theorem ia0:(Instr.index 222 (.agg #[.int .i64 8,.int .i64 7,.int .i64 6,.int .i64 5]) (.int .i64 0)).run prog w=.ok (.int .i64 8) w:=lK
@[go_sem] theorem ia1:(Instr.index 222 (.agg #[.int .i64 8,.int .i64 7,.int .i64 6,.int .i64 5]) (.int .i64 1)).run prog w=.ok (.int .i64 7) w:=lK
@[go_sem] theorem ia2:(Instr.index 222 (.agg #[.int .i64 8,.int .i64 7,.int .i64 6,.int .i64 5]) (.int .i64 2)).run prog w=.ok (.int .i64 6) w:=lK
@[go_sem] theorem ia3:(Instr.index 222 (.agg #[.int .i64 8,.int .i64 7,.int .i64 6,.int .i64 5]) (.int .i64 3)).run prog w=.ok (.int .i64 5) w:=lK
@[go_sem] theorem ib0:(Instr.index 222 (.agg #[.int .i64 19,.int .i64 20,.int .i64 21,.int .i64 22]) (.int .i64 0)).run prog w=.ok (.int .i64 19) w:=lK
@[go_sem] theorem ib1:(Instr.index 222 (.agg #[.int .i64 19,.int .i64 20,.int .i64 21,.int .i64 22]) (.int .i64 1)).run prog w=.ok (.int .i64 20) w:=lK
@[go_sem] theorem ib2:(Instr.index 222 (.agg #[.int .i64 19,.int .i64 20,.int .i64 21,.int .i64 22]) (.int .i64 2)).run prog w=.ok (.int .i64 21) w:=lK
@[go_sem] theorem ib3:(Instr.index 222 (.agg #[.int .i64 19,.int .i64 20,.int .i64 21,.int .i64 22]) (.int .i64 3)).run prog w=.ok (.int .i64 22) w:=lK
@[go_sem] theorem ic0:(Instr.index 223 (.agg #[.int .i64 34,.int .i64 33]) (.int .i64 0)).run prog w=.ok (.int .i64 34) w:=lK
@[go_sem] theorem ic1:(Instr.index 223 (.agg #[.int .i64 34,.int .i64 33]) (.int .i64 1)).run prog w=.ok (.int .i64 33) w:=lK
@[go_sem] theorem id0:(Instr.index 222 (.agg #[.int .i64 32,.int .i64 11,.int .i64 36,.int .i64 35]) (.int .i64 0)).run prog w=.ok (.int .i64 32) w:=lK
@[go_sem] theorem id1:(Instr.index 222 (.agg #[.int .i64 32,.int .i64 11,.int .i64 36,.int .i64 35]) (.int .i64 1)).run prog w=.ok (.int .i64 11) w:=lK
@[go_sem] theorem id2:(Instr.index 222 (.agg #[.int .i64 32,.int .i64 11,.int .i64 36,.int .i64 35]) (.int .i64 2)).run prog w=.ok (.int .i64 36) w:=lK
@[go_sem] theorem id3:(Instr.index 222 (.agg #[.int .i64 32,.int .i64 11,.int .i64 36,.int .i64 35]) (.int .i64 3)).run prog w=.ok (.int .i64 35) w:=lK
end
def zvw (o:Int):SInstr:=
 if o%8=1 then (if (bits .and .u8 o 8 != 0)=true then (⟨18,1,0,0,(o / 16%4),0,0,0⟩:SInstr) else (⟨4,3,0,0,(o / 16%4),0,0,0⟩:SInstr))
 else if o%8=2 then (if (o / 8%8)<4 then (if (bits .and .u8 o 8 != 0)=true then (⟨9,1,0,0,(o / 16%4),0,0,0⟩:SInstr) else (⟨10,1,0,0,(o / 16%4),0,0,0⟩:SInstr)) else if (o / 8%8)=4 then (⟨8,3,0,0,0,0,0,0⟩:SInstr) else if (o / 8%8)=5 then (⟨7,3,0,0,0,0,0,0⟩:SInstr) else if (o / 8%8)=6 then (⟨6,3,0,0,0,0,0,0⟩:SInstr) else (⟨5,3,0,0,0,0,0,0⟩:SInstr))
 else if o%8=3 then (if (bits .and .u8 o 8 != 0)=true then (⟨17,1,0,0,(o / 16%4),0,0,0⟩:SInstr) else (⟨16,1,0,0,(o / 16%4),0,0,0⟩:SInstr)) else if o%8=4 then (⟨14,1,(o / 8%8),0,0,0,0,0⟩:SInstr) else if o%8=5 then (⟨15,1,(o / 8%8),0,0,0,0,0⟩:SInstr) else if o%8=6 then (⟨3,2,(o / 8%8),0,0,0,0,0⟩:SInstr)
 else if (o / 8%8)<4 then (⟨23,1,0,0,0,(o / 8%8),0,0⟩:SInstr) else if (o / 8%8)=4 then (⟨19,1,0,0,0,0,0,0⟩:SInstr) else if (o / 8%8)=5 then (⟨20,1,0,0,0,0,0,0⟩:SInstr) else if (o / 8%8)=6 then (⟨21,1,0,0,0,0,0,0⟩:SInstr) else (⟨22,1,0,0,0,0,0,0⟩:SInstr)
theorem zs7 (o:Int) (w:World) (h0:0<=o) (h1:o<=255) :
  Calls prog 125 #[.int .u8 o] w fun e w'=>e=.returned (.agg (zvw o).cells)/\Below w.heap.size w w':=by
 have hm3:=zsg (o / 16) oM oM
 rcases (by omega:o / 8%8<4\/o / 8%8=4\/o / 8%8=5\/o / 8%8=6\/o / 8%8=7) with q|q|q|q|q
 all_goals
  go_enter func125,ntmps125
  go_wp2_with fail
  all_goals
   refine SInstr.ret (zvw o) rfl rfl ?_ rfl ⟨rfl,by (repeat' (first|(with_reducible exact Below.refl _ _)|(with_reducible refine zae ?_ ?_)|(with_reducible refine Below.alloc ?_ ?_ _)|(with_reducible refine Below.drew ?_)|(with_reducible refine zaf ‹_› ?_ ?_)|((try simp only [World.size_alloc,size_setBlk,World.size_drew]);omega)))⟩
   (try simp only [beq_iff_eq,beq_eq_false_iff_ne,ne_eq,bne_iff_ne,bne_eq_false_iff_eq] at *);first|(simp [go_sem,↓iteOmega,zvw, *]<;>first|omega|((repeat' split)<;>first|rfl|omega|simp_all))|(exfalso;omega)
def zp1 (o:Int):SInstr:=
 if o%8=0 then (⟨26,1,0,0,0,0,(o / 8%8),0⟩:SInstr) else if o%8=1 then (if (bits .and .u8 o 8 != 0)=true then (if (o / 8%8)=5 then (⟨28,1,0,0,0,0,0,0⟩:SInstr) else (⟨29,1,0,0,0,0,0,0⟩:SInstr)) else (⟨31,1,0,0,(o / 16%4),0,0,0⟩:SInstr))
 else if o%8=2 then (⟨24,3,0,0,0,0,(o / 8%8),0⟩:SInstr) else if o%8=3 then (if (o / 8%8)=2 then (⟨34,2,0,0,0,0,0,0⟩:SInstr) else if (o / 8%8)=3 then (⟨33,2,0,0,0,0,0,0⟩:SInstr) else if (o / 8%8)=4 then (⟨32,1,0,0,0,0,0,0⟩:SInstr) else if (o / 8%8)=5 then (⟨11,1,0,0,0,0,0,0⟩:SInstr) else if (o / 8%8)=6 then (⟨36,1,0,0,0,0,0,0⟩:SInstr) else (⟨35,1,0,0,0,0,0,0⟩:SInstr))
 else if o%8=4 then (⟨25,3,0,0,0,0,(o / 8%8),0⟩:SInstr) else if o%8=5 then (⟨30,1,0,0,(o / 16%4),0,0,0⟩:SInstr) else if o%8=6 then (⟨13,2,0,0,0,(o / 8%8),0,0⟩:SInstr) else (⟨27,1,0,0,0,0,0,(o / 8%8)⟩:SInstr)
theorem zq7 (o:Int) (w:World) (h0:0<=o) (h1:o<=255) (h2:o%8≠3\/2<=o / 8%8) :
  Calls prog 126 #[.int .u8 o] w fun e w'=>e=.returned (.agg (zp1 o).cells)/\Below w.heap.size w w':=by
 have hm3:=zsg (o / 16) oM oM
 rcases (y_of o h2:(o / 8%8<2/\(o%8==3)=false)\/o / 8%8=2\/o / 8%8=3\/o / 8%8=4\/o / 8%8=5\/o / 8%8=6\/o / 8%8=7) with ⟨q,q3⟩|q|q|q|q|q|q
 all_goals
  go_enter func126,ntmps126
  go_wp2_with fail
  all_goals
   refine SInstr.ret (zp1 o) rfl rfl ?_ rfl ⟨rfl,by (repeat' (first|(with_reducible exact Below.refl _ _)|(with_reducible refine zae ?_ ?_)|(with_reducible refine Below.alloc ?_ ?_ _)|(with_reducible refine Below.drew ?_)|(with_reducible refine zaf ‹_› ?_ ?_)|((try simp only [World.size_alloc,size_setBlk,World.size_drew]);omega)))⟩
   (try simp only [beq_iff_eq,beq_eq_false_iff_ne,ne_eq,bne_iff_ne,bne_eq_false_iff_eq] at *);first|(simp [go_sem,↓iteOmega,zp1, *]<;>first|omega|((repeat' split)<;>first|rfl|omega|simp_all))|(exfalso;omega)
end
section
open Go.RowKit
theorem hi_of (o:Int) (h0:0<=o) (h':o<=255) (h:(zea o).2=false):o%8≠3\/2<=o / 8%8\/o / 64<3:=by
 by_cases a:o=195
 ·subst a;simp [zea] at h
 ·by_cases b:o=203
  ·subst b;simp [zea] at h
  ·omega
def zb7 (k:Int) (o:Int):SInstr:=
 if k=2/\(zh4 o).2=true then (zh4 o).1 else if (zea o).2=true then (zea o).1 else if o / 64=0 then zvw o
 else if o / 64=1 then (if o=118 then (⟨37,1,0,0,0,0,0,0⟩:SInstr) else (⟨2,1,(o / 8%8),(o%8),0,0,0,0⟩:SInstr)) else if o / 64=2 then (⟨12,1,0,(o%8),0,(o / 8%8),0,0⟩:SInstr) else zp1 o
theorem zln (k:Int) (o:Int) (w:World) (h0:0<=o) (h1:o<=255) :
  Calls prog 97 #[.int .i64 k,.int .u8 o] w fun e w'=>e=.returned (.agg (zb7 k o).cells)/\Below w.heap.size w w':=by
 all_goals
  go_enter func97,ntmps97
  go_wp2_with (first|(go_at_call 123;with_reducible refine Cbv (zoj _ _) ?_;intro w' hB hb1 hb2 hb3 hs;(try simp only [World.size_alloc,size_setBlk,World.size_drew] at hs hb1 hb2 hb3))|(go_at_call 124;with_reducible refine Cbv (zl6 _ _) ?_;intro w' hB hb1 hb2 hb3 hs;(try simp only [World.size_alloc,size_setBlk,World.size_drew] at hs hb1 hb2 hb3))|(go_at_call 125;with_reducible refine Cbv (zs7 _ _ h0 h1) ?_;intro w' hB hb1 hb2 hb3 hs;(try simp only [World.size_alloc,size_setBlk,World.size_drew] at hs hb1 hb2 hb3))|(go_at_call 126;with_reducible refine Cbv (zq7 _ _ h0 h1 (by rcases hi_of o h0 h1 ‹_› with q|q|q;exact .inl q;exact .inr q;simp only [beq_eq_false_iff_ne] at *;omega)) ?_;intro w' hB hb1 hb2 hb3 hs;(try simp only [World.size_alloc,size_setBlk,World.size_drew] at hs hb1 hb2 hb3)))
  all_goals
   refine SInstr.ret (zb7 k o) rfl rfl ?_ rfl ⟨rfl,by (repeat' (first|(with_reducible exact Below.refl _ _)|(with_reducible refine zae ?_ ?_)|(with_reducible refine Below.alloc ?_ ?_ _)|(with_reducible refine Below.drew ?_)|(with_reducible refine zaf ‹_› ?_ ?_)|((try simp only [World.size_alloc,size_setBlk,World.size_drew]);omega)))⟩
   (try simp only [beq_iff_eq,beq_eq_false_iff_ne,ne_eq,bne_iff_ne,bne_eq_false_iff_eq] at *);first|(simp [go_sem,↓iteOmega,zb7, *]<;>first|omega|((repeat' split)<;>first|rfl|omega|simp_all))|(exfalso;omega)
end
end Go.Proofs.YtlmbamdkklkliaaGreat
