/- Part of the proof that a law holds at every input. No conditions. -/
import Derived.Test.YtlmbamdkklkliaaGreatK08
namespace Go.Proofs.YtlmbamdkklkliaaGreat
set_option linter.unusedVariables false
set_option linter.unusedSimpArgs false
set_option maxRecDepth 100000
set_option maxHeartbeats 16000000
open Go.Proofs.Tryz
open Go.IntWalk (iteOmega)
section
open Go.RowKit
def zc5 (c:SCPU) (l:SLines):Int:=
 if c.chip=2/\c.trap=true then 1 else if c.ie=false\/c.delay=true then 0 else if c.chip=2/\c.r75=true/\bits .and .u8 c.mask 4=0 then 2
 else if c.chip=2/\l.r65=true/\bits .and .u8 c.mask 2=0 then 3 else if c.chip=2/\l.r55=true/\bits .and .u8 c.mask 1=0 then 4 else if l.intr=true then 5 else 0
theorem zid (c:SCPU) (l:SLines) (w:World)  :
  Calls prog 10 #[.agg c.cells,.agg l.cells] w fun e w'=>e=.returned (.int .i64 (zc5 c l))/\Below w.heap.size w w':=by
 all_goals
  go_enter func10,ntmps10
  go_wp2_with fail
  all_goals
   go_ret
   refine ⟨?_,by (repeat' (first|(with_reducible exact Below.refl _ _)|(with_reducible refine zae ?_ ?_)|(with_reducible refine Below.alloc ?_ ?_ _)|(with_reducible refine Below.drew ?_)|(with_reducible refine zaf ‹_› ?_ ?_)|((try simp only [World.size_alloc,size_setBlk,World.size_drew]);omega)))⟩
   (try simp only [beq_iff_eq,beq_eq_false_iff_ne,ne_eq,bne_iff_ne,bne_eq_false_iff_eq] at *);first|(simp [go_sem,↓iteOmega,zc5, *]<;>first|omega|((repeat' split)<;>first|rfl|omega|simp_all))|(exfalso;omega)
def sbit (b:Bool) (k:Int):Int:=
 if b then 2 ^ k.toNat else 0
theorem zu2 (b:Bool) (k:Int) (w:World) (h0:0<=k) (h1:k<=7) :
  Calls prog 180 #[.bool b,.int .i64 k] w fun e w'=>e=.returned (.int .u8 (sbit b k))/\w=w':=by
 obtain rfl|rfl|rfl|rfl|rfl|rfl|rfl|rfl:k=0\/k=1\/k=2\/k=3\/k=4\/k=5\/k=6\/k=7:=oM
 all_goals
  go_enter func180,ntmps180
  go_wp2_with fail
  all_goals
   go_ret
   refine ⟨?_,rfl⟩
   (try simp only [beq_iff_eq,beq_eq_false_iff_ne,ne_eq,bne_iff_ne,bne_eq_false_iff_eq] at *);first|(simp [go_sem,↓iteOmega,sbit, *]<;>first|omega|((repeat' split)<;>first|rfl|omega|simp_all))|(exfalso;omega)
def lowN (b:Bool):Int:=
 if b then 1 else 0
theorem zif (b:Bool) (w:World)  :
  Calls prog 198 #[.bool b] w fun e w'=>e=.returned (.int .u8 (lowN b))/\w=w':=by
 all_goals
  go_enter func198,ntmps198
  go_wp2_with fail
  all_goals
   go_ret
   refine ⟨?_,rfl⟩
   (try simp only [beq_iff_eq,beq_eq_false_iff_ne,ne_eq,bne_iff_ne,bne_eq_false_iff_eq] at *);first|(simp [go_sem,↓iteOmega,lowN, *]<;>first|omega|((repeat' split)<;>first|rfl|omega|simp_all))|(exfalso;omega)
def reqs (p:SPIC):Int:=
 if p.level then p.lines else p.edge
theorem zpr (p:SPIC) (w:World)  :
  Calls prog 105 #[.agg p.cells] w fun e w'=>e=.returned (.int .u8 (reqs p))/\Below w.heap.size w w':=by
 all_goals
  go_enter func105,ntmps105
  go_wp2_with fail
  all_goals
   go_ret
   refine ⟨?_,by (repeat' (first|(with_reducible exact Below.refl _ _)|(with_reducible refine zae ?_ ?_)|(with_reducible refine Below.alloc ?_ ?_ _)|(with_reducible refine Below.drew ?_)|(with_reducible refine zaf ‹_› ?_ ?_)|((try simp only [World.size_alloc,size_setBlk,World.size_drew]);omega)))⟩
   (try simp only [beq_iff_eq,beq_eq_false_iff_ne,ne_eq,bne_iff_ne,bne_eq_false_iff_eq] at *);first|(simp [go_sem,↓iteOmega,reqs, *]<;>first|omega|((repeat' split)<;>first|rfl|omega|simp_all))|(exfalso;omega)
def zj5  : SPIC:=
 { SPIC.zero with lowest:=7 }
theorem picNew_any  (w:World)  :
  Calls prog 29 #[] w fun e w'=>e=.returned (.agg (zj5).cells)/\Below w.heap.size w w':=by
 all_goals
  go_enter func29,ntmps29
  go_wp2_with fail
  all_goals
   refine SPIC.ret (zj5) rfl rfl ?_ rfl ⟨rfl,by (repeat' (first|(with_reducible exact Below.refl _ _)|(with_reducible refine zae ?_ ?_)|(with_reducible refine Below.alloc ?_ ?_ _)|(with_reducible refine Below.drew ?_)|(with_reducible refine zaf ‹_› ?_ ?_)|((try simp only [World.size_alloc,size_setBlk,World.size_drew]);omega)))⟩
   (try simp only [beq_iff_eq,beq_eq_false_iff_ne,ne_eq,bne_iff_ne,bne_eq_false_iff_eq] at *);first|(simp [go_sem,↓iteOmega,zj5, *]<;>first|omega|((repeat' split)<;>first|rfl|omega|simp_all))|(exfalso;omega)
def zbj (d:SDMA):SDMA × SCell × Bool:=
 if zg6 d then ({ d with at_:=IntKind.u16.wrap (d.at_+1),left:=wrap64 (d.left-1) },⟨d.at_,d.value⟩,true) else (SDMA.zero,SCell.zero,false)
theorem zmv (d:SDMA) (w:World)  :
  Calls prog 56 #[.agg d.cells] w fun e w'=>e=.returned (.tuple #[.agg (zbj d).1.cells,.agg (zbj d).2.1.cells,.bool (zbj d).2.2])/\Below w.heap.size w w':=by
 all_goals
  go_enter func56,ntmps56
  go_wp2_with (first|(go_at_call 55;with_reducible refine Cbv (zgi _ _) ?_;intro w' hB hb1 hb2 hb3 hs;(try simp only [World.size_alloc,size_setBlk,World.size_drew] at hs hb1 hb2 hb3)))
  all_goals (first|go_region|skip)
  all_goals (go_wp2_with (first|(go_at_call 55;with_reducible refine Cbv (zgi _ _) ?_;intro w' hB hb1 hb2 hb3 hs;(try simp only [World.size_alloc,size_setBlk,World.size_drew] at hs hb1 hb2 hb3))))
  all_goals
   refine zl0 (n:=3) (n':=2) (v:=.agg (zbj d).1.cells) (u:=.agg (zbj d).2.1.cells) (x:=.bool (zbj d).2.2) rfl kR kR kR kR rfl ?_ ?_ rfl ?_ ?_ ?_ rfl ⟨rfl,by (repeat' (first|(with_reducible exact Below.refl _ _)|(with_reducible refine zae ?_ ?_)|(with_reducible refine Below.alloc ?_ ?_ _)|(with_reducible refine Below.drew ?_)|(with_reducible refine zaf ‹_› ?_ ?_)|((try simp only [World.size_alloc,size_setBlk,World.size_drew]);omega)))⟩
   all_goals ((try simp only [beq_iff_eq,beq_eq_false_iff_ne,ne_eq,bne_iff_ne,bne_eq_false_iff_eq] at *);first|(simp [go_sem,↓iteOmega,zbj, *]<;>first|omega|((repeat' split)<;>first|rfl|omega|simp_all))|(exfalso;omega))
def zgp (d:SDMA) (r:Int):Int:=
 if r%4=0 then d.at_%256 else if r%4=1 then d.at_ / 256%256 else if r%4=2 then d.value else d.left%256
theorem zo0 (d:SDMA) (r:Int) (w:World) (h0:0<=d.at_) (h1:d.at_<=65535) :
  Calls prog 86 #[.agg d.cells,.int .i64 r] w fun e w'=>e=.returned (.int .u8 (zgp d r))/\Below w.heap.size w w':=by
 have hm:=zil r
 all_goals
  go_enter func86,ntmps86
  go_wp2_with fail
  all_goals
   go_ret
   refine ⟨?_,by (repeat' (first|(with_reducible exact Below.refl _ _)|(with_reducible refine zae ?_ ?_)|(with_reducible refine Below.alloc ?_ ?_ _)|(with_reducible refine Below.drew ?_)|(with_reducible refine zaf ‹_› ?_ ?_)|((try simp only [World.size_alloc,size_setBlk,World.size_drew]);omega)))⟩
   (try simp only [beq_iff_eq,beq_eq_false_iff_ne,ne_eq,bne_iff_ne,bne_eq_false_iff_eq] at *);first|(simp [go_sem,↓iteOmega,zgp, *]<;>first|omega|((repeat' split)<;>first|rfl|omega|simp_all))|(exfalso;omega)
def ztt (k:Int) (f:SFlags):Bool:=
 if k=0\/k=1 then f.z==(k==1) else if k=2\/k=3 then f.cy==(k==3) else if k=4\/k=5 then f.p==(k==5) else if k=6\/k=7 then f.s==(k==7) else if k=8\/k=9 then f.k==(k==9) else if k=10 then f.v else k==11
theorem zts (k:Int) (f:SFlags) (w:World)  :
  Calls prog 190 #[.int .i64 k,.agg f.cells] w fun e w'=>e=.returned (.bool (ztt k f))/\Below w.heap.size w w':=by
 all_goals
  go_enter func190,ntmps190
  go_wp2_with fail
  all_goals
   go_ret
   refine ⟨?_,by (repeat' (first|(with_reducible exact Below.refl _ _)|(with_reducible refine zae ?_ ?_)|(with_reducible refine Below.alloc ?_ ?_ _)|(with_reducible refine Below.drew ?_)|(with_reducible refine zaf ‹_› ?_ ?_)|((try simp only [World.size_alloc,size_setBlk,World.size_drew]);omega)))⟩
   (try simp only [beq_iff_eq,beq_eq_false_iff_ne,ne_eq,bne_iff_ne,bne_eq_false_iff_eq] at *);first|(simp [go_sem,↓iteOmega,ztt, *]<;>first|omega|((repeat' split)<;>first|rfl|omega|simp_all))|(exfalso;omega)
def sim (c:SCPU) (a:Int):SCPU:=
 let c:=if bits .and .u8 a 64=0 then c else { c with sod:=bits .and .u8 a 128 != 0 };let c:=if bits .and .u8 a 16=0 then c else { c with r75:=false };if bits .and .u8 a 8=0 then c else { c with mask:=bits .and .u8 a 7 }
theorem zyi (c:SCPU) (a:Int) (w:World)  :
  Calls prog 153 #[.agg c.cells,.int .u8 a] w fun e w'=>e=.returned (.agg (sim c a).cells)/\Below w.heap.size w w':=by
 all_goals
  go_enter func153,ntmps153
  go_wp2_with fail
  all_goals
   refine SCPU.ret (sim c a) rfl rfl ?_ rfl ⟨rfl,by (repeat' (first|(with_reducible exact Below.refl _ _)|(with_reducible refine zae ?_ ?_)|(with_reducible refine Below.alloc ?_ ?_ _)|(with_reducible refine Below.drew ?_)|(with_reducible refine zaf ‹_› ?_ ?_)|((try simp only [World.size_alloc,size_setBlk,World.size_drew]);omega)))⟩
   (try simp only [beq_iff_eq,beq_eq_false_iff_ne,ne_eq,bne_iff_ne,bne_eq_false_iff_eq] at *);first|(simp [go_sem,↓iteOmega,sim, *]<;>first|omega|((repeat' split)<;>first|rfl|omega|simp_all))|(exfalso;omega)
def latched (ev:SEvent) (c:SCPU):SEvent:=
 { ev with r75:=c.r75,trap:=c.trap,was75:=c.was75,wasTrap:=c.wasTrap }
theorem zfo (ev:SEvent) (c:SCPU) (w:World)  :
  Calls prog 47 #[.agg ev.cells,.agg c.cells] w fun e w'=>e=.returned (.agg (latched ev c).cells)/\Below w.heap.size w w':=by
 all_goals
  go_enter func47,ntmps47
  go_wp2_with fail
  all_goals (first|go_region|skip)
  all_goals (go_wp2_with fail)
  all_goals
   refine SEvent.ret (latched ev c) rfl rfl ?_ rfl ⟨rfl,by (repeat' (first|(with_reducible exact Below.refl _ _)|(with_reducible refine zae ?_ ?_)|(with_reducible refine Below.alloc ?_ ?_ _)|(with_reducible refine Below.drew ?_)|(with_reducible refine zaf ‹_› ?_ ?_)|((try simp only [World.size_alloc,size_setBlk,World.size_drew]);omega)))⟩
   (try simp only [beq_iff_eq,beq_eq_false_iff_ne,ne_eq,bne_iff_ne,bne_eq_false_iff_eq] at *);first|(simp [go_sem,↓iteOmega,latched, *]<;>first|omega|((repeat' split)<;>first|rfl|omega|simp_all))|(exfalso;omega)
def busy (c:SCore):Bool:=
 (decide (2<=c.next)&&decide (c.next<=7))||decide (0<c.got.n)||c.source != 0
theorem zql (c:SCore) (w:World)  :
  Calls prog 58 #[.agg c.cells] w fun e w'=>e=.returned (.bool (busy c))/\Below w.heap.size w w':=by
 all_goals
  go_enter func58,ntmps58
  go_wp2_with fail
  all_goals
   go_ret
   refine ⟨?_,by (repeat' (first|(with_reducible exact Below.refl _ _)|(with_reducible refine zae ?_ ?_)|(with_reducible refine Below.alloc ?_ ?_ _)|(with_reducible refine Below.drew ?_)|(with_reducible refine zaf ‹_› ?_ ?_)|((try simp only [World.size_alloc,size_setBlk,World.size_drew]);omega)))⟩
   (try simp only [beq_iff_eq,beq_eq_false_iff_ne,ne_eq,bne_iff_ne,bne_eq_false_iff_eq] at *);first|(simp [go_sem,↓iteOmega,busy, *]<;>first|omega|((repeat' split)<;>first|rfl|omega|simp_all))|(exfalso;omega)
end
section
open Go.RowKit
def arhl (v:Int):Int × Bool:=
 (bits .or .u16 (v / 2) (bits .and .u16 v 32768),bits .and .u16 v 1==1)
theorem zxn (v:Int) (w:World) (h0:0<=v) (h1:v<=65535) :
  Calls prog 182 #[.int .u16 v] w fun e w'=>e=.returned (.tuple #[.int .u16 (arhl v).1,.bool (arhl v).2])/\w=w':=by
 all_goals
  go_enter func182,ntmps182
  go_wp2_with fail
  all_goals
   go_ret2
   refine ⟨?_,rfl⟩
   (try simp only [beq_iff_eq,beq_eq_false_iff_ne,ne_eq,bne_iff_ne,bne_eq_false_iff_eq] at *);first|(simp [go_sem,↓iteOmega,arhl, *]<;>first|omega|((repeat' split)<;>first|rfl|omega|simp_all))|(exfalso;omega)
def rdel (v:Int) (c:Bool):Int × Bool × Bool:=
 ((bits .or .u16 (IntKind.u16.wrap (v * 2)) (IntKind.u16.wrap (lowN c))),decide (32768<=v),bits .and .u16 (bits .xor .u16 (bits .or .u16 (IntKind.u16.wrap (v * 2)) (IntKind.u16.wrap (lowN c))) v) 32768 != 0)
theorem zvi (v:Int) (c:Bool) (w:World) (h0:0<=v) (h1:v<=65535) :
  Calls prog 183 #[.int .u16 v,.bool c] w fun e w'=>e=.returned (.tuple #[.int .u16 (rdel v c).1,.bool (rdel v c).2.1,.bool (rdel v c).2.2])/\w=w':=by
 all_goals
  go_enter func183,ntmps183
  go_wp2_with (first|with_reducible refine Cpv (zif _ _) ?_)
  all_goals
   go_ret3
   refine ⟨?_,rfl⟩
   (try simp only [beq_iff_eq,beq_eq_false_iff_ne,ne_eq,bne_iff_ne,bne_eq_false_iff_eq] at *);first|(simp [go_sem,↓iteOmega,rdel, *]<;>first|omega|((repeat' split)<;>first|rfl|omega|simp_all))|(exfalso;omega)
end
end Go.Proofs.YtlmbamdkklkliaaGreat
