/- Part of the proof that a law holds at every input. No conditions. -/
import Derived.BigQuiet
import Derived.Test.YtlmbamdkklkliaaGreatK05
namespace Go.Proofs.YtlmbamdkklkliaaGreat
set_option linter.unusedVariables false
set_option linter.unusedSimpArgs false
set_option maxRecDepth 100000
set_option maxHeartbeats 16000000
open Go.Proofs.Tryz
open Go.IntWalk (iteOmega)
section
open Go.RowKit
def zk7 (s:Int):Int:=
 if s=1 then 0x24 else if s=2 then 0x3C else if s=3 then 0x34 else if s=4 then 0x2C else 0
theorem zqt (s:Int) (w:World)  :
  Calls prog 127 #[.int .i64 s] w fun e w'=>e=.returned (.int .u16 (zk7 s))/\w=w':=by
 all_goals
  go_enter func127,ntmps127
  go_wp2_with fail
  all_goals
   go_ret
   refine ⟨?_,rfl⟩
   (try simp only [beq_iff_eq,beq_eq_false_iff_ne,ne_eq,bne_iff_ne,bne_eq_false_iff_eq] at *);first|(simp [go_sem,↓iteOmega,zk7, *]<;>first|omega|((repeat' split)<;>first|rfl|omega|simp_all))|(exfalso;omega)
def zfc (c:SCPU):SCPU:=
 { SCPU.zero with chip:=c.chip,regs := { c.regs with pc:=0 },mask:=if c.chip=2 then 7 else 0 }
theorem ziz (c:SCPU) (w:World)  :
  Calls prog 25 #[.agg c.cells] w fun e w'=>e=.returned (.agg (zfc c).cells)/\Below w.heap.size w w':=by
 all_goals
  go_enter func25,ntmps25
  go_wp2_with fail
  all_goals
   refine SCPU.ret (zfc c) rfl rfl ?_ rfl ⟨rfl,by (repeat' (first|(with_reducible exact Below.refl _ _)|(with_reducible refine zae ?_ ?_)|(with_reducible refine Below.alloc ?_ ?_ _)|(with_reducible refine Below.drew ?_)|(with_reducible refine zaf ‹_› ?_ ?_)|((try simp only [World.size_alloc,size_setBlk,World.size_drew]);omega)))⟩
   (try simp only [beq_iff_eq,beq_eq_false_iff_ne,ne_eq,bne_iff_ne,bne_eq_false_iff_eq] at *);first|(simp [go_sem,↓iteOmega,zfc, *]<;>first|omega|((repeat' split)<;>first|rfl|omega|simp_all))|(exfalso;omega)
def ze7 (c:SCPU) (s:Int):SCPU:=
 if s<1\/5<s then c else if s=1 then { c with saved:=true,savedIE:=c.ie,trap:=false,ie:=false,delay:=false,halted:=false } else if s=2 then { c with r75:=false,ie:=false,delay:=false,halted:=false } else { c with ie:=false,delay:=false,halted:=false }
theorem zr2 (c:SCPU) (s:Int) (w:World)  :
  Calls prog 99 #[.agg c.cells,.int .i64 s] w fun e w'=>e=.returned (.agg (ze7 c s).cells)/\Below w.heap.size w w':=by
 all_goals
  go_enter func99,ntmps99
  go_wp2_with fail
  all_goals
   refine SCPU.ret (ze7 c s) rfl rfl ?_ rfl ⟨rfl,by (repeat' (first|(with_reducible exact Below.refl _ _)|(with_reducible refine zae ?_ ?_)|(with_reducible refine Below.alloc ?_ ?_ _)|(with_reducible refine Below.drew ?_)|(with_reducible refine zaf ‹_› ?_ ?_)|((try simp only [World.size_alloc,size_setBlk,World.size_drew]);omega)))⟩
   (try simp only [beq_iff_eq,beq_eq_false_iff_ne,ne_eq,bne_iff_ne,bne_eq_false_iff_eq] at *);first|(simp [go_sem,↓iteOmega,ze7, *]<;>first|omega|((repeat' split)<;>first|rfl|omega|simp_all))|(exfalso;omega)
def zem (k:Int):Bool:=
 k==3||k==5||k==7
theorem zff (k:Int) (w:World)  :
  Calls prog 15 #[.int .i64 k] w fun e w'=>e=.returned (.bool (zem k))/\w=w':=by
 all_goals
  go_enter func15,ntmps15
  go_wp2_with fail
  all_goals
   go_ret
   refine ⟨?_,rfl⟩
   (try simp only [beq_iff_eq,beq_eq_false_iff_ne,ne_eq,bne_iff_ne,bne_eq_false_iff_eq] at *);first|(simp [go_sem,↓iteOmega,zem, *]<;>first|omega|((repeat' split)<;>first|rfl|omega|simp_all))|(exfalso;omega)
def zd1 (k:Int):Bool:=
 k==1||k==2||k==4||k==6||k==8||k==9
theorem zd9 (k:Int) (w:World)  :
  Calls prog 51 #[.int .i64 k] w fun e w'=>e=.returned (.bool (zd1 k))/\w=w':=by
 all_goals
  go_enter func51,ntmps51
  go_wp2_with fail
  all_goals
   go_ret
   refine ⟨?_,rfl⟩
   (try simp only [beq_iff_eq,beq_eq_false_iff_ne,ne_eq,bne_iff_ne,bne_eq_false_iff_eq] at *);first|(simp [go_sem,↓iteOmega,zd1, *]<;>first|omega|((repeat' split)<;>first|rfl|omega|simp_all))|(exfalso;omega)
def zlx (k:Int):Int:=
 if k=1 then 0xA2 else if k=2 then 0x82 else if k=4 then 0x86 else if k=5 then 4 else if k=6 then 0x42 else if k=7 then 0x10 else if k=8 then 0x23 else if k=9 then 3 else if k=10 then 0x8A else 0
theorem zn7 (k:Int) (w:World)  :
  Calls prog 132 #[.int .i64 k] w fun e w'=>e=.returned (.int .u8 (zlx k))/\w=w':=by
 all_goals
  go_enter func132,ntmps132
  go_wp2_with fail
  all_goals
   go_ret
   refine ⟨?_,rfl⟩
   (try simp only [beq_iff_eq,beq_eq_false_iff_ne,ne_eq,bne_iff_ne,bne_eq_false_iff_eq] at *);first|(simp [go_sem,↓iteOmega,zlx, *]<;>first|omega|((repeat' split)<;>first|rfl|omega|simp_all))|(exfalso;omega)
def zf2 (k:Int):Bool × Bool × Bool:=
 if k=1 then (false,true,true) else if k=2\/k=4\/k=11 then (false,true,false) else if k=3\/k=5 then (false,false,true) else if k=6 then (true,true,false) else if k=7 then (true,false,true) else if k=8\/k=9\/k=12 then (true,true,true) else (false,false,false)
theorem zn6 (k:Int) (w:World)  :
  Calls prog 131 #[.int .i64 k] w fun e w'=>e=.returned (.tuple #[.bool (zf2 k).1,.bool (zf2 k).2.1,.bool (zf2 k).2.2])/\w=w':=by
 all_goals
  go_enter func131,ntmps131
  go_wp2_with fail
  all_goals
   go_ret3
   refine ⟨?_,rfl⟩
   (try simp only [beq_iff_eq,beq_eq_false_iff_ne,ne_eq,bne_iff_ne,bne_eq_false_iff_eq] at *);first|(simp [go_sem,↓iteOmega,zf2, *]<;>first|omega|((repeat' split)<;>first|rfl|omega|simp_all))|(exfalso;omega)
def zg6 (d:SDMA):Bool:=
 decide (0<d.left)
theorem zgi (d:SDMA) (w:World)  :
  Calls prog 55 #[.agg d.cells] w fun e w'=>e=.returned (.bool (zg6 d))/\Below w.heap.size w w':=by
 all_goals
  go_enter func55,ntmps55
  go_wp2_with fail
  all_goals
   go_ret
   refine ⟨?_,by (repeat' (first|(with_reducible exact Below.refl _ _)|(with_reducible refine zae ?_ ?_)|(with_reducible refine Below.alloc ?_ ?_ _)|(with_reducible refine Below.drew ?_)|(with_reducible refine zaf ‹_› ?_ ?_)|((try simp only [World.size_alloc,size_setBlk,World.size_drew]);omega)))⟩
   (try simp only [beq_iff_eq,beq_eq_false_iff_ne,ne_eq,bne_iff_ne,bne_eq_false_iff_eq] at *);first|(simp [go_sem,↓iteOmega,zg6, *]<;>first|omega|((repeat' split)<;>first|rfl|omega|simp_all))|(exfalso;omega)
def zaj (c:SCore):Int:=
 if c.next<1\/9<c.next then 1 else c.next
theorem zbe (c:SCore) (w:World)  :
  Calls prog 50 #[.agg c.cells] w fun e w'=>e=.returned (.int .i64 (zaj c))/\Below w.heap.size w w':=by
 all_goals
  go_enter func50,ntmps50
  go_wp2_with fail
  all_goals
   go_ret
   refine ⟨?_,by (repeat' (first|(with_reducible exact Below.refl _ _)|(with_reducible refine zae ?_ ?_)|(with_reducible refine Below.alloc ?_ ?_ _)|(with_reducible refine Below.drew ?_)|(with_reducible refine zaf ‹_› ?_ ?_)|((try simp only [World.size_alloc,size_setBlk,World.size_drew]);omega)))⟩
   (try simp only [beq_iff_eq,beq_eq_false_iff_ne,ne_eq,bne_iff_ne,bne_eq_false_iff_eq] at *);first|(simp [go_sem,↓iteOmega,zaj, *]<;>first|omega|((repeat' split)<;>first|rfl|omega|simp_all))|(exfalso;omega)
def zfb (k:Int):Bool:=
 k != 10&&k != 11&&k != 12
theorem ze0 (k:Int) (w:World)  :
  Calls prog 71 #[.int .i64 k] w fun e w'=>e=.returned (.bool (zfb k))/\w=w':=by
 all_goals
  go_enter func71,ntmps71
  go_wp2_with fail
  all_goals
   go_ret
   refine ⟨?_,rfl⟩
   (try simp only [beq_iff_eq,beq_eq_false_iff_ne,ne_eq,bne_iff_ne,bne_eq_false_iff_eq] at *);first|(simp [go_sem,↓iteOmega,zfb, *]<;>first|omega|((repeat' split)<;>first|rfl|omega|simp_all))|(exfalso;omega)
def zdr (s:Int) (h:Bool):Int:=
 if h then 8 else if s=0 then 9 else 1
theorem zi6 (s:Int) (h:Bool) (w:World)  :
  Calls prog 76 #[.int .i64 s,.bool h] w fun e w'=>e=.returned (.int .i64 (zdr s h))/\w=w':=by
 all_goals
  go_enter func76,ntmps76
  go_wp2_with fail
  all_goals
   go_ret
   refine ⟨?_,rfl⟩
   (try simp only [beq_iff_eq,beq_eq_false_iff_ne,ne_eq,bne_iff_ne,bne_eq_false_iff_eq] at *);first|(simp [go_sem,↓iteOmega,zdr, *]<;>first|omega|((repeat' split)<;>first|rfl|omega|simp_all))|(exfalso;omega)
def zik (c:SCore) (h:Bool):Int:=
 if h then 8 else if c.cpu.halted&&c.source==0 then 9 else 1
theorem zki (c:SCore) (h:Bool) (w:World)  :
  Calls prog 74 #[.agg c.cells,.bool h] w fun e w'=>e=.returned (.int .i64 (zik c h))/\Below w.heap.size w w':=by
 all_goals
  go_enter func74,ntmps74
  go_wp2_with fail
  all_goals
   go_ret
   refine ⟨?_,by (repeat' (first|(with_reducible exact Below.refl _ _)|(with_reducible refine zae ?_ ?_)|(with_reducible refine Below.alloc ?_ ?_ _)|(with_reducible refine Below.drew ?_)|(with_reducible refine zaf ‹_› ?_ ?_)|((try simp only [World.size_alloc,size_setBlk,World.size_drew]);omega)))⟩
   (try simp only [beq_iff_eq,beq_eq_false_iff_ne,ne_eq,bne_iff_ne,bne_eq_false_iff_eq] at *);first|(simp [go_sem,↓iteOmega,zik, *]<;>first|omega|((repeat' split)<;>first|rfl|omega|simp_all))|(exfalso;omega)
def accM (k:Int):Bool:=
 k==1||k==2||k==3||k==4||k==5
theorem zf0 (k:Int) (w:World)  :
  Calls prog 81 #[.int .i64 k] w fun e w'=>e=.returned (.bool (accM k))/\w=w':=by
 all_goals
  go_enter func81,ntmps81
  go_wp2_with fail
  all_goals
   go_ret
   refine ⟨?_,rfl⟩
   (try simp only [beq_iff_eq,beq_eq_false_iff_ne,ne_eq,bne_iff_ne,bne_eq_false_iff_eq] at *);first|(simp [go_sem,↓iteOmega,accM, *]<;>first|omega|((repeat' split)<;>first|rfl|omega|simp_all))|(exfalso;omega)
def zdo (s:Int):Bool:=
 decide (1<=s)&&decide (s<=4)
theorem zd6 (s:Int) (w:World)  :
  Calls prog 120 #[.int .i64 s] w fun e w'=>e=.returned (.bool (zdo s))/\w=w':=by
 all_goals
  go_enter func120,ntmps120
  go_wp2_with fail
  all_goals
   go_ret
   refine ⟨?_,rfl⟩
   (try simp only [beq_iff_eq,beq_eq_false_iff_ne,ne_eq,bne_iff_ne,bne_eq_false_iff_eq] at *);first|(simp [go_sem,↓iteOmega,zdo, *]<;>first|omega|((repeat' split)<;>first|rfl|omega|simp_all))|(exfalso;omega)
def zh5 (s:Int):Bool:=
 decide (1<=s)&&decide (s<=7)
theorem zot (s:Int) (w:World)  :
  Calls prog 106 #[.int .i64 s] w fun e w'=>e=.returned (.bool (zh5 s))/\w=w':=by
 all_goals
  go_enter func106,ntmps106
  go_wp2_with fail
  all_goals
   go_ret
   refine ⟨?_,rfl⟩
   (try simp only [beq_iff_eq,beq_eq_false_iff_ne,ne_eq,bne_iff_ne,bne_eq_false_iff_eq] at *);first|(simp [go_sem,↓iteOmega,zh5, *]<;>first|omega|((repeat' split)<;>first|rfl|omega|simp_all))|(exfalso;omega)
def zl7 (s:Int):Bool:=
 s==2||s==7||s==3
theorem zs9 (s:Int) (w:World)  :
  Calls prog 107 #[.int .i64 s] w fun e w'=>e=.returned (.bool (zl7 s))/\w=w':=by
 all_goals
  go_enter func107,ntmps107
  go_wp2_with fail
  all_goals
   go_ret
   refine ⟨?_,rfl⟩
   (try simp only [beq_iff_eq,beq_eq_false_iff_ne,ne_eq,bne_iff_ne,bne_eq_false_iff_eq] at *);first|(simp [go_sem,↓iteOmega,zl7, *]<;>first|omega|((repeat' split)<;>first|rfl|omega|simp_all))|(exfalso;omega)
end
section
open Go.RowKit
def nanW (x:Int):Bool:=
 false
theorem zv3 (x:Int) (w:World)  :
  Calls prog 134 #[.int .u16 x] w fun e w'=>e=.returned (.bool (nanW x))/\w=w':=by
 all_goals
  go_enter func134,ntmps134
  go_wp2_with fail
  all_goals
   go_ret
   refine ⟨?_,rfl⟩
   (try simp only [beq_iff_eq,beq_eq_false_iff_ne,ne_eq,bne_iff_ne,bne_eq_false_iff_eq] at *);first|(simp [go_sem,↓iteOmega,nanW, *]<;>first|omega|((repeat' split)<;>first|rfl|omega|simp_all))|(exfalso;omega)
def cmpW (x:Int) (y:Int):Int:=
 if x<y then -1 else if y<x then 1 else 0
theorem zqg (x:Int) (y:Int) (w:World)  :
  Calls prog 114 #[.int .u16 x,.int .u16 y] w fun e w'=>e=.returned (.int .i64 (cmpW x y))/\w=w':=by
 rcases (by omega:x<y\/y<x\/x=y) with h|h|rfl
 all_goals
  go_enter func114,ntmps114
  go_wp2_with (first|with_reducible refine Cpv (zv3 _ _) ?_)
  all_goals
   go_ret
   refine ⟨?_,rfl⟩
   (try simp only [beq_iff_eq,beq_eq_false_iff_ne,ne_eq,bne_iff_ne,bne_eq_false_iff_eq] at *);first|(simp [go_sem,↓iteOmega,cmpW, *]<;>first|omega|((repeat' split)<;>first|rfl|omega|simp_all))|(exfalso;omega)
def putF (c:SCell) (a:Int):Int:=
 cmpW c.at_ a
theorem zjl (c:SCell) (a:Int) (w:World)  :
  Calls prog 113 #[.agg c.cells,.int .u16 a] w fun e w'=>e=.returned (.int .i64 (putF c a))/\Below w.heap.size w w':=by
 all_goals
  go_enter func113,ntmps113
  go_wp2_with (first|with_reducible refine Cpv (zqg _ _ _) ?_)
  all_goals
   go_ret
   refine ⟨?_,bL⟩
   (try simp only [beq_iff_eq,beq_eq_false_iff_ne,ne_eq,bne_iff_ne,bne_eq_false_iff_eq] at *);first|(simp [go_sem,↓iteOmega,putF, *]<;>first|omega|((repeat' split)<;>first|rfl|omega|simp_all))|(exfalso;omega)
def zv1 (c:SCell) (d:SCell):Int:=
 cmpW c.at_ d.at_
theorem zte (c:SCell) (d:SCell) (w:World)  :
  Calls prog 118 #[.agg c.cells,.agg d.cells] w fun e w'=>e=.returned (.int .i64 (zv1 c d))/\Below w.heap.size w w':=by
 all_goals
  go_enter func118,ntmps118
  go_wp2_with (first|with_reducible refine Cpv (zqg _ _ _) ?_)
  all_goals
   go_ret
   refine ⟨?_,bL⟩
   (try simp only [beq_iff_eq,beq_eq_false_iff_ne,ne_eq,bne_iff_ne,bne_eq_false_iff_eq] at *);first|(simp [go_sem,↓iteOmega,zv1, *]<;>first|omega|((repeat' split)<;>first|rfl|omega|simp_all))|(exfalso;omega)
end
end Go.Proofs.YtlmbamdkklkliaaGreat
