/- Part of the proof that a law holds at every input. No conditions. -/
import Derived.Deep.DeepCutAuto
import Derived.Test.YtlmbamdkklkliaaGreatK09
namespace Go.Proofs.YtlmbamdkklkliaaGreat
set_option linter.unusedVariables false
set_option linter.unusedSimpArgs false
set_option maxRecDepth 100000
set_option maxHeartbeats 16000000
open Go.Proofs.Tryz
open Go.IntWalk (iteOmega)
section
open Go.RowKit
def z10 (f:Nat) (k:Int):Option Value:=match f with|106=>some (.bool (zh5 k))|107=>some (.bool (zl7 k))|15=>some (.bool (zem k))|51=>some (.bool (zd1 k))|132=>some (.int .u8 (zlx k))|131=>some (.tuple #[.bool (zf2 k).1,.bool (zf2 k).2.1,.bool (zf2 k).2.2])|_=>none
theorem zcu {f:Nat} {k:Int} {v:Value} {w:World} {K:Ending->World->Prop} (h:z10 f k=some v) (hK:K (.returned v) w):Calls prog f #[.int .i64 k] w K:=by
  unfold z10 at h
  split at h
  · cases h;exact Cpv (zot k w) hK
  · cases h;exact Cpv (zs9 k w) hK
  · cases h;exact Cpv (zff k w) hK
  · cases h;exact Cpv (zd9 k w) hK
  · cases h;exact Cpv (zn7 k w) hK
  · cases h;exact Cpv (zn6 k w) hK
  · cases h
theorem za9 (w:World) (d:Nat):(w.drewN d).drew=w.drewN (d+1):=rfl
theorem zah (w:World):w.drewN 0=w:=rfl
theorem zbq (w:World):w.drew=w.drewN (0+1):=rfl
def ze8 (p:SPins) (s:SPState):SPins:=
  { p with inte:=s.inte,wait:=s.state==7||s.state==9 }
def ze3 (p:SPins) (s:SPState):SPins:=
  if s.state=9 then { (ze8 p s) with addr:=s.pc } else (ze8 p s)
def zfe (p:SPins) (s:SPState):SPins:=
  if (s.state==1&&s.cycle.kind != 11&&s.cycle.kind != 12)=true then { (ze3 p s) with sync:=true,data:=zlx s.cycle.kind } else (ze3 p s)
def zfl (p:SPins) (s:SPState):SPins:=
  { (zfe p s) with dbin:=zl7 s.state&&zd1 s.cycle.kind }
def zfk (p:SPins) (s:SPState):SPins:=
  { (zfl p s) with wr:=(s.state==7||s.state==3)&&zem s.cycle.kind }
def pinE (p:SPins) (s:SPState):SPins:=zfk p s
theorem qP12 {p:Prop} (h:p:=by simp [go_sem,↓iteOmega,ze8,ze3,zfe,zfl,zfk, *]<;>(repeat' split)<;>(first|(simp_all [zb0,zb3];done))):p:=h
theorem pinE_any (p:SPins) (s:SPState) (w:World)  :
    Calls prog 109 #[.agg p.cells,.agg s.cells] w fun e w'=>e=.returned (.agg (pinE p s).cells)/\Below w.heap.size w w':=by
  go_enter func109,ntmps109
  go_upto_region 3 with (first|((with_reducible apply zcu);exact rfl))
  go_cut [] (fun  wx=>wx=(((w.alloc (.cells ((ze8 p s)).cells 76)).alloc (.cells (s).cells 167)).alloc (.cells (SPins.zero).cells 76)))
  case first=>
    go_wp2_with (first|((with_reducible apply zcu);exact rfl))
    all_goals (first|(go_region;all_goals (go_wp2_with (first|((with_reducible apply zcu);exact rfl))))|skip)
    all_goals (go_meet;(try simp only [beq_iff_eq,beq_eq_false_iff_ne,ne_eq,bne_iff_ne,bne_eq_false_iff_eq] at *);first|(simp [ze8,ze3,zfe,zfl,zfk, *];done)|(exfalso;omega)|(simp [go_sem,↓iteOmega,ze8,ze3,zfe,zfl,zfk, *];done)|((repeat' apply And.intro)<;>first|rfl|(simp [go_sem,↓iteOmega,ze8,ze3,zfe,zfl,zfk, *];done)|(exact qP12)))
  obtain rfl:=hcut
  go_upto_if 23 with (first|((with_reducible apply zcu);exact rfl))
  go_cut [] (fun  wx=>wx=(((w.alloc (.cells ((ze3 p s)).cells 76)).alloc (.cells (s).cells 167)).alloc (.cells (SPins.zero).cells 76)))
  case first=>
    go_wp2_with (first|((with_reducible apply zcu);exact rfl))
    all_goals (first|(go_region;all_goals (go_wp2_with (first|((with_reducible apply zcu);exact rfl))))|skip)
    all_goals (go_meet;(try simp only [beq_iff_eq,beq_eq_false_iff_ne,ne_eq,bne_iff_ne,bne_eq_false_iff_eq] at *);first|(simp [ze8,ze3,zfe,zfl,zfk, *];done)|(exfalso;omega)|(simp [go_sem,↓iteOmega,ze8,ze3,zfe,zfl,zfk, *];done)|((repeat' apply And.intro)<;>first|rfl|(simp [go_sem,↓iteOmega,ze8,ze3,zfe,zfl,zfk, *];done)|(exact qP12)))
  obtain rfl:=hcut
  go_upto_region 6 with (first|((with_reducible apply zcu);exact rfl))
  go_cut [5,37] (fun s5 s37 wx=>s5=.int .i64 s.cycle.kind/\s37=.bool (s.state==1&&s.cycle.kind != 11&&s.cycle.kind != 12)/\wx=(((w.alloc (.cells ((ze3 p s)).cells 76)).alloc (.cells (s).cells 167)).alloc (.cells (SPins.zero).cells 76)))
  case first=>
    go_wp2_with (first|((with_reducible apply zcu);exact rfl))
    all_goals (first|(go_region;all_goals (go_wp2_with (first|((with_reducible apply zcu);exact rfl))))|skip)
    all_goals (go_meet;(try simp only [beq_iff_eq,beq_eq_false_iff_ne,ne_eq,bne_iff_ne,bne_eq_false_iff_eq] at *);first|(simp [ze8,ze3,zfe,zfl,zfk, *];done)|(exfalso;omega)|(simp [go_sem,↓iteOmega,ze8,ze3,zfe,zfl,zfk, *];done)|((repeat' apply And.intro)<;>first|rfl|(simp [go_sem,↓iteOmega,ze8,ze3,zfe,zfl,zfk, *];done)|(exact qP12)))
  obtain ⟨rfl,rfl,rfl⟩:=hcut
  go_upto_if 37 with (first|((with_reducible apply zcu);exact rfl))
  go_cut [] (fun  wx=>wx=(((w.alloc (.cells ((zfe p s)).cells 76)).alloc (.cells (s).cells 167)).alloc (.cells (SPins.zero).cells 76)))
  case first=>
    go_wp2_with (first|((with_reducible apply zcu);exact rfl))
    all_goals (first|(go_region;all_goals (go_wp2_with (first|((with_reducible apply zcu);exact rfl))))|skip)
    all_goals (go_meet;(try simp only [beq_iff_eq,beq_eq_false_iff_ne,ne_eq,bne_iff_ne,bne_eq_false_iff_eq] at *);first|(simp [ze8,ze3,zfe,zfl,zfk, *];done)|(exfalso;omega)|(simp [go_sem,↓iteOmega,ze8,ze3,zfe,zfl,zfk, *];done)|((repeat' apply And.intro)<;>first|rfl|(simp [go_sem,↓iteOmega,ze8,ze3,zfe,zfl,zfk, *];done)|(exact qP12)))
  obtain rfl:=hcut
  go_upto_region 8 with (first|((with_reducible apply zcu);exact rfl))
  go_cut [] (fun  wx=>wx=(((w.alloc (.cells ((zfl p s)).cells 76)).alloc (.cells (s).cells 167)).alloc (.cells (SPins.zero).cells 76)))
  case first=>
    go_wp2_with (first|((with_reducible apply zcu);exact rfl))
    all_goals (first|(go_region;all_goals (go_wp2_with (first|((with_reducible apply zcu);exact rfl))))|skip)
    all_goals (go_meet;(try simp only [beq_iff_eq,beq_eq_false_iff_ne,ne_eq,bne_iff_ne,bne_eq_false_iff_eq] at *);first|(simp [ze8,ze3,zfe,zfl,zfk, *];done)|(exfalso;omega)|(simp [go_sem,↓iteOmega,ze8,ze3,zfe,zfl,zfk, *];done)|((repeat' apply And.intro)<;>first|rfl|(simp [go_sem,↓iteOmega,ze8,ze3,zfe,zfl,zfk, *];done)|(exact qP12)))
  obtain rfl:=hcut
  go_upto_region 9 with (first|((with_reducible apply zcu);exact rfl))
  go_cut [5] (fun s5 wx=>s5=.int .i64 s.cycle.kind/\wx=(((w.alloc (.cells ((zfk p s)).cells 76)).alloc (.cells (s).cells 167)).alloc (.cells (SPins.zero).cells 76)))
  case first=>
    go_wp2_with (first|((with_reducible apply zcu);exact rfl))
    all_goals (first|(go_region;all_goals (go_wp2_with (first|((with_reducible apply zcu);exact rfl))))|skip)
    all_goals (go_meet;(try simp only [beq_iff_eq,beq_eq_false_iff_ne,ne_eq,bne_iff_ne,bne_eq_false_iff_eq] at *);first|(simp [ze8,ze3,zfe,zfl,zfk, *];done)|(exfalso;omega)|(simp [go_sem,↓iteOmega,ze8,ze3,zfe,zfl,zfk, *];done)|((repeat' apply And.intro)<;>first|rfl|(simp [go_sem,↓iteOmega,ze8,ze3,zfe,zfl,zfk, *];done)|(exact qP12)))
  obtain ⟨rfl,rfl⟩:=hcut
  go_wp2_with (first|((with_reducible apply zcu);exact rfl))
  all_goals
   refine SPins.ret (pinE p s) rfl rfl ?_ rfl ⟨rfl,bL⟩
   all_goals (first|(simp [go_sem,↓iteOmega,pinE, *];done)|(simp only [beq_iff_eq,beq_eq_false_iff_ne,ne_eq] at *;simp [go_sem,↓iteOmega,pinE, *]))
def zdk (p:SPins) (s:SPState):SPins:=
  { p with sod:=s.sod,float:=p.float||s.state==9||s.state==10 }
def zdj (p:SPins) (s:SPState):SPins:=
  if zh5 s.state=true then { (zdk p s) with iom:=(zf2 s.cycle.kind).1,s1:=(zf2 s.cycle.kind).2.1,s0:=(zf2 s.cycle.kind).2.2 } else (zdk p s)
def zdi (p:SPins) (s:SPState):SPins:=
  if s.state=1 then { (zdj p s) with ale:=true,data:=s.cycle.at_%256 } else (zdj p s)
def zdm (p:SPins) (s:SPState):SPins:=
  if zl7 s.state=true then { (zdi p s) with inta:=s.cycle.kind==8||s.cycle.kind==9,rd:=zd1 s.cycle.kind && !(s.cycle.kind==8||s.cycle.kind==9),wr:=zem s.cycle.kind } else (zdi p s)
def pinL (p:SPins) (s:SPState):SPins:=zdm p s
theorem qP13 {p:Prop} (h:p:=by simp [go_sem,↓iteOmega,zdk,zdj,zdi,zdm, *]<;>(repeat' split)<;>(first|(simp_all [zb0,zb3];done))):p:=h
theorem zco (p:SPins) (s:SPState) (w:World) (h0:0<=s.cycle.at_) (h1:s.cycle.at_<=65535) :
    Calls prog 108 #[.agg p.cells,.agg s.cells] w fun e w'=>e=.returned (.agg (pinL p s).cells)/\Below w.heap.size w w':=by
  go_enter func108,ntmps108
  go_upto_region 3 with (first|((with_reducible apply zcu);exact rfl))
  go_cut [] (fun  wx=>∃ d,wx=World.drewN (((w.alloc (.cells ((zdk p s)).cells 76)).alloc (.cells (s).cells 167)).alloc (.cells (SPins.zero).cells 76)) d)
  case first=>
    go_wp2_with (first|((with_reducible apply zcu);exact rfl))
    all_goals (first|(go_region;all_goals (go_wp2_with (first|((with_reducible apply zcu);exact rfl))))|skip)
    all_goals (go_meet;(repeat' apply And.intro);all_goals (first|rfl|skip);all_goals (first|(refine ⟨0,?_⟩;first|rfl|((try simp only [za9,zbq]);(first|rfl|(simp [zdk,zdj,zdi,zdm,zah, *];done)|(exfalso;omega)|(simp [go_sem,↓iteOmega,zdk,zdj,zdi,zdm,zah, *];done)|(simp [go_sem,↓iteOmega,zdk,zdj,zdi,zdm,zah, *]<;>(repeat' split)<;>simp_all [zb0,zb3];done))))|(refine ⟨0+1,?_⟩;first|rfl|((try simp only [za9,zbq]);(first|rfl|(simp [zdk,zdj,zdi,zdm,zah, *];done)|(exfalso;omega)|(simp [go_sem,↓iteOmega,zdk,zdj,zdi,zdm,zah, *];done)|(simp [go_sem,↓iteOmega,zdk,zdj,zdi,zdm,zah, *]<;>(repeat' split)<;>simp_all [zb0,zb3];done))))|skip);all_goals (try simp only [beq_iff_eq,beq_eq_false_iff_ne,ne_eq,bne_iff_ne,bne_eq_false_iff_eq] at *);first|(simp [zdk,zdj,zdi,zdm, *];done)|(exfalso;omega)|(simp [go_sem,↓iteOmega,zdk,zdj,zdi,zdm, *];done)|((repeat' apply And.intro)<;>first|rfl|(simp [go_sem,↓iteOmega,zdk,zdj,zdi,zdm, *];done)|(exact qP13)))
  obtain ⟨d0,rfl⟩:=hcut
  go_upto_if 27 with (first|((with_reducible apply zcu);exact rfl))
  go_cut [5] (fun s5 wx=>s5=.int .i64 s.cycle.kind/\∃ d,wx=World.drewN (((w.alloc (.cells ((zdj p s)).cells 76)).alloc (.cells (s).cells 167)).alloc (.cells (SPins.zero).cells 76)) d)
  case first=>
    go_wp2_with (first|((with_reducible apply zcu);exact rfl))
    all_goals (first|(go_region;all_goals (go_wp2_with (first|((with_reducible apply zcu);exact rfl))))|skip)
    all_goals (go_meet;(repeat' apply And.intro);all_goals (first|rfl|skip);all_goals (first|(refine ⟨d0,?_⟩;first|rfl|((try simp only [za9,zbq]);(first|rfl|(simp [zdk,zdj,zdi,zdm,zah, *];done)|(exfalso;omega)|(simp [go_sem,↓iteOmega,zdk,zdj,zdi,zdm,zah, *];done)|(simp [go_sem,↓iteOmega,zdk,zdj,zdi,zdm,zah, *]<;>(repeat' split)<;>simp_all [zb0,zb3];done))))|(refine ⟨d0+1,?_⟩;first|rfl|((try simp only [za9,zbq]);(first|rfl|(simp [zdk,zdj,zdi,zdm,zah, *];done)|(exfalso;omega)|(simp [go_sem,↓iteOmega,zdk,zdj,zdi,zdm,zah, *];done)|(simp [go_sem,↓iteOmega,zdk,zdj,zdi,zdm,zah, *]<;>(repeat' split)<;>simp_all [zb0,zb3];done))))|skip);all_goals (try simp only [beq_iff_eq,beq_eq_false_iff_ne,ne_eq,bne_iff_ne,bne_eq_false_iff_eq] at *);first|(simp [zdk,zdj,zdi,zdm, *];done)|(exfalso;omega)|(simp [go_sem,↓iteOmega,zdk,zdj,zdi,zdm, *];done)|((repeat' apply And.intro)<;>first|rfl|(simp [go_sem,↓iteOmega,zdk,zdj,zdi,zdm, *];done)|(exact qP13)))
  obtain ⟨rfl,d1,rfl⟩:=hcut
  go_upto_if 39 with (first|((with_reducible apply zcu);exact rfl))
  go_cut [5] (fun s5 wx=>s5=.int .i64 s.cycle.kind/\∃ d,wx=World.drewN (((w.alloc (.cells ((zdi p s)).cells 76)).alloc (.cells (s).cells 167)).alloc (.cells (SPins.zero).cells 76)) d)
  case first=>
    go_wp2_with (first|((with_reducible apply zcu);exact rfl))
    all_goals (first|(go_region;all_goals (go_wp2_with (first|((with_reducible apply zcu);exact rfl))))|skip)
    all_goals (go_meet;(repeat' apply And.intro);all_goals (first|rfl|skip);all_goals (first|(refine ⟨d1,?_⟩;first|rfl|((try simp only [za9,zbq]);(first|rfl|(simp [zdk,zdj,zdi,zdm,zah, *];done)|(exfalso;omega)|(simp [go_sem,↓iteOmega,zdk,zdj,zdi,zdm,zah, *];done)|(simp [go_sem,↓iteOmega,zdk,zdj,zdi,zdm,zah, *]<;>(repeat' split)<;>simp_all [zb0,zb3];done))))|(refine ⟨d1+1,?_⟩;first|rfl|((try simp only [za9,zbq]);(first|rfl|(simp [zdk,zdj,zdi,zdm,zah, *];done)|(exfalso;omega)|(simp [go_sem,↓iteOmega,zdk,zdj,zdi,zdm,zah, *];done)|(simp [go_sem,↓iteOmega,zdk,zdj,zdi,zdm,zah, *]<;>(repeat' split)<;>simp_all [zb0,zb3];done))))|skip);all_goals (try simp only [beq_iff_eq,beq_eq_false_iff_ne,ne_eq,bne_iff_ne,bne_eq_false_iff_eq] at *);first|(simp [zdk,zdj,zdi,zdm, *];done)|(exfalso;omega)|(simp [go_sem,↓iteOmega,zdk,zdj,zdi,zdm, *];done)|((repeat' apply And.intro)<;>first|rfl|(simp [go_sem,↓iteOmega,zdk,zdj,zdi,zdm, *];done)|(exact qP13)))
  obtain ⟨rfl,d2,rfl⟩:=hcut
  go_upto_if 48 with (first|((with_reducible apply zcu);exact rfl))
  go_cut [5] (fun s5 wx=>s5=.int .i64 s.cycle.kind/\∃ d,wx=World.drewN (((w.alloc (.cells ((zdm p s)).cells 76)).alloc (.cells (s).cells 167)).alloc (.cells (SPins.zero).cells 76)) d)
  case first=>
    go_wp2_with (first|((with_reducible apply zcu);exact rfl))
    all_goals (first|(go_region;all_goals (go_wp2_with (first|((with_reducible apply zcu);exact rfl))))|skip)
    all_goals (go_meet;(repeat' apply And.intro);all_goals (first|rfl|skip);all_goals (first|(refine ⟨d2,?_⟩;first|rfl|((try simp only [za9,zbq]);(first|rfl|(simp [zdk,zdj,zdi,zdm,zah, *];done)|(exfalso;omega)|(simp [go_sem,↓iteOmega,zdk,zdj,zdi,zdm,zah, *];done)|(simp [go_sem,↓iteOmega,zdk,zdj,zdi,zdm,zah, *]<;>(repeat' split)<;>simp_all [zb0,zb3];done))))|(refine ⟨d2+1,?_⟩;first|rfl|((try simp only [za9,zbq]);(first|rfl|(simp [zdk,zdj,zdi,zdm,zah, *];done)|(exfalso;omega)|(simp [go_sem,↓iteOmega,zdk,zdj,zdi,zdm,zah, *];done)|(simp [go_sem,↓iteOmega,zdk,zdj,zdi,zdm,zah, *]<;>(repeat' split)<;>simp_all [zb0,zb3];done))))|skip);all_goals (try simp only [beq_iff_eq,beq_eq_false_iff_ne,ne_eq,bne_iff_ne,bne_eq_false_iff_eq] at *);first|(simp [zdk,zdj,zdi,zdm, *];done)|(exfalso;omega)|(simp [go_sem,↓iteOmega,zdk,zdj,zdi,zdm, *];done)|((repeat' apply And.intro)<;>first|rfl|(simp [go_sem,↓iteOmega,zdk,zdj,zdi,zdm, *];done)|(exact qP13)))
  obtain ⟨rfl,d3,rfl⟩:=hcut
  go_wp2_with (first|((with_reducible apply zcu);exact rfl))
  all_goals
   refine SPins.ret (pinL p s) rfl rfl ?_ rfl ⟨rfl,bL⟩
   all_goals (first|(simp [go_sem,↓iteOmega,pinL, *];done)|(simp only [beq_iff_eq,beq_eq_false_iff_ne,ne_eq] at *;simp [go_sem,↓iteOmega,pinL, *]))
def za6 (c:Int) (s:SPState):SPins:=
  { SPins.zero with state:=s.state }
def za4 (c:Int) (s:SPState):SPins:=
  if zh5 s.state=true then { (za6 c s) with addr:=s.cycle.at_ } else (za6 c s)
def za3 (c:Int) (s:SPState):SPins:=
  if (zl7 s.state&&zem s.cycle.kind)=true then { (za4 c s) with data:=s.cycle.data } else (za4 c s)
def za5 (c:Int) (s:SPState):SPins:=
  if (s.state==3&&zd1 s.cycle.kind)=true then { (za3 c s) with data:=s.data } else (za3 c s)
def zaz (c:Int) (s:SPState):SPins:=
  if s.state=8 then { (za5 c s) with float:=true,hlda:=true } else (za5 c s)
def zfj (c:Int) (s:SPState):SPins:=if c=2 then pinL (zaz c s) s else pinE (zaz c s) s
theorem qP11 {p:Prop} (h:p:=by simp [go_sem,↓iteOmega,za6,za4,za3,za5,zaz, *]<;>(repeat' split)<;>(first|(simp_all [zb0,zb3];done))):p:=h
theorem zm7 (c:Int) (s:SPState) (w:World) (h0:0<=s.cycle.at_) (h1:s.cycle.at_<=65535) :
    Calls prog 87 #[.int .i64 c,.agg s.cells] w fun e w'=>e=.returned (.agg (zfj c s).cells)/\Below w.heap.size w w':=by
  go_enter func87,ntmps87
  go_upto_region 1 with (first|((with_reducible apply zcu);exact rfl)|(go_at_call 108;with_reducible refine Cbv (zco _ _ _ h0 h1) ?_;intro w' hB hb1 hb2 hb3 hs;(try simp only [szs] at hs hb1 hb2 hb3))|(go_at_call 109;with_reducible refine Cbv (pinE_any _ _ _) ?_;intro w' hB hb1 hb2 hb3 hs;(try simp only [szs] at hs hb1 hb2 hb3)))
  go_cut [5] (fun s5 wx=>s5=.pointer (some ⟨w.heap.size+1+1,0,none⟩)/\∃ d,wx=World.drewN (((w.alloc (.cells (s).cells 167)).alloc (.cells (SPins.zero).cells 76)).alloc (.cells ((za6 c s)).cells 76)) d)
  case first=>
    go_wp2_with (first|((with_reducible apply zcu);exact rfl)|(go_at_call 108;with_reducible refine Cbv (zco _ _ _ h0 h1) ?_;intro w' hB hb1 hb2 hb3 hs;(try simp only [szs] at hs hb1 hb2 hb3))|(go_at_call 109;with_reducible refine Cbv (pinE_any _ _ _) ?_;intro w' hB hb1 hb2 hb3 hs;(try simp only [szs] at hs hb1 hb2 hb3)))
    all_goals (first|(go_region;all_goals (go_wp2_with (first|((with_reducible apply zcu);exact rfl)|(go_at_call 108;with_reducible refine Cbv (zco _ _ _ h0 h1) ?_;intro w' hB hb1 hb2 hb3 hs;(try simp only [szs] at hs hb1 hb2 hb3))|(go_at_call 109;with_reducible refine Cbv (pinE_any _ _ _) ?_;intro w' hB hb1 hb2 hb3 hs;(try simp only [szs] at hs hb1 hb2 hb3)))))|skip)
    all_goals (go_meet;(repeat' apply And.intro);all_goals (first|rfl|skip);all_goals (first|(refine ⟨0,?_⟩;first|rfl|((try simp only [za9,zbq]);(first|rfl|(simp [za6,za4,za3,za5,zaz,zah, *];done)|(exfalso;omega)|(simp [go_sem,↓iteOmega,za6,za4,za3,za5,zaz,zah, *];done)|(simp [go_sem,↓iteOmega,za6,za4,za3,za5,zaz,zah, *]<;>(repeat' split)<;>simp_all [zb0,zb3];done))))|(refine ⟨0+1,?_⟩;first|rfl|((try simp only [za9,zbq]);(first|rfl|(simp [za6,za4,za3,za5,zaz,zah, *];done)|(exfalso;omega)|(simp [go_sem,↓iteOmega,za6,za4,za3,za5,zaz,zah, *];done)|(simp [go_sem,↓iteOmega,za6,za4,za3,za5,zaz,zah, *]<;>(repeat' split)<;>simp_all [zb0,zb3];done))))|skip);all_goals (try simp only [beq_iff_eq,beq_eq_false_iff_ne,ne_eq,bne_iff_ne,bne_eq_false_iff_eq] at *);first|(simp [za6,za4,za3,za5,zaz, *];done)|(exfalso;omega)|(simp [go_sem,↓iteOmega,za6,za4,za3,za5,zaz, *];done)|((repeat' apply And.intro)<;>first|rfl|(simp [go_sem,↓iteOmega,za6,za4,za3,za5,zaz, *];done)|(exact qP11)))
  obtain ⟨rfl,d0,rfl⟩:=hcut
  go_upto_if 11 with (first|((with_reducible apply zcu);exact rfl)|(go_at_call 108;with_reducible refine Cbv (zco _ _ _ h0 h1) ?_;intro w' hB hb1 hb2 hb3 hs;(try simp only [szs] at hs hb1 hb2 hb3))|(go_at_call 109;with_reducible refine Cbv (pinE_any _ _ _) ?_;intro w' hB hb1 hb2 hb3 hs;(try simp only [szs] at hs hb1 hb2 hb3)))
  go_cut [] (fun  wx=>∃ d,wx=World.drewN (((w.alloc (.cells (s).cells 167)).alloc (.cells (SPins.zero).cells 76)).alloc (.cells ((za4 c s)).cells 76)) d)
  case first=>
    go_wp2_with (first|((with_reducible apply zcu);exact rfl)|(go_at_call 108;with_reducible refine Cbv (zco _ _ _ h0 h1) ?_;intro w' hB hb1 hb2 hb3 hs;(try simp only [szs] at hs hb1 hb2 hb3))|(go_at_call 109;with_reducible refine Cbv (pinE_any _ _ _) ?_;intro w' hB hb1 hb2 hb3 hs;(try simp only [szs] at hs hb1 hb2 hb3)))
    all_goals (first|(go_region;all_goals (go_wp2_with (first|((with_reducible apply zcu);exact rfl)|(go_at_call 108;with_reducible refine Cbv (zco _ _ _ h0 h1) ?_;intro w' hB hb1 hb2 hb3 hs;(try simp only [szs] at hs hb1 hb2 hb3))|(go_at_call 109;with_reducible refine Cbv (pinE_any _ _ _) ?_;intro w' hB hb1 hb2 hb3 hs;(try simp only [szs] at hs hb1 hb2 hb3)))))|skip)
    all_goals (go_meet;(repeat' apply And.intro);all_goals (first|rfl|skip);all_goals (first|(refine ⟨d0,?_⟩;first|rfl|((try simp only [za9,zbq]);(first|rfl|(simp [za6,za4,za3,za5,zaz,zah, *];done)|(exfalso;omega)|(simp [go_sem,↓iteOmega,za6,za4,za3,za5,zaz,zah, *];done)|(simp [go_sem,↓iteOmega,za6,za4,za3,za5,zaz,zah, *]<;>(repeat' split)<;>simp_all [zb0,zb3];done))))|(refine ⟨d0+1,?_⟩;first|rfl|((try simp only [za9,zbq]);(first|rfl|(simp [za6,za4,za3,za5,zaz,zah, *];done)|(exfalso;omega)|(simp [go_sem,↓iteOmega,za6,za4,za3,za5,zaz,zah, *];done)|(simp [go_sem,↓iteOmega,za6,za4,za3,za5,zaz,zah, *]<;>(repeat' split)<;>simp_all [zb0,zb3];done))))|skip);all_goals (try simp only [beq_iff_eq,beq_eq_false_iff_ne,ne_eq,bne_iff_ne,bne_eq_false_iff_eq] at *);first|(simp [za6,za4,za3,za5,zaz, *];done)|(exfalso;omega)|(simp [go_sem,↓iteOmega,za6,za4,za3,za5,zaz, *];done)|((repeat' apply And.intro)<;>first|rfl|(simp [go_sem,↓iteOmega,za6,za4,za3,za5,zaz, *];done)|(exact qP11)))
  obtain ⟨d1,rfl⟩:=hcut
  go_upto_region 4 with (first|((with_reducible apply zcu);exact rfl)|(go_at_call 108;with_reducible refine Cbv (zco _ _ _ h0 h1) ?_;intro w' hB hb1 hb2 hb3 hs;(try simp only [szs] at hs hb1 hb2 hb3))|(go_at_call 109;with_reducible refine Cbv (pinE_any _ _ _) ?_;intro w' hB hb1 hb2 hb3 hs;(try simp only [szs] at hs hb1 hb2 hb3)))
  go_cut [24] (fun s24 wx=>s24=.bool (zl7 s.state&&zem s.cycle.kind)/\∃ d,wx=World.drewN (((w.alloc (.cells (s).cells 167)).alloc (.cells (SPins.zero).cells 76)).alloc (.cells ((za4 c s)).cells 76)) d)
  case first=>
    go_wp2_with (first|((with_reducible apply zcu);exact rfl)|(go_at_call 108;with_reducible refine Cbv (zco _ _ _ h0 h1) ?_;intro w' hB hb1 hb2 hb3 hs;(try simp only [szs] at hs hb1 hb2 hb3))|(go_at_call 109;with_reducible refine Cbv (pinE_any _ _ _) ?_;intro w' hB hb1 hb2 hb3 hs;(try simp only [szs] at hs hb1 hb2 hb3)))
    all_goals (first|(go_region;all_goals (go_wp2_with (first|((with_reducible apply zcu);exact rfl)|(go_at_call 108;with_reducible refine Cbv (zco _ _ _ h0 h1) ?_;intro w' hB hb1 hb2 hb3 hs;(try simp only [szs] at hs hb1 hb2 hb3))|(go_at_call 109;with_reducible refine Cbv (pinE_any _ _ _) ?_;intro w' hB hb1 hb2 hb3 hs;(try simp only [szs] at hs hb1 hb2 hb3)))))|skip)
    all_goals (go_meet;(repeat' apply And.intro);all_goals (first|rfl|skip);all_goals (first|(refine ⟨d1,?_⟩;first|rfl|((try simp only [za9,zbq]);(first|rfl|(simp [za6,za4,za3,za5,zaz,zah, *];done)|(exfalso;omega)|(simp [go_sem,↓iteOmega,za6,za4,za3,za5,zaz,zah, *];done)|(simp [go_sem,↓iteOmega,za6,za4,za3,za5,zaz,zah, *]<;>(repeat' split)<;>simp_all [zb0,zb3];done))))|(refine ⟨d1+1,?_⟩;first|rfl|((try simp only [za9,zbq]);(first|rfl|(simp [za6,za4,za3,za5,zaz,zah, *];done)|(exfalso;omega)|(simp [go_sem,↓iteOmega,za6,za4,za3,za5,zaz,zah, *];done)|(simp [go_sem,↓iteOmega,za6,za4,za3,za5,zaz,zah, *]<;>(repeat' split)<;>simp_all [zb0,zb3];done))))|skip);all_goals (try simp only [beq_iff_eq,beq_eq_false_iff_ne,ne_eq,bne_iff_ne,bne_eq_false_iff_eq] at *);first|(simp [za6,za4,za3,za5,zaz, *];done)|(exfalso;omega)|(simp [go_sem,↓iteOmega,za6,za4,za3,za5,zaz, *];done)|((repeat' apply And.intro)<;>first|rfl|(simp [go_sem,↓iteOmega,za6,za4,za3,za5,zaz, *];done)|(exact qP11)))
  obtain ⟨rfl,d2,rfl⟩:=hcut
  go_upto_if 24 with (first|((with_reducible apply zcu);exact rfl)|(go_at_call 108;with_reducible refine Cbv (zco _ _ _ h0 h1) ?_;intro w' hB hb1 hb2 hb3 hs;(try simp only [szs] at hs hb1 hb2 hb3))|(go_at_call 109;with_reducible refine Cbv (pinE_any _ _ _) ?_;intro w' hB hb1 hb2 hb3 hs;(try simp only [szs] at hs hb1 hb2 hb3)))
  go_cut [] (fun  wx=>∃ d,wx=World.drewN (((w.alloc (.cells (s).cells 167)).alloc (.cells (SPins.zero).cells 76)).alloc (.cells ((za3 c s)).cells 76)) d)
  case first=>
    go_wp2_with (first|((with_reducible apply zcu);exact rfl)|(go_at_call 108;with_reducible refine Cbv (zco _ _ _ h0 h1) ?_;intro w' hB hb1 hb2 hb3 hs;(try simp only [szs] at hs hb1 hb2 hb3))|(go_at_call 109;with_reducible refine Cbv (pinE_any _ _ _) ?_;intro w' hB hb1 hb2 hb3 hs;(try simp only [szs] at hs hb1 hb2 hb3)))
    all_goals (first|(go_region;all_goals (go_wp2_with (first|((with_reducible apply zcu);exact rfl)|(go_at_call 108;with_reducible refine Cbv (zco _ _ _ h0 h1) ?_;intro w' hB hb1 hb2 hb3 hs;(try simp only [szs] at hs hb1 hb2 hb3))|(go_at_call 109;with_reducible refine Cbv (pinE_any _ _ _) ?_;intro w' hB hb1 hb2 hb3 hs;(try simp only [szs] at hs hb1 hb2 hb3)))))|skip)
    all_goals (go_meet;(repeat' apply And.intro);all_goals (first|rfl|skip);all_goals (first|(refine ⟨d2,?_⟩;first|rfl|((try simp only [za9,zbq]);(first|rfl|(simp [za6,za4,za3,za5,zaz,zah, *];done)|(exfalso;omega)|(simp [go_sem,↓iteOmega,za6,za4,za3,za5,zaz,zah, *];done)|(simp [go_sem,↓iteOmega,za6,za4,za3,za5,zaz,zah, *]<;>(repeat' split)<;>simp_all [zb0,zb3];done))))|(refine ⟨d2+1,?_⟩;first|rfl|((try simp only [za9,zbq]);(first|rfl|(simp [za6,za4,za3,za5,zaz,zah, *];done)|(exfalso;omega)|(simp [go_sem,↓iteOmega,za6,za4,za3,za5,zaz,zah, *];done)|(simp [go_sem,↓iteOmega,za6,za4,za3,za5,zaz,zah, *]<;>(repeat' split)<;>simp_all [zb0,zb3];done))))|skip);all_goals (try simp only [beq_iff_eq,beq_eq_false_iff_ne,ne_eq,bne_iff_ne,bne_eq_false_iff_eq] at *);first|(simp [za6,za4,za3,za5,zaz, *];done)|(exfalso;omega)|(simp [go_sem,↓iteOmega,za6,za4,za3,za5,zaz, *];done)|((repeat' apply And.intro)<;>first|rfl|(simp [go_sem,↓iteOmega,za6,za4,za3,za5,zaz, *];done)|(exact qP11)))
  obtain ⟨d3,rfl⟩:=hcut
  go_upto_region 6 with (first|((with_reducible apply zcu);exact rfl)|(go_at_call 108;with_reducible refine Cbv (zco _ _ _ h0 h1) ?_;intro w' hB hb1 hb2 hb3 hs;(try simp only [szs] at hs hb1 hb2 hb3))|(go_at_call 109;with_reducible refine Cbv (pinE_any _ _ _) ?_;intro w' hB hb1 hb2 hb3 hs;(try simp only [szs] at hs hb1 hb2 hb3)))
  go_cut [37] (fun s37 wx=>s37=.bool (s.state==3&&zd1 s.cycle.kind)/\∃ d,wx=World.drewN (((w.alloc (.cells (s).cells 167)).alloc (.cells (SPins.zero).cells 76)).alloc (.cells ((za3 c s)).cells 76)) d)
  case first=>
    go_wp2_with (first|((with_reducible apply zcu);exact rfl)|(go_at_call 108;with_reducible refine Cbv (zco _ _ _ h0 h1) ?_;intro w' hB hb1 hb2 hb3 hs;(try simp only [szs] at hs hb1 hb2 hb3))|(go_at_call 109;with_reducible refine Cbv (pinE_any _ _ _) ?_;intro w' hB hb1 hb2 hb3 hs;(try simp only [szs] at hs hb1 hb2 hb3)))
    all_goals (first|(go_region;all_goals (go_wp2_with (first|((with_reducible apply zcu);exact rfl)|(go_at_call 108;with_reducible refine Cbv (zco _ _ _ h0 h1) ?_;intro w' hB hb1 hb2 hb3 hs;(try simp only [szs] at hs hb1 hb2 hb3))|(go_at_call 109;with_reducible refine Cbv (pinE_any _ _ _) ?_;intro w' hB hb1 hb2 hb3 hs;(try simp only [szs] at hs hb1 hb2 hb3)))))|skip)
    all_goals (go_meet;(repeat' apply And.intro);all_goals (first|rfl|skip);all_goals (first|(refine ⟨d3,?_⟩;first|rfl|((try simp only [za9,zbq]);(first|rfl|(simp [za6,za4,za3,za5,zaz,zah, *];done)|(exfalso;omega)|(simp [go_sem,↓iteOmega,za6,za4,za3,za5,zaz,zah, *];done)|(simp [go_sem,↓iteOmega,za6,za4,za3,za5,zaz,zah, *]<;>(repeat' split)<;>simp_all [zb0,zb3];done))))|(refine ⟨d3+1,?_⟩;first|rfl|((try simp only [za9,zbq]);(first|rfl|(simp [za6,za4,za3,za5,zaz,zah, *];done)|(exfalso;omega)|(simp [go_sem,↓iteOmega,za6,za4,za3,za5,zaz,zah, *];done)|(simp [go_sem,↓iteOmega,za6,za4,za3,za5,zaz,zah, *]<;>(repeat' split)<;>simp_all [zb0,zb3];done))))|skip);all_goals (try simp only [beq_iff_eq,beq_eq_false_iff_ne,ne_eq,bne_iff_ne,bne_eq_false_iff_eq] at *);first|(simp [za6,za4,za3,za5,zaz, *];done)|(exfalso;omega)|(simp [go_sem,↓iteOmega,za6,za4,za3,za5,zaz, *];done)|((repeat' apply And.intro)<;>first|rfl|(simp [go_sem,↓iteOmega,za6,za4,za3,za5,zaz, *];done)|(exact qP11)))
  obtain ⟨rfl,d4,rfl⟩:=hcut
  go_upto_if 37 with (first|((with_reducible apply zcu);exact rfl)|(go_at_call 108;with_reducible refine Cbv (zco _ _ _ h0 h1) ?_;intro w' hB hb1 hb2 hb3 hs;(try simp only [szs] at hs hb1 hb2 hb3))|(go_at_call 109;with_reducible refine Cbv (pinE_any _ _ _) ?_;intro w' hB hb1 hb2 hb3 hs;(try simp only [szs] at hs hb1 hb2 hb3)))
  go_cut [] (fun  wx=>∃ d,wx=World.drewN (((w.alloc (.cells (s).cells 167)).alloc (.cells (SPins.zero).cells 76)).alloc (.cells ((za5 c s)).cells 76)) d)
  case first=>
    go_wp2_with (first|((with_reducible apply zcu);exact rfl)|(go_at_call 108;with_reducible refine Cbv (zco _ _ _ h0 h1) ?_;intro w' hB hb1 hb2 hb3 hs;(try simp only [szs] at hs hb1 hb2 hb3))|(go_at_call 109;with_reducible refine Cbv (pinE_any _ _ _) ?_;intro w' hB hb1 hb2 hb3 hs;(try simp only [szs] at hs hb1 hb2 hb3)))
    all_goals (first|(go_region;all_goals (go_wp2_with (first|((with_reducible apply zcu);exact rfl)|(go_at_call 108;with_reducible refine Cbv (zco _ _ _ h0 h1) ?_;intro w' hB hb1 hb2 hb3 hs;(try simp only [szs] at hs hb1 hb2 hb3))|(go_at_call 109;with_reducible refine Cbv (pinE_any _ _ _) ?_;intro w' hB hb1 hb2 hb3 hs;(try simp only [szs] at hs hb1 hb2 hb3)))))|skip)
    all_goals (go_meet;(repeat' apply And.intro);all_goals (first|rfl|skip);all_goals (first|(refine ⟨d4,?_⟩;first|rfl|((try simp only [za9,zbq]);(first|rfl|(simp [za6,za4,za3,za5,zaz,zah, *];done)|(exfalso;omega)|(simp [go_sem,↓iteOmega,za6,za4,za3,za5,zaz,zah, *];done)|(simp [go_sem,↓iteOmega,za6,za4,za3,za5,zaz,zah, *]<;>(repeat' split)<;>simp_all [zb0,zb3];done))))|(refine ⟨d4+1,?_⟩;first|rfl|((try simp only [za9,zbq]);(first|rfl|(simp [za6,za4,za3,za5,zaz,zah, *];done)|(exfalso;omega)|(simp [go_sem,↓iteOmega,za6,za4,za3,za5,zaz,zah, *];done)|(simp [go_sem,↓iteOmega,za6,za4,za3,za5,zaz,zah, *]<;>(repeat' split)<;>simp_all [zb0,zb3];done))))|skip);all_goals (try simp only [beq_iff_eq,beq_eq_false_iff_ne,ne_eq,bne_iff_ne,bne_eq_false_iff_eq] at *);first|(simp [za6,za4,za3,za5,zaz, *];done)|(exfalso;omega)|(simp [go_sem,↓iteOmega,za6,za4,za3,za5,zaz, *];done)|((repeat' apply And.intro)<;>first|rfl|(simp [go_sem,↓iteOmega,za6,za4,za3,za5,zaz, *];done)|(exact qP11)))
  obtain ⟨d5,rfl⟩:=hcut
  go_upto_if 43 with (first|((with_reducible apply zcu);exact rfl)|(go_at_call 108;with_reducible refine Cbv (zco _ _ _ h0 h1) ?_;intro w' hB hb1 hb2 hb3 hs;(try simp only [szs] at hs hb1 hb2 hb3))|(go_at_call 109;with_reducible refine Cbv (pinE_any _ _ _) ?_;intro w' hB hb1 hb2 hb3 hs;(try simp only [szs] at hs hb1 hb2 hb3)))
  go_cut [] (fun  wx=>∃ d,wx=World.drewN (((w.alloc (.cells (s).cells 167)).alloc (.cells (SPins.zero).cells 76)).alloc (.cells ((zaz c s)).cells 76)) d)
  case first=>
    go_wp2_with (first|((with_reducible apply zcu);exact rfl)|(go_at_call 108;with_reducible refine Cbv (zco _ _ _ h0 h1) ?_;intro w' hB hb1 hb2 hb3 hs;(try simp only [szs] at hs hb1 hb2 hb3))|(go_at_call 109;with_reducible refine Cbv (pinE_any _ _ _) ?_;intro w' hB hb1 hb2 hb3 hs;(try simp only [szs] at hs hb1 hb2 hb3)))
    all_goals (first|(go_region;all_goals (go_wp2_with (first|((with_reducible apply zcu);exact rfl)|(go_at_call 108;with_reducible refine Cbv (zco _ _ _ h0 h1) ?_;intro w' hB hb1 hb2 hb3 hs;(try simp only [szs] at hs hb1 hb2 hb3))|(go_at_call 109;with_reducible refine Cbv (pinE_any _ _ _) ?_;intro w' hB hb1 hb2 hb3 hs;(try simp only [szs] at hs hb1 hb2 hb3)))))|skip)
    all_goals (go_meet;(repeat' apply And.intro);all_goals (first|rfl|skip);all_goals (first|(refine ⟨d5,?_⟩;first|rfl|((try simp only [za9,zbq]);(first|rfl|(simp [za6,za4,za3,za5,zaz,zah, *];done)|(exfalso;omega)|(simp [go_sem,↓iteOmega,za6,za4,za3,za5,zaz,zah, *];done)|(simp [go_sem,↓iteOmega,za6,za4,za3,za5,zaz,zah, *]<;>(repeat' split)<;>simp_all [zb0,zb3];done))))|(refine ⟨d5+1,?_⟩;first|rfl|((try simp only [za9,zbq]);(first|rfl|(simp [za6,za4,za3,za5,zaz,zah, *];done)|(exfalso;omega)|(simp [go_sem,↓iteOmega,za6,za4,za3,za5,zaz,zah, *];done)|(simp [go_sem,↓iteOmega,za6,za4,za3,za5,zaz,zah, *]<;>(repeat' split)<;>simp_all [zb0,zb3];done))))|skip);all_goals (try simp only [beq_iff_eq,beq_eq_false_iff_ne,ne_eq,bne_iff_ne,bne_eq_false_iff_eq] at *);first|(simp [za6,za4,za3,za5,zaz, *];done)|(exfalso;omega)|(simp [go_sem,↓iteOmega,za6,za4,za3,za5,zaz, *];done)|((repeat' apply And.intro)<;>first|rfl|(simp [go_sem,↓iteOmega,za6,za4,za3,za5,zaz, *];done)|(exact qP11)))
  obtain ⟨d6,rfl⟩:=hcut
  go_wp2_with (first|((with_reducible apply zcu);exact rfl)|(go_at_call 108;with_reducible refine Cbv (zco _ _ _ h0 h1) ?_;intro w' hB hb1 hb2 hb3 hs;(try simp only [szs] at hs hb1 hb2 hb3))|(go_at_call 109;with_reducible refine Cbv (pinE_any _ _ _) ?_;intro w' hB hb1 hb2 hb3 hs;(try simp only [szs] at hs hb1 hb2 hb3)))
  all_goals
   refine SPins.ret (zfj c s) rfl rfl ?_ rfl ⟨rfl,bL⟩
   all_goals (first|(simp [go_sem,↓iteOmega,zfj, *];done)|(simp only [beq_iff_eq,beq_eq_false_iff_ne,ne_eq] at *;simp [go_sem,↓iteOmega,zfj, *]))
end
section
open Go.RowKit
def zbz (c:SCPU) (l:SLines):SCPU:=
  { c with trap:=l.trap&&(c.trap || !c.wasTrap) }
def zcb (c:SCPU) (l:SLines):SCPU:=
  { (zbz c l) with r75:=c.r75||(l.r75 && !c.was75) }
def zca (c:SCPU) (l:SLines):SCPU:=
  { (zcb c l) with wasTrap:=l.trap,was75:=l.r75 }
def zka (c:SCPU) (l:SLines):SCPU:=zca c l
theorem qP21 {p:Prop} (h:p:=by simp [go_sem,↓iteOmega,zbz,zcb,zca, *]<;>(repeat' split)<;>(first|(simp_all [zb0,zb3];done))):p:=h
theorem zre (c:SCPU) (l:SLines) (w:World) (h0:(c.chip==2)=true) :
    Calls prog 70 #[.agg c.cells,.agg l.cells] w fun e w'=>e=.returned (.agg (zka c l).cells)/\Below w.heap.size w w':=by
  have h0':(c.chip != 2)=false:=by rw [bne,h0];rfl
  have r0:(zbz c l).r75=c.r75:=rfl
  have r1:(zbz c l).was75=c.was75:=rfl
  go_enter func70,ntmps70
  go_upto_region 3 with (fail)
  go_cut [] (fun  wx=>∃ d,wx=World.drewN (((w.alloc (.cells ((zbz c l)).cells 41)).alloc (.cells (l).cells 59)).alloc (.cells (SCPU.zero).cells 41)) d)
  case first=>
    go_wp2_with (fail)
    all_goals (first|(go_region;all_goals (go_wp2_with (fail)))|skip)
    all_goals (go_meet;(repeat' apply And.intro);all_goals (first|rfl|skip);all_goals (first|(refine ⟨0,?_⟩;first|rfl|((try simp only [za9,zbq]);(first|rfl|(simp [zbz,zcb,zca,zah, *];done)|(exfalso;omega)|(simp [go_sem,↓iteOmega,zbz,zcb,zca,zah, *];done)|(simp [go_sem,↓iteOmega,zbz,zcb,zca,zah, *]<;>(repeat' split)<;>simp_all [zb0,zb3];done))))|(refine ⟨0+1,?_⟩;first|rfl|((try simp only [za9,zbq]);(first|rfl|(simp [zbz,zcb,zca,zah, *];done)|(exfalso;omega)|(simp [go_sem,↓iteOmega,zbz,zcb,zca,zah, *];done)|(simp [go_sem,↓iteOmega,zbz,zcb,zca,zah, *]<;>(repeat' split)<;>simp_all [zb0,zb3];done))))|skip);all_goals (try simp only [beq_iff_eq,beq_eq_false_iff_ne,ne_eq,bne_iff_ne,bne_eq_false_iff_eq] at *);first|(simp [zbz,zcb,zca, *];done)|(exfalso;omega)|(simp [go_sem,↓iteOmega,zbz,zcb,zca, *];done)|((repeat' apply And.intro)<;>first|rfl|(simp [go_sem,↓iteOmega,zbz,zcb,zca, *];done)|(exact qP21)))
  obtain ⟨d0,rfl⟩:=hcut
  go_upto_region 4 with (fail)
  go_cut [] (fun  wx=>∃ d,wx=World.drewN (((w.alloc (.cells ((zcb c l)).cells 41)).alloc (.cells (l).cells 59)).alloc (.cells (SCPU.zero).cells 41)) d)
  case first=>
    go_wp2_with (fail)
    all_goals (first|(go_region;all_goals (go_wp2_with (fail)))|skip)
    all_goals (go_meet;(repeat' apply And.intro);all_goals (first|rfl|skip);all_goals (first|(refine ⟨d0,?_⟩;first|rfl|((try simp only [za9,zbq]);(first|rfl|(simp [zbz,zcb,zca,zah, *];done)|(exfalso;omega)|(simp [go_sem,↓iteOmega,zbz,zcb,zca,zah, *];done)|(simp [go_sem,↓iteOmega,zbz,zcb,zca,zah, *]<;>(repeat' split)<;>simp_all [zb0,zb3];done))))|(refine ⟨d0+1,?_⟩;first|rfl|((try simp only [za9,zbq]);(first|rfl|(simp [zbz,zcb,zca,zah, *];done)|(exfalso;omega)|(simp [go_sem,↓iteOmega,zbz,zcb,zca,zah, *];done)|(simp [go_sem,↓iteOmega,zbz,zcb,zca,zah, *]<;>(repeat' split)<;>simp_all [zb0,zb3];done))))|skip);all_goals (try simp only [beq_iff_eq,beq_eq_false_iff_ne,ne_eq,bne_iff_ne,bne_eq_false_iff_eq] at *);first|(simp [zbz,zcb,zca, *];done)|(exfalso;omega)|(simp [go_sem,↓iteOmega,zbz,zcb,zca, *];done)|((repeat' apply And.intro)<;>first|rfl|(simp [go_sem,↓iteOmega,zbz,zcb,zca, *];done)|(exact qP21)))
  obtain ⟨d1,rfl⟩:=hcut
  go_upto_region 5 with (fail)
  go_cut [] (fun  wx=>∃ d,wx=World.drewN (((w.alloc (.cells ((zca c l)).cells 41)).alloc (.cells (l).cells 59)).alloc (.cells (SCPU.zero).cells 41)) d)
  case first=>
    go_wp2_with (fail)
    all_goals (first|(go_region;all_goals (go_wp2_with (fail)))|skip)
    all_goals (go_meet;(repeat' apply And.intro);all_goals (first|rfl|skip);all_goals (first|(refine ⟨d1,?_⟩;first|rfl|((try simp only [za9,zbq]);(first|rfl|(simp [zbz,zcb,zca,zah, *];done)|(exfalso;omega)|(simp [go_sem,↓iteOmega,zbz,zcb,zca,zah, *];done)|(simp [go_sem,↓iteOmega,zbz,zcb,zca,zah, *]<;>(repeat' split)<;>simp_all [zb0,zb3];done))))|(refine ⟨d1+1,?_⟩;first|rfl|((try simp only [za9,zbq]);(first|rfl|(simp [zbz,zcb,zca,zah, *];done)|(exfalso;omega)|(simp [go_sem,↓iteOmega,zbz,zcb,zca,zah, *];done)|(simp [go_sem,↓iteOmega,zbz,zcb,zca,zah, *]<;>(repeat' split)<;>simp_all [zb0,zb3];done))))|skip);all_goals (try simp only [beq_iff_eq,beq_eq_false_iff_ne,ne_eq,bne_iff_ne,bne_eq_false_iff_eq] at *);first|(simp [zbz,zcb,zca, *];done)|(exfalso;omega)|(simp [go_sem,↓iteOmega,zbz,zcb,zca, *];done)|((repeat' apply And.intro)<;>first|rfl|(simp [go_sem,↓iteOmega,zbz,zcb,zca, *];done)|(exact qP21)))
  obtain ⟨d2,rfl⟩:=hcut
  go_wp2_with (fail)
  all_goals
   refine SCPU.ret (zka c l) rfl rfl ?_ rfl ⟨rfl,bL⟩
   all_goals (first|(simp [go_sem,↓iteOmega,zka, *];done)|(simp only [beq_iff_eq,beq_eq_false_iff_ne,ne_eq] at *;simp [go_sem,↓iteOmega,zka, *]))
def zam (c:SCPU) (l:SLines):SCPU:=if c.chip=2 then zka c l else c
theorem zbs (c:SCPU) (l:SLines) (w:World):Calls prog 70 #[.agg c.cells,.agg l.cells] w fun e w'=>e=.returned (.agg (zam c l).cells)/\Below w.heap.size w w':=by
  by_cases h:(c.chip==2)=true
  · rw [show zam c l=zka c l from by unfold zam;rw [if_pos (beq_iff_eq.1 h)]]
    exact zre c l w h
  · have h1:(c.chip==2)=false:=by simpa using h
    have h2:(c.chip != 2)=true:=by rw [bne,h1];rfl
    rw [show zam c l=c from by unfold zam;rw [if_neg (fun e=>h (beq_iff_eq.2 e))]]
    clear h
    go_enter func70,ntmps70
    go_wp2_with fail
    refine SCPU.ret c rfl rfl ?_ rfl ⟨rfl,by go_grown⟩
    simp [go_sem]
end
end Go.Proofs.YtlmbamdkklkliaaGreat
