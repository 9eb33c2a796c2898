/- Part of the proof that a law holds at every input. No conditions. -/
import Derived.Deep.RegionWith
import Derived.Lib.Hide
import Derived.RegionTactic
import Derived.Test.YtlmbamdkklkliaaGreatK19
namespace Go.Proofs.YtlmbamdkklkliaaGreat
set_option linter.unusedVariables false
set_option linter.unusedSimpArgs false
set_option linter.unusedSectionVars false
set_option maxRecDepth 100000
set_option maxHeartbeats 16000000
open Go.Proofs.Tryz
open Lib (hid)
section
open Go.RowKit
section
variable (a:Int) (c:Bool) (ba bc:Nat) (w:World) (h0:0<=a) (h1:a<=255) (ha:w.cell? ⟨ba,0,none⟩=some (.int .u8 a)) (hc:w.cell? ⟨bc,0,none⟩=some (.bool c))
include a c ba bc w h0 h1 ha hc
theorem zu9 :
  Calls prog 195 #[.pointer (some ⟨ba,0,none⟩)] w fun e w'=>e=.returned (.tuple #[.int .u8 (bits .or .u8 (IntKind.u8.wrap (a * 2)) (a / 128),decide (128<=a)).1,.bool (bits .or .u8 (IntKind.u8.wrap (a * 2)) (a / 128),decide (128<=a)).2])/\Below w.heap.size w w':=by
 go_enter func195,ntmps195
 go_wp2_with fail
 go_region_with (first|with_reducible refine Cpv (zif _ _) ?_)
 all_goals go_wp2_with fail
 all_goals
  go_ret2
  refine ⟨?_,(Below.refl _ _).drew⟩
  first|rfl|simp
theorem zu8 :
  Calls prog 196 #[.pointer (some ⟨ba,0,none⟩)] w fun e w'=>e=.returned (.tuple #[.int .u8 (bits .or .u8 (a / 2) (IntKind.u8.wrap (a * 128)),bits .and .u8 a 1==1).1,.bool (bits .or .u8 (a / 2) (IntKind.u8.wrap (a * 128)),bits .and .u8 a 1==1).2])/\Below w.heap.size w w':=by
 go_enter func196,ntmps196
 go_wp2_with fail
 go_region_with (first|with_reducible refine Cpv (zif _ _) ?_)
 all_goals go_wp2_with fail
 all_goals
  go_ret2
  refine ⟨?_,(Below.refl _ _).drew⟩
  first|rfl|simp
theorem zu7 :
  Calls prog 197 #[.pointer (some ⟨ba,0,none⟩),.pointer (some ⟨bc,0,none⟩)] w fun e w'=>e=.returned (.tuple #[.int .u8 (bits .or .u8 (IntKind.u8.wrap (a * 2)) (lowN c),decide (128<=a)).1,.bool (bits .or .u8 (IntKind.u8.wrap (a * 2)) (lowN c),decide (128<=a)).2])/\Below w.heap.size w w':=by
 go_enter func197,ntmps197
 go_wp2_with fail
 go_region_with (first|with_reducible refine Cpv (zif _ _) ?_)
 all_goals go_wp2_with fail
 all_goals
  go_ret2
  refine ⟨?_,(Below.refl _ _).drew⟩
  first|rfl|simp
theorem zu6 :
  Calls prog 199 #[.pointer (some ⟨ba,0,none⟩),.pointer (some ⟨bc,0,none⟩)] w fun e w'=>e=.returned (.tuple #[.int .u8 (bits .or .u8 (a / 2) (IntKind.u8.wrap (lowN c * 128)),bits .and .u8 a 1==1).1,.bool (bits .or .u8 (a / 2) (IntKind.u8.wrap (lowN c * 128)),bits .and .u8 a 1==1).2])/\Below w.heap.size w w':=by
 go_enter func199,ntmps199
 go_wp2_with fail
 go_region_with (first|with_reducible refine Cpv (zif _ _) ?_)
 all_goals go_wp2_with fail
 all_goals
  go_ret2
  refine ⟨?_,(Below.refl _ _).drew⟩
  first|rfl|simp
end
@[local go_sem ↓] theorem stF (dst:Option Tmp) (x y:Tmp) (ty:TypeId) (pos:String) (aft:Array Edge) (gd:Option (Nat × Bool)) (A:Act) (w:World) (K:Act->World->Prop) (Q:Exit->Act->World->Prop) :
  Oper.wp prog ⟨dst,.store 265 (.tmp x) (.tmp y),ty,pos,aft,gd⟩ A w K Q=if zcz 4 (A.eval (.tmp x)) (A.eval (.tmp y)) w=true then K (A.put dst undef) (zdv (A.eval (.tmp x)) (A.eval (.tmp y)) w) else Oper.wp prog ⟨dst,.store 265 (.const (A.eval (.tmp x))) (.const (A.eval (.tmp y))),ty,pos,aft,gd⟩ A w K Q:=zbg kR dst x y ty pos aft gd A w K Q
@[local go_sem] theorem okF (a b c d:Value) (f1 f2 f3 f4:Fn) (r1 r2 r3 r4:Array Value) (t:TypeId):okS 4 (some (.cells #[a,b,c,d] t (0,0))) 0 #[.func f1 #[] r1,.func f2 #[] r2,.func f3 #[] r3,.func f4 #[] r4]=true:=lK
@[local go_sem] theorem stFS (a b c d x y z u:Value) (t bb:Nat) (w:World):stS (some (.cells #[a,b,c,d] t (0,0))) bb 0 #[x,y,z,u] w=zai w bb #[x,y,z,u] t:=lK
theorem zu5 (op a:Int) (c:Bool) (w:World) (h0:0<=a) (h1:a<=255) :
  Calls prog 178 #[.int .i64 op,.int .u8 a,.bool c] w fun e w'=>e=.returned (.tuple #[.int .u8 (rotR op a c).1,.bool (rotR op a c).2])/\Below w.heap.size w w':=by
 have hm:=zil op
 have hq:op%4=0\/op%4=1\/op%4=2\/op%4=3:=oM
 rcases hq with hq|hq|hq|hq
 all_goals
  have HQ:=hid hq
  rw [hq] at hm
  clear hq
  go_enter func178,ntmps178
  go_wp2_with (first|(go_at_call 195;(refine (zu9 a c w.heap.size (w.heap.size+1) _ h0 h1 (by simp [go_sem]) (by simp [go_sem])).mono ?_);rintro e w' ⟨rfl,hB⟩)|(go_at_call 196;(refine (zu8 a c w.heap.size (w.heap.size+1) _ h0 h1 (by simp [go_sem]) (by simp [go_sem])).mono ?_);rintro e w' ⟨rfl,hB⟩)|(go_at_call 197;(refine (zu7 a c w.heap.size (w.heap.size+1) _ h0 h1 (by simp [go_sem]) (by simp [go_sem])).mono ?_);rintro e w' ⟨rfl,hB⟩)|(go_at_call 199;(refine (zu6 a c w.heap.size (w.heap.size+1) _ h0 h1 (by simp [go_sem]) (by simp [go_sem])).mono ?_);rintro e w' ⟨rfl,hB⟩))
  go_ret2
  refine ⟨by simp [rotR,HQ.out,IntKind.wrap_u8],?_⟩
  refine zaf hB ?_ ?_
  ·exact bL
  ·simp only [World.size_alloc];omega
end
end Go.Proofs.YtlmbamdkklkliaaGreat
