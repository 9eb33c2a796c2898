/- Part of the proof that a law holds at every input. No conditions. -/
import Derived.Test.YtlmbamdkklkliaaGreatK11
namespace Go.Proofs.YtlmbamdkklkliaaGreat
set_option linter.unusedVariables false
set_option linter.unusedSimpArgs false
set_option maxRecDepth 100000
set_option maxHeartbeats 16000000
open Go.Proofs.Tryz
section
open Go.RowKit
def daaX (lo hi:Bool):Int:=(if lo then 6 else 0)+(if hi then 96 else 0)
def daaR (a:Int) (lo hi:Bool):Int:=sumR a (daaX lo hi) false
def IsLo (a:Int) (ac lo:Bool):Prop:=(lo=true/\ac=true)\/(lo=true/\ac=false/\9<a%16)\/(lo=false/\ac=false/\¬ 9<a%16)
def IsHi (a:Int) (cy hi:Bool):Prop:=(hi=true/\cy=true)\/(hi=true/\cy=false/\153<a)\/(hi=false/\cy=false/\¬ 153<a)
theorem zzc (a:Int) (ac:Bool):IsLo a ac (ac||decide (9<a%16)):=by
 unfold IsLo;cases ac<;>by_cases h:9<a%16<;>simp [h]
theorem zzd (a:Int) (cy:Bool):IsHi a cy (cy||decide (153<a)):=by
 unfold IsHi;cases cy<;>by_cases h:153<a<;>simp [h]
theorem zz8 (chip a:Int) (lo hi:Bool) (on s z k ac p v cy:Bool) (w:World) (hc:(chip==2)=on) (ha:0<=a) (ha':a<=255) (hlo:IsLo a ac lo) (hhi:IsHi a cy hi) :
  Calls prog 177 #[.int .i64 chip,.int .u8 a,.agg #[.bool s,.bool z,.bool k,.bool ac,.bool p,.bool v,.bool cy]] w fun e w'=>e=.returned (.tuple #[.int .u8 (daaR a lo hi),.agg #[.bool (decide (128<=daaR a lo hi)),.bool (daaR a lo hi==0),.bool (on&&majB (decide (128<=a)) false (decide (128<=daaR a lo hi))),.bool (sumH a (daaX lo hi) false),.bool (par (daaR a lo hi)),.bool (on&&sumV a (daaX lo hi) false),.bool hi]])/\Below w.heap.size w w':=by
 have l1:0<=daaR a lo hi:=zg0 _ _ _
 have l2:daaR a lo hi<=255:=zg1 _ _ _
 unfold IsLo at hlo
 unfold IsHi at hhi
 rcases hlo with ⟨rfl,rfl⟩|⟨rfl,rfl,tlo⟩|⟨rfl,rfl,tlo⟩<;>rcases hhi with ⟨rfl,rfl⟩|⟨rfl,rfl,thi⟩|⟨rfl,rfl,thi⟩<;>cases on
 all_goals
  go_enter func177,ntmps177
  go_wp2_with (first|(go_at_call 187;refine (zhz _ _ _ _ ha ha' oM oM).mono ?_;rintro e w' ⟨rfl,rfl⟩)|(go_at_call 193;refine (zet _ _ l1 l2).mono ?_;rintro e w' ⟨rfl,rfl⟩)|(go_at_call 194;refine (zfn _ _ _ _).mono ?_;rintro e w' ⟨rfl,rfl⟩))
  go_region
  all_goals
   go_wp2_with fail
   go_returns
   exact ⟨rfl,by go_grown⟩
end
end Go.Proofs.YtlmbamdkklkliaaGreat
