/- Part of the proof that a law holds at every input. No conditions. -/
import Derived.Deep.RegionWith
import Derived.RegionTactic
import Derived.Test.YtlmbamdkklkliaaGreatK03
namespace Go.Proofs.YtlmbamdkklkliaaGreat
set_option linter.unusedVariables false
set_option linter.unusedSimpArgs false
set_option maxRecDepth 100000
set_option maxHeartbeats 16000000
open Go.Proofs.Tryz
section
open Go.RowKit
theorem zze (chip x:Int) (on s z k ac p v cy:Bool) (w:World) (hc:(chip==2)=on) (hx:0<=x) (hx':x<=65535) :
  Calls prog 174 #[.int .i64 chip,.int .u16 x,.agg #[.bool s,.bool z,.bool k,.bool ac,.bool p,.bool v,.bool cy]] w fun e w'=>
   e=.returned (.tuple #[.int .u16 ((x+1)%65536),.agg #[.bool s,.bool z,.bool (cond on (x==65535) k),.bool ac,.bool p,.bool v,.bool cy]])/\∃ o1 o2,((w.alloc o1).alloc o2).drew=w':=by
 have e1:IntKind.u16.wrap (x+1)=(x+1)%65536:=IntKind.wrap_u16 _
 cases on
 all_goals
  go_enter func174,ntmps174
  go_wp2
  go_region
  all_goals
   go_wp2
   go_returns
   exact ⟨rfl,_,_,rfl⟩
theorem zz4 (chip x:Int) (on s z k ac p v cy:Bool) (w:World) (hc:(chip==2)=on) (hx:0<=x) (hx':x<=65535) :
  Calls prog 175 #[.int .i64 chip,.int .u16 x,.agg #[.bool s,.bool z,.bool k,.bool ac,.bool p,.bool v,.bool cy]] w fun e w'=>
   e=.returned (.tuple #[.int .u16 ((x-1)%65536),.agg #[.bool s,.bool z,.bool (cond on (x==0) k),.bool ac,.bool p,.bool v,.bool cy]])/\∃ o1 o2,((w.alloc o1).alloc o2).drew=w':=by
 have e1:IntKind.u16.wrap (x-1)=(x-1)%65536:=IntKind.wrap_u16 _
 cases on
 all_goals
  go_enter func175,ntmps175
  go_wp2
  go_region
  all_goals
   go_wp2
   go_returns
   exact ⟨rfl,_,_,rfl⟩
theorem zlc (chip a r:Int) (h o x:Bool) (on s z k ac p v cy:Bool) (w:World) (hc:(chip==2)=on) (ha:0<=a) (ha':a<=255) (hr:0<=r) (hr':r<=255) :
  Calls prog 188 #[.int .i64 chip,.int .u8 a,.int .u8 r,.bool h,.bool o,.bool x,.agg #[.bool s,.bool z,.bool k,.bool ac,.bool p,.bool v,.bool cy]] w fun e w'=>
   e=.returned (.agg #[.bool (decide (128<=r)),.bool (r==0),.bool (on&&majB (decide (128<=a)) x (decide (128<=r))),.bool h,.bool (par r),.bool (on&&o),.bool cy])/\∃ o1 o2 o3 o4,((((w.alloc o1).alloc o2).alloc o3).alloc o4).drew=w':=by
 cases on
 all_goals
  go_enter func188,ntmps188
  go_wp2_with (first|(go_at_call 193;refine (zet _ _ hr hr').mono ?_;rintro e w' ⟨rfl,rfl⟩))
  go_region
  all_goals
   go_wp2_with (first|(go_at_call 194;refine (zfn _ _ _ _).mono ?_;rintro e w' ⟨rfl,rfl⟩))
   go_returns
   exact ⟨rfl,_,_,_,_,rfl⟩
theorem zzf (chip x:Int) (on s z k ac p v cy:Bool) (w:World) (hc:(chip==2)=on) (hx:0<=x) (hx':x<=255) :
  Calls prog 162 #[.int .i64 chip,.int .u8 x,.agg #[.bool s,.bool z,.bool k,.bool ac,.bool p,.bool v,.bool cy]] w fun e w'=>
   e=.returned (.tuple #[.int .u8 (sumR x 1 false),.agg #[.bool (decide (128<=sumR x 1 false)),.bool (sumR x 1 false==0),.bool (on&&majB (decide (128<=x)) false (decide (128<=sumR x 1 false))),.bool (sumH x 1 false),.bool (par (sumR x 1 false)),.bool (on&&sumV x 1 false),.bool cy]])/\Below w.heap.size w w':=by
 have l1:=zg0 x 1 false
 have l2:=zg1 x 1 false
 go_enter func162,ntmps162
 go_wp2_with fail
 refine (zhz _ _ _ _ hx hx' oM oM).mono ?_;rintro e w' ⟨rfl,rfl⟩
 go_wp2_with fail
 refine (zlc chip _ _ _ _ _ on _ _ _ _ _ _ _ _ hc hx hx' l1 l2).mono ?_;rintro e w' ⟨rfl,o1,o2,o3,o4,rfl⟩
 go_wp2_with fail
 go_returns
 exact ⟨rfl,by go_grown⟩
theorem zz5 (chip x:Int) (on s z k ac p v cy:Bool) (w:World) (hc:(chip==2)=on) (hx:0<=x) (hx':x<=255) :
  Calls prog 163 #[.int .i64 chip,.int .u8 x,.agg #[.bool s,.bool z,.bool k,.bool ac,.bool p,.bool v,.bool cy]] w fun e w'=>
   e=.returned (.tuple #[.int .u8 (difR x 1 false),.agg #[.bool (decide (128<=difR x 1 false)),.bool (difR x 1 false==0),.bool (on&&majB (decide (128<=x)) true (decide (128<=difR x 1 false))),.bool (difH x 1 false),.bool (par (difR x 1 false)),.bool (on&&difV x 1 false),.bool cy]])/\Below w.heap.size w w':=by
 have l1:=zex x 1 false
 have l2:=zey x 1 false
 go_enter func163,ntmps163
 go_wp2_with fail
 refine (zhc _ _ _ _ hx hx' oM oM).mono ?_;rintro e w' ⟨rfl,rfl⟩
 go_wp2_with fail
 refine (zlc chip _ _ _ _ _ on _ _ _ _ _ _ _ _ hc hx hx' l1 l2).mono ?_;rintro e w' ⟨rfl,o1,o2,o3,o4,rfl⟩
 go_wp2_with fail
 go_returns
 exact ⟨rfl,by go_grown⟩
end
end Go.Proofs.YtlmbamdkklkliaaGreat
