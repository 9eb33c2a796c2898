/- Part of the proof that a law holds at every input. No conditions. -/
import Derived.ChangeAlike
import Derived.Deep.RegionHeld3
import Derived.RegionTactic
import Derived.Test.YtlmbamdkklkliaaGreatK03
namespace Go.Proofs.YtlmbamdkklkliaaGreat
set_option linter.unusedVariables false
set_option linter.unusedSimpArgs false
set_option maxRecDepth 100000
set_option maxHeartbeats 16000000
open Go.Proofs.Tryz
open Lib (hid)
section
open Go.RowKit
def hi16 (a:Int):Bool:=decide (32768<=a)
def dadR (a b:Int):Int:=(a+b)%65536
def dadC (a b:Int):Bool:=decide (65535<a+b)
def dadV (a b:Int):Bool:=(hi16 a != hi16 (dadR a b))&&(hi16 b != hi16 (dadR a b))
theorem zum (a b:Int) (ha:0<=a) (ha':a<=65535) (hb:0<=b) (hb':b<=65535):decide (dadR a b<a)=dadC a b:=by
 unfold dadC dadR;rw [decide_eq_decide];omega
theorem zlw (n:Nat) (h:n<65536):n.testBit 15=decide (32768<=n):=by
 rw [Nat.testBit_eq_decide_div_mod_eq,decide_eq_decide];omega
theorem bx:∀ p q:Bool,(p != q)=(p ^^ q):=dC
theorem zuk (a b:Int) (ha:0<=a) (ha':a<=65535) (hb:0<=b) (hb':b<=65535) :
  (bits .and .u16 (bits .and .u16 (bits .xor .u16 a (dadR a b)) (bits .xor .u16 b (dadR a b))) 32768 != 0)=dadV a b:=by
 have hr:0<=dadR a b:=by unfold dadR;omega
 have hr':dadR a b<=65535:=by unfold dadR;omega
 unfold dadV
 generalize dadR a b=r at *
 obtain ⟨x,rfl⟩:=Int.eq_ofNat_of_zero_le ha
 obtain ⟨y,rfl⟩:=Int.eq_ofNat_of_zero_le hb
 obtain ⟨z,rfl⟩:=Int.eq_ofNat_of_zero_le hr
 have hx:x<65536:=oM
 have hy:y<65536:=oM
 have hz:z<65536:=oM
 have l1:x ^^^ z<65536:=Nat.xor_lt_two_pow (n:=16) hx hz
 have l2:y ^^^ z<65536:=Nat.xor_lt_two_pow (n:=16) hy hz
 have l3:(x ^^^ z) &&& (y ^^^ z)<65536:=Nat.lt_of_le_of_lt Nat.and_le_left l1
 rw [u16_xor_nat x z hx hz,u16_xor_nat y z hy hz,u16_and_nat _ _ l1 l2]
 have e:=u16_and_nat ((x ^^^ z) &&& (y ^^^ z)) 32768 l3 oM
 rw [show ((32768:Nat):Int)=32768 from rfl] at e
 rw [e,show (32768:Nat)=2 ^ 15 from rfl,nat_bit 15]
 have t:=zlw _ l3
 rw [Nat.testBit_and,Nat.testBit_xor,Nat.testBit_xor,zlw x hx,zlw y hy,zlw z hz] at t
 unfold hi16
 rw [show decide ((32768:Int)<=(x:Int))=decide (32768<=x) from by rw [decide_eq_decide];omega,
  show decide ((32768:Int)<=(y:Int))=decide (32768<=y) from by rw [decide_eq_decide];omega,
  show decide ((32768:Int)<=(z:Int))=decide (32768<=z) from by rw [decide_eq_decide];omega,bx,bx,t]
 by_cases h:32768<=(x ^^^ z) &&& (y ^^^ z)
 ·rw [decide_eq_true h,bne_iff_ne];omega
 ·rw [decide_eq_false h,bne_eq_false_iff_eq];omega
theorem zz7 (chip a b:Int) (on s z k ac p v cy:Bool) (w:World) (hc:(chip==2)=on) (ha:0<=a) (ha':a<=65535) (hb:0<=b) (hb':b<=65535) :
  Calls prog 176 #[.int .i64 chip,.int .u16 a,.int .u16 b,.agg #[.bool s,.bool z,.bool k,.bool ac,.bool p,.bool v,.bool cy]] w fun e w'=>
   e=.returned (.tuple #[.int .u16 (dadR a b),.agg #[.bool s,.bool z,.bool k,.bool ac,.bool p,.bool (cond on (dadV a b) v),.bool (dadC a b)]])/\((w.alloc (.cells #[.bool s,.bool z,.bool k,.bool ac,.bool p,.bool (cond on (dadV a b) v),.bool (dadC a b)] 36)).alloc (.cells #[.bool s,.bool z,.bool k,.bool ac,.bool p,.bool (cond on (dadV a b) v),.bool (dadC a b)] 36)).drew=w':=by
 have e0:IntKind.u16.wrap (a+b)=dadR a b:=by rw [IntKind.wrap_u16];rfl
 have e1:=zum a b ha ha' hb hb'
 have e2:=zuk a b ha ha' hb hb'
 cases on
 all_goals
  go_enter func176,ntmps176
  go_wp2
  go_region
  all_goals
   go_wp2
   go_returns
   exact ⟨rfl,rfl⟩
def dsB (a b:Int):Bool:=difO (a%256) (b%256) false
def dsL (a b:Int):Int:=difR (a%256) (b%256) false
def dsH (a b:Int):Int:=difR (a / 256) (b / 256) (dsB a b)
def dsR (a b:Int):Int:=ze9 (dsH a b) (dsL a b)
def dsS (a b:Int):Bool:=decide (128<=dsH a b)
def dsZ (a b:Int):Bool:=(dsH a b==0)&&(dsL a b==0)
def dsK (a b:Int):Bool:=majB (decide (32768<=a)) (decide (b<32768)) (decide (128<=dsH a b))
def dsAC (a b:Int):Bool:=difH (a / 256) (b / 256) (dsB a b)
def dsP (a b:Int):Bool:=par (dsH a b)
def dsV (a b:Int):Bool:=difV (a / 256) (b / 256) (dsB a b)
def dsC (a b:Int):Bool:=difO (a / 256) (b / 256) (dsB a b)
theorem zw5 (a b:Int) (w:World) (ha:0<=a) (ha':a<=65535) (hb:0<=b) (hb':b<=65535) :
  Calls prog 181 #[.int .u16 a,.int .u16 b] w fun e w'=>
   e=.returned (.tuple #[.int .u16 (dsR a b),.agg #[.bool (dsS a b),.bool (dsZ a b),.bool (dsK a b),.bool (dsAC a b),.bool (dsP a b),.bool (dsV a b),.bool (dsC a b)]])/\(((w.alloc (.cells #[.bool (dsS a b),.bool (dsZ a b),.bool (dsK a b),.bool (dsAC a b),.bool (dsP a b),.bool (dsV a b),.bool (dsC a b)] 36)).alloc (.cells #[.bool (dsS a b),.bool (dsH a b==0),.bool false,.bool false,.bool (dsP a b),.bool false,.bool false] 36)).alloc (.cells #[.bool (dsS a b),.bool (dsZ a b),.bool (dsK a b),.bool (dsAC a b),.bool (dsP a b),.bool (dsV a b),.bool (dsC a b)] 36)).drew=w':=by
 have l1:0<=dsL a b:=zex _ _ _
 have l2:dsL a b<=255:=zey _ _ _
 have l3:0<=dsH a b:=zex _ _ _
 have l4:dsH a b<=255:=zey _ _ _
 have f1:difO (a%256) (b%256) false=dsB a b:=rfl
 have f2:difR (a%256) (b%256) false=dsL a b:=rfl
 have f3:difR (a / 256) (b / 256) (dsB a b)=dsH a b:=rfl
 have f4:difH (a / 256) (b / 256) (dsB a b)=dsAC a b:=rfl
 have f5:difV (a / 256) (b / 256) (dsB a b)=dsV a b:=rfl
 have f6:difO (a / 256) (b / 256) (dsB a b)=dsC a b:=rfl
 have f7:Hid (dsZ a b=((dsH a b==0)&&(dsL a b==0))):=rfl
 obtain ⟨zz,hz⟩:∃ z,(dsH a b==0)=z:=⟨_,rfl⟩
 cases zz
 all_goals
  have f8:=f7.out
  rw [hz] at f8
  have F8:=hid f8
  clear f7 f8
  go_enter func181,ntmps181
  go_wp2_with fail
  refine (zhc _ _ _ _ oM oM oM oM).mono ?_;rintro e w' ⟨rfl,rfl⟩
  go_wp2_with fail
  refine (zhc _ _ _ _ oM oM oM oM).mono ?_;rintro e w' ⟨rfl,rfl⟩
  go_wp2_with fail
  refine (zet _ _ oM oM).mono ?_;rintro e w1 ⟨rfl,rfl⟩
  go_wp2_with fail
  refine (zfn _ _ _ _).mono ?_;rintro e w' ⟨rfl,rfl⟩
  go_wp2_with fail
  go_region_with (first|(go_at_call 145;refine (zhm _ _ _ oM oM oM oM).mono ?_;rintro e w' ⟨rfl,rfl⟩))
  all_goals
   go_wp2_with fail
   go_returns
   exact ⟨by rw [F8.out];rfl,by rw [F8.out];first|rfl|(rw [hz];rfl)⟩
end
end Go.Proofs.YtlmbamdkklkliaaGreat
