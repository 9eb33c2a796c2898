/- Part of the proof that a law holds at every input. No conditions. -/
import Derived.Deep.RegionWith
import Derived.RegionTactic
import Derived.Test.YtlmbamdkklkliaaGreatK03
namespace Go.Proofs.YtlmbamdkklkliaaGreat
set_option linter.unusedVariables false
set_option linter.unusedSimpArgs false
set_option maxRecDepth 100000
set_option maxHeartbeats 16000000
open Go.Proofs.Tryz
section
open Go.RowKit
section
variable (a b:Int) (ha:0<=a) (ha':a<=255) (hb:0<=b) (hb':b<=255)
include a b ha ha' hb hb'
theorem zpo:0<=bits .and .u8 a b:=by rw [u8_and a b ha oM hb oM];omega
theorem zpp:bits .and .u8 a b<=255:=by
 rw [u8_and a b ha oM hb oM];have:a.toNat &&& b.toNat<=a.toNat:=Nat.and_le_left;omega
theorem zlu:0<=bits .xor .u8 a b:=by rw [u8_xor a b ha oM hb oM];omega
theorem zlv:bits .xor .u8 a b<=255:=by
 rw [u8_xor a b ha oM hb oM];have:a.toNat ^^^ b.toNat<2 ^ 8:=Nat.xor_lt_two_pow oM oM;omega
theorem znz:0<=bits .or .u8 a b:=by rw [u8_or a b ha oM hb oM];omega
theorem zn0:bits .or .u8 a b<=255:=by
 rw [u8_or a b ha oM hb oM];have:a.toNat ||| b.toNat<2 ^ 8:=Nat.or_lt_two_pow oM oM;omega
end
def aR (q a b:Int) (cy:Bool):Int:=
 if q=0 then sumR a b false else if q=1 then sumR a b cy else if q=2 then difR a b false else if q=3 then difR a b cy else
 if q=4 then bits .and .u8 a b else if q=5 then bits .xor .u8 a b else if q=6 then bits .or .u8 a b else difR a b false
def aO (q a b:Int) (cy:Bool):Bool:=
 if q=0 then sumO a b false else if q=1 then sumO a b cy else if q=2 then difO a b false else if q=3 then difO a b cy else
 if q=4 then false else if q=5 then false else if q=6 then false else difO a b false
def aH (q a b:Int) (cy on:Bool):Bool:=
 if q=0 then sumH a b false else if q=1 then sumH a b cy else if q=2 then difH a b false else if q=3 then difH a b cy else
 if q=4 then (on||bits .and .u8 (bits .or .u8 a b) 8 != 0) else if q=5 then false else if q=6 then false else difH a b false
def aV (q a b:Int) (cy:Bool):Bool:=
 if q=0 then sumV a b false else if q=1 then sumV a b cy else if q=2 then difV a b false else if q=3 then difV a b cy else
 if q=4 then false else if q=5 then false else if q=6 then false else difV a b false
def aX (q b:Int):Bool:=if q=2 then decide (b<128) else if q=3 then decide (b<128) else if q=7 then decide (b<128) else decide (128<=b)
def aA (q a b:Int) (cy:Bool):Int:=if q=7 then a else aR q a b cy
def aK (q a b:Int) (cy:Bool):Bool:=majB (decide (128<=a)) (aX q b) (decide (128<=aR q a b cy))
section
variable (chip a b:Int) (on:Bool) (w:World) (hc:(chip==2)=on) (ha:0<=a) (ha':a<=255) (hb:0<=b) (hb':b<=255)
include chip a b on w hc ha ha' hb hb'
theorem zy2 :
  Calls prog 192 #[.int .i64 chip,.int .i64 4,.int .u8 a,.int .u8 b] w fun e w'=>e=.returned (.tuple #[.int .u8 (bits .and .u8 a b),.agg #[.bool (decide (128<=(bits .and .u8 a b))),.bool ((bits .and .u8 a b)==0),.bool (on&&majB (decide (128<=a)) (decide (128<=b)) (decide (128<=(bits .and .u8 a b)))),.bool (on||bits .and .u8 (bits .or .u8 a b) 8 != 0),.bool (par (bits .and .u8 a b)),.bool false,.bool false]])/\∃ o1 o2 o3,(((w.alloc o1).alloc o2).alloc o3).drew=w':=by
 have l1:=zpo a b ha ha' hb hb'
 have l2:=zpp a b ha ha' hb hb'
 cases on
 all_goals
  go_enter func192,ntmps192
  go_wp2_with (first|(go_at_call 193;refine (zet _ _ l1 l2).mono ?_;rintro e w' ⟨rfl,rfl⟩)|(go_at_call 194;refine (zfn _ _ _ _).mono ?_;rintro e w' ⟨rfl,rfl⟩))
  go_region
  all_goals
   go_wp2_with fail
   go_returns
   exact ⟨rfl,_,_,_,rfl⟩
theorem zy1 :
  Calls prog 192 #[.int .i64 chip,.int .i64 5,.int .u8 a,.int .u8 b] w fun e w'=>e=.returned (.tuple #[.int .u8 (bits .xor .u8 a b),.agg #[.bool (decide (128<=(bits .xor .u8 a b))),.bool ((bits .xor .u8 a b)==0),.bool (on&&majB (decide (128<=a)) (decide (128<=b)) (decide (128<=(bits .xor .u8 a b)))),.bool false,.bool (par (bits .xor .u8 a b)),.bool false,.bool false]])/\∃ o1 o2 o3,(((w.alloc o1).alloc o2).alloc o3).drew=w':=by
 have l1:=zlu a b ha ha' hb hb'
 have l2:=zlv a b ha ha' hb hb'
 cases on
 all_goals
  go_enter func192,ntmps192
  go_wp2_with (first|(go_at_call 193;refine (zet _ _ l1 l2).mono ?_;rintro e w' ⟨rfl,rfl⟩)|(go_at_call 194;refine (zfn _ _ _ _).mono ?_;rintro e w' ⟨rfl,rfl⟩))
  go_region
  all_goals
   go_wp2_with fail
   go_returns
   exact ⟨rfl,_,_,_,rfl⟩
theorem zy0 :
  Calls prog 192 #[.int .i64 chip,.int .i64 6,.int .u8 a,.int .u8 b] w fun e w'=>e=.returned (.tuple #[.int .u8 (bits .or .u8 a b),.agg #[.bool (decide (128<=(bits .or .u8 a b))),.bool ((bits .or .u8 a b)==0),.bool (on&&majB (decide (128<=a)) (decide (128<=b)) (decide (128<=(bits .or .u8 a b)))),.bool false,.bool (par (bits .or .u8 a b)),.bool false,.bool false]])/\∃ o1 o2 o3,(((w.alloc o1).alloc o2).alloc o3).drew=w':=by
 have l1:=znz a b ha ha' hb hb'
 have l2:=zn0 a b ha ha' hb hb'
 cases on
 all_goals
  go_enter func192,ntmps192
  go_wp2_with (first|(go_at_call 193;refine (zet _ _ l1 l2).mono ?_;rintro e w' ⟨rfl,rfl⟩)|(go_at_call 194;refine (zfn _ _ _ _).mono ?_;rintro e w' ⟨rfl,rfl⟩))
  go_region
  all_goals
   go_wp2_with fail
   go_returns
   exact ⟨rfl,_,_,_,rfl⟩
end
section
variable (chip op a b:Int) (on s z k ac p v cy:Bool) (w:World) (hc:(chip==2)=on)
include chip op a b on s z k ac p v cy w hc
theorem do_0 (hq:bits .and .i64 op 7=0) (ha:0<=a) (ha':a<=255) (hb:0<=b) (hb':b<=255) :
  Calls prog 172 #[.int .i64 chip,.int .i64 op,.int .u8 a,.int .u8 b,.agg #[.bool s,.bool z,.bool k,.bool ac,.bool p,.bool v,.bool cy]] w fun e w'=>e=.returned (.tuple #[.int .u8 (aA 0 a b cy),.agg #[.bool (decide (128<=aR 0 a b cy)),.bool (aR 0 a b cy==0),.bool (on&&aK 0 a b cy),.bool (aH 0 a b cy on),.bool (par (aR 0 a b cy)),.bool (on&&aV 0 a b cy),.bool (aO 0 a b cy)]])/\Below w.heap.size w w':=by
 have l1:=zg0 a b false
 have l2:=zg1 a b false
 cases on<;>cases cy
 all_goals
  go_enter func172,ntmps172
  go_wp2_with (first|(go_at_call 187;refine (zhz _ _ _ _ ha ha' hb hb').mono ?_;rintro e w' ⟨rfl,rfl⟩)|(go_at_call 189;refine (zhc _ _ _ _ ha ha' hb hb').mono ?_;rintro e w' ⟨rfl,rfl⟩)|(go_at_call 193;refine (zet _ _ l1 l2).mono ?_;rintro e w' ⟨rfl,rfl⟩)|(go_at_call 194;refine (zfn _ _ _ _).mono ?_;rintro e w' ⟨rfl,rfl⟩))
  go_region
  all_goals
   go_wp2_with fail
   go_returns
   exact ⟨rfl,by go_grown⟩
theorem do_1 (hq:bits .and .i64 op 7=1) (ha:0<=a) (ha':a<=255) (hb:0<=b) (hb':b<=255) :
  Calls prog 172 #[.int .i64 chip,.int .i64 op,.int .u8 a,.int .u8 b,.agg #[.bool s,.bool z,.bool k,.bool ac,.bool p,.bool v,.bool cy]] w fun e w'=>e=.returned (.tuple #[.int .u8 (aA 1 a b cy),.agg #[.bool (decide (128<=aR 1 a b cy)),.bool (aR 1 a b cy==0),.bool (on&&aK 1 a b cy),.bool (aH 1 a b cy on),.bool (par (aR 1 a b cy)),.bool (on&&aV 1 a b cy),.bool (aO 1 a b cy)]])/\Below w.heap.size w w':=by
 have l1:=zg0 a b cy
 have l2:=zg1 a b cy
 cases on<;>cases cy
 all_goals
  go_enter func172,ntmps172
  go_wp2_with (first|(go_at_call 187;refine (zhz _ _ _ _ ha ha' hb hb').mono ?_;rintro e w' ⟨rfl,rfl⟩)|(go_at_call 189;refine (zhc _ _ _ _ ha ha' hb hb').mono ?_;rintro e w' ⟨rfl,rfl⟩)|(go_at_call 193;refine (zet _ _ l1 l2).mono ?_;rintro e w' ⟨rfl,rfl⟩)|(go_at_call 194;refine (zfn _ _ _ _).mono ?_;rintro e w' ⟨rfl,rfl⟩))
  go_region
  all_goals
   go_wp2_with fail
   go_returns
   exact ⟨rfl,by go_grown⟩
theorem do_2 (hq:bits .and .i64 op 7=2) (ha:0<=a) (ha':a<=255) (hb:0<=b) (hb':b<=255) :
  Calls prog 172 #[.int .i64 chip,.int .i64 op,.int .u8 a,.int .u8 b,.agg #[.bool s,.bool z,.bool k,.bool ac,.bool p,.bool v,.bool cy]] w fun e w'=>e=.returned (.tuple #[.int .u8 (aA 2 a b cy),.agg #[.bool (decide (128<=aR 2 a b cy)),.bool (aR 2 a b cy==0),.bool (on&&aK 2 a b cy),.bool (aH 2 a b cy on),.bool (par (aR 2 a b cy)),.bool (on&&aV 2 a b cy),.bool (aO 2 a b cy)]])/\Below w.heap.size w w':=by
 have l1:=zex a b false
 have l2:=zey a b false
 cases on<;>cases cy
 all_goals
  go_enter func172,ntmps172
  go_wp2_with (first|(go_at_call 187;refine (zhz _ _ _ _ ha ha' hb hb').mono ?_;rintro e w' ⟨rfl,rfl⟩)|(go_at_call 189;refine (zhc _ _ _ _ ha ha' hb hb').mono ?_;rintro e w' ⟨rfl,rfl⟩)|(go_at_call 193;refine (zet _ _ l1 l2).mono ?_;rintro e w' ⟨rfl,rfl⟩)|(go_at_call 194;refine (zfn _ _ _ _).mono ?_;rintro e w' ⟨rfl,rfl⟩))
  go_region
  all_goals
   go_wp2_with fail
   go_returns
   exact ⟨rfl,by go_grown⟩
theorem do_3 (hq:bits .and .i64 op 7=3) (ha:0<=a) (ha':a<=255) (hb:0<=b) (hb':b<=255) :
  Calls prog 172 #[.int .i64 chip,.int .i64 op,.int .u8 a,.int .u8 b,.agg #[.bool s,.bool z,.bool k,.bool ac,.bool p,.bool v,.bool cy]] w fun e w'=>e=.returned (.tuple #[.int .u8 (aA 3 a b cy),.agg #[.bool (decide (128<=aR 3 a b cy)),.bool (aR 3 a b cy==0),.bool (on&&aK 3 a b cy),.bool (aH 3 a b cy on),.bool (par (aR 3 a b cy)),.bool (on&&aV 3 a b cy),.bool (aO 3 a b cy)]])/\Below w.heap.size w w':=by
 have l1:=zex a b cy
 have l2:=zey a b cy
 cases on<;>cases cy
 all_goals
  go_enter func172,ntmps172
  go_wp2_with (first|(go_at_call 187;refine (zhz _ _ _ _ ha ha' hb hb').mono ?_;rintro e w' ⟨rfl,rfl⟩)|(go_at_call 189;refine (zhc _ _ _ _ ha ha' hb hb').mono ?_;rintro e w' ⟨rfl,rfl⟩)|(go_at_call 193;refine (zet _ _ l1 l2).mono ?_;rintro e w' ⟨rfl,rfl⟩)|(go_at_call 194;refine (zfn _ _ _ _).mono ?_;rintro e w' ⟨rfl,rfl⟩))
  go_region
  all_goals
   go_wp2_with fail
   go_returns
   exact ⟨rfl,by go_grown⟩
theorem do_4 (hq:bits .and .i64 op 7=4) (ha:0<=a) (ha':a<=255) (hb:0<=b) (hb':b<=255) :
  Calls prog 172 #[.int .i64 chip,.int .i64 op,.int .u8 a,.int .u8 b,.agg #[.bool s,.bool z,.bool k,.bool ac,.bool p,.bool v,.bool cy]] w fun e w'=>e=.returned (.tuple #[.int .u8 (aA 4 a b cy),.agg #[.bool (decide (128<=aR 4 a b cy)),.bool (aR 4 a b cy==0),.bool (on&&aK 4 a b cy),.bool (aH 4 a b cy on),.bool (par (aR 4 a b cy)),.bool (on&&aV 4 a b cy),.bool (aO 4 a b cy)]])/\Below w.heap.size w w':=by
 have l1:=zpo a b ha ha' hb hb'
 have l2:=zpp a b ha ha' hb hb'
 cases on
 all_goals
  go_enter func172,ntmps172
  go_wp2_with (first|(go_at_call 192;refine (zy2 chip a b _ _ hc ha ha' hb hb').mono ?_;rintro e w' ⟨rfl,o1,o2,o3,rfl⟩))
  go_returns
  exact ⟨rfl,by go_grown⟩
theorem do_5 (hq:bits .and .i64 op 7=5) (ha:0<=a) (ha':a<=255) (hb:0<=b) (hb':b<=255) :
  Calls prog 172 #[.int .i64 chip,.int .i64 op,.int .u8 a,.int .u8 b,.agg #[.bool s,.bool z,.bool k,.bool ac,.bool p,.bool v,.bool cy]] w fun e w'=>e=.returned (.tuple #[.int .u8 (aA 5 a b cy),.agg #[.bool (decide (128<=aR 5 a b cy)),.bool (aR 5 a b cy==0),.bool (on&&aK 5 a b cy),.bool (aH 5 a b cy on),.bool (par (aR 5 a b cy)),.bool (on&&aV 5 a b cy),.bool (aO 5 a b cy)]])/\Below w.heap.size w w':=by
 have l1:=zlu a b ha ha' hb hb'
 have l2:=zlv a b ha ha' hb hb'
 cases on
 all_goals
  go_enter func172,ntmps172
  go_wp2_with (first|(go_at_call 192;refine (zy1 chip a b _ _ hc ha ha' hb hb').mono ?_;rintro e w' ⟨rfl,o1,o2,o3,rfl⟩))
  go_returns
  exact ⟨rfl,by go_grown⟩
theorem do_6 (hq:bits .and .i64 op 7=6) (ha:0<=a) (ha':a<=255) (hb:0<=b) (hb':b<=255) :
  Calls prog 172 #[.int .i64 chip,.int .i64 op,.int .u8 a,.int .u8 b,.agg #[.bool s,.bool z,.bool k,.bool ac,.bool p,.bool v,.bool cy]] w fun e w'=>e=.returned (.tuple #[.int .u8 (aA 6 a b cy),.agg #[.bool (decide (128<=aR 6 a b cy)),.bool (aR 6 a b cy==0),.bool (on&&aK 6 a b cy),.bool (aH 6 a b cy on),.bool (par (aR 6 a b cy)),.bool (on&&aV 6 a b cy),.bool (aO 6 a b cy)]])/\Below w.heap.size w w':=by
 have l1:=znz a b ha ha' hb hb'
 have l2:=zn0 a b ha ha' hb hb'
 cases on
 all_goals
  go_enter func172,ntmps172
  go_wp2_with (first|(go_at_call 192;refine (zy0 chip a b _ _ hc ha ha' hb hb').mono ?_;rintro e w' ⟨rfl,o1,o2,o3,rfl⟩))
  go_returns
  exact ⟨rfl,by go_grown⟩
theorem do_7 (hq:bits .and .i64 op 7=7) (ha:0<=a) (ha':a<=255) (hb:0<=b) (hb':b<=255) :
  Calls prog 172 #[.int .i64 chip,.int .i64 op,.int .u8 a,.int .u8 b,.agg #[.bool s,.bool z,.bool k,.bool ac,.bool p,.bool v,.bool cy]] w fun e w'=>e=.returned (.tuple #[.int .u8 (aA 7 a b cy),.agg #[.bool (decide (128<=aR 7 a b cy)),.bool (aR 7 a b cy==0),.bool (on&&aK 7 a b cy),.bool (aH 7 a b cy on),.bool (par (aR 7 a b cy)),.bool (on&&aV 7 a b cy),.bool (aO 7 a b cy)]])/\Below w.heap.size w w':=by
 have l1:=zex a b false
 have l2:=zey a b false
 cases on<;>cases cy
 all_goals
  go_enter func172,ntmps172
  go_wp2_with (first|(go_at_call 187;refine (zhz _ _ _ _ ha ha' hb hb').mono ?_;rintro e w' ⟨rfl,rfl⟩)|(go_at_call 189;refine (zhc _ _ _ _ ha ha' hb hb').mono ?_;rintro e w' ⟨rfl,rfl⟩)|(go_at_call 193;refine (zet _ _ l1 l2).mono ?_;rintro e w' ⟨rfl,rfl⟩)|(go_at_call 194;refine (zfn _ _ _ _).mono ?_;rintro e w' ⟨rfl,rfl⟩))
  go_region
  all_goals
   go_wp2_with fail
   go_returns
   exact ⟨rfl,by go_grown⟩
end

end
end Go.Proofs.YtlmbamdkklkliaaGreat
