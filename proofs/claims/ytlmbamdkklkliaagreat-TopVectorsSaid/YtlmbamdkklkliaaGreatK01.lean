/- Part of the proof that a law holds at every input. No conditions. -/
import Derived.Test.YtlmbamdkklkliaaGreatRows
import Derived.Below
import Derived.Deep.QuietTactic
import Derived.Handy
import Derived.Laws.CopyRow
import Derived.Lib.Hide
import Derived.OpenShut
import Derived.ProofKit
import Derived.WalkKit
namespace Go.Proofs.YtlmbamdkklkliaaGreat
set_option linter.unusedVariables false
set_option linter.unusedSimpArgs false
set_option maxRecDepth 100000
set_option maxHeartbeats 16000000
section
open Go.ChangeShapes Go.WideShapes Go.ChangeAt Go.RowKit
def IsRow (k:IntKind) (w:World) (a:Option Addr) (len cap:Nat) (zs:List Int):Prop:=
 (a=none/\len=0/\cap=0/\zs=[]) \/
 ∃ x,a=some x/\len<=cap/\cap<=maxLen/\zs.length=cap/\(∀ i,i<zs.length->w.cell? (x.add i)=some (.int k (zs.getD i 0)))/\∀ n ∈ zs,(Lit.int k n).wf=true
end
section
open Go.RowKit
def s8 (a:Int):Int:=if a<128 then a else a-256
theorem zlz (a:Int) (h:0<=a) (h':a<=255):IntKind.i8.wrap a=s8 a:=by
 simp [IntKind.wrap,IntKind.bits,IntKind.signed,s8];omega
theorem zu3 (a:Int) (h:0<=a) (h':a<=255) : -128<=s8 a:=by unfold s8;omega
theorem zu4 (a:Int) (h:0<=a) (h':a<=255):s8 a<=127:=by unfold s8;omega
def b2i (c:Bool):Int:=if c then 1 else 0
theorem zya (c:Bool):0<=b2i c:=by cases c<;>simp [b2i]
theorem zyb (c:Bool):b2i c<=1:=by cases c<;>simp [b2i]
def ovf (n:Int):Bool:=decide (n < -128)||decide (127<n)
def sumR (a b:Int) (c:Bool):Int:=(a+b+b2i c)%256
def sumO (a b:Int) (c:Bool):Bool:=decide (255<a+b+b2i c)
def sumH (a b:Int) (c:Bool):Bool:=decide (15<a%16+b%16+b2i c)
def sumV (a b:Int) (c:Bool):Bool:=ovf (s8 a+s8 b+b2i c)
def difR (a b:Int) (c:Bool):Int:=(a-b-b2i c)%256
def difO (a b:Int) (c:Bool):Bool:=decide (a-b-b2i c<0)
def difH (a b:Int) (c:Bool):Bool:=decide (15<a%16+15-b%16+1-b2i c)
def difV (a b:Int) (c:Bool):Bool:=ovf (s8 a-s8 b-b2i c)
def majB (a b c:Bool):Bool:=a&&b||a&&c||b&&c
def ze9 (h l:Int):Int:=h * 256+l
def zkz:Nat->Nat->Bool
 | 0,_=>true
 | k+1,n=>if n / 2 ^ k%2=1 then !(zkz k n) else zkz k n
def par (a:Int):Bool:=zkz 8 a.toNat
theorem zvp:∀ n:Fin 256,0<n.val->zkz 8 (n.val &&& (n.val-1)) = !(zkz 8 n.val):=by decide +kernel
theorem z2s:∀ n:Fin 256,0<n.val->n.val &&& (n.val-1)<n.val:=by decide +kernel
theorem zw6 (x:Nat) (hx:x<256) (h:0<x):bits .and .u8 (x:Int) ((x:Int)-1)=((x &&& (x-1):Nat):Int):=by
 rw [show (x:Int)-1=((x-1:Nat):Int) from by omega]
 exact u8_and_nat x (x-1) hx (by omega)
theorem zvo:zkz 8 0=true:=by decide
theorem zoq (h l:Int) (ha:0<=h) (ha':h<=255) (hb:0<=l) (hb':l<=255):bits .or .u16 (h * 256) l=ze9 h l:=by
 rw [u16_or _ _ (by omega) (by omega) hb (by omega)]
 rw [nat_join 8 _ _ (by omega) (by omega)]
 unfold ze9;omega
theorem zym {a b:Bool} (h:a=b):Ending.returned (.bool a)=.returned (.bool b):=by rw [h]
theorem zyl {k:IntKind} {a b:Int} (h:a=b):Ending.returned (.int k a)=.returned (.int k b):=by rw [h]
end
section
open Go.RowKit
theorem zg0 (a b:Int) (c:Bool):0<=sumR a b c:=by unfold sumR;omega
theorem zg1 (a b:Int) (c:Bool):sumR a b c<=255:=by unfold sumR;omega
theorem zex (a b:Int) (c:Bool):0<=difR a b c:=by unfold difR;omega
theorem zey (a b:Int) (c:Bool):difR a b c<=255:=by unfold difR;omega
theorem zd7 (n:Int):bits .and .i64 n 7=n%8:=by
 have h7:(BitVec.ofInt 64 7).toNat=2 ^ 3-1:=by decide
 have key:(BitVec.ofInt 64 n &&& BitVec.ofInt 64 7).toNat=(n%((2 ^ 64:Nat):Int)).toNat%2 ^ 3:=by
  rw [BitVec.toNat_and,BitVec.toNat_ofInt,h7,Nat.and_two_pow_sub_one_eq_mod]
 show IntKind.i64.wrap ((BitVec.ofInt 64 n &&& BitVec.ofInt 64 7).toNat:Nat)=n%8
 rw [key,IntKind.wrap_i64]
 omega
theorem zil (n:Int):bits .and .i64 n 3=n%4:=by
 have h3:(BitVec.ofInt 64 3).toNat=2 ^ 2-1:=by decide
 have key:(BitVec.ofInt 64 n &&& BitVec.ofInt 64 3).toNat=(n%((2 ^ 64:Nat):Int)).toNat%2 ^ 2:=by
  rw [BitVec.toNat_and,BitVec.toNat_ofInt,h3,Nat.and_two_pow_sub_one_eq_mod]
 show IntKind.i64.wrap ((BitVec.ofInt 64 n &&& BitVec.ofInt 64 3).toNat:Nat)=n%4
 rw [key,IntKind.wrap_i64]
 omega
theorem zmz {P:Program} {f:FuncId} {args:Array Value} {w:World} {n:Nat} {v:Value}
  (h:Calls P f args (w.drewN n) fun e w'=>e=.returned v/\w.drewN n=w'):Calls P f args (w.drewN n) fun e w''=>e=.returned v/\∃ m,w''=w.drewN m:=
 h.mono fun _ _ ⟨he,hm⟩=>⟨he,n,hm.symm⟩
theorem zsy {P:Program} {f:FuncId} {args:Array Value} {w:World} {a n:Nat} {v:Value}
  (h:Calls P f args (w.drewN (a+n)) fun e w'=>e=.returned v/\w.drewN (a+n)=w'):Calls P f args (w.drewN (a+n)) fun e w''=>e=.returned v/\∃ m,w''=w.drewN (a+m):=
 h.mono fun _ _ ⟨he,hm⟩=>⟨he,n,hm.symm⟩
theorem zho {B:Nat} {a w:World} (h:Below B a w) (n:Nat):Below B a (w.drewN n):=⟨h.os,h.tape,h.output,h.size,h.block⟩
theorem zxl {W w1:World} (hb:Below W.heap.size W w1):(∀ b o,b<W.heap.size->w1.cell? ⟨b,o,none⟩=W.cell? ⟨b,o,none⟩)/\(∀ b o,b<W.heap.size->w1.frozen? ⟨b,o,none⟩=W.frozen? ⟨b,o,none⟩):=
 ⟨fun b o h=>hb.cell (p:=⟨b,o,none⟩) h,fun b o h=>hb.frozen (p:=⟨b,o,none⟩) h⟩
theorem thru {w1 w2:World} (hb:Below w1.heap.size w1 w2) :
  (∀ b o,b<w1.heap.size->w2.cell? ⟨b,o,none⟩=w1.cell? ⟨b,o,none⟩)/\(∀ b o,b<w1.heap.size->w2.frozen? ⟨b,o,none⟩=w1.frozen? ⟨b,o,none⟩) /\
  (∀ n,n<w1.heap.size->n<w2.heap.size)/\(∀ B a,Below B a w1->B<w1.heap.size->Below B a w2):=
 ⟨(zxl hb).1,(zxl hb).2,fun n h=>Nat.lt_of_lt_of_le h hb.size,fun B a h k=>h.trans (hb.mono (Nat.le_of_lt k))⟩
def bitB (b:Bool) (k:Int):Int:=if b then 2 ^ k.toNat else 0
def tb (b m:Int):Bool:=bits .and .u8 b m != 0
def zvu (on s z k ac p v cy:Bool):Int:=
 let b:=bits .or .u8 (bits .or .u8 (bits .or .u8 (bits .or .u8 (bitB s 7) (bitB z 6)) (bitB ac 4)) (bitB p 2)) (bitB cy 0)
 if on then bits .or .u8 (bits .or .u8 b (bitB k 5)) (bitB v 1) else bits .or .u8 b 2
theorem zvs (on s z k ac p v cy:Bool):0<=zvu on s z k ac p v cy:=by
 cases on<;>cases s<;>cases z<;>cases k<;>cases ac<;>cases p<;>cases v<;>cases cy<;>decide
theorem zvt (on s z k ac p v cy:Bool):zvu on s z k ac p v cy<=255:=by
 cases on<;>cases s<;>cases z<;>cases k<;>cases ac<;>cases p<;>cases v<;>cases cy<;>decide
end
theorem lay {p:Prop} (h:p):p:=h
theorem lK {p:Prop} (h:p:=by kernel_rfl):p:=h
theorem kR {p:Prop} (h:p:=by kernel_rfl):p:=h
theorem oM {p:Prop} (h:p:=by omega):p:=h
theorem dC {p:Prop} (h:p:=by decide):p:=h
section
open Go.RowKit
def zai (w:World) (b:Nat) (A:Array Value) (t:TypeId):World := { w with heap:=w.heap.setIfInBounds b (.cells A t) }
section
variable (w:World) (b b':Nat) (A A':Array Value) (t t':TypeId) (o:Obj)
@[go_sem] theorem size_setBlk:(zai w b A t).heap.size=w.heap.size:=by simp [zai]
theorem zfa (h:b<w.heap.size):(zai w b A t).heap[b]? = some (.cells A t):=by simp [zai,h]
theorem zbw (h:b'≠b):(zai w b A t).heap[b']? = w.heap[b']? := by simp [zai,Ne.symm h]
@[go_sem] theorem zr4 (i:Nat) (h:b<w.heap.size):(zai w b A t).cell? ⟨b,i,none⟩=A[i]? := by simp [World.cell?,zfa w b A t h]
@[go_sem] theorem zrz (i:Nat) (h:b'≠b):(zai w b A t).cell? ⟨b',i,none⟩=w.cell? ⟨b',i,none⟩:=by simp [World.cell?,zbw w b b' A t h]
@[go_sem] theorem zqe (i:Nat) (h:b<w.heap.size):(zai w b A t).frozen? ⟨b,i,none⟩=false:=by simp [World.frozen?,zfa w b A t h]
@[go_sem] theorem setBlk_setBlk:zai (zai w b A t) b A' t'=zai w b A' t':=by simp [zai]
@[go_sem] theorem zh0 (i:Nat) (v:Value):(zai w b A t).setCell ⟨b,i,none⟩ v=zai w b (A.setIfInBounds i v) t:=by
 simp only [World.setCell,zai];congr 1
 apply Array.ext_getElem?;intro k
 rw [Array.getElem?_modify,Array.getElem?_setIfInBounds,Array.getElem?_setIfInBounds]
 by_cases h:b=k
 ·subst h
  by_cases hb:b<w.heap.size<;>simp [hb]
 ·simp [h]
@[go_sem] theorem zji (n:Nat) (hn:n=w.heap.size):zai (w.alloc o) n A t=w.alloc (.cells A t):=by
 subst hn
 have e:(w.heap.push o).setIfInBounds w.heap.size (.cells A t)=w.heap.push (.cells A t):=by
  apply Array.ext_getElem?;intro k
  rw [Array.getElem?_setIfInBounds,Array.getElem?_push,Array.getElem?_push]
  by_cases h:w.heap.size=k
  ·subst h;simp
  ·simp [h,Ne.symm h]
 show { w with heap:=((w.heap.push o).setIfInBounds w.heap.size (.cells A t)) } = { w with heap:=w.heap.push (.cells A t) }
 rw [e]
@[go_sem] theorem zix (n:Nat) (hn:n<w.heap.size):zai (w.alloc o) n A t=(zai w n A t).alloc o:=by
 have e:(w.heap.push o).setIfInBounds n (.cells A t)=(w.heap.setIfInBounds n (.cells A t)).push o:=by
  apply Array.ext_getElem?;intro k
  rw [Array.getElem?_setIfInBounds,Array.getElem?_push,Array.getElem?_push,Array.getElem?_setIfInBounds]
  by_cases h:n=k
  ·subst h;simp [hn,Nat.ne_of_lt hn,Nat.lt_succ_of_lt hn]
  ·simp [h]
 show { w with heap:=((w.heap.push o).setIfInBounds n (.cells A t)) } = { w with heap:=(w.heap.setIfInBounds n (.cells A t)).push o }
 rw [e]
theorem zob (h:w.heap[b]? = some (.cells A t)):zai w b A t=w:=by
 have hb:b<w.heap.size:=(Array.getElem?_eq_some_iff.1 h).1
 have hv:w.heap[b]=.cells A t:=(Array.getElem?_eq_some_iff.1 h).2
 unfold zai
 have e:w.heap.setIfInBounds b (.cells A t)=w.heap:=by
  apply Array.ext_getElem?;intro k
  rw [Array.getElem?_setIfInBounds]
  by_cases hk:b=k
  ·subst hk;simp [hb,hv]
  ·simp [hk]
 rw [e]
end
theorem zb0 (a b:Int):(a==b)=decide (a=b):=by rw [Bool.eq_iff_iff];simp
theorem zb3 (a b:Int):(a != b) = !decide (a=b):=by rw [bne,zb0]
def blk (w:World) (b:Nat):Option Obj:=w.heap[b]?
section
variable (w:World) (b b':Nat) (A:Array Value) (t:TypeId) (o:Obj)
@[go_sem] theorem blk_setBlk_same (h:b<w.heap.size):blk (zai w b A t) b=some (.cells A t):=zfa w b A t h
@[go_sem] theorem blk_setBlk_other (h:b'≠b):blk (zai w b A t) b'=blk w b':=zbw w b b' A t h
@[go_sem] theorem zxj (h:b'<b):blk (zai w b A t) b'=blk w b':=zbw w b b' A t (Nat.ne_of_lt h)
@[go_sem] theorem zxk (h:b<b'):blk (zai w b A t) b'=blk w b':=zbw w b b' A t (Nat.ne_of_gt h)
@[go_sem] theorem zab (h:b=w.heap.size):blk (w.alloc o) b=some o:=by subst h;exact heap_alloc_new w o
@[go_sem] theorem blk_alloc_past (h:b<w.heap.size):blk (w.alloc o) b=blk w b:=Go.RowKit.Below.heap_alloc w o b h
@[go_sem] theorem zjp:blk w.drew b=blk w b:=lay rfl
@[go_sem] theorem z2q (n:Nat):blk (w.drewN n) b=blk w b:=lay rfl
@[go_sem] theorem zyj:zai w.drew b A t=(zai w b A t).drew:=lay rfl
@[go_sem] theorem zxr (n:Nat):zai (w.drewN n) b A t=(zai w b A t).drewN n:=lay rfl
end
@[go_sem] theorem lt_2 (n:Nat):(n<n+1+1)=True:=eq_true oM
@[go_sem] theorem lt_3 (n:Nat):(n<n+1+1+1)=True:=eq_true oM
@[go_sem] theorem lt_4 (n:Nat):(n<n+1+1+1+1)=True:=eq_true oM
@[go_sem] theorem lt_5 (n:Nat):(n<n+1+1+1+1+1)=True:=eq_true oM
@[go_sem] theorem lt_6 (n:Nat):(n<n+1+1+1+1+1+1)=True:=eq_true oM
@[go_sem] theorem lt_7 (n:Nat):(n<n+1+1+1+1+1+1+1)=True:=eq_true oM
@[go_sem] theorem lt_12 {b n:Nat} (h:b<n):(b<n+1+1)=True:=eq_true oM
@[go_sem] theorem lt_13 {b n:Nat} (h:b<n):(b<n+1+1+1)=True:=eq_true oM
section
variable (w:World) (b b' n i:Nat) (A:Array Value) (t:TypeId) (o:Obj) (v:Value)
@[go_sem low] theorem zjf:blk (w.alloc o) b=if b<w.heap.size then blk w b else if b=w.heap.size then some o else none:=by
 split
 ·rename_i h;exact blk_alloc_past w b o h
 ·split
  ·rename_i h;exact zab w b o h
  ·rename_i h1 h2
   show (w.heap.push o)[b]? = none
   rw [Array.getElem?_push,if_neg h2]
   simp;omega
@[go_sem low] theorem zir:blk (zai w b A t) b'=if b'=b then (if b<w.heap.size then some (.cells A t) else blk w b') else blk w b':=by
 split
 ·rename_i h;subst h
  split
  ·rename_i h;exact blk_setBlk_same w b' A t h
  ·rename_i h;show (w.heap.setIfInBounds b' _)[b']? = w.heap[b']?;simp [Array.setIfInBounds,h]
 ·rename_i h;exact blk_setBlk_other w b b' A t h
def zgd (o:Option Obj) (i:Nat):Option Value:=match o with|some (.cells c _ _)=>c[i]? | _=>none
def zov (o:Option Obj) (i:Nat):Bool:=match o with|some (.cells _ _ (lo,hi))=>lo<=i&&i<hi|_=>false
theorem za2:w.cell? ⟨b,i,none⟩=zgd (blk w b) i:=by
 unfold World.cell? zgd blk
 cases w.heap[b]? with
 | none=>rfl
 | some x=>cases x<;>simp
theorem zdu:w.frozen? ⟨b,i,none⟩=zov (blk w b) i:=rfl
@[go_sem] theorem z1j (fr:Nat × Nat):zgd (some (.cells A t fr)) i=A[i]? := lay rfl
@[go_sem] theorem zrk:zov (some (.cells A t)) i=false:=by simp [zov]
@[go_sem low] theorem zxh:(w.alloc o).cell? ⟨b,i,none⟩=if b<w.heap.size then w.cell? ⟨b,i,none⟩ else if b=w.heap.size then zgd (some o) i else none:=by
 rw [za2,za2,zjf]
 by_cases h:b<w.heap.size
 ·simp only [if_pos h]
 ·by_cases h':b=w.heap.size
  ·simp only [if_neg h,if_pos h']
  ·simp only [if_neg h,if_neg h'];rfl
@[go_sem low] theorem zty:(w.alloc o).frozen? ⟨b,i,none⟩=if b<w.heap.size then w.frozen? ⟨b,i,none⟩ else if b=w.heap.size then zov (some o) i else false:=by
 rw [zdu,zdu,zjf]
 by_cases h:b<w.heap.size
 ·simp only [if_pos h]
 ·by_cases h':b=w.heap.size
  ·simp only [if_neg h,if_pos h']
  ·simp only [if_neg h,if_neg h'];rfl
@[go_sem low] theorem zuv:(zai w b A t).cell? ⟨b',i,none⟩=if b'=b then (if b<w.heap.size then A[i]? else w.cell? ⟨b',i,none⟩) else w.cell? ⟨b',i,none⟩:=by
 rw [za2,za2,zir]
 by_cases h:b'=b
 ·by_cases h':b<w.heap.size
  ·simp only [if_pos h,if_pos h'];rfl
  ·simp only [if_pos h,if_neg h']
 ·simp only [if_neg h]
@[go_sem low] theorem zr3:(zai w b A t).frozen? ⟨b',i,none⟩=if b'=b then (if b<w.heap.size then false else w.frozen? ⟨b',i,none⟩) else w.frozen? ⟨b',i,none⟩:=by
 rw [zdu,zdu,zir]
 by_cases h:b'=b
 ·by_cases h':b<w.heap.size
  ·simp only [if_pos h,if_pos h'];exact zrk i A t
  ·simp only [if_pos h,if_neg h']
 ·simp only [if_neg h]
@[go_sem low] theorem zsl:zai (w.alloc o) n A t=if n<w.heap.size then (zai w n A t).alloc o else if n=w.heap.size then w.alloc (.cells A t) else w.alloc o:=by
 split
 ·rename_i h;exact zix w A t o n h
 ·split
  ·rename_i h;exact zji w A t o n h
  ·rename_i h1 h2
   have e:(w.heap.push o).setIfInBounds n (.cells A t)=w.heap.push o:=by simp [Array.setIfInBounds];omega
   show { w with heap:=((w.heap.push o).setIfInBounds n (.cells A t)) } = { w with heap:=w.heap.push o }
   rw [e]
end
theorem zdn {w1 w2:World} (hb:Below w1.heap.size w1 w2) :
  (∀ b,(if b<w1.heap.size then True else False)->blk w2 b=blk w1 b)/\(∀ b o,(if b<w1.heap.size then True else False)->w2.cell? ⟨b,o,none⟩=w1.cell? ⟨b,o,none⟩)/\(∀ b o,(if b<w1.heap.size then True else False)->w2.frozen? ⟨b,o,none⟩=w1.frozen? ⟨b,o,none⟩):=by
 have e:∀ b,(if b<w1.heap.size then True else False)->b<w1.heap.size:=fun b h=>by split at h;assumption;exact h.elim
 exact ⟨fun b h=>hb.block b (e b h),fun b o h=>(zxl hb).1 b o (e b h),fun b o h=>(zxl hb).2 b o (e b h)⟩
def zzb (o:Option Obj):Bool:=match o with|some (.cells _ _ (0,0))=>true|_=>false
def z1q (o:Option Obj):Array Value:=match o with|some (.cells A _ _)=>A|_=>#[]
def z1l (o:Option Obj):TypeId:=match o with|some (.cells _ t _)=>t|_=>0
@[go_sem] theorem z1i (A:Array Value) (t:TypeId):zzb (some (.cells A t))=true:=lay rfl
@[go_sem] theorem z1g (A:Array Value) (t:TypeId):z1q (some (.cells A t))=A:=lay rfl
@[go_sem] theorem z1f (A:Array Value) (t:TypeId):z1l (some (.cells A t))=t:=lay rfl
@[go_sem] theorem zjz (w:World) (b i:Nat) (v:Value) (h:zzb (blk w b)=true):w.setCell ⟨b,i,none⟩ v=zai w b ((z1q (blk w b)).setIfInBounds i v) (z1l (blk w b)):=by
 unfold zzb at h
 split at h
 ·rename_i A t hA
  rw [hA]
  have hA':w.heap[b]? = some (.cells A t (0,0)):=hA
  show w.setCell ⟨b,i,none⟩ v=zai w b (A.setIfInBounds i v) t
  have e:=zh0 w b A t i v
  rwa [zob w b A t hA'] at e
 ·cases h
theorem zae {B:Nat} {a w:World} {b:Nat} {A:Array Value} {t:TypeId} (h:Below B a w) (hb:B<=b):Below B a (zai w b A t):=
 h.trans ⟨rfl,rfl,rfl,by simp [size_setBlk],fun k hk=>zbw w b k A t oM⟩
theorem zaf {B:Nat} {a W w':World} (h:Below W.heap.size W w') (k:Below B a W) (hs:B<=W.heap.size):Below B a w':=k.trans (h.mono hs)
def okO (n:Nat) (o:Option Obj) (off:Nat):Bool:=match o with|some (.cells C _ _)=>decide (off+n<=C.size)|_=>false
def valO (n:Nat) (o:Option Obj) (off:Nat):Value:=match o with|some (.cells C _ _)=>.agg (C.extract off (off+n))|_=>undef
def zb6 (n:Nat) (pv:Value) (w:World):Bool:=match pv with | .pointer (some ⟨b,off,none⟩)=>okO n (blk w b) off|_=>false
def zbh (n:Nat) (pv:Value) (w:World):Value:=match pv with | .pointer (some ⟨b,off,none⟩)=>valO n (blk w b) off|_=>undef
@[go_sem] theorem z1h (n b off:Nat) (w:World):zb6 n (.pointer (some ⟨b,off,none⟩)) w=okO n (blk w b) off:=lay rfl
@[go_sem] theorem zy9 (n b off:Nat) (w:World):zbh n (.pointer (some ⟨b,off,none⟩)) w=valO n (blk w b) off:=lay rfl
def aggT (P:Program) (T:TypeId):Bool:=match P.underlying T with|some (.struct _)=>true|some (.array _ _)=>true|_=>false
theorem zus {P:Program} {T:TypeId} (h:aggT P T=true):∃ d,P.underlying T=some d/\(match d with | .struct _ | .array _ _=>true|_=>false)=true:=by
 unfold aggT at h
 split at h
 ·rename_i f hf;exact ⟨_,hf,rfl⟩
 ·rename_i a b hf;exact ⟨_,hf,rfl⟩
 ·cases h
theorem zgh {P:Program} {T n:Nat} (w:World) (g off:Nat) (t:TypeId) (cs:Array Value) (fr:Nat × Nat) (hg:w.heap[g]? = some (.cells cs t fr))
  (hT:aggT P T=true) (hi:(P.info? T).map (·.size)=some n) (hn:off+n<=cs.size) :
  (loadVar T ⟨g,off,none⟩).run P w=.ok (.agg (cs.extract off (off+n))) w:=by
 obtain ⟨d,hu,hd⟩:=zus hT
 have hlen:(cs.extract off (off+n)).toList.length=n:=by simp;omega
 have hl:(loadCells ⟨g,off,none⟩ (cs.extract off (off+n)).toList.length).run P w=.ok (cs.extract off (off+n)).toList.toArray w:=
  run_loadCells_list (P:=P) w ⟨g,off,none⟩ (cs.extract off (off+n)).toList (fun j v hv=>by
   have hadd:(⟨g,off,none⟩:Addr).add j=⟨g,off+j,none⟩:=by unfold Addr.add;split<;>simp_all
   rw [hadd,cell_of_row w g (off+j) cs t fr hg]
   have hv':(cs.extract off (off+n))[j]? = some v:=by rw [<- Array.getElem?_toList];exact hv
   rw [Array.getElem?_extract] at hv'
   split at hv'
   ·exact hv'
   ·cases hv')
 rw [hlen] at hl
 cases hq:P.info? T with
 | none=>simp [hq] at hi
 | some i=>
  have hs:i.size=n:=by simpa [hq] using hi
  have hagg:(isAgg T).run P w=.ok true w:=by
   unfold isAgg
   rw [Sem.run_bind,run_underlying hu w]
   cases d<;>simp_all
  simp only [Array.toArray_toList] at hl
  simp [loadVar,Sem.run_bind,hagg,sizeOf,typeInfo,hq,hs,hl]
theorem zd0 {P:Program} {T n:Nat} (hT:aggT P T=true) (hi:(P.info? T).map (·.size)=some n) (w:World) (g off:Nat) (h:okO n (blk w g) off=true) :
  (loadVar T ⟨g,off,none⟩).run P w=.ok (valO n (blk w g) off) w:=by
 unfold okO at h
 split at h
 ·rename_i C t fr hg
  have hn:off+n<=C.size:=by simpa using h
  rw [hg]
  exact zgh w g off t C fr hg hT hi hn
 ·cases h
theorem zmr {P:Program} {T n:Nat} (hT:aggT P T=true) (hi:(P.info? T).map (·.size)=some n)
  (dst:Option Tmp) (x:Tmp) (ty:TypeId) (pos:String) (aft:Array Edge) (gd:Option (Nat × Bool)) (A:Act) (w:World) (K:Act->World->Prop) (Q:Exit->Act->World->Prop) (h:zb6 n (A.eval (.tmp x)) w=true) :
  Oper.wp P ⟨dst,.load T (.tmp x),ty,pos,aft,gd⟩ A w K Q=K (A.put dst (zbh n (A.eval (.tmp x)) w)) w:=by
 unfold zb6 at h
 unfold zbh
 split at h
 ·rename_i b off hpv
  unfold okO at h
  split at h
  ·rename_i C t fr hg
   have hn:off+n<=C.size:=by simpa using h
   have hg':w.heap[b]? = some (.cells C t fr):=hg
   show Oper.upon P _ A K Q ((execOp A.eval _).run P w)=_
   have e:(execOp A.eval ⟨dst,.load T (.tmp x),ty,pos,aft,gd⟩).run P w=.ok (.value (.agg (C.extract off (off+n)))) w:=by
    simp only [execOp,hpv,Instr.loadAt,Instr.sureAddr,Sem.run_bind,Sem.run_pure,Result.andThen_ok,zgh w b off t C fr hg' hT hi hn]
   rw [e]
   simp only [hg,valO]
   rfl
  ·cases h
 ·cases h
def zcm (P:Program) (T:TypeId):Array Field:=match P.underlying T with|some (.struct f)=>f|_=>#[]
section
variable {P:Program}
include P
theorem zba {T:Nat} {Z:Array Value} {fields:Array Field} {places:Array (Nat × Nat)} (hz:∀ w,(zeroValue T).run P w=.ok (.agg Z) w) (hu:P.underlying T=some (.struct fields))
  (hp:∀ w,Sem.run P (fields.mapM fun (f:Field)=>do pure (f.offset,<- sizeOf f.type)) w=.ok places w)
  (dst:Option Tmp) (parts:Array (Nat × Operand)) (ty:TypeId) (pos:String) (aft:Array Edge) (gd:Option (Nat × Bool)) (A:Act) (w:World) (K:Act->World->Prop) (Q:Exit->Act->World->Prop)
  (h:(Instr.fill (places[·]?) Z (parts.toList.map fun p=>(p.1,A.eval p.2))).isSome=true) :
  Oper.wp P ⟨dst,.build T parts,ty,pos,aft,gd⟩ A w K Q=K (A.put dst (.agg ((Instr.fill (places[·]?) Z (parts.toList.map fun p=>(p.1,A.eval p.2))).getD #[]))) w:=by
 obtain ⟨C,hC⟩:=Option.isSome_iff_exists.1 h
 show Oper.upon P _ A K Q ((execOp A.eval _).run P w)=_
 have e:(execOp A.eval ⟨dst,.build T parts,ty,pos,aft,gd⟩).run P w=.ok (.value (.agg C)) w:=by
  have hl:(parts.map fun (i,x)=>(i,A.eval x)).toList=parts.toList.map fun p=>(p.1,A.eval p.2):=by simp
  simp only [execOp,Instr.build,Sem.run_bind,hz,run_underlying hu,Result.andThen_ok,Value.cells,hp,hl,hC,Sem.run_pure]
 rw [e,hC]
 rfl
theorem zef {fn:Func} {R:Ending->World->Prop} {a:Act} {w:World} {p:Tmp} {T n g off:Nat} {v:Value} (hfn:fn.results=#[.cell p T]) (hT:aggT P T=true) (hi:(P.info? T).map (·.size)=some n)
  (hp:a.tmps.getD p undef=.pointer (some ⟨g,off,none⟩)) (hok:okO n (blk w g) off=true) (hv:valO n (blk w g) off=v) (hd:a.defers=[]) (hR:R (.returned v) w):bodyPost P fn R .ret a w:=by
 refine ⟨hd,v,?_,hR⟩
 have hl:=zd0 hT hi w g off hok
 have hp':a.tmps[p]?.getD undef=.pointer (some ⟨g,off,none⟩):=by simpa using hp
 simp [results,hfn,hp',asAddr,hl,hv]
theorem zmx {fn:Func} {R:Ending->World->Prop} {a:Act} {w:World} {p q:Tmp} {T n g off:Nat} {v u:Value} (hfn:fn.results=#[.tmp q,.cell p T]) (hT:aggT P T=true) (hi:(P.info? T).map (·.size)=some n)
  (hq:a.tmps.getD q undef=u) (hp:a.tmps.getD p undef=.pointer (some ⟨g,off,none⟩)) (hok:okO n (blk w g) off=true) (hv:valO n (blk w g) off=v) (hd:a.defers=[]) (hR:R (.returned (.tuple #[u,v])) w):bodyPost P fn R .ret a w:=by
 refine ⟨hd,.tuple #[u,v],?_,hR⟩
 have hl:=zd0 hT hi w g off hok
 have hp':a.tmps[p]?.getD undef=.pointer (some ⟨g,off,none⟩):=by simpa using hp
 have hq':a.tmps[q]?.getD undef=u:=by simpa using hq
 simp [results,hfn,hp',hq',asAddr,hl,hv]
theorem za1 {fn:Func} {R:Ending->World->Prop} {a:Act} {w:World} {p q:Tmp} {T n g off:Nat} {v u:Value} (hfn:fn.results=#[.cell p T,.tmp q]) (hT:aggT P T=true) (hi:(P.info? T).map (·.size)=some n)
  (hq:a.tmps.getD q undef=u) (hp:a.tmps.getD p undef=.pointer (some ⟨g,off,none⟩)) (hok:okO n (blk w g) off=true) (hv:valO n (blk w g) off=v) (hd:a.defers=[]) (hR:R (.returned (.tuple #[v,u])) w):bodyPost P fn R .ret a w:=by
 refine ⟨hd,.tuple #[v,u],?_,hR⟩
 have hl:=zd0 hT hi w g off hok
 have hp':a.tmps[p]?.getD undef=.pointer (some ⟨g,off,none⟩):=by simpa using hp
 have hq':a.tmps[q]?.getD undef=u:=by simpa using hq
 simp [results,hfn,hp',hq',asAddr,hl,hv]
theorem zbl {fn:Func} {R:Ending->World->Prop} {a:Act} {w:World} {p q:Tmp} {T n g off T' n' g' off':Nat} {v u:Value} (hfn:fn.results=#[.cell p T,.cell q T']) (hT:aggT P T=true) (hi:(P.info? T).map (·.size)=some n) (hT':aggT P T'=true) (hi':(P.info? T').map (·.size)=some n')
  (hp:a.tmps.getD p undef=.pointer (some ⟨g,off,none⟩)) (hok:okO n (blk w g) off=true) (hv:valO n (blk w g) off=v)
  (hq:a.tmps.getD q undef=.pointer (some ⟨g',off',none⟩)) (hok':okO n' (blk w g') off'=true) (hu:valO n' (blk w g') off'=u) (hd:a.defers=[]) (hR:R (.returned (.tuple #[v,u])) w):bodyPost P fn R .ret a w:=by
 refine ⟨hd,.tuple #[v,u],?_,hR⟩
 have hl:=zd0 hT hi w g off hok
 have hl':=zd0 hT' hi' w g' off' hok'
 have hp':a.tmps[p]?.getD undef=.pointer (some ⟨g,off,none⟩):=by simpa using hp
 have hq':a.tmps[q]?.getD undef=.pointer (some ⟨g',off',none⟩):=by simpa using hq
 simp [results,hfn,hp',hq',asAddr,hl,hv,hl',hu]
theorem zl0 {fn:Func} {R:Ending->World->Prop} {a:Act} {w:World} {p q r:Tmp} {T n g off T' n' g' off':Nat} {v u x:Value} (hfn:fn.results=#[.cell p T,.cell q T',.tmp r]) (hT:aggT P T=true) (hi:(P.info? T).map (·.size)=some n) (hT':aggT P T'=true) (hi':(P.info? T').map (·.size)=some n')
  (hp:a.tmps.getD p undef=.pointer (some ⟨g,off,none⟩)) (hok:okO n (blk w g) off=true) (hv:valO n (blk w g) off=v)
  (hq:a.tmps.getD q undef=.pointer (some ⟨g',off',none⟩)) (hok':okO n' (blk w g') off'=true) (hu:valO n' (blk w g') off'=u) (hr:a.tmps.getD r undef=x) (hd:a.defers=[]) (hR:R (.returned (.tuple #[v,u,x])) w):bodyPost P fn R .ret a w:=by
 refine ⟨hd,.tuple #[v,u,x],?_,hR⟩
 have hl:=zd0 hT hi w g off hok
 have hl':=zd0 hT' hi' w g' off' hok'
 have hp':a.tmps[p]?.getD undef=.pointer (some ⟨g,off,none⟩):=by simpa using hp
 have hq':a.tmps[q]?.getD undef=.pointer (some ⟨g',off',none⟩):=by simpa using hq
 have hr':a.tmps[r]?.getD undef=x:=by simpa using hr
 simp [results,hfn,hp',hq',hr',asAddr,hl,hv,hl',hu]
theorem zb8 {T n:Nat} (hT:aggT P T=true) (hi:(P.info? T).map (·.size)=some n)
  (ρ:Operand->Value) (dst:Option Tmp) (x:Operand) (ty:TypeId) (pos:String) (aft:Array Edge) (gd:Option (Nat × Bool)) (w:World) :
  (execOp ρ ⟨dst,.load T x,ty,pos,aft,gd⟩).run P w=if zb6 n (ρ x) w=true then .ok (.value (zbh n (ρ x) w)) w else (do let v <- Instr.loadAt T (ρ x);pure (Next.value v):Sem Next).run P w:=by
 split
 ·rename_i h
  unfold zb6 at h
  unfold zbh
  split at h
  ·rename_i b off hpv
   unfold okO at h
   split at h
   ·rename_i C t fr hg
    have hn:off+n<=C.size:=by simpa using h
    have hg':w.heap[b]? = some (.cells C t fr):=hg
    simp only [execOp,hpv,Instr.loadAt,Instr.sureAddr,Sem.run_bind,Sem.run_pure,Result.andThen_ok,zgh w b off t C fr hg' hT hi hn,hg,valO]
   ·cases h
  ·cases h
 ·rfl
theorem zbm {T n:Nat} (hT:aggT P T=true) (hi:(P.info? T).map (·.size)=some n)
  (dst:Option Tmp) (x:Tmp) (ty:TypeId) (pos:String) (aft:Array Edge) (gd:Option (Nat × Bool)) (A:Act) (w:World) (K:Act->World->Prop) (Q:Exit->Act->World->Prop) :
  Oper.wp P ⟨dst,.load T (.tmp x),ty,pos,aft,gd⟩ A w K Q=if zb6 n (A.eval (.tmp x)) w=true then K (A.put dst (zbh n (A.eval (.tmp x)) w)) w else Oper.wp P ⟨dst,.load T (.const (A.eval (.tmp x))),ty,pos,aft,gd⟩ A w K Q:=by
 split
 ·rename_i h;exact zmr hT hi dst x ty pos aft gd A w K Q h
 ·rfl
end
def zep (C:Array Value) (off:Nat) (X:Array Value):Array Value:=(C.toList.take off++X.toList++C.toList.drop (off+X.size)).toArray
def okS (n:Nat) (o:Option Obj) (off:Nat) (X:Array Value):Bool:=match o with|some (.cells C t (0,0))=>decide (X.size=n/\off+X.size<=C.size/\X.all (fun v=>v.oneCell')=true)|_=>false
def stS (o:Option Obj) (b off:Nat) (X:Array Value) (w:World):World:=match o with|some (.cells C t (0,0))=>zai w b (zep C off X) t|_=>w
def zcz (n:Nat) (pv xv:Value) (w:World):Bool:=match pv,xv with | .pointer (some ⟨b,off,none⟩),.agg X=>okS n (blk w b) off X|_,_=>false
def zdv (pv xv:Value) (w:World):World:=match pv,xv with | .pointer (some ⟨b,off,none⟩),.agg X=>stS (blk w b) b off X w|_,_=>w
@[go_sem] theorem zok (n b off:Nat) (X:Array Value) (w:World):zcz n (.pointer (some ⟨b,off,none⟩)) (.agg X) w=okS n (blk w b) off X:=lay rfl
@[go_sem] theorem zqw (b off:Nat) (X:Array Value) (w:World):zdv (.pointer (some ⟨b,off,none⟩)) (.agg X) w=stS (blk w b) b off X w:=lay rfl
section
variable {P:Program} {T n:Nat} (hi:(P.info? T).map (·.size)=some n) (dst:Option Tmp) (x y:Tmp) (ty:TypeId) (pos:String) (aft:Array Edge) (gd:Option (Nat × Bool)) (A:Act) (w:World) (K:Act->World->Prop) (Q:Exit->Act->World->Prop)
include P T n hi dst x y ty pos aft gd A w K Q
theorem zlt (h:zcz n (A.eval (.tmp x)) (A.eval (.tmp y)) w=true) :
  Oper.wp P ⟨dst,.store T (.tmp x) (.tmp y),ty,pos,aft,gd⟩ A w K Q=K (A.put dst undef) (zdv (A.eval (.tmp x)) (A.eval (.tmp y)) w):=by
 unfold zcz at h
 split at h
 ·rename_i b off X hpv hxv
  unfold okS at h
  split at h
  ·rename_i C t hg
   obtain ⟨hX,hn,hone⟩:X.size=n/\off+X.size<=C.size/\X.all (fun v=>v.oneCell')=true:=by simpa using h
   have hg':w.heap[b]? = some (.cells C t (0,0)):=hg
   show Oper.upon P _ A K Q ((execOp A.eval _).run P w)=_
   have hone':∀ v ∈ X.toList,v.oneCell'=true:=fun v hv=>(Array.all_eq_true_iff_forall_mem.1 hone) v (by simpa using hv)
   have h1:(storeCells ⟨b,off,none⟩ X.toList 0).run P w=.ok () (w.setRow b (zep C off X)):=by
    have:=run_storeCells_at (P:=P) b off t X.toList 0 C w hg' (by simpa using hn) hone'
    simpa [zep] using this
   have h2:w.setRow b (zep C off X)=zai w b (zep C off X) t:=by
    unfold World.setRow zai;congr 1
    have hb:b<w.heap.size:=(Array.getElem?_eq_some_iff.1 hg').1
    have hv:w.heap[b]=.cells C t (0,0):=(Array.getElem?_eq_some_iff.1 hg').2
    apply Array.ext_getElem?;intro k
    rw [Array.getElem?_modify,Array.getElem?_setIfInBounds]
    by_cases hk:b=k
    ·subst hk;simp [hb,hv]
    ·simp [hk]
   have e:(execOp A.eval ⟨dst,.store T (.tmp x) (.tmp y),ty,pos,aft,gd⟩).run P w=.ok .skip (zai w b (zep C off X) t):=by
    cases hq:P.info? T with
    | none=>simp [hq] at hi
    | some i=>
     have hs:i.size=n:=by simpa [hq] using hi
     simp [execOp,hpv,hxv,Instr.storeAt,Instr.sureAddr,Sem.run_bind,storeVar,Value.cells,sizeOf,typeInfo,hq,hs,hX,h1,h2]
   have e2:zdv (A.eval (.tmp x)) (A.eval (.tmp y)) w=zai w b (zep C off X) t:=by
    rw [hpv,hxv]
    show stS (blk w b) b off X w=_
    rw [show blk w b=some (.cells C t (0,0)) from hg]
    rfl
   rw [e,e2]
   rfl
  ·cases h
 ·cases h
theorem zbg :
  Oper.wp P ⟨dst,.store T (.tmp x) (.tmp y),ty,pos,aft,gd⟩ A w K Q=if zcz n (A.eval (.tmp x)) (A.eval (.tmp y)) w=true then K (A.put dst undef) (zdv (A.eval (.tmp x)) (A.eval (.tmp y)) w) else Oper.wp P ⟨dst,.store T (.const (A.eval (.tmp x))) (.const (A.eval (.tmp y))),ty,pos,aft,gd⟩ A w K Q:=by
 split
 ·rename_i h;exact zlt hi dst x y ty pos aft gd A w K Q h
 ·rfl
end

end
section
open Go Go.RowKit
theorem sR {p:Prop} (h:p:=by first|(simp [go_sem,↓IntWalk.iteOmega, *];done)|(simp [go_sem,↓IntWalk.iteOmega, *]<;>rfl)):p:=h
theorem nL {n:Nat}:n ≤ n:=Nat.le_refl n
theorem sI {p:Prop} (h:p:=by simp):p:=h
theorem aS {p:Prop} (h:p:=by assumption):p:=h
theorem sO {p:Prop} (h:p:=by simp;omega):p:=h
theorem sM {p:Prop} (h:p:=by simp [go_sem,↓IntWalk.iteOmega, *]):p:=h
theorem tkd {α:Type}:(∀ (a:α) (l:List α) (n:Nat),List.take (n+1) (a::l)=a::List.take n l) ∧ (∀ l:List α,List.take 0 l=[]) ∧ (∀ (a:α) (l:List α) (n:Nat),List.drop (n+1) (a::l)=List.drop n l) ∧ ∀ l:List α,List.drop 0 l=l:=⟨fun _ _ _=>rfl,fun _=>rfl,fun _ _ _=>rfl,fun _=>rfl⟩
theorem szs:(∀ (w:World) (o:Obj),(w.alloc o).heap.size=w.heap.size+1) ∧ (∀ (w:World) (b:Nat) (A:Array Value) (t:TypeId),(zai w b A t).heap.size=w.heap.size) ∧ (∀ w:World,w.drew.heap.size=w.heap.size) ∧ ∀ (w:World) (n:Nat),(w.drewN n).heap=w.heap:=⟨World.size_alloc,size_setBlk,World.size_drew,World.heap_drewN⟩
theorem Cpv {P:Program} {f:FuncId} {xs:Array Value} {w:World} {v:Value} {K:Ending → World → Prop} (h:Calls P f xs w fun e w'=>e=.returned v ∧ w=w') (hK:K (.returned v) w):Calls P f xs w K:=h.mono fun e w' ⟨h1,h2⟩=>by subst h1;subst h2;exact hK
theorem Cbv {P:Program} {f:FuncId} {xs:Array Value} {w:World} {v:Value} {K:Ending → World → Prop} (h:Calls P f xs w fun e w'=>e=.returned v ∧ Below w.heap.size w w') (hK:∀ w':World,Below w.heap.size w w' → (∀ b,(if b<w.heap.size then True else False) → blk w' b=blk w b) → (∀ b o,(if b<w.heap.size then True else False) → w'.cell? ⟨b,o,none⟩=w.cell? ⟨b,o,none⟩) → (∀ b o,(if b<w.heap.size then True else False) → w'.frozen? ⟨b,o,none⟩=w.frozen? ⟨b,o,none⟩) → w.heap.size ≤ w'.heap.size → K (.returned v) w'):Calls P f xs w K:=h.mono fun e w' ⟨h1,h2⟩=>by subst h1;exact hK w' h2 (zdn h2).1 (zdn h2).2.1 (zdn h2).2.2 h2.size
theorem bL {B:Nat} {w w':World} (h:Below B w w':=by ((with_reducible repeat' first|exact Below.refl _ _|refine zae ?_ ?_|refine Below.alloc ?_ ?_ _|refine Below.drew ?_|refine zho ?_ _|refine zaf ‹_› ?_ ?_)<;>(try simp only [szs])<;>omega)):Below B w w':=h
end
end Go.Proofs.YtlmbamdkklkliaaGreat
