/- Part of the proof that a law holds at every input. No conditions. -/
import Derived.BigQuiet
import Derived.Deep.DrawnRows
import Derived.Deep.QuietTactic
import Derived.RegionTactic
import Derived.Test.YtlmbamdkklkliaaGreatK06
import Derived.Test.YtlmbamdkklkliaaGreatK07
import Derived.Test.YtlmbamdkklkliaaGreatK10
import Derived.Test.YtlmbamdkklkliaaGreatK12
import Derived.Test.YtlmbamdkklkliaaGreatK14
import Derived.Test.YtlmbamdkklkliaaGreatK17
import Derived.Test.YtlmbamdkklkliaaGreatK18
namespace Go.Proofs.YtlmbamdkklkliaaGreat
set_option linter.unusedVariables false
set_option linter.unusedSimpArgs false
set_option maxRecDepth 100000
set_option maxHeartbeats 16000000
open Go.Proofs.Tryz
open Go.IntWalk (iteOmega)
section
open Go.RowKit
def inrF (k:Int) (x:Int) (f:SFlags):Int × SFlags:=(sumR x 1 false,⟨decide (128<=sumR x 1 false),sumR x 1 false==0,(k==2)&&majB (decide (128<=x)) false (decide (128<=sumR x 1 false)),sumH x 1 false,par (sumR x 1 false),(k==2)&&sumV x 1 false,f.cy⟩)
theorem zme (k:Int) (x:Int) (f:SFlags) (w:World) (h0:0<=x) (h1:x<=255):Calls prog 162 #[.int .i64 k,.int .u8 x,.agg f.cells] w fun e w'=>e=.returned (.tuple #[.int .u8 (inrF k x f).1,.agg (inrF k x f).2.cells])/\Below w.heap.size w w':=
 zzf k x (k==2) f.s f.z f.k f.ac f.p f.v f.cy w rfl h0 h1
def dcrF (k:Int) (x:Int) (f:SFlags):Int × SFlags:=(difR x 1 false,⟨decide (128<=difR x 1 false),difR x 1 false==0,(k==2)&&majB (decide (128<=x)) true (decide (128<=difR x 1 false)),difH x 1 false,par (difR x 1 false),(k==2)&&difV x 1 false,f.cy⟩)
theorem zmj (k:Int) (x:Int) (f:SFlags) (w:World) (h0:0<=x) (h1:x<=255):Calls prog 163 #[.int .i64 k,.int .u8 x,.agg f.cells] w fun e w'=>e=.returned (.tuple #[.int .u8 (dcrF k x f).1,.agg (dcrF k x f).2.cells])/\Below w.heap.size w w':=
 zz5 k x (k==2) f.s f.z f.k f.ac f.p f.v f.cy w rfl h0 h1
def inxF (k:Int) (x:Int) (f:SFlags):Int × SFlags:=((x+1)%65536,⟨f.s,f.z,cond (k==2) (x==65535) f.k,f.ac,f.p,f.v,f.cy⟩)
theorem zwc (k:Int) (x:Int) (f:SFlags) (w:World) (h0:0<=x) (h1:x<=65535):Calls prog 174 #[.int .i64 k,.int .u16 x,.agg f.cells] w fun e w'=>e=.returned (.tuple #[.int .u16 (inxF k x f).1,.agg (inxF k x f).2.cells])/\Below w.heap.size w w':=
 (zze k x (k==2) f.s f.z f.k f.ac f.p f.v f.cy w rfl h0 h1).mono fun e w' ⟨he,hw⟩=>⟨he,by obtain ⟨o1,o2,rfl⟩:=hw;exact (((Below.refl _ _).alloc nL _).alloc sI _).drew⟩
def dcxF (k:Int) (x:Int) (f:SFlags):Int × SFlags:=((x-1)%65536,⟨f.s,f.z,cond (k==2) (x==0) f.k,f.ac,f.p,f.v,f.cy⟩)
theorem zw7 (k:Int) (x:Int) (f:SFlags) (w:World) (h0:0<=x) (h1:x<=65535):Calls prog 175 #[.int .i64 k,.int .u16 x,.agg f.cells] w fun e w'=>e=.returned (.tuple #[.int .u16 (dcxF k x f).1,.agg (dcxF k x f).2.cells])/\Below w.heap.size w w':=
 (zz4 k x (k==2) f.s f.z f.k f.ac f.p f.v f.cy w rfl h0 h1).mono fun e w' ⟨he,hw⟩=>⟨he,by obtain ⟨o1,o2,rfl⟩:=hw;exact (((Below.refl _ _).alloc nL _).alloc sI _).drew⟩
def dadF (k:Int) (x:Int) (y:Int) (f:SFlags):Int × SFlags:=(dadR x y,⟨f.s,f.z,f.k,f.ac,f.p,cond (k==2) (dadV x y) f.v,dadC x y⟩)
theorem zw8 (k:Int) (x:Int) (y:Int) (f:SFlags) (w:World) (h0:0<=x) (h1:x<=65535) (h2:0<=y) (h3:y<=65535):Calls prog 176 #[.int .i64 k,.int .u16 x,.int .u16 y,.agg f.cells] w fun e w'=>e=.returned (.tuple #[.int .u16 (dadF k x y f).1,.agg (dadF k x y f).2.cells])/\Below w.heap.size w w':=
 (zz7 k x y (k==2) f.s f.z f.k f.ac f.p f.v f.cy w rfl h0 h1 h2 h3).mono fun e w' ⟨he,hw⟩=>⟨he,by subst hw;exact (((Below.refl _ _).alloc nL _).alloc sI _).drew⟩
def zuj (x:Int) (y:Int):Int × SFlags:=(dsR x y,⟨dsS x y,dsZ x y,dsK x y,dsAC x y,dsP x y,dsV x y,dsC x y⟩)
theorem zui (x:Int) (y:Int) (w:World) (h0:0<=x) (h1:x<=65535) (h2:0<=y) (h3:y<=65535):Calls prog 181 #[.int .u16 x,.int .u16 y] w fun e w'=>e=.returned (.tuple #[.int .u16 (zuj x y).1,.agg (zuj x y).2.cells])/\Below w.heap.size w w':=
 (zw5 x y w h0 h1 h2 h3).mono fun e w' ⟨he,hw⟩=>⟨he,by subst hw;exact ((((Below.refl _ _).alloc nL _).alloc sI _).alloc sO _).drew⟩
def daaF (k:Int) (x:Int) (f:SFlags):Int × SFlags:=(daaR x (f.ac||decide (9<x%16)) (f.cy||decide (153<x)),⟨decide (128<=daaR x (f.ac||decide (9<x%16)) (f.cy||decide (153<x))),daaR x (f.ac||decide (9<x%16)) (f.cy||decide (153<x))==0,(k==2)&&majB (decide (128<=x)) false (decide (128<=daaR x (f.ac||decide (9<x%16)) (f.cy||decide (153<x)))),sumH x (daaX (f.ac||decide (9<x%16)) (f.cy||decide (153<x))) false,par (daaR x (f.ac||decide (9<x%16)) (f.cy||decide (153<x))),(k==2)&&sumV x (daaX (f.ac||decide (9<x%16)) (f.cy||decide (153<x))) false,f.cy||decide (153<x)⟩)
theorem zw9 (k:Int) (x:Int) (f:SFlags) (w:World) (h0:0<=x) (h1:x<=255):Calls prog 177 #[.int .i64 k,.int .u8 x,.agg f.cells] w fun e w'=>e=.returned (.tuple #[.int .u8 (daaF k x f).1,.agg (daaF k x f).2.cells])/\Below w.heap.size w w':=
 zz8 k x (f.ac||decide (9<x%16)) (f.cy||decide (153<x)) (k==2) f.s f.z f.k f.ac f.p f.v f.cy w rfl h0 h1 (zzc x f.ac) (zzd x f.cy)
def opQ (op:Int):Int:=bits .and .i64 op 7
def aluF (k op a b:Int) (f:SFlags):Int × SFlags:=(aA (opQ op) a b f.cy,⟨decide (128<=aR (opQ op) a b f.cy),aR (opQ op) a b f.cy==0,(k==2)&&aK (opQ op) a b f.cy,aH (opQ op) a b f.cy (k==2),par (aR (opQ op) a b f.cy),(k==2)&&aV (opQ op) a b f.cy,aO (opQ op) a b f.cy⟩)
theorem zqn (k op a b:Int) (f:SFlags) (w:World) (h0:0<=a) (h1:a<=255) (h2:0<=b) (h3:b<=255):Calls prog 172 #[.int .i64 k,.int .i64 op,.int .u8 a,.int .u8 b,.agg f.cells] w fun e w'=>e=.returned (.tuple #[.int .u8 (aluF k op a b f).1,.agg (aluF k op a b f).2.cells])/\Below w.heap.size w w':=by
 have hm:=zd7 op
 have hq:∀ q,bits .and .i64 op 7=q->aluF k op a b f=(aA q a b f.cy,⟨decide (128<=aR q a b f.cy),aR q a b f.cy==0,(k==2)&&aK q a b f.cy,aH q a b f.cy (k==2),par (aR q a b f.cy),(k==2)&&aV q a b f.cy,aO q a b f.cy⟩):=fun q h=>by subst h;rfl
 obtain h|h|h|h|h|h|h|h:bits .and .i64 op 7=0\/bits .and .i64 op 7=1\/bits .and .i64 op 7=2\/bits .and .i64 op 7=3\/bits .and .i64 op 7=4\/bits .and .i64 op 7=5\/bits .and .i64 op 7=6\/bits .and .i64 op 7=7:=oM
 ·rw [hq _ h];exact do_0 k op a b (k==2) f.s f.z f.k f.ac f.p f.v f.cy w rfl h h0 h1 h2 h3
 ·rw [hq _ h];exact do_1 k op a b (k==2) f.s f.z f.k f.ac f.p f.v f.cy w rfl h h0 h1 h2 h3
 ·rw [hq _ h];exact do_2 k op a b (k==2) f.s f.z f.k f.ac f.p f.v f.cy w rfl h h0 h1 h2 h3
 ·rw [hq _ h];exact do_3 k op a b (k==2) f.s f.z f.k f.ac f.p f.v f.cy w rfl h h0 h1 h2 h3
 ·rw [hq _ h];exact do_4 k op a b (k==2) f.s f.z f.k f.ac f.p f.v f.cy w rfl h h0 h1 h2 h3
 ·rw [hq _ h];exact do_5 k op a b (k==2) f.s f.z f.k f.ac f.p f.v f.cy w rfl h h0 h1 h2 h3
 ·rw [hq _ h];exact do_6 k op a b (k==2) f.s f.z f.k f.ac f.p f.v f.cy w rfl h h0 h1 h2 h3
 ·rw [hq _ h];exact do_7 k op a b (k==2) f.s f.z f.k f.ac f.p f.v f.cy w rfl h h0 h1 h2 h3
end
section
open Go.RowKit
def cyc (k a d:Int):SCycle:=⟨k,a,d,3⟩
def gAt (G:List Int) (n:Nat):Int:=G[n]?.getD 0
def zfp (G:List Int) (n:Nat):Int:=ze9 (gAt G (n+1)) (gAt G n)
def zb1 (P:SPlan):Int:=if P.injected then P.c.regs.pc else IntKind.u16.wrap (P.c.regs.pc+IntKind.u16.wrap P.i.length)
def zcn (P:SPlan):Bool:=ztt P.i.cond P.c.regs.f
def zhk (P:SPlan) (k:Nat):SCycle:=if P.injected then cyc 9 P.c.regs.pc 0 else cyc 2 (IntKind.u16.wrap (P.c.regs.pc+(k:Int))) 0
def zbf (P:SPlan):Nat->List SCycle
 | 0=>[]
 | n+1=>zbf P n++[zhk P (n+1)]
def zic (P:SPlan) (v:Int):List SCycle:=[cyc 5 (IntKind.u16.wrap (P.c.regs.sp-1)) (v / 256),cyc 5 (IntKind.u16.wrap (P.c.regs.sp-2)) (v%256)]
def popP (P:SPlan):List SCycle:=[cyc 4 P.c.regs.sp 0,cyc 4 (IntKind.u16.wrap (P.c.regs.sp+1)) 0]
def zgz (P:SPlan) (v:Int) (write:Bool):List SCycle:=
 if write then [cyc 3 v P.c.regs.l,cyc 3 (IntKind.u16.wrap (v+1)) P.c.regs.h] else [cyc 2 v 0,cyc 2 (IntKind.u16.wrap (v+1)) 0]
def zf9 (P:SPlan):Nat->List SCycle
 | 0=>[]
 | n+1=>zf9 P n++[cyc 11 P.c.regs.pc 0]
def zhr (P:SPlan):List SCycle:=if zcn P=false/\P.c.chip=2 then zbf P 1 else zbf P 2
def zfz (P:SPlan) (G:List Int):Int:=if P.i.kind=14 then (inrF P.c.chip (gAt G 1) P.c.regs.f).1 else (dcrF P.c.chip (gAt G 1) P.c.regs.f).1
def zgb (P:SPlan) (G:List Int):List SCycle:=
 zbf P 2++(if P.i.kind=5 then [cyc 2 (zfp G 1) 0] else if P.i.kind=6 then [cyc 3 (zfp G 1) P.c.regs.a] else if P.i.kind=7 then zgz P (zfp G 1) false else if P.i.kind=8 then zgz P (zfp G 1) true else [])
def zh1 (P:SPlan):Int:=if P.i.pair=3 then pswR P.c.chip P.c.regs else zc6 P.c.regs P.i.pair
def zcq (P:SPlan):List SCycle:=
 if P.i.kind=24 then zhr P
 else if P.i.kind=25 then (if zcn P=true then zhr P++zic P (zb1 P) else zhr P)
 else if P.i.kind=26 then (if zcn P=true then popP P else [])
 else if P.i.kind=27 then zic P (zb1 P)
 else if P.i.kind=45 then (if zcn P=true then zic P (zb1 P) else [])
 else if P.i.kind=30 then zic P (zh1 P)
 else if P.i.kind=31 then popP P
 else if P.i.kind=32 then popP P++[cyc 5 (IntKind.u16.wrap (P.c.regs.sp+1)) P.c.regs.h,⟨5,P.c.regs.sp,P.c.regs.l,if P.c.chip=2 then 3 else 5⟩]
 else if P.i.kind=37 then (if P.c.chip=2 then [] else [cyc 10 P.c.regs.pc 0])
 else if P.i.kind=18\/P.i.kind=40\/P.i.kind=42 then zf9 P 2
 else if P.i.kind=41 then zf9 P 1
 else if P.i.kind=43\/P.i.kind=44 then zbf P 1++zf9 P 1
 else []
def zcl (P:SPlan) (G:List Int):List SCycle:=
 if P.i.kind=2 then (if P.i.src=6 then [cyc 2 (zc6 P.c.regs 2) 0] else if P.i.dst=6 then [cyc 3 (zc6 P.c.regs 2) (getR P.c.regs P.i.src)] else [])
 else if P.i.kind=3 then (if P.i.dst=6 then zbf P 1++[cyc 3 (zc6 P.c.regs 2) (gAt G 1)] else zbf P 1)
 else if P.i.kind=12 then (if P.i.src=6 then [cyc 2 (zc6 P.c.regs 2) 0] else [])
 else if P.i.kind=13 then zbf P 1
 else if P.i.kind=14\/P.i.kind=15 then (if P.i.dst=6 then [cyc 2 (zc6 P.c.regs 2) 0,cyc 3 (zc6 P.c.regs 2) (zfz P G)] else [])
 else if P.i.kind=4\/P.i.kind=5\/P.i.kind=6\/P.i.kind=7\/P.i.kind=8 then zgb P G
 else if P.i.kind=9 then [cyc 2 (zc6 P.c.regs P.i.pair) 0]
 else if P.i.kind=10 then [cyc 3 (zc6 P.c.regs P.i.pair) P.c.regs.a]
 else if P.i.kind=33 then zbf P 1++[cyc 6 (ze9 (gAt G 1) (gAt G 1)) 0]
 else if P.i.kind=34 then zbf P 1++[cyc 7 (ze9 (gAt G 1) (gAt G 1)) P.c.regs.a]
 else if P.i.kind=46\/P.i.kind=47 then zgz P (zc6 P.c.regs 1) (P.i.kind==46)
 else zcq P
def zi0 (c:SCPU) (source:Int) (G:List Int):SPlan:=⟨c,source==5,⟨none,0,0⟩,zb7 c.chip (gAt G 0),⟨none,0,0⟩⟩
def zdz (c:SCPU) (source:Int) (G:List Int):List SCycle:=
 if zdo source=true then ⟨12,c.regs.pc,0,6⟩::zic (zi0 c source G) c.regs.pc
 else if G.length=0 then [⟨if source=5 then 8 else 1,c.regs.pc,0,4⟩]
 else ⟨1,c.regs.pc,0,4⟩::zcl (zi0 c source G) G
def zdb (c:SCPU) (source:Int) (G:List Int):SCycle:=(zdz c source G)[G.length]?.getD SCycle.zero
def zb9 (c:SCPU) (source:Int) (G:List Int):Bool:=decide (G.length<(zdz c source G).length)
def zbv (P:SPlan) (G:List Int) (r:SRegs):SRegs:=
 if P.i.kind=2 then setR r P.i.dst (if P.i.src=6 then gAt G 1 else getR P.c.regs P.i.src)
 else if P.i.kind=3 then setR r P.i.dst (gAt G 1)
 else if P.i.kind=4 then zdf r P.i.pair (zfp G 1)
 else if P.i.kind=5 then { r with a:=gAt G 3 }
 else if P.i.kind=9 then { r with a:=gAt G 1 }
 else if P.i.kind=33 then { r with a:=gAt G 2 }
 else if P.i.kind=7 then zdf r 2 (zfp G 3)
 else if P.i.kind=47\/P.i.kind=32 then zdf r 2 (zfp G 1)
 else if P.i.kind=11 then { r with d:=r.h,e:=r.l,h:=r.d,l:=r.e }
 else r
def ze1 (P:SPlan) (G:List Int):Int:=if P.i.kind=13\/P.i.src=6 then gAt G 1 else getR P.c.regs P.i.src
def rotR (op a:Int) (c:Bool):Int × Bool:=
 if op%4=0 then (bits .or .u8 (IntKind.u8.wrap (a * 2)) (a / 128),decide (128<=a))
 else if op%4=1 then (bits .or .u8 (a / 2) (IntKind.u8.wrap (a * 128)),bits .and .u8 a 1==1)
 else if op%4=2 then (bits .or .u8 (IntKind.u8.wrap (a * 2)) (lowN c),decide (128<=a))
 else (bits .or .u8 (a / 2) (IntKind.u8.wrap (lowN c * 128)),bits .and .u8 a 1==1)
def zfs (P:SPlan) (G:List Int) (f:SFlags):Int × SFlags:=
 if P.i.kind=14 then inrF P.c.chip (if P.i.dst=6 then gAt G 1 else getR P.c.regs P.i.dst) f else dcrF P.c.chip (if P.i.dst=6 then gAt G 1 else getR P.c.regs P.i.dst) f
def zio (P:SPlan) (f:SFlags):Int × SFlags:=
 if P.i.kind=16 then inxF P.c.chip (zc6 P.c.regs P.i.pair) f else dcxF P.c.chip (zc6 P.c.regs P.i.pair) f
def zan (P:SPlan) (G:List Int) (r:SRegs):SRegs:=
 if P.i.kind=12\/P.i.kind=13 then { r with a:=(aluF P.c.chip P.i.op r.a (ze1 P G) r.f).1,f:=(aluF P.c.chip P.i.op r.a (ze1 P G) r.f).2 }
 else if P.i.kind=14\/P.i.kind=15 then setR { r with f:=(zfs P G r.f).2 } P.i.dst (zfs P G r.f).1
 else if P.i.kind=16\/P.i.kind=17 then zdf { r with f:=(zio P r.f).2 } P.i.pair (zio P r.f).1
 else if P.i.kind=18 then zdf { r with f:=(dadF P.c.chip (zc6 P.c.regs 2) (zc6 P.c.regs P.i.pair) r.f).2 } 2 (dadF P.c.chip (zc6 P.c.regs 2) (zc6 P.c.regs P.i.pair) r.f).1
 else if P.i.kind=19 then { r with a:=(daaF P.c.chip r.a r.f).1,f:=(daaF P.c.chip r.a r.f).2 }
 else if P.i.kind=20 then { r with a:=255-r.a }
 else if P.i.kind=21 then { r with f := { r.f with cy:=true } }
 else if P.i.kind=22 then { r with f := { r.f with cy := !r.f.cy } }
 else if P.i.kind=23 then { r with a:=(rotR P.i.op r.a r.f.cy).1,f := { r.f with cy:=(rotR P.i.op r.a r.f.cy).2 } }
 else r
def zal (P:SPlan) (G:List Int) (r:SRegs):SRegs:=
 if P.i.kind=24 then (if zcn P=true then { r with pc:=zfp G 1 } else r)
 else if P.i.kind=25 then (if zcn P=true then { r with pc:=zfp G 1,sp:=IntKind.u16.wrap (r.sp-2) } else r)
 else if P.i.kind=26 then (if zcn P=true then { r with pc:=zfp G 1,sp:=IntKind.u16.wrap (r.sp+2) } else r)
 else if P.i.kind=27 then { r with pc:=IntKind.u16.wrap (8 * P.i.n),sp:=IntKind.u16.wrap (r.sp-2) }
 else if P.i.kind=45 then (if zcn P=true then { r with pc:=64,sp:=IntKind.u16.wrap (r.sp-2) } else r)
 else if P.i.kind=28 then { r with pc:=zc6 P.c.regs 2 }
 else if P.i.kind=29 then { r with sp:=zc6 P.c.regs 2 }
 else if P.i.kind=30 then { r with sp:=IntKind.u16.wrap (r.sp-2) }
 else if P.i.kind=31 then (if P.i.pair=3 then { zly P.c.chip r (zfp G 1) with sp:=IntKind.u16.wrap (r.sp+2) } else { zdf r P.i.pair (zfp G 1) with sp:=IntKind.u16.wrap ((zdf r P.i.pair (zfp G 1)).sp+2) })
 else r
def zcw (P:SPlan) (G:List Int) (r:SRegs):SRegs:=
 if P.i.kind=40 then zdf { r with f:=(zuj (zc6 P.c.regs 2) (zc6 P.c.regs 0)).2 } 2 (zuj (zc6 P.c.regs 2) (zc6 P.c.regs 0)).1
 else if P.i.kind=41 then zdf { r with f := { r.f with cy:=(arhl (zc6 P.c.regs 2)).2 } } 2 (arhl (zc6 P.c.regs 2)).1
 else if P.i.kind=42 then zdf { r with f := { r.f with cy:=(rdel (zc6 P.c.regs 1) r.f.cy).2.1,v:=(rdel (zc6 P.c.regs 1) r.f.cy).2.2 } } 1 (rdel (zc6 P.c.regs 1) r.f.cy).1
 else if P.i.kind=43 then zdf r 1 (IntKind.u16.wrap (zc6 P.c.regs 2+gAt G 1))
 else if P.i.kind=44 then zdf r 1 (IntKind.u16.wrap (r.sp+gAt G 1))
 else r
def rimB (c:SCPU) (l:SLines):Int:=
 bits .or .u8 (bits .or .u8 (bits .or .u8 (bits .or .u8 (bits .or .u8 (sbit l.sid 7) (sbit c.r75 6)) (sbit l.r65 5)) (sbit l.r55 4)) (sbit (if c.saved then c.savedIE else c.ie) 3)) (bits .and .u8 c.mask 7)
def rimC (c:SCPU) (l:SLines):SCPU := { c with saved:=false,savedIE:=false }
def zd3 (k:Int):Bool:=k==2||k==3||k==4||k==5||k==9||k==7||k==47||k==33||k==11||k==32
def zbu (k:Int):Bool:=k==12||k==13||k==14||k==15||k==16||k==17||k==18||k==19||k==20||k==21||k==22||k==23
def zbt (k:Int):Bool:=k==24||k==25||k==26||k==27||k==45||k==28||k==29||k==30||k==31
def zc7 (k:Int):Bool:=k==40||k==41||k==42||k==43||k==44
def zci (P:SPlan):SCPU := { P.c with regs := { P.c.regs with pc:=zb1 P },delay:=P.i.kind==35,halted:=P.i.kind==37 }
def zbk (P:SPlan) (G:List Int) (l:SLines):SCPU:=
 if zd3 P.i.kind then { zci P with regs:=zbv P G (zci P).regs }
 else if zbu P.i.kind then { zci P with regs:=zan P G (zci P).regs }
 else if zbt P.i.kind then { zci P with regs:=zal P G (zci P).regs }
 else if P.i.kind=35\/P.i.kind=36 then { zci P with ie:=P.i.kind==35 }
 else if P.i.kind=38 then { rimC (zci P) l with regs := { (zci P).regs with a:=rimB (zci P) l } }
 else if P.i.kind=39 then sim (zci P) P.c.regs.a
 else if zc7 P.i.kind then { zci P with regs:=zcw P G (zci P).regs }
 else zci P
def zch (c:SCPU) (source:Int) (G:List Int) (l:SLines):SCPU:=
 if zdo source=true then { c with regs := { c.regs with pc:=zk7 source,sp:=IntKind.u16.wrap (c.regs.sp-2) } }
 else zbk (zi0 c source G) G l
end
section
open Go.RowKit
def zgu (c:SCore) (s:Int):SCore := { c with cpu:=ze7 c.cpu s,source:=s,got:=⟨none,0,0⟩,cycle:=zdb (ze7 c.cpu s) s [] }
def zfi (c:SCore) (G:List Int) (s:Int):SCore × List Int:=if s=0 then (c,G) else (zgu c s,[])
def zg9 (c:SCore):SCore := { c with next:=zik c c.hold,hold:=false }
def endM (c:SCore) (G:List Int) (l:SLines):SCore:=
 if zb9 c.cpu c.source G=true then zg9 { c with cycle:=zdb c.cpu c.source G }
 else zg9 (zgu { c with cpu:=zch c.cpu c.source G l } (zc5 (zch c.cpu c.source G l) l))
def endG (c:SCore) (G:List Int):List Int:=if zb9 c.cpu c.source G=true then G else []
def endX (c:SCore) (G:List Int) (l:SLines) (x:SChange) (sg:Sl):SChange:=
 if zb9 c.cpu c.source G=true then x else { x with ended:=true,cpu:=zch c.cpu c.source G l,got:=sg }
def zac (c:SCore) (l:SLines):SCore := { c with cpu:=zam c.cpu l }
def zbn (c:SCore) (data:Int):Int:=if zd1 c.cycle.kind=true then data else c.cycle.data
def zby (c:SCore) (data:Int):Int:=if c.cycle.kind=1\/c.cycle.kind=8 then zcf c.cpu.chip (zbn c data) else c.cycle.states
def zcj (c:SCore) (data:Int):SCycle := { c.cycle with data:=zbn c data,states:=zby c data }
def third (c:SCore) (data:Int):SCore := { c with cycle:=zcj c data }
def advC (c:SCore) (G:List Int) (l:SLines) (data:Int):SCore:=
 if zaj c=1 then { zac c l with next:=2 }
 else if zaj c=2\/zaj c=7 then (if zfb c.cycle.kind=true/\l.ready=false then { zac c l with next:=7 } else { zac c l with next:=3,hold:=l.hold })
 else if zaj c=3 then (if 3<(zcj (zac c l) data).states then { third (zac c l) data with next:=4 } else endM (third (zac c l) data) (G++[zbn c data]) l)
 else if zaj c=4\/zaj c=5\/zaj c=6 then (if zaj c<c.cycle.states/\zaj c≠6 then { zac c l with next:=zaj c+1 } else endM (zac c l) G l)
 else if zaj c=8 then { zac c l with next:=zik (zac c l) l.hold }
 else if zaj c=9 then { (zfi (zac c l) G (zc5 (zac c l).cpu l)).1 with next:=zdr (zc5 (zac c l).cpu l) l.hold }
 else zac c l
def advG (c:SCore) (G:List Int) (l:SLines) (data:Int):List Int:=
 if zaj c=3 then (if 3<(zcj (zac c l) data).states then G++[zbn c data] else endG (third (zac c l) data) (G++[zbn c data]))
 else if zaj c=4\/zaj c=5\/zaj c=6 then (if zaj c<c.cycle.states/\zaj c≠6 then G else endG (zac c l) G)
 else if zaj c=9 then (zfi (zac c l) G (zc5 (zac c l).cpu l)).2
 else G
def advX (c:SCore) (G:List Int) (l:SLines) (data:Int) (sg:Sl):SChange:=
 let x0:SChange := { SChange.zero with cycle:=c.cycle,latched:=zam c.cpu l }
 if zaj c=3 then (let x := { x0 with cycle:=zcj (zac c l) data };if 3<(zcj (zac c l) data).states then x else endX (third (zac c l) data) (G++[zbn c data]) l x sg)
 else if zaj c=4\/zaj c=5\/zaj c=6 then (if zaj c<c.cycle.states/\zaj c≠6 then x0 else endX (zac c l) G l x0 sg)
 else x0
def xG (c:SCore) (G:List Int) (data:Int):List Int:=if zaj c=3 then G++[zbn c data] else G
def zhf (cpu:SCPU) (s:Int):SCore := { SCore.zero with cpu:=cpu,source:=s,cycle:=zdb cpu s [],next:=1 }
end
section
open Go.RowKit
attribute [local go_sem ↓] Go.wp_at_zero Go.wp_at_succ
theorem zyk (c:SCPU) (l:SLines) (w:World) :
  Calls prog 152 #[.agg c.cells,.agg l.cells] w fun e w'=>e=.returned (.tuple #[.int .u8 (rimB c l),.agg (rimC c l).cells])/\Below w.heap.size w w':=by
 cases hs:c.saved
 all_goals
  go_enter func152,ntmps152
  go_wp2_with fail
  go_quiet ((go_at_call 180;exact Calls.quiet_of_same ((zu2 _ _ _ oM oM).mono fun _ _ ⟨he,hw⟩=>⟨he,hw.symm⟩)))
  go_wp2_with fail
  go_region
  all_goals go_wp2_with fail
  all_goals
   refine zmx (n:=28) (v:=.agg (rimC c l).cells) (u:=.int .u8 (rimB c l)) rfl kR kR ?_ rfl ?_ ?_ rfl ⟨rfl,bL⟩
   all_goals (simp [go_sem,↓iteOmega,rimB,rimC, *])
end
end Go.Proofs.YtlmbamdkklkliaaGreat
