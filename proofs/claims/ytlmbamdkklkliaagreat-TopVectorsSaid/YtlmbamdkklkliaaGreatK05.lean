/- Part of the proof that a law holds at every input. No conditions. -/
import Derived.Below
import Derived.Deep.AppendLies
import Derived.Laws.AppendOwn
import Derived.Laws.OwnMore
import Derived.Maps.AppendAt
import Derived.Test.YtlmbamdkklkliaaGreatK01
namespace Go.Proofs.YtlmbamdkklkliaaGreat
set_option linter.unusedVariables false
set_option linter.unusedSimpArgs false
set_option maxRecDepth 100000
set_option maxHeartbeats 16000000
open Go.Proofs.Tryz
section
open Go.RowKit
variable (dst:Option Tmp) (ty:TypeId) (pos:String) (aft:Array Edge) (gd:Option (Nat × Bool)) (A:Act) (w:World) (K:Act->World->Prop) (Q:Exit->Act->World->Prop)
structure Sl where
 p:Option Addr
 n:Nat
 c:Nat
structure SFlags where
 s:Bool
 z:Bool
 k:Bool
 ac:Bool
 p:Bool
 v:Bool
 cy:Bool
def SFlags.zero:SFlags:=⟨false,false,false,false,false,false,false⟩
def SFlags.cells (x:SFlags):Array Value:=#[.bool x.s,.bool x.z,.bool x.k,.bool x.ac,.bool x.p,.bool x.v,.bool x.cy]
@[go_sem] theorem SFlags.size (x:SFlags):(x.cells).size=7:=lay rfl
@[go_sem ↓] theorem SFlags.load (x:Tmp) :
  Oper.wp prog ⟨dst,.load 36 (.tmp x),ty,pos,aft,gd⟩ A w K Q=if zb6 7 (A.eval (.tmp x)) w=true then K (A.put dst (zbh 7 (A.eval (.tmp x)) w)) w else Oper.wp prog ⟨dst,.load 36 (.const (A.eval (.tmp x))),ty,pos,aft,gd⟩ A w K Q:=zbm kR kR dst x ty pos aft gd A w K Q
@[go_sem ↓] theorem SFlags.store (x y:Tmp) :
  Oper.wp prog ⟨dst,.store 36 (.tmp x) (.tmp y),ty,pos,aft,gd⟩ A w K Q=if zcz 7 (A.eval (.tmp x)) (A.eval (.tmp y)) w=true then K (A.put dst undef) (zdv (A.eval (.tmp x)) (A.eval (.tmp y)) w) else Oper.wp prog ⟨dst,.store 36 (.const (A.eval (.tmp x))) (.const (A.eval (.tmp y))),ty,pos,aft,gd⟩ A w K Q:=zbg kR dst x y ty pos aft gd A w K Q
@[go_sem ↓] theorem SFlags.run_op (ρ:Operand->Value) (x:Operand) (w:World):(execOp ρ ⟨dst,.load 36 x,ty,pos,aft,gd⟩).run prog w=if zb6 7 (ρ x) w=true then .ok (.value (zbh 7 (ρ x) w)) w else (do let v <- Instr.loadAt 36 (ρ x);pure (Next.value v):Sem Next).run prog w:=zb8 kR kR ρ dst x ty pos aft gd w
@[go_sem] theorem SFlags.e_ (x:SFlags):(∀ h,x.cells[0]'h=.bool x.s)/\(∀ h,x.cells[1]'h=.bool x.z)/\(∀ h,x.cells[2]'h=.bool x.k)/\(∀ h,x.cells[4]'h=.bool x.p)/\(∀ h,x.cells[5]'h=.bool x.v)/\(∀ h,x.cells[6]'h=.bool x.cy):=by (repeat' apply And.intro)<;>intros<;>kernel_rfl
structure SRegs where
 a:Int
 b:Int
 c:Int
 d:Int
 e:Int
 h:Int
 l:Int
 f:SFlags
 sp:Int
 pc:Int
def SRegs.zero:SRegs:=⟨0,0,0,0,0,0,0,SFlags.zero,0,0⟩
def SRegs.cells (x:SRegs):Array Value:=#[.int .u8 x.a,.int .u8 x.b,.int .u8 x.c,.int .u8 x.d,.int .u8 x.e,.int .u8 x.h,.int .u8 x.l,.bool x.f.s,.bool x.f.z,.bool x.f.k,.bool x.f.ac,.bool x.f.p,.bool x.f.v,.bool x.f.cy,.int .u16 x.sp,.int .u16 x.pc]
@[go_sem] theorem SRegs.size (x:SRegs):(x.cells).size=16:=lay rfl
@[go_sem ↓] theorem SRegs.zeroValue (w:World):(zeroValue 39).run prog w=.ok (.agg SRegs.zero.cells) w:=lK
@[go_sem ↓] theorem SRegs.load (x:Tmp) :
  Oper.wp prog ⟨dst,.load 39 (.tmp x),ty,pos,aft,gd⟩ A w K Q=if zb6 16 (A.eval (.tmp x)) w=true then K (A.put dst (zbh 16 (A.eval (.tmp x)) w)) w else Oper.wp prog ⟨dst,.load 39 (.const (A.eval (.tmp x))),ty,pos,aft,gd⟩ A w K Q:=zbm kR kR dst x ty pos aft gd A w K Q
@[go_sem ↓] theorem SRegs.store (x y:Tmp) :
  Oper.wp prog ⟨dst,.store 39 (.tmp x) (.tmp y),ty,pos,aft,gd⟩ A w K Q=if zcz 16 (A.eval (.tmp x)) (A.eval (.tmp y)) w=true then K (A.put dst undef) (zdv (A.eval (.tmp x)) (A.eval (.tmp y)) w) else Oper.wp prog ⟨dst,.store 39 (.const (A.eval (.tmp x))) (.const (A.eval (.tmp y))),ty,pos,aft,gd⟩ A w K Q:=zbg kR dst x y ty pos aft gd A w K Q
@[go_sem ↓] theorem SRegs.run_op (ρ:Operand->Value) (x:Operand) (w:World):(execOp ρ ⟨dst,.load 39 x,ty,pos,aft,gd⟩).run prog w=if zb6 16 (ρ x) w=true then .ok (.value (zbh 16 (ρ x) w)) w else (do let v <- Instr.loadAt 39 (ρ x);pure (Next.value v):Sem Next).run prog w:=zb8 kR kR ρ dst x ty pos aft gd w
theorem SRegs.ret {fn:Func} {R:Ending->World->Prop} {a:Act} {w:World} {p:Tmp} {g:Nat} (y:SRegs) (hfn:fn.results=#[.cell p 39]) (hp:a.tmps.getD p undef=.pointer (some ⟨g,0,none⟩)) (hb:blk w g=some (.cells y.cells 39)) (hd:a.defers=[]) (hR:R (.returned (.agg y.cells)) w):bodyPost prog fn R .ret a w:=zef hfn kR (by kernel_rfl:_=some 16) hp (by rw [hb];kernel_rfl) (by rw [hb];kernel_rfl) hd hR
@[go_sem] theorem SRegs.okl_ (x:SRegs):(∀ (t:TypeId) (fr:Nat × Nat),okO 16 (some (.cells x.cells t fr)) 0=true)/\(∀ (t:TypeId) (fr:Nat × Nat),okO 7 (some (.cells x.cells t fr)) 7=true):=by (repeat' apply And.intro)<;>intros<;>kernel_rfl
@[go_sem] theorem SRegs.ld_ (x:SRegs):(∀ (t:TypeId) (fr:Nat × Nat),valO 16 (some (.cells x.cells t fr)) 0=.agg (x).cells)/\(∀ (t:TypeId) (fr:Nat × Nat),valO 7 (some (.cells x.cells t fr)) 7=.agg (x.f).cells):=by (repeat' apply And.intro)<;>intros<;>kernel_rfl
@[go_sem] theorem SRegs.oks_ (x:SRegs):(∀ (y:SRegs) (t:TypeId),okS 16 (some (.cells x.cells t (0,0))) 0 y.cells=true)/\(∀ (y:SFlags) (t:TypeId),okS 7 (some (.cells x.cells t (0,0))) 7 y.cells=true):=by (repeat' apply And.intro)<;>intros<;>kernel_rfl
@[go_sem] theorem SRegs.st_ (x:SRegs):(∀ (y:SRegs) (t b:Nat) (w:World),stS (some (.cells x.cells t (0,0))) b 0 y.cells w=zai w b (y:SRegs).cells t)/\(∀ (y:SFlags) (t b:Nat) (w:World),stS (some (.cells x.cells t (0,0))) b 7 y.cells w=zai w b ({ x with f:=y }:SRegs).cells t):=by (repeat' apply And.intro)<;>intros<;>kernel_rfl
@[go_sem] theorem SRegs.e_ (x:SRegs):(∀ h,x.cells[0]'h=.int .u8 x.a)/\(∀ h,x.cells[1]'h=.int .u8 x.b)/\(∀ h,x.cells[2]'h=.int .u8 x.c)/\(∀ h,x.cells[3]'h=.int .u8 x.d)/\(∀ h,x.cells[4]'h=.int .u8 x.e)/\(∀ h,x.cells[5]'h=.int .u8 x.h)/\(∀ h,x.cells[6]'h=.int .u8 x.l)/\(∀ h,x.cells[14]'h=.int .u16 x.sp):=by (repeat' apply And.intro)<;>intros<;>kernel_rfl
@[go_sem] theorem SRegs.s_ (x:SRegs):(∀ (v:Int),x.cells.setIfInBounds 0 (.int .u8 v)=({ x with a:=v }:SRegs).cells)/\(∀ (v:Int),x.cells.setIfInBounds 1 (.int .u8 v)=({ x with b:=v }:SRegs).cells)/\(∀ (v:Int),x.cells.setIfInBounds 2 (.int .u8 v)=({ x with c:=v }:SRegs).cells)/\(∀ (v:Int),x.cells.setIfInBounds 3 (.int .u8 v)=({ x with d:=v }:SRegs).cells)/\(∀ (v:Int),x.cells.setIfInBounds 4 (.int .u8 v)=({ x with e:=v }:SRegs).cells)/\(∀ (v:Int),x.cells.setIfInBounds 5 (.int .u8 v)=({ x with h:=v }:SRegs).cells)/\(∀ (v:Int),x.cells.setIfInBounds 6 (.int .u8 v)=({ x with l:=v }:SRegs).cells)/\(∀ (v:Int),x.cells.setIfInBounds 14 (.int .u16 v)=({ x with sp:=v }:SRegs).cells):=by (repeat' apply And.intro)<;>intros<;>kernel_rfl
structure SCPU where
 chip:Int
 regs:SRegs
 ie:Bool
 delay:Bool
 halted:Bool
 mask:Int
 trap:Bool
 r75:Bool
 wasTrap:Bool
 was75:Bool
 saved:Bool
 savedIE:Bool
 sod:Bool
def SCPU.zero:SCPU:=⟨0,SRegs.zero,false,false,false,0,false,false,false,false,false,false,false⟩
def SCPU.cells (x:SCPU):Array Value:=#[.int .i64 x.chip,.int .u8 x.regs.a,.int .u8 x.regs.b,.int .u8 x.regs.c,.int .u8 x.regs.d,.int .u8 x.regs.e,.int .u8 x.regs.h,.int .u8 x.regs.l,.bool x.regs.f.s,.bool x.regs.f.z,.bool x.regs.f.k,.bool x.regs.f.ac,.bool x.regs.f.p,.bool x.regs.f.v,.bool x.regs.f.cy,.int .u16 x.regs.sp,.int .u16 x.regs.pc,.bool x.ie,.bool x.delay,.bool x.halted,.int .u8 x.mask,.bool x.trap,.bool x.r75,.bool x.wasTrap,.bool x.was75,.bool x.saved,.bool x.savedIE,.bool x.sod]
@[go_sem] theorem SCPU.size (x:SCPU):(x.cells).size=28:=lay rfl
theorem SCPU.one (x:SCPU):x.cells.all (fun v=>v.oneCell')=true:=lK
@[go_sem ↓] theorem SCPU.zeroValue (w:World):(zeroValue 41).run prog w=.ok (.agg SCPU.zero.cells) w:=lK
@[go_sem ↓] theorem SCPU.load (x:Tmp) :
  Oper.wp prog ⟨dst,.load 41 (.tmp x),ty,pos,aft,gd⟩ A w K Q=if zb6 28 (A.eval (.tmp x)) w=true then K (A.put dst (zbh 28 (A.eval (.tmp x)) w)) w else Oper.wp prog ⟨dst,.load 41 (.const (A.eval (.tmp x))),ty,pos,aft,gd⟩ A w K Q:=zbm kR kR dst x ty pos aft gd A w K Q
@[go_sem ↓] theorem SCPU.store (x y:Tmp) :
  Oper.wp prog ⟨dst,.store 41 (.tmp x) (.tmp y),ty,pos,aft,gd⟩ A w K Q=if zcz 28 (A.eval (.tmp x)) (A.eval (.tmp y)) w=true then K (A.put dst undef) (zdv (A.eval (.tmp x)) (A.eval (.tmp y)) w) else Oper.wp prog ⟨dst,.store 41 (.const (A.eval (.tmp x))) (.const (A.eval (.tmp y))),ty,pos,aft,gd⟩ A w K Q:=zbg kR dst x y ty pos aft gd A w K Q
@[go_sem ↓] theorem SCPU.run_op (ρ:Operand->Value) (x:Operand) (w:World):(execOp ρ ⟨dst,.load 41 x,ty,pos,aft,gd⟩).run prog w=if zb6 28 (ρ x) w=true then .ok (.value (zbh 28 (ρ x) w)) w else (do let v <- Instr.loadAt 41 (ρ x);pure (Next.value v):Sem Next).run prog w:=zb8 kR kR ρ dst x ty pos aft gd w
theorem SCPU.ret {fn:Func} {R:Ending->World->Prop} {a:Act} {w:World} {p:Tmp} {g:Nat} (y:SCPU) (hfn:fn.results=#[.cell p 41]) (hp:a.tmps.getD p undef=.pointer (some ⟨g,0,none⟩)) (hb:blk w g=some (.cells y.cells 41)) (hd:a.defers=[]) (hR:R (.returned (.agg y.cells)) w):bodyPost prog fn R .ret a w:=zef hfn kR (by kernel_rfl:_=some 28) hp (by rw [hb];kernel_rfl) (by rw [hb];kernel_rfl) hd hR
@[go_sem] theorem SCPU.okl_ (x:SCPU):(∀ (t:TypeId) (fr:Nat × Nat),okO 28 (some (.cells x.cells t fr)) 0=true)/\(∀ (t:TypeId) (fr:Nat × Nat),okO 16 (some (.cells x.cells t fr)) 1=true)/\(∀ (t:TypeId) (fr:Nat × Nat),okO 7 (some (.cells x.cells t fr)) 8=true):=by (repeat' apply And.intro)<;>intros<;>kernel_rfl
@[go_sem] theorem SCPU.ld_ (x:SCPU):(∀ (t:TypeId) (fr:Nat × Nat),valO 28 (some (.cells x.cells t fr)) 0=.agg (x).cells)/\(∀ (t:TypeId) (fr:Nat × Nat),valO 16 (some (.cells x.cells t fr)) 1=.agg (x.regs).cells)/\(∀ (t:TypeId) (fr:Nat × Nat),valO 7 (some (.cells x.cells t fr)) 8=.agg (x.regs.f).cells):=by (repeat' apply And.intro)<;>intros<;>kernel_rfl
@[go_sem] theorem SCPU.oks_ (x:SCPU):(∀ (y:SCPU) (t:TypeId),okS 28 (some (.cells x.cells t (0,0))) 0 y.cells=true)/\(∀ (y:SRegs) (t:TypeId),okS 16 (some (.cells x.cells t (0,0))) 1 y.cells=true)/\(∀ (y:SFlags) (t:TypeId),okS 7 (some (.cells x.cells t (0,0))) 8 y.cells=true):=by (repeat' apply And.intro)<;>intros<;>kernel_rfl
@[go_sem] theorem SCPU.st_ (x:SCPU):(∀ (y:SCPU) (t b:Nat) (w:World),stS (some (.cells x.cells t (0,0))) b 0 y.cells w=zai w b (y:SCPU).cells t)/\(∀ (y:SRegs) (t b:Nat) (w:World),stS (some (.cells x.cells t (0,0))) b 1 y.cells w=zai w b ({ x with regs:=y }:SCPU).cells t)/\(∀ (y:SFlags) (t b:Nat) (w:World),stS (some (.cells x.cells t (0,0))) b 8 y.cells w=zai w b ({ x with regs := { x.regs with f:=y } }:SCPU).cells t):=by (repeat' apply And.intro)<;>intros<;>kernel_rfl
@[go_sem] theorem SCPU.e_ (x:SCPU):(∀ h,x.cells[0]'h=.int .i64 x.chip)/\(∀ h,x.cells[1]'h=.int .u8 x.regs.a)/\(∀ h,x.cells[4]'h=.int .u8 x.regs.d)/\(∀ h,x.cells[5]'h=.int .u8 x.regs.e)/\(∀ h,x.cells[6]'h=.int .u8 x.regs.h)/\(∀ h,x.cells[7]'h=.int .u8 x.regs.l)/\(∀ h,x.cells[13]'h=.bool x.regs.f.v)/\(∀ h,x.cells[14]'h=.bool x.regs.f.cy)/\(∀ h,x.cells[15]'h=.int .u16 x.regs.sp)/\(∀ h,x.cells[16]'h=.int .u16 x.regs.pc)/\(∀ h,x.cells[17]'h=.bool x.ie)/\(∀ h,x.cells[18]'h=.bool x.delay)/\(∀ h,x.cells[19]'h=.bool x.halted)/\(∀ h,x.cells[20]'h=.int .u8 x.mask)/\(∀ h,x.cells[21]'h=.bool x.trap)/\(∀ h,x.cells[22]'h=.bool x.r75)/\(∀ h,x.cells[23]'h=.bool x.wasTrap)/\(∀ h,x.cells[24]'h=.bool x.was75)/\(∀ h,x.cells[25]'h=.bool x.saved)/\(∀ h,x.cells[26]'h=.bool x.savedIE)/\(∀ h,x.cells[27]'h=.bool x.sod):=by (repeat' apply And.intro)<;>intros<;>kernel_rfl
@[go_sem] theorem SCPU.s_ (x:SCPU):(∀ (v:Int),x.cells.setIfInBounds 1 (.int .u8 v)=({ x with regs := { x.regs with a:=v } }:SCPU).cells)/\(∀ (v:Int),x.cells.setIfInBounds 4 (.int .u8 v)=({ x with regs := { x.regs with d:=v } }:SCPU).cells)/\(∀ (v:Int),x.cells.setIfInBounds 5 (.int .u8 v)=({ x with regs := { x.regs with e:=v } }:SCPU).cells)/\(∀ (v:Int),x.cells.setIfInBounds 6 (.int .u8 v)=({ x with regs := { x.regs with h:=v } }:SCPU).cells)/\(∀ (v:Int),x.cells.setIfInBounds 7 (.int .u8 v)=({ x with regs := { x.regs with l:=v } }:SCPU).cells)/\(∀ (v:Bool),x.cells.setIfInBounds 13 (.bool v)=({ x with regs := { x.regs with f := { x.regs.f with v:=v } } }:SCPU).cells)/\(∀ (v:Bool),x.cells.setIfInBounds 14 (.bool v)=({ x with regs := { x.regs with f := { x.regs.f with cy:=v } } }:SCPU).cells)/\(∀ (v:Int),x.cells.setIfInBounds 15 (.int .u16 v)=({ x with regs := { x.regs with sp:=v } }:SCPU).cells)/\(∀ (v:Int),x.cells.setIfInBounds 16 (.int .u16 v)=({ x with regs := { x.regs with pc:=v } }:SCPU).cells)/\(∀ (v:Bool),x.cells.setIfInBounds 17 (.bool v)=({ x with ie:=v }:SCPU).cells)/\(∀ (v:Bool),x.cells.setIfInBounds 18 (.bool v)=({ x with delay:=v }:SCPU).cells)/\(∀ (v:Bool),x.cells.setIfInBounds 19 (.bool v)=({ x with halted:=v }:SCPU).cells)/\(∀ (v:Int),x.cells.setIfInBounds 20 (.int .u8 v)=({ x with mask:=v }:SCPU).cells)/\(∀ (v:Bool),x.cells.setIfInBounds 21 (.bool v)=({ x with trap:=v }:SCPU).cells)/\(∀ (v:Bool),x.cells.setIfInBounds 22 (.bool v)=({ x with r75:=v }:SCPU).cells)/\(∀ (v:Bool),x.cells.setIfInBounds 23 (.bool v)=({ x with wasTrap:=v }:SCPU).cells)/\(∀ (v:Bool),x.cells.setIfInBounds 24 (.bool v)=({ x with was75:=v }:SCPU).cells)/\(∀ (v:Bool),x.cells.setIfInBounds 25 (.bool v)=({ x with saved:=v }:SCPU).cells)/\(∀ (v:Bool),x.cells.setIfInBounds 26 (.bool v)=({ x with savedIE:=v }:SCPU).cells)/\(∀ (v:Bool),x.cells.setIfInBounds 27 (.bool v)=({ x with sod:=v }:SCPU).cells):=by (repeat' apply And.intro)<;>intros<;>kernel_rfl
def SCPU.places:Array (Nat × Nat):=#[(0,1),(1,16),(17,1),(18,1),(19,1),(20,1),(21,1),(22,1),(23,1),(24,1),(25,1),(26,1),(27,1)]
def SCPU.fill (x:SCPU) (l:List (Nat × Value)):Option (Array Value):=Instr.fill (SCPU.places[·]?) x.cells l
@[go_sem] theorem SCPU.fill_ (x:SCPU):(SCPU.fill x []=some x.cells)/\(∀ (y:Int) (r:List (Nat × Value)),SCPU.fill x ((0,.int .i64 y)::r)=SCPU.fill { x with chip:=y } r)/\(∀ (y:SRegs) (r:List (Nat × Value)),SCPU.fill x ((1,.agg y.cells)::r)=SCPU.fill { x with regs:=y } r):=by (repeat' apply And.intro)<;>intros<;>kernel_rfl
@[go_sem ↓] theorem SCPU.build (parts:Array (Nat × Operand)) (h:(SCPU.fill SCPU.zero (parts.toList.map fun p=>(p.1,A.eval p.2))).isSome=true) :
  Oper.wp prog ⟨dst,.build 41 parts,ty,pos,aft,gd⟩ A w K Q=K (A.put dst (.agg ((SCPU.fill SCPU.zero (parts.toList.map fun p=>(p.1,A.eval p.2))).getD #[]))) w:=zba (fields:=zcm prog 41) (places:=SCPU.places) (fun w=>SCPU.zeroValue w) kR (fun w=>kR) dst parts ty pos aft gd A w K Q h
structure SLines where
 ready:Bool
 hold:Bool
 reset:Bool
 sid:Bool
 trap:Bool
 r75:Bool
 r65:Bool
 r55:Bool
 intr:Bool
def SLines.zero:SLines:=⟨false,false,false,false,false,false,false,false,false⟩
def SLines.cells (x:SLines):Array Value:=#[.bool x.ready,.bool x.hold,.bool x.reset,.bool x.sid,.bool x.trap,.bool x.r75,.bool x.r65,.bool x.r55,.bool x.intr]
@[go_sem] theorem SLines.size (x:SLines):(x.cells).size=9:=lay rfl
@[go_sem ↓] theorem SLines.zeroValue (w:World):(zeroValue 59).run prog w=.ok (.agg SLines.zero.cells) w:=lK
@[go_sem ↓] theorem SLines.load (x:Tmp) :
  Oper.wp prog ⟨dst,.load 59 (.tmp x),ty,pos,aft,gd⟩ A w K Q=if zb6 9 (A.eval (.tmp x)) w=true then K (A.put dst (zbh 9 (A.eval (.tmp x)) w)) w else Oper.wp prog ⟨dst,.load 59 (.const (A.eval (.tmp x))),ty,pos,aft,gd⟩ A w K Q:=zbm kR kR dst x ty pos aft gd A w K Q
@[go_sem ↓] theorem SLines.store (x y:Tmp) :
  Oper.wp prog ⟨dst,.store 59 (.tmp x) (.tmp y),ty,pos,aft,gd⟩ A w K Q=if zcz 9 (A.eval (.tmp x)) (A.eval (.tmp y)) w=true then K (A.put dst undef) (zdv (A.eval (.tmp x)) (A.eval (.tmp y)) w) else Oper.wp prog ⟨dst,.store 59 (.const (A.eval (.tmp x))) (.const (A.eval (.tmp y))),ty,pos,aft,gd⟩ A w K Q:=zbg kR dst x y ty pos aft gd A w K Q
@[go_sem ↓] theorem SLines.run_op (ρ:Operand->Value) (x:Operand) (w:World):(execOp ρ ⟨dst,.load 59 x,ty,pos,aft,gd⟩).run prog w=if zb6 9 (ρ x) w=true then .ok (.value (zbh 9 (ρ x) w)) w else (do let v <- Instr.loadAt 59 (ρ x);pure (Next.value v):Sem Next).run prog w:=zb8 kR kR ρ dst x ty pos aft gd w
theorem SLines.ret {fn:Func} {R:Ending->World->Prop} {a:Act} {w:World} {p:Tmp} {g:Nat} (y:SLines) (hfn:fn.results=#[.cell p 59]) (hp:a.tmps.getD p undef=.pointer (some ⟨g,0,none⟩)) (hb:blk w g=some (.cells y.cells 59)) (hd:a.defers=[]) (hR:R (.returned (.agg y.cells)) w):bodyPost prog fn R .ret a w:=zef hfn kR (by kernel_rfl:_=some 9) hp (by rw [hb];kernel_rfl) (by rw [hb];kernel_rfl) hd hR
@[go_sem] theorem SLines.okl_whole (x:SLines) (t:TypeId) (fr:Nat × Nat):okO 9 (some (.cells x.cells t fr)) 0=true:=lK
@[go_sem] theorem SLines.ld_whole (x:SLines) (t:TypeId) (fr:Nat × Nat):valO 9 (some (.cells x.cells t fr)) 0=.agg (x).cells:=lK
@[go_sem] theorem SLines.oks_whole (x:SLines) (y:SLines) (t:TypeId):okS 9 (some (.cells x.cells t (0,0))) 0 y.cells=true:=lK
@[go_sem] theorem SLines.st_whole (x:SLines) (y:SLines) (t b:Nat) (w:World):stS (some (.cells x.cells t (0,0))) b 0 y.cells w=zai w b (y:SLines).cells t:=lK
@[go_sem] theorem SLines.e_ (x:SLines):(∀ h,x.cells[0]'h=.bool x.ready)/\(∀ h,x.cells[1]'h=.bool x.hold)/\(∀ h,x.cells[2]'h=.bool x.reset)/\(∀ h,x.cells[3]'h=.bool x.sid)/\(∀ h,x.cells[4]'h=.bool x.trap)/\(∀ h,x.cells[5]'h=.bool x.r75)/\(∀ h,x.cells[6]'h=.bool x.r65)/\(∀ h,x.cells[7]'h=.bool x.r55)/\(∀ h,x.cells[8]'h=.bool x.intr):=by (repeat' apply And.intro)<;>intros<;>kernel_rfl
@[go_sem] theorem SLines.s_ (x:SLines):(∀ (v:Bool),x.cells.setIfInBounds 0 (.bool v)=({ x with ready:=v }:SLines).cells)/\(∀ (v:Bool),x.cells.setIfInBounds 1 (.bool v)=({ x with hold:=v }:SLines).cells)/\(∀ (v:Bool),x.cells.setIfInBounds 8 (.bool v)=({ x with intr:=v }:SLines).cells):=by (repeat' apply And.intro)<;>intros<;>kernel_rfl
def SLines.places:Array (Nat × Nat):=#[(0,1),(1,1),(2,1),(3,1),(4,1),(5,1),(6,1),(7,1),(8,1)]
def SLines.fill (x:SLines) (l:List (Nat × Value)):Option (Array Value):=Instr.fill (SLines.places[·]?) x.cells l
@[go_sem] theorem SLines.fill_ (x:SLines):(SLines.fill x []=some x.cells)/\(∀ (y:Bool) (r:List (Nat × Value)),SLines.fill x ((2,.bool y)::r)=SLines.fill { x with reset:=y } r)/\(∀ (y:Bool) (r:List (Nat × Value)),SLines.fill x ((3,.bool y)::r)=SLines.fill { x with sid:=y } r)/\(∀ (y:Bool) (r:List (Nat × Value)),SLines.fill x ((4,.bool y)::r)=SLines.fill { x with trap:=y } r)/\(∀ (y:Bool) (r:List (Nat × Value)),SLines.fill x ((5,.bool y)::r)=SLines.fill { x with r75:=y } r)/\(∀ (y:Bool) (r:List (Nat × Value)),SLines.fill x ((6,.bool y)::r)=SLines.fill { x with r65:=y } r)/\(∀ (y:Bool) (r:List (Nat × Value)),SLines.fill x ((7,.bool y)::r)=SLines.fill { x with r55:=y } r):=by (repeat' apply And.intro)<;>intros<;>kernel_rfl
@[go_sem ↓] theorem SLines.build (parts:Array (Nat × Operand)) (h:(SLines.fill SLines.zero (parts.toList.map fun p=>(p.1,A.eval p.2))).isSome=true) :
  Oper.wp prog ⟨dst,.build 59 parts,ty,pos,aft,gd⟩ A w K Q=K (A.put dst (.agg ((SLines.fill SLines.zero (parts.toList.map fun p=>(p.1,A.eval p.2))).getD #[]))) w:=zba (fields:=zcm prog 59) (places:=SLines.places) (fun w=>SLines.zeroValue w) kR (fun w=>kR) dst parts ty pos aft gd A w K Q h
structure SCycle where
 kind:Int
 at_:Int
 data:Int
 states:Int
def SCycle.zero:SCycle:=⟨0,0,0,0⟩
def SCycle.cells (x:SCycle):Array Value:=#[.int .i64 x.kind,.int .u16 x.at_,.int .u8 x.data,.int .i64 x.states]
@[go_sem] theorem SCycle.size (x:SCycle):(x.cells).size=4:=lay rfl
theorem SCycle.one (x:SCycle):x.cells.all (fun v=>v.oneCell')=true:=lK
@[go_sem ↓] theorem SCycle.zeroValue (w:World):(zeroValue 43).run prog w=.ok (.agg SCycle.zero.cells) w:=lK
@[go_sem ↓] theorem SCycle.load (x:Tmp) :
  Oper.wp prog ⟨dst,.load 43 (.tmp x),ty,pos,aft,gd⟩ A w K Q=if zb6 4 (A.eval (.tmp x)) w=true then K (A.put dst (zbh 4 (A.eval (.tmp x)) w)) w else Oper.wp prog ⟨dst,.load 43 (.const (A.eval (.tmp x))),ty,pos,aft,gd⟩ A w K Q:=zbm kR kR dst x ty pos aft gd A w K Q
@[go_sem ↓] theorem SCycle.store (x y:Tmp) :
  Oper.wp prog ⟨dst,.store 43 (.tmp x) (.tmp y),ty,pos,aft,gd⟩ A w K Q=if zcz 4 (A.eval (.tmp x)) (A.eval (.tmp y)) w=true then K (A.put dst undef) (zdv (A.eval (.tmp x)) (A.eval (.tmp y)) w) else Oper.wp prog ⟨dst,.store 43 (.const (A.eval (.tmp x))) (.const (A.eval (.tmp y))),ty,pos,aft,gd⟩ A w K Q:=zbg kR dst x y ty pos aft gd A w K Q
@[go_sem ↓] theorem SCycle.run_op (ρ:Operand->Value) (x:Operand) (w:World):(execOp ρ ⟨dst,.load 43 x,ty,pos,aft,gd⟩).run prog w=if zb6 4 (ρ x) w=true then .ok (.value (zbh 4 (ρ x) w)) w else (do let v <- Instr.loadAt 43 (ρ x);pure (Next.value v):Sem Next).run prog w:=zb8 kR kR ρ dst x ty pos aft gd w
@[go_sem] theorem SCycle.okl_whole (x:SCycle) (t:TypeId) (fr:Nat × Nat):okO 4 (some (.cells x.cells t fr)) 0=true:=lK
@[go_sem] theorem SCycle.ld_whole (x:SCycle) (t:TypeId) (fr:Nat × Nat):valO 4 (some (.cells x.cells t fr)) 0=.agg (x).cells:=lK
@[go_sem] theorem SCycle.oks_whole (x:SCycle) (y:SCycle) (t:TypeId):okS 4 (some (.cells x.cells t (0,0))) 0 y.cells=true:=lK
@[go_sem] theorem SCycle.st_whole (x:SCycle) (y:SCycle) (t b:Nat) (w:World):stS (some (.cells x.cells t (0,0))) b 0 y.cells w=zai w b (y:SCycle).cells t:=lK
@[go_sem] theorem SCycle.e_ (x:SCycle):(∀ h,x.cells[0]'h=.int .i64 x.kind)/\(∀ h,x.cells[1]'h=.int .u16 x.at_)/\(∀ h,x.cells[2]'h=.int .u8 x.data)/\(∀ h,x.cells[3]'h=.int .i64 x.states):=by (repeat' apply And.intro)<;>intros<;>kernel_rfl
@[go_sem] theorem SCycle.s_ (x:SCycle):(∀ (v:Int),x.cells.setIfInBounds 0 (.int .i64 v)=({ x with kind:=v }:SCycle).cells)/\(∀ (v:Int),x.cells.setIfInBounds 3 (.int .i64 v)=({ x with states:=v }:SCycle).cells):=by (repeat' apply And.intro)<;>intros<;>kernel_rfl
def SCycle.places:Array (Nat × Nat):=#[(0,1),(1,1),(2,1),(3,1)]
def SCycle.fill (x:SCycle) (l:List (Nat × Value)):Option (Array Value):=Instr.fill (SCycle.places[·]?) x.cells l
@[go_sem] theorem SCycle.fill_ (x:SCycle):(SCycle.fill x []=some x.cells)/\(∀ (y:Int) (r:List (Nat × Value)),SCycle.fill x ((0,.int .i64 y)::r)=SCycle.fill { x with kind:=y } r)/\(∀ (y:Int) (r:List (Nat × Value)),SCycle.fill x ((1,.int .u16 y)::r)=SCycle.fill { x with at_:=y } r)/\(∀ (y:Int) (r:List (Nat × Value)),SCycle.fill x ((2,.int .u8 y)::r)=SCycle.fill { x with data:=y } r)/\(∀ (y:Int) (r:List (Nat × Value)),SCycle.fill x ((3,.int .i64 y)::r)=SCycle.fill { x with states:=y } r):=by (repeat' apply And.intro)<;>intros<;>kernel_rfl
@[go_sem ↓] theorem SCycle.build (parts:Array (Nat × Operand)) (h:(SCycle.fill SCycle.zero (parts.toList.map fun p=>(p.1,A.eval p.2))).isSome=true) :
  Oper.wp prog ⟨dst,.build 43 parts,ty,pos,aft,gd⟩ A w K Q=K (A.put dst (.agg ((SCycle.fill SCycle.zero (parts.toList.map fun p=>(p.1,A.eval p.2))).getD #[]))) w:=zba (fields:=zcm prog 43) (places:=SCycle.places) (fun w=>SCycle.zeroValue w) kR (fun w=>kR) dst parts ty pos aft gd A w K Q h
structure SPins where
 state:Int
 addr:Int
 data:Int
 sync:Bool
 dbin:Bool
 wait:Bool
 inte:Bool
 ale:Bool
 iom:Bool
 s1:Bool
 s0:Bool
 rd:Bool
 inta:Bool
 sod:Bool
 wr:Bool
 hlda:Bool
 float:Bool
def SPins.zero:SPins:=⟨0,0,0,false,false,false,false,false,false,false,false,false,false,false,false,false,false⟩
def SPins.cells (x:SPins):Array Value:=#[.int .i64 x.state,.int .u16 x.addr,.int .u8 x.data,.bool x.sync,.bool x.dbin,.bool x.wait,.bool x.inte,.bool x.ale,.bool x.iom,.bool x.s1,.bool x.s0,.bool x.rd,.bool x.inta,.bool x.sod,.bool x.wr,.bool x.hlda,.bool x.float]
@[go_sem] theorem SPins.size (x:SPins):(x.cells).size=17:=lay rfl
theorem SPins.one (x:SPins):x.cells.all (fun v=>v.oneCell')=true:=lK
@[go_sem ↓] theorem SPins.zeroValue (w:World):(zeroValue 76).run prog w=.ok (.agg SPins.zero.cells) w:=lK
@[go_sem ↓] theorem SPins.load (x:Tmp) :
  Oper.wp prog ⟨dst,.load 76 (.tmp x),ty,pos,aft,gd⟩ A w K Q=if zb6 17 (A.eval (.tmp x)) w=true then K (A.put dst (zbh 17 (A.eval (.tmp x)) w)) w else Oper.wp prog ⟨dst,.load 76 (.const (A.eval (.tmp x))),ty,pos,aft,gd⟩ A w K Q:=zbm kR kR dst x ty pos aft gd A w K Q
@[go_sem ↓] theorem SPins.store (x y:Tmp) :
  Oper.wp prog ⟨dst,.store 76 (.tmp x) (.tmp y),ty,pos,aft,gd⟩ A w K Q=if zcz 17 (A.eval (.tmp x)) (A.eval (.tmp y)) w=true then K (A.put dst undef) (zdv (A.eval (.tmp x)) (A.eval (.tmp y)) w) else Oper.wp prog ⟨dst,.store 76 (.const (A.eval (.tmp x))) (.const (A.eval (.tmp y))),ty,pos,aft,gd⟩ A w K Q:=zbg kR dst x y ty pos aft gd A w K Q
@[go_sem ↓] theorem SPins.run_op (ρ:Operand->Value) (x:Operand) (w:World):(execOp ρ ⟨dst,.load 76 x,ty,pos,aft,gd⟩).run prog w=if zb6 17 (ρ x) w=true then .ok (.value (zbh 17 (ρ x) w)) w else (do let v <- Instr.loadAt 76 (ρ x);pure (Next.value v):Sem Next).run prog w:=zb8 kR kR ρ dst x ty pos aft gd w
theorem SPins.ret {fn:Func} {R:Ending->World->Prop} {a:Act} {w:World} {p:Tmp} {g:Nat} (y:SPins) (hfn:fn.results=#[.cell p 76]) (hp:a.tmps.getD p undef=.pointer (some ⟨g,0,none⟩)) (hb:blk w g=some (.cells y.cells 76)) (hd:a.defers=[]) (hR:R (.returned (.agg y.cells)) w):bodyPost prog fn R .ret a w:=zef hfn kR (by kernel_rfl:_=some 17) hp (by rw [hb];kernel_rfl) (by rw [hb];kernel_rfl) hd hR
@[go_sem] theorem SPins.okl_whole (x:SPins) (t:TypeId) (fr:Nat × Nat):okO 17 (some (.cells x.cells t fr)) 0=true:=lK
@[go_sem] theorem SPins.ld_whole (x:SPins) (t:TypeId) (fr:Nat × Nat):valO 17 (some (.cells x.cells t fr)) 0=.agg (x).cells:=lK
@[go_sem] theorem SPins.oks_whole (x:SPins) (y:SPins) (t:TypeId):okS 17 (some (.cells x.cells t (0,0))) 0 y.cells=true:=lK
@[go_sem] theorem SPins.st_whole (x:SPins) (y:SPins) (t b:Nat) (w:World):stS (some (.cells x.cells t (0,0))) b 0 y.cells w=zai w b (y:SPins).cells t:=lK
@[go_sem] theorem SPins.e_ (x:SPins):(∀ h,x.cells[0]'h=.int .i64 x.state)/\(∀ h,x.cells[1]'h=.int .u16 x.addr)/\(∀ h,x.cells[2]'h=.int .u8 x.data)/\(∀ h,x.cells[3]'h=.bool x.sync)/\(∀ h,x.cells[4]'h=.bool x.dbin)/\(∀ h,x.cells[5]'h=.bool x.wait)/\(∀ h,x.cells[6]'h=.bool x.inte)/\(∀ h,x.cells[7]'h=.bool x.ale)/\(∀ h,x.cells[8]'h=.bool x.iom)/\(∀ h,x.cells[9]'h=.bool x.s1)/\(∀ h,x.cells[10]'h=.bool x.s0)/\(∀ h,x.cells[11]'h=.bool x.rd)/\(∀ h,x.cells[12]'h=.bool x.inta)/\(∀ h,x.cells[13]'h=.bool x.sod)/\(∀ h,x.cells[14]'h=.bool x.wr)/\(∀ h,x.cells[15]'h=.bool x.hlda)/\(∀ h,x.cells[16]'h=.bool x.float):=by (repeat' apply And.intro)<;>intros<;>kernel_rfl
@[go_sem] theorem SPins.s_ (x:SPins):(∀ (v:Int),x.cells.setIfInBounds 1 (.int .u16 v)=({ x with addr:=v }:SPins).cells)/\(∀ (v:Int),x.cells.setIfInBounds 2 (.int .u8 v)=({ x with data:=v }:SPins).cells)/\(∀ (v:Bool),x.cells.setIfInBounds 3 (.bool v)=({ x with sync:=v }:SPins).cells)/\(∀ (v:Bool),x.cells.setIfInBounds 4 (.bool v)=({ x with dbin:=v }:SPins).cells)/\(∀ (v:Bool),x.cells.setIfInBounds 5 (.bool v)=({ x with wait:=v }:SPins).cells)/\(∀ (v:Bool),x.cells.setIfInBounds 6 (.bool v)=({ x with inte:=v }:SPins).cells)/\(∀ (v:Bool),x.cells.setIfInBounds 7 (.bool v)=({ x with ale:=v }:SPins).cells)/\(∀ (v:Bool),x.cells.setIfInBounds 8 (.bool v)=({ x with iom:=v }:SPins).cells)/\(∀ (v:Bool),x.cells.setIfInBounds 9 (.bool v)=({ x with s1:=v }:SPins).cells)/\(∀ (v:Bool),x.cells.setIfInBounds 10 (.bool v)=({ x with s0:=v }:SPins).cells)/\(∀ (v:Bool),x.cells.setIfInBounds 11 (.bool v)=({ x with rd:=v }:SPins).cells)/\(∀ (v:Bool),x.cells.setIfInBounds 12 (.bool v)=({ x with inta:=v }:SPins).cells)/\(∀ (v:Bool),x.cells.setIfInBounds 13 (.bool v)=({ x with sod:=v }:SPins).cells)/\(∀ (v:Bool),x.cells.setIfInBounds 14 (.bool v)=({ x with wr:=v }:SPins).cells)/\(∀ (v:Bool),x.cells.setIfInBounds 15 (.bool v)=({ x with hlda:=v }:SPins).cells)/\(∀ (v:Bool),x.cells.setIfInBounds 16 (.bool v)=({ x with float:=v }:SPins).cells):=by (repeat' apply And.intro)<;>intros<;>kernel_rfl
def SPins.places:Array (Nat × Nat):=#[(0,1),(1,1),(2,1),(3,1),(4,1),(5,1),(6,1),(7,1),(8,1),(9,1),(10,1),(11,1),(12,1),(13,1),(14,1),(15,1),(16,1)]
def SPins.fill (x:SPins) (l:List (Nat × Value)):Option (Array Value):=Instr.fill (SPins.places[·]?) x.cells l
@[go_sem] theorem SPins.fill_ (x:SPins):(SPins.fill x []=some x.cells)/\(∀ (y:Int) (r:List (Nat × Value)),SPins.fill x ((0,.int .i64 y)::r)=SPins.fill { x with state:=y } r):=by (repeat' apply And.intro)<;>intros<;>kernel_rfl
@[go_sem ↓] theorem SPins.build (parts:Array (Nat × Operand)) (h:(SPins.fill SPins.zero (parts.toList.map fun p=>(p.1,A.eval p.2))).isSome=true) :
  Oper.wp prog ⟨dst,.build 76 parts,ty,pos,aft,gd⟩ A w K Q=K (A.put dst (.agg ((SPins.fill SPins.zero (parts.toList.map fun p=>(p.1,A.eval p.2))).getD #[]))) w:=zba (fields:=zcm prog 76) (places:=SPins.places) (fun w=>SPins.zeroValue w) kR (fun w=>kR) dst parts ty pos aft gd A w K Q h
structure SCore where
 cpu:SCPU
 source:Int
 got:Sl
 cycle:SCycle
 next:Int
 hold:Bool
def SCore.zero:SCore:=⟨SCPU.zero,0,⟨none,0,0⟩,SCycle.zero,0,false⟩
def SCore.cells (x:SCore):Array Value:=#[.int .i64 x.cpu.chip,.int .u8 x.cpu.regs.a,.int .u8 x.cpu.regs.b,.int .u8 x.cpu.regs.c,.int .u8 x.cpu.regs.d,.int .u8 x.cpu.regs.e,.int .u8 x.cpu.regs.h,.int .u8 x.cpu.regs.l,.bool x.cpu.regs.f.s,.bool x.cpu.regs.f.z,.bool x.cpu.regs.f.k,.bool x.cpu.regs.f.ac,.bool x.cpu.regs.f.p,.bool x.cpu.regs.f.v,.bool x.cpu.regs.f.cy,.int .u16 x.cpu.regs.sp,.int .u16 x.cpu.regs.pc,.bool x.cpu.ie,.bool x.cpu.delay,.bool x.cpu.halted,.int .u8 x.cpu.mask,.bool x.cpu.trap,.bool x.cpu.r75,.bool x.cpu.wasTrap,.bool x.cpu.was75,.bool x.cpu.saved,.bool x.cpu.savedIE,.bool x.cpu.sod,.int .i64 x.source,.slice x.got.p x.got.n x.got.c,.int .i64 x.cycle.kind,.int .u16 x.cycle.at_,.int .u8 x.cycle.data,.int .i64 x.cycle.states,.int .i64 x.next,.bool x.hold]
@[go_sem] theorem SCore.size (x:SCore):(x.cells).size=36:=lay rfl
@[go_sem ↓] theorem SCore.zeroValue (w:World):(zeroValue 45).run prog w=.ok (.agg SCore.zero.cells) w:=lK
@[go_sem ↓] theorem SCore.load (x:Tmp) :
  Oper.wp prog ⟨dst,.load 45 (.tmp x),ty,pos,aft,gd⟩ A w K Q=if zb6 36 (A.eval (.tmp x)) w=true then K (A.put dst (zbh 36 (A.eval (.tmp x)) w)) w else Oper.wp prog ⟨dst,.load 45 (.const (A.eval (.tmp x))),ty,pos,aft,gd⟩ A w K Q:=zbm kR kR dst x ty pos aft gd A w K Q
@[go_sem ↓] theorem SCore.store (x y:Tmp) :
  Oper.wp prog ⟨dst,.store 45 (.tmp x) (.tmp y),ty,pos,aft,gd⟩ A w K Q=if zcz 36 (A.eval (.tmp x)) (A.eval (.tmp y)) w=true then K (A.put dst undef) (zdv (A.eval (.tmp x)) (A.eval (.tmp y)) w) else Oper.wp prog ⟨dst,.store 45 (.const (A.eval (.tmp x))) (.const (A.eval (.tmp y))),ty,pos,aft,gd⟩ A w K Q:=zbg kR dst x y ty pos aft gd A w K Q
@[go_sem ↓] theorem SCore.run_op (ρ:Operand->Value) (x:Operand) (w:World):(execOp ρ ⟨dst,.load 45 x,ty,pos,aft,gd⟩).run prog w=if zb6 36 (ρ x) w=true then .ok (.value (zbh 36 (ρ x) w)) w else (do let v <- Instr.loadAt 45 (ρ x);pure (Next.value v):Sem Next).run prog w:=zb8 kR kR ρ dst x ty pos aft gd w
theorem SCore.ret {fn:Func} {R:Ending->World->Prop} {a:Act} {w:World} {p:Tmp} {g:Nat} (y:SCore) (hfn:fn.results=#[.cell p 45]) (hp:a.tmps.getD p undef=.pointer (some ⟨g,0,none⟩)) (hb:blk w g=some (.cells y.cells 45)) (hd:a.defers=[]) (hR:R (.returned (.agg y.cells)) w):bodyPost prog fn R .ret a w:=zef hfn kR (by kernel_rfl:_=some 36) hp (by rw [hb];kernel_rfl) (by rw [hb];kernel_rfl) hd hR
@[go_sem] theorem SCore.okl_ (x:SCore):(∀ (t:TypeId) (fr:Nat × Nat),okO 36 (some (.cells x.cells t fr)) 0=true)/\(∀ (t:TypeId) (fr:Nat × Nat),okO 28 (some (.cells x.cells t fr)) 0=true)/\(∀ (t:TypeId) (fr:Nat × Nat),okO 4 (some (.cells x.cells t fr)) 30=true):=by (repeat' apply And.intro)<;>intros<;>kernel_rfl
@[go_sem] theorem SCore.ld_ (x:SCore):(∀ (t:TypeId) (fr:Nat × Nat),valO 36 (some (.cells x.cells t fr)) 0=.agg (x).cells)/\(∀ (t:TypeId) (fr:Nat × Nat),valO 28 (some (.cells x.cells t fr)) 0=.agg (x.cpu).cells)/\(∀ (t:TypeId) (fr:Nat × Nat),valO 4 (some (.cells x.cells t fr)) 30=.agg (x.cycle).cells):=by (repeat' apply And.intro)<;>intros<;>kernel_rfl
@[go_sem] theorem SCore.oks_ (x:SCore):(∀ (y:SCore) (t:TypeId),okS 36 (some (.cells x.cells t (0,0))) 0 y.cells=true)/\(∀ (y:SCPU) (t:TypeId),okS 28 (some (.cells x.cells t (0,0))) 0 y.cells=true)/\(∀ (y:SCycle) (t:TypeId),okS 4 (some (.cells x.cells t (0,0))) 30 y.cells=true):=by (repeat' apply And.intro)<;>intros<;>kernel_rfl
@[go_sem] theorem SCore.st_ (x:SCore):(∀ (y:SCore) (t b:Nat) (w:World),stS (some (.cells x.cells t (0,0))) b 0 y.cells w=zai w b (y:SCore).cells t)/\(∀ (y:SCPU) (t b:Nat) (w:World),stS (some (.cells x.cells t (0,0))) b 0 y.cells w=zai w b ({ x with cpu:=y }:SCore).cells t)/\(∀ (y:SCycle) (t b:Nat) (w:World),stS (some (.cells x.cells t (0,0))) b 30 y.cells w=zai w b ({ x with cycle:=y }:SCore).cells t):=by (repeat' apply And.intro)<;>intros<;>kernel_rfl
@[go_sem] theorem SCore.e_ (x:SCore):(∀ h,x.cells[0]'h=.int .i64 x.cpu.chip)/\(∀ h,x.cells[19]'h=.bool x.cpu.halted)/\(∀ h,x.cells[28]'h=.int .i64 x.source)/\(∀ h,x.cells[29]'h=.slice x.got.p x.got.n x.got.c)/\(∀ h,x.cells[30]'h=.int .i64 x.cycle.kind)/\(∀ h,x.cells[31]'h=.int .u16 x.cycle.at_)/\(∀ h,x.cells[32]'h=.int .u8 x.cycle.data)/\(∀ h,x.cells[33]'h=.int .i64 x.cycle.states)/\(∀ h,x.cells[34]'h=.int .i64 x.next)/\(∀ h,x.cells[35]'h=.bool x.hold):=by (repeat' apply And.intro)<;>intros<;>kernel_rfl
@[go_sem] theorem SCore.s_ (x:SCore):(∀ (v:Int),x.cells.setIfInBounds 28 (.int .i64 v)=({ x with source:=v }:SCore).cells)/\(∀ (p:Option Addr) (n c:Nat),x.cells.setIfInBounds 29 (.slice p n c)=({ x with got:=⟨p,n,c⟩ }:SCore).cells)/\(∀ (v:Int),x.cells.setIfInBounds 32 (.int .u8 v)=({ x with cycle := { x.cycle with data:=v } }:SCore).cells)/\(∀ (v:Int),x.cells.setIfInBounds 33 (.int .i64 v)=({ x with cycle := { x.cycle with states:=v } }:SCore).cells)/\(∀ (v:Int),x.cells.setIfInBounds 34 (.int .i64 v)=({ x with next:=v }:SCore).cells)/\(∀ (v:Bool),x.cells.setIfInBounds 35 (.bool v)=({ x with hold:=v }:SCore).cells):=by (repeat' apply And.intro)<;>intros<;>kernel_rfl
def SCore.places:Array (Nat × Nat):=#[(0,28),(28,1),(29,1),(30,4),(34,1),(35,1)]
def SCore.fill (x:SCore) (l:List (Nat × Value)):Option (Array Value):=Instr.fill (SCore.places[·]?) x.cells l
@[go_sem] theorem SCore.fill_ (x:SCore):(SCore.fill x []=some x.cells)/\(∀ (y:SCPU) (r:List (Nat × Value)),SCore.fill x ((0,.agg y.cells)::r)=SCore.fill { x with cpu:=y } r)/\(∀ (y:Int) (r:List (Nat × Value)),SCore.fill x ((1,.int .i64 y)::r)=SCore.fill { x with source:=y } r)/\(∀ (y:SCycle) (r:List (Nat × Value)),SCore.fill x ((3,.agg y.cells)::r)=SCore.fill { x with cycle:=y } r)/\(∀ (y:Int) (r:List (Nat × Value)),SCore.fill x ((4,.int .i64 y)::r)=SCore.fill { x with next:=y } r):=by (repeat' apply And.intro)<;>intros<;>kernel_rfl
@[go_sem ↓] theorem SCore.build (parts:Array (Nat × Operand)) (h:(SCore.fill SCore.zero (parts.toList.map fun p=>(p.1,A.eval p.2))).isSome=true) :
  Oper.wp prog ⟨dst,.build 45 parts,ty,pos,aft,gd⟩ A w K Q=K (A.put dst (.agg ((SCore.fill SCore.zero (parts.toList.map fun p=>(p.1,A.eval p.2))).getD #[]))) w:=zba (fields:=zcm prog 45) (places:=SCore.places) (fun w=>SCore.zeroValue w) kR (fun w=>kR) dst parts ty pos aft gd A w K Q h
structure SPIC where
 stage:Int
 level:Bool
 four:Bool
 single:Bool
 fourth:Bool
 low:Int
 high:Int
 auto:Bool
 rotate:Bool
 special:Bool
 readISR:Bool
 poll:Bool
 lines:Int
 edge:Int
 isr:Int
 imr:Int
 lowest:Int
 step:Int
 serving:Int
 spurious:Bool
def SPIC.zero:SPIC:=⟨0,false,false,false,false,0,0,false,false,false,false,false,0,0,0,0,0,0,0,false⟩
def SPIC.cells (x:SPIC):Array Value:=#[.int .i64 x.stage,.bool x.level,.bool x.four,.bool x.single,.bool x.fourth,.int .u8 x.low,.int .u8 x.high,.bool x.auto,.bool x.rotate,.bool x.special,.bool x.readISR,.bool x.poll,.int .u8 x.lines,.int .u8 x.edge,.int .u8 x.isr,.int .u8 x.imr,.int .i64 x.lowest,.int .i64 x.step,.int .i64 x.serving,.bool x.spurious]
@[go_sem] theorem SPIC.size (x:SPIC):(x.cells).size=20:=lay rfl
@[go_sem ↓] theorem SPIC.zeroValue (w:World):(zeroValue 47).run prog w=.ok (.agg SPIC.zero.cells) w:=lK
@[go_sem ↓] theorem SPIC.load (x:Tmp) :
  Oper.wp prog ⟨dst,.load 47 (.tmp x),ty,pos,aft,gd⟩ A w K Q=if zb6 20 (A.eval (.tmp x)) w=true then K (A.put dst (zbh 20 (A.eval (.tmp x)) w)) w else Oper.wp prog ⟨dst,.load 47 (.const (A.eval (.tmp x))),ty,pos,aft,gd⟩ A w K Q:=zbm kR kR dst x ty pos aft gd A w K Q
@[go_sem ↓] theorem SPIC.store (x y:Tmp) :
  Oper.wp prog ⟨dst,.store 47 (.tmp x) (.tmp y),ty,pos,aft,gd⟩ A w K Q=if zcz 20 (A.eval (.tmp x)) (A.eval (.tmp y)) w=true then K (A.put dst undef) (zdv (A.eval (.tmp x)) (A.eval (.tmp y)) w) else Oper.wp prog ⟨dst,.store 47 (.const (A.eval (.tmp x))) (.const (A.eval (.tmp y))),ty,pos,aft,gd⟩ A w K Q:=zbg kR dst x y ty pos aft gd A w K Q
@[go_sem ↓] theorem SPIC.run_op (ρ:Operand->Value) (x:Operand) (w:World):(execOp ρ ⟨dst,.load 47 x,ty,pos,aft,gd⟩).run prog w=if zb6 20 (ρ x) w=true then .ok (.value (zbh 20 (ρ x) w)) w else (do let v <- Instr.loadAt 47 (ρ x);pure (Next.value v):Sem Next).run prog w:=zb8 kR kR ρ dst x ty pos aft gd w
theorem SPIC.ret {fn:Func} {R:Ending->World->Prop} {a:Act} {w:World} {p:Tmp} {g:Nat} (y:SPIC) (hfn:fn.results=#[.cell p 47]) (hp:a.tmps.getD p undef=.pointer (some ⟨g,0,none⟩)) (hb:blk w g=some (.cells y.cells 47)) (hd:a.defers=[]) (hR:R (.returned (.agg y.cells)) w):bodyPost prog fn R .ret a w:=zef hfn kR (by kernel_rfl:_=some 20) hp (by rw [hb];kernel_rfl) (by rw [hb];kernel_rfl) hd hR
@[go_sem] theorem SPIC.okl_whole (x:SPIC) (t:TypeId) (fr:Nat × Nat):okO 20 (some (.cells x.cells t fr)) 0=true:=lK
@[go_sem] theorem SPIC.ld_whole (x:SPIC) (t:TypeId) (fr:Nat × Nat):valO 20 (some (.cells x.cells t fr)) 0=.agg (x).cells:=lK
@[go_sem] theorem SPIC.oks_whole (x:SPIC) (y:SPIC) (t:TypeId):okS 20 (some (.cells x.cells t (0,0))) 0 y.cells=true:=lK
@[go_sem] theorem SPIC.st_whole (x:SPIC) (y:SPIC) (t b:Nat) (w:World):stS (some (.cells x.cells t (0,0))) b 0 y.cells w=zai w b (y:SPIC).cells t:=lK
@[go_sem] theorem SPIC.e_ (x:SPIC):(∀ h,x.cells[0]'h=.int .i64 x.stage)/\(∀ h,x.cells[1]'h=.bool x.level)/\(∀ h,x.cells[2]'h=.bool x.four)/\(∀ h,x.cells[3]'h=.bool x.single)/\(∀ h,x.cells[4]'h=.bool x.fourth)/\(∀ h,x.cells[5]'h=.int .u8 x.low)/\(∀ h,x.cells[6]'h=.int .u8 x.high)/\(∀ h,x.cells[7]'h=.bool x.auto)/\(∀ h,x.cells[8]'h=.bool x.rotate)/\(∀ h,x.cells[9]'h=.bool x.special)/\(∀ h,x.cells[10]'h=.bool x.readISR)/\(∀ h,x.cells[11]'h=.bool x.poll)/\(∀ h,x.cells[12]'h=.int .u8 x.lines)/\(∀ h,x.cells[13]'h=.int .u8 x.edge)/\(∀ h,x.cells[14]'h=.int .u8 x.isr)/\(∀ h,x.cells[15]'h=.int .u8 x.imr)/\(∀ h,x.cells[16]'h=.int .i64 x.lowest)/\(∀ h,x.cells[17]'h=.int .i64 x.step)/\(∀ h,x.cells[18]'h=.int .i64 x.serving)/\(∀ h,x.cells[19]'h=.bool x.spurious):=by (repeat' apply And.intro)<;>intros<;>kernel_rfl
@[go_sem] theorem SPIC.s_ (x:SPIC):(∀ (v:Int),x.cells.setIfInBounds 0 (.int .i64 v)=({ x with stage:=v }:SPIC).cells)/\(∀ (v:Bool),x.cells.setIfInBounds 1 (.bool v)=({ x with level:=v }:SPIC).cells)/\(∀ (v:Bool),x.cells.setIfInBounds 2 (.bool v)=({ x with four:=v }:SPIC).cells)/\(∀ (v:Bool),x.cells.setIfInBounds 3 (.bool v)=({ x with single:=v }:SPIC).cells)/\(∀ (v:Bool),x.cells.setIfInBounds 4 (.bool v)=({ x with fourth:=v }:SPIC).cells)/\(∀ (v:Int),x.cells.setIfInBounds 5 (.int .u8 v)=({ x with low:=v }:SPIC).cells)/\(∀ (v:Int),x.cells.setIfInBounds 6 (.int .u8 v)=({ x with high:=v }:SPIC).cells)/\(∀ (v:Bool),x.cells.setIfInBounds 7 (.bool v)=({ x with auto:=v }:SPIC).cells)/\(∀ (v:Bool),x.cells.setIfInBounds 8 (.bool v)=({ x with rotate:=v }:SPIC).cells)/\(∀ (v:Bool),x.cells.setIfInBounds 9 (.bool v)=({ x with special:=v }:SPIC).cells)/\(∀ (v:Bool),x.cells.setIfInBounds 10 (.bool v)=({ x with readISR:=v }:SPIC).cells)/\(∀ (v:Bool),x.cells.setIfInBounds 11 (.bool v)=({ x with poll:=v }:SPIC).cells)/\(∀ (v:Int),x.cells.setIfInBounds 12 (.int .u8 v)=({ x with lines:=v }:SPIC).cells)/\(∀ (v:Int),x.cells.setIfInBounds 13 (.int .u8 v)=({ x with edge:=v }:SPIC).cells)/\(∀ (v:Int),x.cells.setIfInBounds 14 (.int .u8 v)=({ x with isr:=v }:SPIC).cells)/\(∀ (v:Int),x.cells.setIfInBounds 15 (.int .u8 v)=({ x with imr:=v }:SPIC).cells)/\(∀ (v:Int),x.cells.setIfInBounds 16 (.int .i64 v)=({ x with lowest:=v }:SPIC).cells)/\(∀ (v:Int),x.cells.setIfInBounds 17 (.int .i64 v)=({ x with step:=v }:SPIC).cells)/\(∀ (v:Int),x.cells.setIfInBounds 18 (.int .i64 v)=({ x with serving:=v }:SPIC).cells)/\(∀ (v:Bool),x.cells.setIfInBounds 19 (.bool v)=({ x with spurious:=v }:SPIC).cells):=by (repeat' apply And.intro)<;>intros<;>kernel_rfl
def SPIC.places:Array (Nat × Nat):=#[(0,1),(1,1),(2,1),(3,1),(4,1),(5,1),(6,1),(7,1),(8,1),(9,1),(10,1),(11,1),(12,1),(13,1),(14,1),(15,1),(16,1),(17,1),(18,1),(19,1)]
def SPIC.fill (x:SPIC) (l:List (Nat × Value)):Option (Array Value):=Instr.fill (SPIC.places[·]?) x.cells l
@[go_sem] theorem SPIC.fill_ (x:SPIC):(SPIC.fill x []=some x.cells)/\(∀ (y:Int) (r:List (Nat × Value)),SPIC.fill x ((16,.int .i64 y)::r)=SPIC.fill { x with lowest:=y } r):=by (repeat' apply And.intro)<;>intros<;>kernel_rfl
@[go_sem ↓] theorem SPIC.build (parts:Array (Nat × Operand)) (h:(SPIC.fill SPIC.zero (parts.toList.map fun p=>(p.1,A.eval p.2))).isSome=true) :
  Oper.wp prog ⟨dst,.build 47 parts,ty,pos,aft,gd⟩ A w K Q=K (A.put dst (.agg ((SPIC.fill SPIC.zero (parts.toList.map fun p=>(p.1,A.eval p.2))).getD #[]))) w:=zba (fields:=zcm prog 47) (places:=SPIC.places) (fun w=>SPIC.zeroValue w) kR (fun w=>kR) dst parts ty pos aft gd A w K Q h
structure SRegion where
 from_:Int
 to:Int
 ram:Bool
 waits:Int
def SRegion.zero:SRegion:=⟨0,0,false,0⟩
def SRegion.cells (x:SRegion):Array Value:=#[.int .u16 x.from_,.int .u16 x.to,.bool x.ram,.int .i64 x.waits]
@[go_sem] theorem SRegion.size (x:SRegion):(x.cells).size=4:=lay rfl
theorem SRegion.one (x:SRegion):x.cells.all (fun v=>v.oneCell')=true:=lK
@[go_sem ↓] theorem SRegion.zeroValue (w:World):(zeroValue 82).run prog w=.ok (.agg SRegion.zero.cells) w:=lK
@[go_sem ↓] theorem SRegion.load (x:Tmp) :
  Oper.wp prog ⟨dst,.load 82 (.tmp x),ty,pos,aft,gd⟩ A w K Q=if zb6 4 (A.eval (.tmp x)) w=true then K (A.put dst (zbh 4 (A.eval (.tmp x)) w)) w else Oper.wp prog ⟨dst,.load 82 (.const (A.eval (.tmp x))),ty,pos,aft,gd⟩ A w K Q:=zbm kR kR dst x ty pos aft gd A w K Q
@[go_sem ↓] theorem SRegion.store (x y:Tmp) :
  Oper.wp prog ⟨dst,.store 82 (.tmp x) (.tmp y),ty,pos,aft,gd⟩ A w K Q=if zcz 4 (A.eval (.tmp x)) (A.eval (.tmp y)) w=true then K (A.put dst undef) (zdv (A.eval (.tmp x)) (A.eval (.tmp y)) w) else Oper.wp prog ⟨dst,.store 82 (.const (A.eval (.tmp x))) (.const (A.eval (.tmp y))),ty,pos,aft,gd⟩ A w K Q:=zbg kR dst x y ty pos aft gd A w K Q
@[go_sem] theorem SRegion.oks_whole (x:SRegion) (y:SRegion) (t:TypeId):okS 4 (some (.cells x.cells t (0,0))) 0 y.cells=true:=lK
@[go_sem] theorem SRegion.st_whole (x:SRegion) (y:SRegion) (t b:Nat) (w:World):stS (some (.cells x.cells t (0,0))) b 0 y.cells w=zai w b (y:SRegion).cells t:=lK
@[go_sem] theorem SRegion.e_ (x:SRegion):(∀ h,x.cells[0]'h=.int .u16 x.from_)/\(∀ h,x.cells[1]'h=.int .u16 x.to)/\(∀ h,x.cells[3]'h=.int .i64 x.waits):=by (repeat' apply And.intro)<;>intros<;>kernel_rfl
def SRegion.places:Array (Nat × Nat):=#[(0,1),(1,1),(2,1),(3,1)]
def SRegion.fill (x:SRegion) (l:List (Nat × Value)):Option (Array Value):=Instr.fill (SRegion.places[·]?) x.cells l
@[go_sem] theorem SRegion.fill_ (x:SRegion):(SRegion.fill x []=some x.cells)/\(∀ (y:Int) (r:List (Nat × Value)),SRegion.fill x ((0,.int .u16 y)::r)=SRegion.fill { x with from_:=y } r)/\(∀ (y:Int) (r:List (Nat × Value)),SRegion.fill x ((1,.int .u16 y)::r)=SRegion.fill { x with to:=y } r)/\(∀ (y:Bool) (r:List (Nat × Value)),SRegion.fill x ((2,.bool y)::r)=SRegion.fill { x with ram:=y } r)/\(∀ (y:Int) (r:List (Nat × Value)),SRegion.fill x ((3,.int .i64 y)::r)=SRegion.fill { x with waits:=y } r):=by (repeat' apply And.intro)<;>intros<;>kernel_rfl
@[go_sem ↓] theorem SRegion.build (parts:Array (Nat × Operand)) (h:(SRegion.fill SRegion.zero (parts.toList.map fun p=>(p.1,A.eval p.2))).isSome=true) :
  Oper.wp prog ⟨dst,.build 82 parts,ty,pos,aft,gd⟩ A w K Q=K (A.put dst (.agg ((SRegion.fill SRegion.zero (parts.toList.map fun p=>(p.1,A.eval p.2))).getD #[]))) w:=zba (fields:=zcm prog 82) (places:=SRegion.places) (fun w=>SRegion.zeroValue w) kR (fun w=>kR) dst parts ty pos aft gd A w K Q h
structure SDMA where
 at_:Int
 value:Int
 left:Int
def SDMA.zero:SDMA:=⟨0,0,0⟩
def SDMA.cells (x:SDMA):Array Value:=#[.int .u16 x.at_,.int .u8 x.value,.int .i64 x.left]
@[go_sem] theorem SDMA.size (x:SDMA):(x.cells).size=3:=lay rfl
@[go_sem ↓] theorem SDMA.zeroValue (w:World):(zeroValue 49).run prog w=.ok (.agg SDMA.zero.cells) w:=lK
@[go_sem ↓] theorem SDMA.load (x:Tmp) :
  Oper.wp prog ⟨dst,.load 49 (.tmp x),ty,pos,aft,gd⟩ A w K Q=if zb6 3 (A.eval (.tmp x)) w=true then K (A.put dst (zbh 3 (A.eval (.tmp x)) w)) w else Oper.wp prog ⟨dst,.load 49 (.const (A.eval (.tmp x))),ty,pos,aft,gd⟩ A w K Q:=zbm kR kR dst x ty pos aft gd A w K Q
@[go_sem ↓] theorem SDMA.store (x y:Tmp) :
  Oper.wp prog ⟨dst,.store 49 (.tmp x) (.tmp y),ty,pos,aft,gd⟩ A w K Q=if zcz 3 (A.eval (.tmp x)) (A.eval (.tmp y)) w=true then K (A.put dst undef) (zdv (A.eval (.tmp x)) (A.eval (.tmp y)) w) else Oper.wp prog ⟨dst,.store 49 (.const (A.eval (.tmp x))) (.const (A.eval (.tmp y))),ty,pos,aft,gd⟩ A w K Q:=zbg kR dst x y ty pos aft gd A w K Q
@[go_sem ↓] theorem SDMA.run_op (ρ:Operand->Value) (x:Operand) (w:World):(execOp ρ ⟨dst,.load 49 x,ty,pos,aft,gd⟩).run prog w=if zb6 3 (ρ x) w=true then .ok (.value (zbh 3 (ρ x) w)) w else (do let v <- Instr.loadAt 49 (ρ x);pure (Next.value v):Sem Next).run prog w:=zb8 kR kR ρ dst x ty pos aft gd w
theorem SDMA.ret {fn:Func} {R:Ending->World->Prop} {a:Act} {w:World} {p:Tmp} {g:Nat} (y:SDMA) (hfn:fn.results=#[.cell p 49]) (hp:a.tmps.getD p undef=.pointer (some ⟨g,0,none⟩)) (hb:blk w g=some (.cells y.cells 49)) (hd:a.defers=[]) (hR:R (.returned (.agg y.cells)) w):bodyPost prog fn R .ret a w:=zef hfn kR (by kernel_rfl:_=some 3) hp (by rw [hb];kernel_rfl) (by rw [hb];kernel_rfl) hd hR
@[go_sem] theorem SDMA.okl_whole (x:SDMA) (t:TypeId) (fr:Nat × Nat):okO 3 (some (.cells x.cells t fr)) 0=true:=lK
@[go_sem] theorem SDMA.ld_whole (x:SDMA) (t:TypeId) (fr:Nat × Nat):valO 3 (some (.cells x.cells t fr)) 0=.agg (x).cells:=lK
@[go_sem] theorem SDMA.oks_whole (x:SDMA) (y:SDMA) (t:TypeId):okS 3 (some (.cells x.cells t (0,0))) 0 y.cells=true:=lK
@[go_sem] theorem SDMA.st_whole (x:SDMA) (y:SDMA) (t b:Nat) (w:World):stS (some (.cells x.cells t (0,0))) b 0 y.cells w=zai w b (y:SDMA).cells t:=lK
@[go_sem] theorem SDMA.e_ (x:SDMA):(∀ h,x.cells[0]'h=.int .u16 x.at_)/\(∀ h,x.cells[1]'h=.int .u8 x.value)/\(∀ h,x.cells[2]'h=.int .i64 x.left):=by (repeat' apply And.intro)<;>intros<;>kernel_rfl
@[go_sem] theorem SDMA.s_ (x:SDMA):(∀ (v:Int),x.cells.setIfInBounds 0 (.int .u16 v)=({ x with at_:=v }:SDMA).cells)/\(∀ (v:Int),x.cells.setIfInBounds 1 (.int .u8 v)=({ x with value:=v }:SDMA).cells)/\(∀ (v:Int),x.cells.setIfInBounds 2 (.int .i64 v)=({ x with left:=v }:SDMA).cells):=by (repeat' apply And.intro)<;>intros<;>kernel_rfl
def SDMA.places:Array (Nat × Nat):=#[(0,1),(1,1),(2,1)]
def SDMA.fill (x:SDMA) (l:List (Nat × Value)):Option (Array Value):=Instr.fill (SDMA.places[·]?) x.cells l
@[go_sem] theorem SDMA.fill_nil (x:SDMA):SDMA.fill x []=some x.cells:=lK
@[go_sem ↓] theorem SDMA.build (parts:Array (Nat × Operand)) (h:(SDMA.fill SDMA.zero (parts.toList.map fun p=>(p.1,A.eval p.2))).isSome=true) :
  Oper.wp prog ⟨dst,.build 49 parts,ty,pos,aft,gd⟩ A w K Q=K (A.put dst (.agg ((SDMA.fill SDMA.zero (parts.toList.map fun p=>(p.1,A.eval p.2))).getD #[]))) w:=zba (fields:=zcm prog 49) (places:=SDMA.places) (fun w=>SDMA.zeroValue w) kR (fun w=>kR) dst parts ty pos aft gd A w K Q h
structure SCell where
 at_:Int
 val:Int
def SCell.zero:SCell:=⟨0,0⟩
def SCell.cells (x:SCell):Array Value:=#[.int .u16 x.at_,.int .u8 x.val]
@[go_sem] theorem SCell.size (x:SCell):(x.cells).size=2:=lay rfl
theorem SCell.one (x:SCell):x.cells.all (fun v=>v.oneCell')=true:=lK
@[go_sem ↓] theorem SCell.zeroValue (w:World):(zeroValue 61).run prog w=.ok (.agg SCell.zero.cells) w:=lK
@[go_sem ↓] theorem SCell.load (x:Tmp) :
  Oper.wp prog ⟨dst,.load 61 (.tmp x),ty,pos,aft,gd⟩ A w K Q=if zb6 2 (A.eval (.tmp x)) w=true then K (A.put dst (zbh 2 (A.eval (.tmp x)) w)) w else Oper.wp prog ⟨dst,.load 61 (.const (A.eval (.tmp x))),ty,pos,aft,gd⟩ A w K Q:=zbm kR kR dst x ty pos aft gd A w K Q
@[go_sem ↓] theorem SCell.store (x y:Tmp) :
  Oper.wp prog ⟨dst,.store 61 (.tmp x) (.tmp y),ty,pos,aft,gd⟩ A w K Q=if zcz 2 (A.eval (.tmp x)) (A.eval (.tmp y)) w=true then K (A.put dst undef) (zdv (A.eval (.tmp x)) (A.eval (.tmp y)) w) else Oper.wp prog ⟨dst,.store 61 (.const (A.eval (.tmp x))) (.const (A.eval (.tmp y))),ty,pos,aft,gd⟩ A w K Q:=zbg kR dst x y ty pos aft gd A w K Q
@[go_sem ↓] theorem SCell.run_op (ρ:Operand->Value) (x:Operand) (w:World):(execOp ρ ⟨dst,.load 61 x,ty,pos,aft,gd⟩).run prog w=if zb6 2 (ρ x) w=true then .ok (.value (zbh 2 (ρ x) w)) w else (do let v <- Instr.loadAt 61 (ρ x);pure (Next.value v):Sem Next).run prog w:=zb8 kR kR ρ dst x ty pos aft gd w
@[go_sem] theorem SCell.okl_whole (x:SCell) (t:TypeId) (fr:Nat × Nat):okO 2 (some (.cells x.cells t fr)) 0=true:=lK
@[go_sem] theorem SCell.ld_whole (x:SCell) (t:TypeId) (fr:Nat × Nat):valO 2 (some (.cells x.cells t fr)) 0=.agg (x).cells:=lK
@[go_sem] theorem SCell.oks_whole (x:SCell) (y:SCell) (t:TypeId):okS 2 (some (.cells x.cells t (0,0))) 0 y.cells=true:=lK
@[go_sem] theorem SCell.st_whole (x:SCell) (y:SCell) (t b:Nat) (w:World):stS (some (.cells x.cells t (0,0))) b 0 y.cells w=zai w b (y:SCell).cells t:=lK
@[go_sem] theorem SCell.e_ (x:SCell):(∀ h,x.cells[0]'h=.int .u16 x.at_)/\(∀ h,x.cells[1]'h=.int .u8 x.val):=by (repeat' apply And.intro)<;>intros<;>kernel_rfl
@[go_sem] theorem SCell.s_ (x:SCell):(∀ (v:Int),x.cells.setIfInBounds 0 (.int .u16 v)=({ x with at_:=v }:SCell).cells)/\(∀ (v:Int),x.cells.setIfInBounds 1 (.int .u8 v)=({ x with val:=v }:SCell).cells):=by (repeat' apply And.intro)<;>intros<;>kernel_rfl
def SCell.places:Array (Nat × Nat):=#[(0,1),(1,1)]
def SCell.fill (x:SCell) (l:List (Nat × Value)):Option (Array Value):=Instr.fill (SCell.places[·]?) x.cells l
@[go_sem] theorem SCell.fill_ (x:SCell):(SCell.fill x []=some x.cells)/\(∀ (y:Int) (r:List (Nat × Value)),SCell.fill x ((0,.int .u16 y)::r)=SCell.fill { x with at_:=y } r)/\(∀ (y:Int) (r:List (Nat × Value)),SCell.fill x ((1,.int .u8 y)::r)=SCell.fill { x with val:=y } r):=by (repeat' apply And.intro)<;>intros<;>kernel_rfl
@[go_sem ↓] theorem SCell.build (parts:Array (Nat × Operand)) (h:(SCell.fill SCell.zero (parts.toList.map fun p=>(p.1,A.eval p.2))).isSome=true) :
  Oper.wp prog ⟨dst,.build 61 parts,ty,pos,aft,gd⟩ A w K Q=K (A.put dst (.agg ((SCell.fill SCell.zero (parts.toList.map fun p=>(p.1,A.eval p.2))).getD #[]))) w:=zba (fields:=zcm prog 61) (places:=SCell.places) (fun w=>SCell.zeroValue w) kR (fun w=>kR) dst parts ty pos aft gd A w K Q h
structure SBoard where
 chip:Int
 regions:Sl
 iowaits:Int
 picPort:Int
 dmaPort:Int
 jam:Bool
 image:Sl
def SBoard.zero:SBoard:=⟨0,⟨none,0,0⟩,0,0,0,false,⟨none,0,0⟩⟩
def SBoard.cells (x:SBoard):Array Value:=#[.int .i64 x.chip,.slice x.regions.p x.regions.n x.regions.c,.int .i64 x.iowaits,.int .u8 x.picPort,.int .u8 x.dmaPort,.bool x.jam,.slice x.image.p x.image.n x.image.c]
@[go_sem] theorem SBoard.size (x:SBoard):(x.cells).size=7:=lay rfl
@[go_sem ↓] theorem SBoard.zeroValue (w:World):(zeroValue 27).run prog w=.ok (.agg SBoard.zero.cells) w:=lK
@[go_sem ↓] theorem SBoard.load (x:Tmp) :
  Oper.wp prog ⟨dst,.load 27 (.tmp x),ty,pos,aft,gd⟩ A w K Q=if zb6 7 (A.eval (.tmp x)) w=true then K (A.put dst (zbh 7 (A.eval (.tmp x)) w)) w else Oper.wp prog ⟨dst,.load 27 (.const (A.eval (.tmp x))),ty,pos,aft,gd⟩ A w K Q:=zbm kR kR dst x ty pos aft gd A w K Q
@[go_sem ↓] theorem SBoard.store (x y:Tmp) :
  Oper.wp prog ⟨dst,.store 27 (.tmp x) (.tmp y),ty,pos,aft,gd⟩ A w K Q=if zcz 7 (A.eval (.tmp x)) (A.eval (.tmp y)) w=true then K (A.put dst undef) (zdv (A.eval (.tmp x)) (A.eval (.tmp y)) w) else Oper.wp prog ⟨dst,.store 27 (.const (A.eval (.tmp x))) (.const (A.eval (.tmp y))),ty,pos,aft,gd⟩ A w K Q:=zbg kR dst x y ty pos aft gd A w K Q
@[go_sem ↓] theorem SBoard.run_op (ρ:Operand->Value) (x:Operand) (w:World):(execOp ρ ⟨dst,.load 27 x,ty,pos,aft,gd⟩).run prog w=if zb6 7 (ρ x) w=true then .ok (.value (zbh 7 (ρ x) w)) w else (do let v <- Instr.loadAt 27 (ρ x);pure (Next.value v):Sem Next).run prog w:=zb8 kR kR ρ dst x ty pos aft gd w
theorem SBoard.ret {fn:Func} {R:Ending->World->Prop} {a:Act} {w:World} {p:Tmp} {g:Nat} (y:SBoard) (hfn:fn.results=#[.cell p 27]) (hp:a.tmps.getD p undef=.pointer (some ⟨g,0,none⟩)) (hb:blk w g=some (.cells y.cells 27)) (hd:a.defers=[]) (hR:R (.returned (.agg y.cells)) w):bodyPost prog fn R .ret a w:=zef hfn kR (by kernel_rfl:_=some 7) hp (by rw [hb];kernel_rfl) (by rw [hb];kernel_rfl) hd hR
@[go_sem] theorem SBoard.okl_whole (x:SBoard) (t:TypeId) (fr:Nat × Nat):okO 7 (some (.cells x.cells t fr)) 0=true:=lK
@[go_sem] theorem SBoard.ld_whole (x:SBoard) (t:TypeId) (fr:Nat × Nat):valO 7 (some (.cells x.cells t fr)) 0=.agg (x).cells:=lK
@[go_sem] theorem SBoard.oks_whole (x:SBoard) (y:SBoard) (t:TypeId):okS 7 (some (.cells x.cells t (0,0))) 0 y.cells=true:=lK
@[go_sem] theorem SBoard.st_whole (x:SBoard) (y:SBoard) (t b:Nat) (w:World):stS (some (.cells x.cells t (0,0))) b 0 y.cells w=zai w b (y:SBoard).cells t:=lK
@[go_sem] theorem SBoard.e_ (x:SBoard):(∀ h,x.cells[0]'h=.int .i64 x.chip)/\(∀ h,x.cells[1]'h=.slice x.regions.p x.regions.n x.regions.c)/\(∀ h,x.cells[2]'h=.int .i64 x.iowaits)/\(∀ h,x.cells[3]'h=.int .u8 x.picPort)/\(∀ h,x.cells[4]'h=.int .u8 x.dmaPort)/\(∀ h,x.cells[5]'h=.bool x.jam)/\(∀ h,x.cells[6]'h=.slice x.image.p x.image.n x.image.c):=by (repeat' apply And.intro)<;>intros<;>kernel_rfl
@[go_sem] theorem SBoard.s_ (x:SBoard):(∀ (v:Int),x.cells.setIfInBounds 3 (.int .u8 v)=({ x with picPort:=v }:SBoard).cells)/\(∀ (v:Int),x.cells.setIfInBounds 4 (.int .u8 v)=({ x with dmaPort:=v }:SBoard).cells)/\(∀ (v:Bool),x.cells.setIfInBounds 5 (.bool v)=({ x with jam:=v }:SBoard).cells)/\(∀ (p:Option Addr) (n c:Nat),x.cells.setIfInBounds 6 (.slice p n c)=({ x with image:=⟨p,n,c⟩ }:SBoard).cells):=by (repeat' apply And.intro)<;>intros<;>kernel_rfl
def SBoard.places:Array (Nat × Nat):=#[(0,1),(1,1),(2,1),(3,1),(4,1),(5,1),(6,1)]
def SBoard.fill (x:SBoard) (l:List (Nat × Value)):Option (Array Value):=Instr.fill (SBoard.places[·]?) x.cells l
@[go_sem] theorem SBoard.fill_ (x:SBoard):(SBoard.fill x []=some x.cells)/\(∀ (y:Int) (r:List (Nat × Value)),SBoard.fill x ((0,.int .i64 y)::r)=SBoard.fill { x with chip:=y } r)/\(∀ (p:Option Addr) (n c:Nat) (r:List (Nat × Value)),SBoard.fill x ((1,.slice p n c)::r)=SBoard.fill { x with regions:=⟨p,n,c⟩ } r)/\(∀ (y:Int) (r:List (Nat × Value)),SBoard.fill x ((2,.int .i64 y)::r)=SBoard.fill { x with iowaits:=y } r)/\(∀ (y:Int) (r:List (Nat × Value)),SBoard.fill x ((4,.int .u8 y)::r)=SBoard.fill { x with dmaPort:=y } r)/\(∀ (y:Bool) (r:List (Nat × Value)),SBoard.fill x ((5,.bool y)::r)=SBoard.fill { x with jam:=y } r)/\(∀ (p:Option Addr) (n c:Nat) (r:List (Nat × Value)),SBoard.fill x ((6,.slice p n c)::r)=SBoard.fill { x with image:=⟨p,n,c⟩ } r):=by (repeat' apply And.intro)<;>intros<;>kernel_rfl
@[go_sem ↓] theorem SBoard.build (parts:Array (Nat × Operand)) (h:(SBoard.fill SBoard.zero (parts.toList.map fun p=>(p.1,A.eval p.2))).isSome=true) :
  Oper.wp prog ⟨dst,.build 27 parts,ty,pos,aft,gd⟩ A w K Q=K (A.put dst (.agg ((SBoard.fill SBoard.zero (parts.toList.map fun p=>(p.1,A.eval p.2))).getD #[]))) w:=zba (fields:=zcm prog 27) (places:=SBoard.places) (fun w=>SBoard.zeroValue w) kR (fun w=>kR) dst parts ty pos aft gd A w K Q h
structure SInput where
 ready:Bool
 hold:Bool
 reset:Bool
 sid:Bool
 trap:Bool
 r75:Bool
 r65:Bool
 r55:Bool
 requests:Int
 port:Int
def SInput.zero:SInput:=⟨false,false,false,false,false,false,false,false,0,0⟩
def SInput.cells (x:SInput):Array Value:=#[.bool x.ready,.bool x.hold,.bool x.reset,.bool x.sid,.bool x.trap,.bool x.r75,.bool x.r65,.bool x.r55,.int .u8 x.requests,.int .u8 x.port]
@[go_sem] theorem SInput.size (x:SInput):(x.cells).size=10:=lay rfl
theorem SInput.one (x:SInput):x.cells.all (fun v=>v.oneCell')=true:=lK
@[go_sem ↓] theorem SInput.zeroValue (w:World):(zeroValue 74).run prog w=.ok (.agg SInput.zero.cells) w:=lK
@[go_sem ↓] theorem SInput.load (x:Tmp) :
  Oper.wp prog ⟨dst,.load 74 (.tmp x),ty,pos,aft,gd⟩ A w K Q=if zb6 10 (A.eval (.tmp x)) w=true then K (A.put dst (zbh 10 (A.eval (.tmp x)) w)) w else Oper.wp prog ⟨dst,.load 74 (.const (A.eval (.tmp x))),ty,pos,aft,gd⟩ A w K Q:=zbm kR kR dst x ty pos aft gd A w K Q
@[go_sem ↓] theorem SInput.store (x y:Tmp) :
  Oper.wp prog ⟨dst,.store 74 (.tmp x) (.tmp y),ty,pos,aft,gd⟩ A w K Q=if zcz 10 (A.eval (.tmp x)) (A.eval (.tmp y)) w=true then K (A.put dst undef) (zdv (A.eval (.tmp x)) (A.eval (.tmp y)) w) else Oper.wp prog ⟨dst,.store 74 (.const (A.eval (.tmp x))) (.const (A.eval (.tmp y))),ty,pos,aft,gd⟩ A w K Q:=zbg kR dst x y ty pos aft gd A w K Q
@[go_sem ↓] theorem SInput.run_op (ρ:Operand->Value) (x:Operand) (w:World):(execOp ρ ⟨dst,.load 74 x,ty,pos,aft,gd⟩).run prog w=if zb6 10 (ρ x) w=true then .ok (.value (zbh 10 (ρ x) w)) w else (do let v <- Instr.loadAt 74 (ρ x);pure (Next.value v):Sem Next).run prog w:=zb8 kR kR ρ dst x ty pos aft gd w
theorem SInput.ret {fn:Func} {R:Ending->World->Prop} {a:Act} {w:World} {p:Tmp} {g:Nat} (y:SInput) (hfn:fn.results=#[.cell p 74]) (hp:a.tmps.getD p undef=.pointer (some ⟨g,0,none⟩)) (hb:blk w g=some (.cells y.cells 74)) (hd:a.defers=[]) (hR:R (.returned (.agg y.cells)) w):bodyPost prog fn R .ret a w:=zef hfn kR (by kernel_rfl:_=some 10) hp (by rw [hb];kernel_rfl) (by rw [hb];kernel_rfl) hd hR
@[go_sem] theorem SInput.okl_whole (x:SInput) (t:TypeId) (fr:Nat × Nat):okO 10 (some (.cells x.cells t fr)) 0=true:=lK
@[go_sem] theorem SInput.ld_whole (x:SInput) (t:TypeId) (fr:Nat × Nat):valO 10 (some (.cells x.cells t fr)) 0=.agg (x).cells:=lK
@[go_sem] theorem SInput.oks_whole (x:SInput) (y:SInput) (t:TypeId):okS 10 (some (.cells x.cells t (0,0))) 0 y.cells=true:=lK
@[go_sem] theorem SInput.st_whole (x:SInput) (y:SInput) (t b:Nat) (w:World):stS (some (.cells x.cells t (0,0))) b 0 y.cells w=zai w b (y:SInput).cells t:=lK
@[go_sem] theorem SInput.e_ (x:SInput):(∀ h,x.cells[0]'h=.bool x.ready)/\(∀ h,x.cells[1]'h=.bool x.hold)/\(∀ h,x.cells[2]'h=.bool x.reset)/\(∀ h,x.cells[3]'h=.bool x.sid)/\(∀ h,x.cells[4]'h=.bool x.trap)/\(∀ h,x.cells[5]'h=.bool x.r75)/\(∀ h,x.cells[6]'h=.bool x.r65)/\(∀ h,x.cells[7]'h=.bool x.r55)/\(∀ h,x.cells[8]'h=.int .u8 x.requests)/\(∀ h,x.cells[9]'h=.int .u8 x.port):=by (repeat' apply And.intro)<;>intros<;>kernel_rfl
@[go_sem] theorem SInput.s_ (x:SInput):(∀ (v:Bool),x.cells.setIfInBounds 0 (.bool v)=({ x with ready:=v }:SInput).cells)/\(∀ (v:Bool),x.cells.setIfInBounds 1 (.bool v)=({ x with hold:=v }:SInput).cells)/\(∀ (v:Bool),x.cells.setIfInBounds 2 (.bool v)=({ x with reset:=v }:SInput).cells)/\(∀ (v:Bool),x.cells.setIfInBounds 3 (.bool v)=({ x with sid:=v }:SInput).cells)/\(∀ (v:Bool),x.cells.setIfInBounds 4 (.bool v)=({ x with trap:=v }:SInput).cells)/\(∀ (v:Bool),x.cells.setIfInBounds 5 (.bool v)=({ x with r75:=v }:SInput).cells)/\(∀ (v:Bool),x.cells.setIfInBounds 6 (.bool v)=({ x with r65:=v }:SInput).cells)/\(∀ (v:Bool),x.cells.setIfInBounds 7 (.bool v)=({ x with r55:=v }:SInput).cells)/\(∀ (v:Int),x.cells.setIfInBounds 8 (.int .u8 v)=({ x with requests:=v }:SInput).cells)/\(∀ (v:Int),x.cells.setIfInBounds 9 (.int .u8 v)=({ x with port:=v }:SInput).cells):=by (repeat' apply And.intro)<;>intros<;>kernel_rfl
def SInput.places:Array (Nat × Nat):=#[(0,1),(1,1),(2,1),(3,1),(4,1),(5,1),(6,1),(7,1),(8,1),(9,1)]
def SInput.fill (x:SInput) (l:List (Nat × Value)):Option (Array Value):=Instr.fill (SInput.places[·]?) x.cells l
@[go_sem] theorem SInput.fill_ (x:SInput):(SInput.fill x []=some x.cells)/\(∀ (y:Bool) (r:List (Nat × Value)),SInput.fill x ((0,.bool y)::r)=SInput.fill { x with ready:=y } r)/\(∀ (y:Bool) (r:List (Nat × Value)),SInput.fill x ((1,.bool y)::r)=SInput.fill { x with hold:=y } r)/\(∀ (y:Bool) (r:List (Nat × Value)),SInput.fill x ((2,.bool y)::r)=SInput.fill { x with reset:=y } r)/\(∀ (y:Bool) (r:List (Nat × Value)),SInput.fill x ((3,.bool y)::r)=SInput.fill { x with sid:=y } r)/\(∀ (y:Bool) (r:List (Nat × Value)),SInput.fill x ((4,.bool y)::r)=SInput.fill { x with trap:=y } r)/\(∀ (y:Bool) (r:List (Nat × Value)),SInput.fill x ((5,.bool y)::r)=SInput.fill { x with r75:=y } r)/\(∀ (y:Bool) (r:List (Nat × Value)),SInput.fill x ((6,.bool y)::r)=SInput.fill { x with r65:=y } r)/\(∀ (y:Bool) (r:List (Nat × Value)),SInput.fill x ((7,.bool y)::r)=SInput.fill { x with r55:=y } r)/\(∀ (y:Int) (r:List (Nat × Value)),SInput.fill x ((8,.int .u8 y)::r)=SInput.fill { x with requests:=y } r)/\(∀ (y:Int) (r:List (Nat × Value)),SInput.fill x ((9,.int .u8 y)::r)=SInput.fill { x with port:=y } r):=by (repeat' apply And.intro)<;>intros<;>kernel_rfl
@[go_sem ↓] theorem SInput.build (parts:Array (Nat × Operand)) (h:(SInput.fill SInput.zero (parts.toList.map fun p=>(p.1,A.eval p.2))).isSome=true) :
  Oper.wp prog ⟨dst,.build 74 parts,ty,pos,aft,gd⟩ A w K Q=K (A.put dst (.agg ((SInput.fill SInput.zero (parts.toList.map fun p=>(p.1,A.eval p.2))).getD #[]))) w:=zba (fields:=zcm prog 74) (places:=SInput.places) (fun w=>SInput.zeroValue w) kR (fun w=>kR) dst parts ty pos aft gd A w K Q h
structure SOutput where
 port:Int
 val:Int
def SOutput.zero:SOutput:=⟨0,0⟩
def SOutput.cells (x:SOutput):Array Value:=#[.int .u8 x.port,.int .u8 x.val]
@[go_sem] theorem SOutput.size (x:SOutput):(x.cells).size=2:=lay rfl
theorem SOutput.one (x:SOutput):x.cells.all (fun v=>v.oneCell')=true:=lK
@[go_sem ↓] theorem SOutput.zeroValue (w:World):(zeroValue 110).run prog w=.ok (.agg SOutput.zero.cells) w:=lK
def SOutput.places:Array (Nat × Nat):=#[(0,1),(1,1)]
def SOutput.fill (x:SOutput) (l:List (Nat × Value)):Option (Array Value):=Instr.fill (SOutput.places[·]?) x.cells l
@[go_sem] theorem SOutput.fill_ (x:SOutput):(SOutput.fill x []=some x.cells)/\(∀ (y:Int) (r:List (Nat × Value)),SOutput.fill x ((0,.int .u8 y)::r)=SOutput.fill { x with port:=y } r)/\(∀ (y:Int) (r:List (Nat × Value)),SOutput.fill x ((1,.int .u8 y)::r)=SOutput.fill { x with val:=y } r):=by (repeat' apply And.intro)<;>intros<;>kernel_rfl
@[go_sem ↓] theorem SOutput.build (parts:Array (Nat × Operand)) (h:(SOutput.fill SOutput.zero (parts.toList.map fun p=>(p.1,A.eval p.2))).isSome=true) :
  Oper.wp prog ⟨dst,.build 110 parts,ty,pos,aft,gd⟩ A w K Q=K (A.put dst (.agg ((SOutput.fill SOutput.zero (parts.toList.map fun p=>(p.1,A.eval p.2))).getD #[]))) w:=zba (fields:=zcm prog 110) (places:=SOutput.places) (fun w=>SOutput.zeroValue w) kR (fun w=>kR) dst parts ty pos aft gd A w K Q h
structure SInstr where
 kind:Int
 length:Int
 dst:Int
 src:Int
 pair:Int
 op:Int
 cond:Int
 n:Int
def SInstr.zero:SInstr:=⟨0,0,0,0,0,0,0,0⟩
def SInstr.cells (x:SInstr):Array Value:=#[.int .i64 x.kind,.int .i64 x.length,.int .i64 x.dst,.int .i64 x.src,.int .i64 x.pair,.int .i64 x.op,.int .i64 x.cond,.int .i64 x.n]
@[go_sem] theorem SInstr.size (x:SInstr):(x.cells).size=8:=lay rfl
@[go_sem ↓] theorem SInstr.zeroValue (w:World):(zeroValue 177).run prog w=.ok (.agg SInstr.zero.cells) w:=lK
@[go_sem ↓] theorem SInstr.load (x:Tmp) :
  Oper.wp prog ⟨dst,.load 177 (.tmp x),ty,pos,aft,gd⟩ A w K Q=if zb6 8 (A.eval (.tmp x)) w=true then K (A.put dst (zbh 8 (A.eval (.tmp x)) w)) w else Oper.wp prog ⟨dst,.load 177 (.const (A.eval (.tmp x))),ty,pos,aft,gd⟩ A w K Q:=zbm kR kR dst x ty pos aft gd A w K Q
@[go_sem ↓] theorem SInstr.store (x y:Tmp) :
  Oper.wp prog ⟨dst,.store 177 (.tmp x) (.tmp y),ty,pos,aft,gd⟩ A w K Q=if zcz 8 (A.eval (.tmp x)) (A.eval (.tmp y)) w=true then K (A.put dst undef) (zdv (A.eval (.tmp x)) (A.eval (.tmp y)) w) else Oper.wp prog ⟨dst,.store 177 (.const (A.eval (.tmp x))) (.const (A.eval (.tmp y))),ty,pos,aft,gd⟩ A w K Q:=zbg kR dst x y ty pos aft gd A w K Q
theorem SInstr.ret {fn:Func} {R:Ending->World->Prop} {a:Act} {w:World} {p:Tmp} {g:Nat} (y:SInstr) (hfn:fn.results=#[.cell p 177]) (hp:a.tmps.getD p undef=.pointer (some ⟨g,0,none⟩)) (hb:blk w g=some (.cells y.cells 177)) (hd:a.defers=[]) (hR:R (.returned (.agg y.cells)) w):bodyPost prog fn R .ret a w:=zef hfn kR (by kernel_rfl:_=some 8) hp (by rw [hb];kernel_rfl) (by rw [hb];kernel_rfl) hd hR
@[go_sem] theorem SInstr.okl_whole (x:SInstr) (t:TypeId) (fr:Nat × Nat):okO 8 (some (.cells x.cells t fr)) 0=true:=lK
@[go_sem] theorem SInstr.ld_whole (x:SInstr) (t:TypeId) (fr:Nat × Nat):valO 8 (some (.cells x.cells t fr)) 0=.agg (x).cells:=lK
@[go_sem] theorem SInstr.oks_whole (x:SInstr) (y:SInstr) (t:TypeId):okS 8 (some (.cells x.cells t (0,0))) 0 y.cells=true:=lK
@[go_sem] theorem SInstr.st_whole (x:SInstr) (y:SInstr) (t b:Nat) (w:World):stS (some (.cells x.cells t (0,0))) b 0 y.cells w=zai w b (y:SInstr).cells t:=lK
@[go_sem] theorem SInstr.e_ (x:SInstr):(∀ h,x.cells[0]'h=.int .i64 x.kind)/\(∀ h,x.cells[2]'h=.int .i64 x.dst)/\(∀ h,x.cells[3]'h=.int .i64 x.src)/\(∀ h,x.cells[6]'h=.int .i64 x.cond):=by (repeat' apply And.intro)<;>intros<;>kernel_rfl
def SInstr.places:Array (Nat × Nat):=#[(0,1),(1,1),(2,1),(3,1),(4,1),(5,1),(6,1),(7,1)]
def SInstr.fill (x:SInstr) (l:List (Nat × Value)):Option (Array Value):=Instr.fill (SInstr.places[·]?) x.cells l
@[go_sem] theorem SInstr.fill_ (x:SInstr):(SInstr.fill x []=some x.cells)/\(∀ (y:Int) (r:List (Nat × Value)),SInstr.fill x ((0,.int .i64 y)::r)=SInstr.fill { x with kind:=y } r)/\(∀ (y:Int) (r:List (Nat × Value)),SInstr.fill x ((1,.int .i64 y)::r)=SInstr.fill { x with length:=y } r)/\(∀ (y:Int) (r:List (Nat × Value)),SInstr.fill x ((2,.int .i64 y)::r)=SInstr.fill { x with dst:=y } r)/\(∀ (y:Int) (r:List (Nat × Value)),SInstr.fill x ((3,.int .i64 y)::r)=SInstr.fill { x with src:=y } r)/\(∀ (y:Int) (r:List (Nat × Value)),SInstr.fill x ((4,.int .i64 y)::r)=SInstr.fill { x with pair:=y } r)/\(∀ (y:Int) (r:List (Nat × Value)),SInstr.fill x ((5,.int .i64 y)::r)=SInstr.fill { x with op:=y } r)/\(∀ (y:Int) (r:List (Nat × Value)),SInstr.fill x ((6,.int .i64 y)::r)=SInstr.fill { x with cond:=y } r)/\(∀ (y:Int) (r:List (Nat × Value)),SInstr.fill x ((7,.int .i64 y)::r)=SInstr.fill { x with n:=y } r):=by (repeat' apply And.intro)<;>intros<;>kernel_rfl
@[go_sem ↓] theorem SInstr.build (parts:Array (Nat × Operand)) (h:(SInstr.fill SInstr.zero (parts.toList.map fun p=>(p.1,A.eval p.2))).isSome=true) :
  Oper.wp prog ⟨dst,.build 177 parts,ty,pos,aft,gd⟩ A w K Q=K (A.put dst (.agg ((SInstr.fill SInstr.zero (parts.toList.map fun p=>(p.1,A.eval p.2))).getD #[]))) w:=zba (fields:=zcm prog 177) (places:=SInstr.places) (fun w=>SInstr.zeroValue w) kR (fun w=>kR) dst parts ty pos aft gd A w K Q h
structure SPState where
 state:Int
 cycle:SCycle
 data:Int
 pc:Int
 inte:Bool
 sod:Bool
def SPState.zero:SPState:=⟨0,SCycle.zero,0,0,false,false⟩
def SPState.cells (x:SPState):Array Value:=#[.int .i64 x.state,.int .i64 x.cycle.kind,.int .u16 x.cycle.at_,.int .u8 x.cycle.data,.int .i64 x.cycle.states,.int .u8 x.data,.int .u16 x.pc,.bool x.inte,.bool x.sod]
@[go_sem] theorem SPState.size (x:SPState):(x.cells).size=9:=lay rfl
@[go_sem ↓] theorem SPState.zeroValue (w:World):(zeroValue 167).run prog w=.ok (.agg SPState.zero.cells) w:=lK
@[go_sem ↓] theorem SPState.load (x:Tmp) :
  Oper.wp prog ⟨dst,.load 167 (.tmp x),ty,pos,aft,gd⟩ A w K Q=if zb6 9 (A.eval (.tmp x)) w=true then K (A.put dst (zbh 9 (A.eval (.tmp x)) w)) w else Oper.wp prog ⟨dst,.load 167 (.const (A.eval (.tmp x))),ty,pos,aft,gd⟩ A w K Q:=zbm kR kR dst x ty pos aft gd A w K Q
@[go_sem ↓] theorem SPState.store (x y:Tmp) :
  Oper.wp prog ⟨dst,.store 167 (.tmp x) (.tmp y),ty,pos,aft,gd⟩ A w K Q=if zcz 9 (A.eval (.tmp x)) (A.eval (.tmp y)) w=true then K (A.put dst undef) (zdv (A.eval (.tmp x)) (A.eval (.tmp y)) w) else Oper.wp prog ⟨dst,.store 167 (.const (A.eval (.tmp x))) (.const (A.eval (.tmp y))),ty,pos,aft,gd⟩ A w K Q:=zbg kR dst x y ty pos aft gd A w K Q
@[go_sem ↓] theorem SPState.run_op (ρ:Operand->Value) (x:Operand) (w:World):(execOp ρ ⟨dst,.load 167 x,ty,pos,aft,gd⟩).run prog w=if zb6 9 (ρ x) w=true then .ok (.value (zbh 9 (ρ x) w)) w else (do let v <- Instr.loadAt 167 (ρ x);pure (Next.value v):Sem Next).run prog w:=zb8 kR kR ρ dst x ty pos aft gd w
@[go_sem] theorem SPState.okl_whole (x:SPState) (t:TypeId) (fr:Nat × Nat):okO 9 (some (.cells x.cells t fr)) 0=true:=lK
@[go_sem] theorem SPState.ld_whole (x:SPState) (t:TypeId) (fr:Nat × Nat):valO 9 (some (.cells x.cells t fr)) 0=.agg (x).cells:=lK
@[go_sem] theorem SPState.oks_whole (x:SPState) (y:SPState) (t:TypeId):okS 9 (some (.cells x.cells t (0,0))) 0 y.cells=true:=lK
@[go_sem] theorem SPState.st_whole (x:SPState) (y:SPState) (t b:Nat) (w:World):stS (some (.cells x.cells t (0,0))) b 0 y.cells w=zai w b (y:SPState).cells t:=lK
@[go_sem] theorem SPState.s_state (x:SPState) (v:Int):x.cells.setIfInBounds 0 (.int .i64 v)=({ x with state:=v }:SPState).cells:=lK
@[go_sem] theorem SPState.e_ (x:SPState):(∀ h,x.cells[0]'h=.int .i64 x.state)/\(∀ h,x.cells[1]'h=.int .i64 x.cycle.kind)/\(∀ h,x.cells[2]'h=.int .u16 x.cycle.at_)/\(∀ h,x.cells[3]'h=.int .u8 x.cycle.data)/\(∀ h,x.cells[5]'h=.int .u8 x.data)/\(∀ h,x.cells[6]'h=.int .u16 x.pc)/\(∀ h,x.cells[7]'h=.bool x.inte)/\(∀ h,x.cells[8]'h=.bool x.sod):=by (repeat' apply And.intro)<;>intros<;>kernel_rfl
def SPState.places:Array (Nat × Nat):=#[(0,1),(1,4),(5,1),(6,1),(7,1),(8,1)]
def SPState.fill (x:SPState) (l:List (Nat × Value)):Option (Array Value):=Instr.fill (SPState.places[·]?) x.cells l
@[go_sem] theorem SPState.fill_ (x:SPState):(SPState.fill x []=some x.cells)/\(∀ (y:Int) (r:List (Nat × Value)),SPState.fill x ((0,.int .i64 y)::r)=SPState.fill { x with state:=y } r)/\(∀ (y:SCycle) (r:List (Nat × Value)),SPState.fill x ((1,.agg y.cells)::r)=SPState.fill { x with cycle:=y } r)/\(∀ (y:Int) (r:List (Nat × Value)),SPState.fill x ((2,.int .u8 y)::r)=SPState.fill { x with data:=y } r)/\(∀ (y:Int) (r:List (Nat × Value)),SPState.fill x ((3,.int .u16 y)::r)=SPState.fill { x with pc:=y } r)/\(∀ (y:Bool) (r:List (Nat × Value)),SPState.fill x ((4,.bool y)::r)=SPState.fill { x with inte:=y } r)/\(∀ (y:Bool) (r:List (Nat × Value)),SPState.fill x ((5,.bool y)::r)=SPState.fill { x with sod:=y } r):=by (repeat' apply And.intro)<;>intros<;>kernel_rfl
end
section
open Go.RowKit
variable (dst:Option Tmp) (ty:TypeId) (pos:String) (aft:Array Edge) (gd:Option (Nat × Bool)) (A:Act) (w:World) (K:Act->World->Prop) (Q:Exit->Act->World->Prop)
structure SEvent where
 kind:Int
 source:Int
 bytes:Sl
 lines:SLines
 r75:Bool
 trap:Bool
 was75:Bool
 wasTrap:Bool
 cell:SCell
def SEvent.zero:SEvent:=⟨0,0,⟨none,0,0⟩,SLines.zero,false,false,false,false,SCell.zero⟩
def SEvent.cells (x:SEvent):Array Value:=#[.int .i64 x.kind,.int .i64 x.source,.slice x.bytes.p x.bytes.n x.bytes.c,.bool x.lines.ready,.bool x.lines.hold,.bool x.lines.reset,.bool x.lines.sid,.bool x.lines.trap,.bool x.lines.r75,.bool x.lines.r65,.bool x.lines.r55,.bool x.lines.intr,.bool x.r75,.bool x.trap,.bool x.was75,.bool x.wasTrap,.int .u16 x.cell.at_,.int .u8 x.cell.val]
@[go_sem] theorem SEvent.size (x:SEvent):(x.cells).size=18:=lay rfl
theorem SEvent.one (x:SEvent):x.cells.all (fun v=>v.oneCell')=true:=lK
@[go_sem ↓] theorem SEvent.zeroValue (w:World):(zeroValue 63).run prog w=.ok (.agg SEvent.zero.cells) w:=lK
@[go_sem ↓] theorem SEvent.load (x:Tmp) :
  Oper.wp prog ⟨dst,.load 63 (.tmp x),ty,pos,aft,gd⟩ A w K Q=if zb6 18 (A.eval (.tmp x)) w=true then K (A.put dst (zbh 18 (A.eval (.tmp x)) w)) w else Oper.wp prog ⟨dst,.load 63 (.const (A.eval (.tmp x))),ty,pos,aft,gd⟩ A w K Q:=zbm kR kR dst x ty pos aft gd A w K Q
@[go_sem ↓] theorem SEvent.store (x y:Tmp) :
  Oper.wp prog ⟨dst,.store 63 (.tmp x) (.tmp y),ty,pos,aft,gd⟩ A w K Q=if zcz 18 (A.eval (.tmp x)) (A.eval (.tmp y)) w=true then K (A.put dst undef) (zdv (A.eval (.tmp x)) (A.eval (.tmp y)) w) else Oper.wp prog ⟨dst,.store 63 (.const (A.eval (.tmp x))) (.const (A.eval (.tmp y))),ty,pos,aft,gd⟩ A w K Q:=zbg kR dst x y ty pos aft gd A w K Q
@[go_sem ↓] theorem SEvent.run_op (ρ:Operand->Value) (x:Operand) (w:World):(execOp ρ ⟨dst,.load 63 x,ty,pos,aft,gd⟩).run prog w=if zb6 18 (ρ x) w=true then .ok (.value (zbh 18 (ρ x) w)) w else (do let v <- Instr.loadAt 63 (ρ x);pure (Next.value v):Sem Next).run prog w:=zb8 kR kR ρ dst x ty pos aft gd w
theorem SEvent.ret {fn:Func} {R:Ending->World->Prop} {a:Act} {w:World} {p:Tmp} {g:Nat} (y:SEvent) (hfn:fn.results=#[.cell p 63]) (hp:a.tmps.getD p undef=.pointer (some ⟨g,0,none⟩)) (hb:blk w g=some (.cells y.cells 63)) (hd:a.defers=[]) (hR:R (.returned (.agg y.cells)) w):bodyPost prog fn R .ret a w:=zef hfn kR (by kernel_rfl:_=some 18) hp (by rw [hb];kernel_rfl) (by rw [hb];kernel_rfl) hd hR
@[go_sem] theorem SEvent.okl_whole (x:SEvent) (t:TypeId) (fr:Nat × Nat):okO 18 (some (.cells x.cells t fr)) 0=true:=lK
@[go_sem] theorem SEvent.ld_whole (x:SEvent) (t:TypeId) (fr:Nat × Nat):valO 18 (some (.cells x.cells t fr)) 0=.agg (x).cells:=lK
@[go_sem] theorem SEvent.oks_whole (x:SEvent) (y:SEvent) (t:TypeId):okS 18 (some (.cells x.cells t (0,0))) 0 y.cells=true:=lK
@[go_sem] theorem SEvent.st_whole (x:SEvent) (y:SEvent) (t b:Nat) (w:World):stS (some (.cells x.cells t (0,0))) b 0 y.cells w=zai w b (y:SEvent).cells t:=lK
@[go_sem] theorem SEvent.e_ (x:SEvent):(∀ h,x.cells[0]'h=.int .i64 x.kind)/\(∀ h,x.cells[1]'h=.int .i64 x.source)/\(∀ h,x.cells[2]'h=.slice x.bytes.p x.bytes.n x.bytes.c)/\(∀ h,x.cells[12]'h=.bool x.r75)/\(∀ h,x.cells[13]'h=.bool x.trap)/\(∀ h,x.cells[14]'h=.bool x.was75)/\(∀ h,x.cells[15]'h=.bool x.wasTrap):=by (repeat' apply And.intro)<;>intros<;>kernel_rfl
@[go_sem] theorem SEvent.s_ (x:SEvent):(∀ (v:Bool),x.cells.setIfInBounds 12 (.bool v)=({ x with r75:=v }:SEvent).cells)/\(∀ (v:Bool),x.cells.setIfInBounds 13 (.bool v)=({ x with trap:=v }:SEvent).cells)/\(∀ (v:Bool),x.cells.setIfInBounds 14 (.bool v)=({ x with was75:=v }:SEvent).cells)/\(∀ (v:Bool),x.cells.setIfInBounds 15 (.bool v)=({ x with wasTrap:=v }:SEvent).cells):=by (repeat' apply And.intro)<;>intros<;>kernel_rfl
def SEvent.places:Array (Nat × Nat):=#[(0,1),(1,1),(2,1),(3,9),(12,1),(13,1),(14,1),(15,1),(16,2)]
def SEvent.fill (x:SEvent) (l:List (Nat × Value)):Option (Array Value):=Instr.fill (SEvent.places[·]?) x.cells l
@[go_sem] theorem SEvent.fill_ (x:SEvent):(SEvent.fill x []=some x.cells)/\(∀ (y:Int) (r:List (Nat × Value)),SEvent.fill x ((0,.int .i64 y)::r)=SEvent.fill { x with kind:=y } r)/\(∀ (y:Int) (r:List (Nat × Value)),SEvent.fill x ((1,.int .i64 y)::r)=SEvent.fill { x with source:=y } r)/\(∀ (p:Option Addr) (n c:Nat) (r:List (Nat × Value)),SEvent.fill x ((2,.slice p n c)::r)=SEvent.fill { x with bytes:=⟨p,n,c⟩ } r)/\(∀ (y:SLines) (r:List (Nat × Value)),SEvent.fill x ((3,.agg y.cells)::r)=SEvent.fill { x with lines:=y } r)/\(∀ (y:SCell) (r:List (Nat × Value)),SEvent.fill x ((8,.agg y.cells)::r)=SEvent.fill { x with cell:=y } r):=by (repeat' apply And.intro)<;>intros<;>kernel_rfl
@[go_sem ↓] theorem SEvent.build (parts:Array (Nat × Operand)) (h:(SEvent.fill SEvent.zero (parts.toList.map fun p=>(p.1,A.eval p.2))).isSome=true) :
  Oper.wp prog ⟨dst,.build 63 parts,ty,pos,aft,gd⟩ A w K Q=K (A.put dst (.agg ((SEvent.fill SEvent.zero (parts.toList.map fun p=>(p.1,A.eval p.2))).getD #[]))) w:=zba (fields:=zcm prog 63) (places:=SEvent.places) (fun w=>SEvent.zeroValue w) kR (fun w=>kR) dst parts ty pos aft gd A w K Q h
structure SItem where
 kind:Int
 cycle:SCycle
 waits:Int
 n:Int
 inte:Bool
 sod:Bool
def SItem.zero:SItem:=⟨0,SCycle.zero,0,0,false,false⟩
def SItem.cells (x:SItem):Array Value:=#[.int .i64 x.kind,.int .i64 x.cycle.kind,.int .u16 x.cycle.at_,.int .u8 x.cycle.data,.int .i64 x.cycle.states,.int .i64 x.waits,.int .i64 x.n,.bool x.inte,.bool x.sod]
@[go_sem] theorem SItem.size (x:SItem):(x.cells).size=9:=lay rfl
theorem SItem.one (x:SItem):x.cells.all (fun v=>v.oneCell')=true:=lK
@[go_sem ↓] theorem SItem.zeroValue (w:World):(zeroValue 154).run prog w=.ok (.agg SItem.zero.cells) w:=lK
@[go_sem ↓] theorem SItem.load (x:Tmp) :
  Oper.wp prog ⟨dst,.load 154 (.tmp x),ty,pos,aft,gd⟩ A w K Q=if zb6 9 (A.eval (.tmp x)) w=true then K (A.put dst (zbh 9 (A.eval (.tmp x)) w)) w else Oper.wp prog ⟨dst,.load 154 (.const (A.eval (.tmp x))),ty,pos,aft,gd⟩ A w K Q:=zbm kR kR dst x ty pos aft gd A w K Q
@[go_sem] theorem SItem.okl_whole (x:SItem) (t:TypeId) (fr:Nat × Nat):okO 9 (some (.cells x.cells t fr)) 0=true:=lK
@[go_sem] theorem SItem.ld_whole (x:SItem) (t:TypeId) (fr:Nat × Nat):valO 9 (some (.cells x.cells t fr)) 0=.agg (x).cells:=lK
@[go_sem] theorem SItem.e_ (x:SItem):(∀ h,x.cells[0]'h=.int .i64 x.kind)/\(∀ h,x.cells[7]'h=.bool x.inte)/\(∀ h,x.cells[8]'h=.bool x.sod):=by (repeat' apply And.intro)<;>intros<;>kernel_rfl
def SItem.places:Array (Nat × Nat):=#[(0,1),(1,4),(5,1),(6,1),(7,1),(8,1)]
def SItem.fill (x:SItem) (l:List (Nat × Value)):Option (Array Value):=Instr.fill (SItem.places[·]?) x.cells l
@[go_sem] theorem SItem.fill_ (x:SItem):(SItem.fill x []=some x.cells)/\(∀ (y:Int) (r:List (Nat × Value)),SItem.fill x ((0,.int .i64 y)::r)=SItem.fill { x with kind:=y } r)/\(∀ (y:SCycle) (r:List (Nat × Value)),SItem.fill x ((1,.agg y.cells)::r)=SItem.fill { x with cycle:=y } r)/\(∀ (y:Int) (r:List (Nat × Value)),SItem.fill x ((3,.int .i64 y)::r)=SItem.fill { x with n:=y } r)/\(∀ (y:Bool) (r:List (Nat × Value)),SItem.fill x ((4,.bool y)::r)=SItem.fill { x with inte:=y } r)/\(∀ (y:Bool) (r:List (Nat × Value)),SItem.fill x ((5,.bool y)::r)=SItem.fill { x with sod:=y } r):=by (repeat' apply And.intro)<;>intros<;>kernel_rfl
@[go_sem ↓] theorem SItem.build (parts:Array (Nat × Operand)) (h:(SItem.fill SItem.zero (parts.toList.map fun p=>(p.1,A.eval p.2))).isSome=true) :
  Oper.wp prog ⟨dst,.build 154 parts,ty,pos,aft,gd⟩ A w K Q=K (A.put dst (.agg ((SItem.fill SItem.zero (parts.toList.map fun p=>(p.1,A.eval p.2))).getD #[]))) w:=zba (fields:=zcm prog 154) (places:=SItem.places) (fun w=>SItem.zeroValue w) kR (fun w=>kR) dst parts ty pos aft gd A w K Q h
structure SPlan where
 c:SCPU
 injected:Bool
 got:Sl
 i:SInstr
 cycles:Sl
def SPlan.zero:SPlan:=⟨SCPU.zero,false,⟨none,0,0⟩,SInstr.zero,⟨none,0,0⟩⟩
def SPlan.cells (x:SPlan):Array Value:=#[.int .i64 x.c.chip,.int .u8 x.c.regs.a,.int .u8 x.c.regs.b,.int .u8 x.c.regs.c,.int .u8 x.c.regs.d,.int .u8 x.c.regs.e,.int .u8 x.c.regs.h,.int .u8 x.c.regs.l,.bool x.c.regs.f.s,.bool x.c.regs.f.z,.bool x.c.regs.f.k,.bool x.c.regs.f.ac,.bool x.c.regs.f.p,.bool x.c.regs.f.v,.bool x.c.regs.f.cy,.int .u16 x.c.regs.sp,.int .u16 x.c.regs.pc,.bool x.c.ie,.bool x.c.delay,.bool x.c.halted,.int .u8 x.c.mask,.bool x.c.trap,.bool x.c.r75,.bool x.c.wasTrap,.bool x.c.was75,.bool x.c.saved,.bool x.c.savedIE,.bool x.c.sod,.bool x.injected,.slice x.got.p x.got.n x.got.c,.int .i64 x.i.kind,.int .i64 x.i.length,.int .i64 x.i.dst,.int .i64 x.i.src,.int .i64 x.i.pair,.int .i64 x.i.op,.int .i64 x.i.cond,.int .i64 x.i.n,.slice x.cycles.p x.cycles.n x.cycles.c]
@[go_sem] theorem SPlan.size (x:SPlan):(x.cells).size=39:=lay rfl
@[go_sem ↓] theorem SPlan.zeroValue (w:World):(zeroValue 198).run prog w=.ok (.agg SPlan.zero.cells) w:=lK
@[go_sem] theorem SPlan.okl_ (x:SPlan):(∀ (t:TypeId) (fr:Nat × Nat),okO 28 (some (.cells x.cells t fr)) 0=true)/\(∀ (t:TypeId) (fr:Nat × Nat),okO 16 (some (.cells x.cells t fr)) 1=true)/\(∀ (t:TypeId) (fr:Nat × Nat),okO 7 (some (.cells x.cells t fr)) 8=true):=by (repeat' apply And.intro)<;>intros<;>kernel_rfl
@[go_sem] theorem SPlan.ld_ (x:SPlan):(∀ (t:TypeId) (fr:Nat × Nat),valO 28 (some (.cells x.cells t fr)) 0=.agg (x.c).cells)/\(∀ (t:TypeId) (fr:Nat × Nat),valO 16 (some (.cells x.cells t fr)) 1=.agg (x.c.regs).cells)/\(∀ (t:TypeId) (fr:Nat × Nat),valO 7 (some (.cells x.cells t fr)) 8=.agg (x.c.regs.f).cells):=by (repeat' apply And.intro)<;>intros<;>kernel_rfl
@[go_sem] theorem SPlan.oks_i (x:SPlan) (y:SInstr) (t:TypeId):okS 8 (some (.cells x.cells t (0,0))) 30 y.cells=true:=lK
@[go_sem] theorem SPlan.st_i (x:SPlan) (y:SInstr) (t b:Nat) (w:World):stS (some (.cells x.cells t (0,0))) b 30 y.cells w=zai w b ({ x with i:=y }:SPlan).cells t:=lK
@[go_sem] theorem SPlan.e_ (x:SPlan):(∀ h,x.cells[0]'h=.int .i64 x.c.chip)/\(∀ h,x.cells[1]'h=.int .u8 x.c.regs.a)/\(∀ h,x.cells[6]'h=.int .u8 x.c.regs.h)/\(∀ h,x.cells[7]'h=.int .u8 x.c.regs.l)/\(∀ h,x.cells[15]'h=.int .u16 x.c.regs.sp)/\(∀ h,x.cells[16]'h=.int .u16 x.c.regs.pc)/\(∀ h,x.cells[28]'h=.bool x.injected)/\(∀ h,x.cells[29]'h=.slice x.got.p x.got.n x.got.c)/\(∀ h,x.cells[30]'h=.int .i64 x.i.kind)/\(∀ h,x.cells[31]'h=.int .i64 x.i.length)/\(∀ h,x.cells[32]'h=.int .i64 x.i.dst)/\(∀ h,x.cells[33]'h=.int .i64 x.i.src)/\(∀ h,x.cells[34]'h=.int .i64 x.i.pair)/\(∀ h,x.cells[35]'h=.int .i64 x.i.op)/\(∀ h,x.cells[36]'h=.int .i64 x.i.cond)/\(∀ h,x.cells[37]'h=.int .i64 x.i.n)/\(∀ h,x.cells[38]'h=.slice x.cycles.p x.cycles.n x.cycles.c):=by (repeat' apply And.intro)<;>intros<;>kernel_rfl
@[go_sem] theorem SPlan.s_cycles (x:SPlan) (p:Option Addr) (n c:Nat):x.cells.setIfInBounds 38 (.slice p n c)=({ x with cycles:=⟨p,n,c⟩ }:SPlan).cells:=lK
def SPlan.places:Array (Nat × Nat):=#[(0,28),(28,1),(29,1),(30,8),(38,1)]
def SPlan.fill (x:SPlan) (l:List (Nat × Value)):Option (Array Value):=Instr.fill (SPlan.places[·]?) x.cells l
@[go_sem] theorem SPlan.fill_ (x:SPlan):(SPlan.fill x []=some x.cells)/\(∀ (y:SCPU) (r:List (Nat × Value)),SPlan.fill x ((0,.agg y.cells)::r)=SPlan.fill { x with c:=y } r)/\(∀ (y:Bool) (r:List (Nat × Value)),SPlan.fill x ((1,.bool y)::r)=SPlan.fill { x with injected:=y } r)/\(∀ (p:Option Addr) (n c:Nat) (r:List (Nat × Value)),SPlan.fill x ((2,.slice p n c)::r)=SPlan.fill { x with got:=⟨p,n,c⟩ } r):=by (repeat' apply And.intro)<;>intros<;>kernel_rfl
@[go_sem ↓] theorem SPlan.build (parts:Array (Nat × Operand)) (h:(SPlan.fill SPlan.zero (parts.toList.map fun p=>(p.1,A.eval p.2))).isSome=true) :
  Oper.wp prog ⟨dst,.build 198 parts,ty,pos,aft,gd⟩ A w K Q=K (A.put dst (.agg ((SPlan.fill SPlan.zero (parts.toList.map fun p=>(p.1,A.eval p.2))).getD #[]))) w:=zba (fields:=zcm prog 198) (places:=SPlan.places) (fun w=>SPlan.zeroValue w) kR (fun w=>kR) dst parts ty pos aft gd A w K Q h
structure SChange where
 ended:Bool
 cpu:SCPU
 got:Sl
 cycle:SCycle
 latched:SCPU
def SChange.zero:SChange:=⟨false,SCPU.zero,⟨none,0,0⟩,SCycle.zero,SCPU.zero⟩
def SChange.cells (x:SChange):Array Value:=#[.bool x.ended,.int .i64 x.cpu.chip,.int .u8 x.cpu.regs.a,.int .u8 x.cpu.regs.b,.int .u8 x.cpu.regs.c,.int .u8 x.cpu.regs.d,.int .u8 x.cpu.regs.e,.int .u8 x.cpu.regs.h,.int .u8 x.cpu.regs.l,.bool x.cpu.regs.f.s,.bool x.cpu.regs.f.z,.bool x.cpu.regs.f.k,.bool x.cpu.regs.f.ac,.bool x.cpu.regs.f.p,.bool x.cpu.regs.f.v,.bool x.cpu.regs.f.cy,.int .u16 x.cpu.regs.sp,.int .u16 x.cpu.regs.pc,.bool x.cpu.ie,.bool x.cpu.delay,.bool x.cpu.halted,.int .u8 x.cpu.mask,.bool x.cpu.trap,.bool x.cpu.r75,.bool x.cpu.wasTrap,.bool x.cpu.was75,.bool x.cpu.saved,.bool x.cpu.savedIE,.bool x.cpu.sod,.slice x.got.p x.got.n x.got.c,.int .i64 x.cycle.kind,.int .u16 x.cycle.at_,.int .u8 x.cycle.data,.int .i64 x.cycle.states,.int .i64 x.latched.chip,.int .u8 x.latched.regs.a,.int .u8 x.latched.regs.b,.int .u8 x.latched.regs.c,.int .u8 x.latched.regs.d,.int .u8 x.latched.regs.e,.int .u8 x.latched.regs.h,.int .u8 x.latched.regs.l,.bool x.latched.regs.f.s,.bool x.latched.regs.f.z,.bool x.latched.regs.f.k,.bool x.latched.regs.f.ac,.bool x.latched.regs.f.p,.bool x.latched.regs.f.v,.bool x.latched.regs.f.cy,.int .u16 x.latched.regs.sp,.int .u16 x.latched.regs.pc,.bool x.latched.ie,.bool x.latched.delay,.bool x.latched.halted,.int .u8 x.latched.mask,.bool x.latched.trap,.bool x.latched.r75,.bool x.latched.wasTrap,.bool x.latched.was75,.bool x.latched.saved,.bool x.latched.savedIE,.bool x.latched.sod]
@[go_sem] theorem SChange.size (x:SChange):(x.cells).size=62:=lay rfl
@[go_sem ↓] theorem SChange.zeroValue (w:World):(zeroValue 121).run prog w=.ok (.agg SChange.zero.cells) w:=lK
@[go_sem ↓] theorem SChange.load (x:Tmp) :
  Oper.wp prog ⟨dst,.load 121 (.tmp x),ty,pos,aft,gd⟩ A w K Q=if zb6 62 (A.eval (.tmp x)) w=true then K (A.put dst (zbh 62 (A.eval (.tmp x)) w)) w else Oper.wp prog ⟨dst,.load 121 (.const (A.eval (.tmp x))),ty,pos,aft,gd⟩ A w K Q:=zbm kR kR dst x ty pos aft gd A w K Q
@[go_sem ↓] theorem SChange.store (x y:Tmp) :
  Oper.wp prog ⟨dst,.store 121 (.tmp x) (.tmp y),ty,pos,aft,gd⟩ A w K Q=if zcz 62 (A.eval (.tmp x)) (A.eval (.tmp y)) w=true then K (A.put dst undef) (zdv (A.eval (.tmp x)) (A.eval (.tmp y)) w) else Oper.wp prog ⟨dst,.store 121 (.const (A.eval (.tmp x))) (.const (A.eval (.tmp y))),ty,pos,aft,gd⟩ A w K Q:=zbg kR dst x y ty pos aft gd A w K Q
@[go_sem] theorem SChange.oks_ (x:SChange):(∀ (y:SChange) (t:TypeId),okS 62 (some (.cells x.cells t (0,0))) 0 y.cells=true)/\(∀ (y:SCPU) (t:TypeId),okS 28 (some (.cells x.cells t (0,0))) 1 y.cells=true)/\(∀ (y:SCycle) (t:TypeId),okS 4 (some (.cells x.cells t (0,0))) 30 y.cells=true):=by (repeat' apply And.intro)<;>intros<;>kernel_rfl
@[go_sem] theorem SChange.st_ (x:SChange):(∀ (y:SChange) (t b:Nat) (w:World),stS (some (.cells x.cells t (0,0))) b 0 y.cells w=zai w b (y:SChange).cells t)/\(∀ (y:SCPU) (t b:Nat) (w:World),stS (some (.cells x.cells t (0,0))) b 1 y.cells w=zai w b ({ x with cpu:=y }:SChange).cells t)/\(∀ (y:SCycle) (t b:Nat) (w:World),stS (some (.cells x.cells t (0,0))) b 30 y.cells w=zai w b ({ x with cycle:=y }:SChange).cells t):=by (repeat' apply And.intro)<;>intros<;>kernel_rfl
@[go_sem] theorem SChange.okl_ (x:SChange):(∀ (t:TypeId) (fr:Nat × Nat),okO 62 (some (.cells x.cells t fr)) 0=true)/\(∀ (t:TypeId) (fr:Nat × Nat),okO 28 (some (.cells x.cells t fr)) 1=true)/\(∀ (t:TypeId) (fr:Nat × Nat),okO 4 (some (.cells x.cells t fr)) 30=true)/\(∀ (t:TypeId) (fr:Nat × Nat),okO 28 (some (.cells x.cells t fr)) 34=true):=by (repeat' apply And.intro)<;>intros<;>kernel_rfl
@[go_sem] theorem SChange.ld_ (x:SChange):(∀ (t:TypeId) (fr:Nat × Nat),valO 62 (some (.cells x.cells t fr)) 0=.agg (x).cells)/\(∀ (t:TypeId) (fr:Nat × Nat),valO 28 (some (.cells x.cells t fr)) 1=.agg (x.cpu).cells)/\(∀ (t:TypeId) (fr:Nat × Nat),valO 4 (some (.cells x.cells t fr)) 30=.agg (x.cycle).cells)/\(∀ (t:TypeId) (fr:Nat × Nat),valO 28 (some (.cells x.cells t fr)) 34=.agg (x.latched).cells):=by (repeat' apply And.intro)<;>intros<;>kernel_rfl
@[go_sem] theorem SChange.s_ (x:SChange):(∀ (v:Bool),x.cells.setIfInBounds 0 (.bool v)=({ x with ended:=v }:SChange).cells)/\(∀ (p:Option Addr) (n c:Nat),x.cells.setIfInBounds 29 (.slice p n c)=({ x with got:=⟨p,n,c⟩ }:SChange).cells):=by (repeat' apply And.intro)<;>intros<;>kernel_rfl
@[go_sem] theorem SChange.e_ (x:SChange):(∀ h,x.cells[0]'h=.bool x.ended)/\(∀ h,x.cells[1]'h=.int .i64 x.cpu.chip)/\(∀ h,x.cells[29]'h=.slice x.got.p x.got.n x.got.c)/\(∀ h,x.cells[30]'h=.int .i64 x.cycle.kind)/\(∀ h,x.cells[32]'h=.int .u8 x.cycle.data)/\(∀ h,x.cells[33]'h=.int .i64 x.cycle.states)/\(∀ h,x.cells[34]'h=.int .i64 x.latched.chip)/\(∀ h,x.cells[35]'h=.int .u8 x.latched.regs.a):=by (repeat' apply And.intro)<;>intros<;>kernel_rfl
def SChange.places:Array (Nat × Nat):=#[(0,1),(1,28),(29,1),(30,4),(34,28)]
def SChange.fill (x:SChange) (l:List (Nat × Value)):Option (Array Value):=Instr.fill (SChange.places[·]?) x.cells l
@[go_sem] theorem SChange.fill_ (x:SChange):(SChange.fill x []=some x.cells)/\(∀ (y:SCycle) (r:List (Nat × Value)),SChange.fill x ((3,.agg y.cells)::r)=SChange.fill { x with cycle:=y } r)/\(∀ (y:SCPU) (r:List (Nat × Value)),SChange.fill x ((4,.agg y.cells)::r)=SChange.fill { x with latched:=y } r):=by (repeat' apply And.intro)<;>intros<;>kernel_rfl
@[go_sem ↓] theorem SChange.build (parts:Array (Nat × Operand)) (h:(SChange.fill SChange.zero (parts.toList.map fun p=>(p.1,A.eval p.2))).isSome=true) :
  Oper.wp prog ⟨dst,.build 121 parts,ty,pos,aft,gd⟩ A w K Q=K (A.put dst (.agg ((SChange.fill SChange.zero (parts.toList.map fun p=>(p.1,A.eval p.2))).getD #[]))) w:=zba (fields:=zcm prog 121) (places:=SChange.places) (fun w=>SChange.zeroValue w) kR (fun w=>kR) dst parts ty pos aft gd A w K Q h
end
section
open Go.RowKit
def encL {α:Type} (enc:α->Array Value) (L:List α):List Value:=L.flatMap fun x=>(enc x).toList
def encB (x:Int):Array Value:=#[.int .u8 x]
structure Row {α:Type} (w:World) (lo hi:Nat) (e:TypeId) (k:Nat) (enc:α->Array Value) (s:Sl) (L:List α):Prop where
  own:w.ownsRow lo e k (.slice s.p s.n s.c) L.length (encL enc L)
  top:∀ g,(Value.slice s.p s.n s.c).ownBlock=some g->g<hi
section
variable {α:Type} {w w':World} {lo hi:Nat} {e:TypeId} {k:Nat} {enc:α->Array Value} {s:Sl} {L:List α}
theorem zcc (hk:∀ x,(enc x).size=k):(encL enc L).length=L.length * k:=by
  induction L with
  | nil=>simp [encL]
  | cons x L ih=>simp only [encL,List.flatMap_cons,List.length_append] at ih ⊢;rw [ih];simp [hk,Nat.add_mul,Nat.add_comm]
theorem ze5 (x:α):encL enc (x::L)=(enc x).toList++encL enc L:=by simp [encL]
theorem zek (L M:List α):encL enc (L++M)=encL enc L++encL enc M:=by simp [encL]
theorem zz3 (hk:∀ x,(enc x).size=k) (j:Nat) (h:j<L.length):((encL enc L).drop (j * k)).take k=(enc L[j]).toList:=by
  induction L generalizing j with
  | nil=>simp at h
  | cons x L ih=>
    rw [ze5]
    cases j with
    | zero=>simp [<- hk x]
    | succ j=>
      have e:(j+1) * k=(enc x).toList.length+j * k:=by simp [hk,Nat.add_mul,Nat.add_comm]
      rw [e,List.drop_append,List.drop_eq_nil_of_le oM,List.nil_append]
      simpa using ih j (by simpa using h)
theorem Row.len (h:Row w lo hi e k enc s L):s.n=L.length:=by
  rcases h.own.2 with ⟨hv,hn⟩|⟨g,cap,cur,hv,_⟩
  · simp only [Value.slice.injEq] at hv;omega
  · simp only [Value.slice.injEq] at hv;omega
theorem Row.at (h:Row w lo hi e k enc s L) (hL:0<L.length):∃ g cur,s.p=some ⟨g,0,none⟩/\lo<=g/\g<hi/\g<w.heap.size/\blk w g=some (.cells cur e)/\L.length<=s.c/\s.c<=maxLen/\cur.size=s.c * k/\cur.toList.take (L.length * k)=encL enc L:=by
  rcases h.own.2 with ⟨hv,hn⟩|⟨g,cap,cur,hv,hlo,hb,hc,hm,hs,ht⟩
  · omega
  · have ht':=h.top
    simp only [Value.slice.injEq] at hv
    obtain ⟨h1,h2,h3⟩:=hv
    rw [h1] at ht'
    exact ⟨g,cur,h1,hlo,ht' g rfl,(Array.getElem?_eq_some_iff.1 hb).1,hb,oM,oM,by rw [h3];exact hs,ht⟩
theorem Row.nil (w:World) (lo hi:Nat) (e:TypeId) (k:Nat) (enc:α->Array Value):Row w lo hi e k enc ⟨none,0,0⟩ []:=⟨World.ownsRow_nil w lo e k,by simp [Value.ownBlock]⟩
theorem Row.elem (h:Row w lo hi e k enc s L) (hk:∀ x,(enc x).size=k) (j:Nat) (hj:j<L.length) :
    ∃ g,s.p=some ⟨g,0,none⟩/\lo<=g/\g<hi/\g<w.heap.size/\okO k (blk w g) (j * k)=true/\valO k (blk w g) (j * k)=.agg (enc L[j]):=by
  obtain ⟨g,cur,hp,hlo,hhi,hsz,hb,hc,hm,hs,ht⟩:=h.at oM
  refine ⟨g,hp,hlo,hhi,hsz,?_,?_⟩
  · rw [hb]
    have h1:(j+1) * k<=s.c * k:=Nat.mul_le_mul_right k oM
    have h2:(j+1) * k=j * k+k:=by rw [Nat.add_mul,Nat.one_mul]
    simp only [okO,decide_eq_true_eq]
    omega
  · rw [hb]
    have h1:(j+1) * k<=L.length * k:=Nat.mul_le_mul_right k oM
    have h2:(j+1) * k=j * k+k:=by rw [Nat.add_mul,Nat.one_mul]
    simp only [valO]
    congr 1
    apply Array.toList_inj.1
    rw [<- zz3 hk j hj,<- ht,Array.toList_extract,List.extract,List.drop_take,List.take_take,Nat.add_sub_cancel_left,Nat.min_eq_left oM]
theorem Row.cell (h:Row w lo hi e 1 enc s L) (f:α->Value) (hf:∀ x,enc x=#[f x]) (j:Nat) (hj:j<L.length) :
    ∃ g,s.p=some ⟨g,0,none⟩/\lo<=g/\g<hi/\g<w.heap.size/\w.cell? ⟨g,j,none⟩=some (f L[j]):=by
  obtain ⟨g,hp,hlo,hhi,hsz,ho,hv⟩:=h.elem (fun x=>by rw [hf];rfl) j hj
  refine ⟨g,hp,hlo,hhi,hsz,?_⟩
  rw [za2]
  revert ho hv
  cases blk w g with
  | none=>simp [okO]
  | some o=>
    cases o with
    | cells C t fr=>
      intro ho hv
      simp only [okO,decide_eq_true_eq,Nat.mul_one] at ho
      simp only [valO,Value.agg.injEq,hf,Nat.mul_one] at hv
      have:(C.extract j (j+1))[0]? = some (f L[j]):=by rw [hv];rfl
      rw [Array.getElem?_extract] at this
      simp only [zgd]
      split at this
      · simpa using this
      · cases this
    | _=>simp [okO]
theorem Row.keep (h:Row w lo hi e k enc s L) (hw:∀ b,b<hi->blk w' b=blk w b):Row w' lo hi e k enc s L:=by
  refine ⟨⟨h.own.1,?_⟩,h.top⟩
  rcases h.own.2 with hn|⟨g,cap,cur,hv,hlo,hb,r⟩
  · exact .inl hn
  · have ht:=h.top g (by rw [hv];rfl)
    exact .inr ⟨g,cap,cur,hv,hlo,(hw g ht).trans hb,r⟩
theorem Row.thru {B:Nat} (h:Row w lo hi e k enc s L) (hb:Below B w w') (hB:hi<=B):Row w' lo hi e k enc s L:=h.keep fun b hlt=>hb.block b oM
theorem Row.lo_mono {lo':Nat} (h:Row w lo hi e k enc s L) (hl:lo'<=lo):Row w lo' hi e k enc s L:=
  ⟨⟨h.own.1,h.own.2.imp id fun ⟨g,cap,cur,hv,hlo,r⟩=>⟨g,cap,cur,hv,Nat.le_trans hl hlo,r⟩⟩,h.top⟩
theorem Row.hi_mono {hi':Nat} (h:Row w lo hi e k enc s L) (hl:hi<=hi'):Row w lo hi' e k enc s L:=⟨h.own,fun g hg=>Nat.lt_of_lt_of_le (h.top g hg) hl⟩
theorem Row.of_own {v:Value} (n:Nat) (h:w.ownsRow lo e k v n (encL enc L)) (hn:n=L.length):∃ s:Sl,v=.slice s.p s.n s.c/\Row w lo w.heap.size e k enc s L:=by
  subst hn
  have hlt:=h.lt
  rcases h.2 with ⟨rfl,hn⟩|⟨g,cap,cur,rfl,r⟩
  · exact ⟨⟨none,0,0⟩,rfl,⟨h,fun g hg=>(hlt g hg).2⟩⟩
  · exact ⟨⟨some ⟨g,0,none⟩,L.length,cap⟩,rfl,⟨h,fun g hg=>(hlt g hg).2⟩⟩
end
theorem zaa {w:World} {b:Nat} {A:Array Value} {t:TypeId} (h:blk w b=some (.cells A t)):(∀ i,w.cell? ⟨b,i,none⟩=A[i]?)/\(∀ i,w.frozen? ⟨b,i,none⟩=false)/\b<w.heap.size:=
  ⟨fun i=>by rw [za2,h];rfl,fun i=>by rw [zdu,h];simp [zov],(Array.getElem?_eq_some_iff.1 (show w.heap[b]? = _ from h)).1⟩
structure ElemInfo (P:Program) (t e:TypeId) (k:Nat):Prop where
  und:P.underlying t=some (.slice e)
  info:∃ i z,P.info? e=some i/\i.zero=some z/\i.size=k/\i.bytes<=1000/\z.cells.size=k
theorem zei {P:Program} {t e:TypeId} {k:Nat} (h0:P.underlying t=some (.slice e)) (h1:(P.info? e).map (fun i=>(i.size,decide (i.bytes<=1000)))=some (k,true)) (h2:((P.info? e).bind (·.zero)).map (·.cells.size)=some k):ElemInfo P t e k:=by
  refine ⟨h0,?_⟩
  cases hi:P.info? e with
  | none=>simp [hi] at h1
  | some i=>
    rw [hi] at h1 h2
    simp only [Option.map_some,Option.some.injEq,Prod.mk.injEq,decide_eq_true_eq] at h1
    simp only [Option.bind_some] at h2
    cases hz:i.zero with
    | none=>simp [hz] at h2
    | some z=>rw [hz] at h2;exact ⟨i,z,rfl,hz,h1.1,h1.2,by simpa using h2⟩
structure Grew (lo:Nat) (e:TypeId) (w w':World):Prop where
  below:Below lo w w'
  kept:∀ b A t,t≠e->blk w b=some (.cells A t)->blk w' b=some (.cells A t)
theorem Grew.refl (lo:Nat) (e:TypeId) (w:World):Grew lo e w w:=⟨Below.refl _ _,fun _ _ _ _ h=>h⟩
section
variable {P:Program} {α:Type} {lo hi:Nat} {e:TypeId} {k:Nat} {enc:α->Array Value} {s:Sl} {L:List α}
theorem zkx (w:World) (h:Row w lo hi e k enc s L) (hk:∀ x,(enc x).size=k) (h1:∀ x,(enc x).all (fun v=>v.oneCell')=true) (hk0:0<k)
    (t ty:TypeId) (hE:ElemInfo P t e k)
    (M:List α) (g:Nat) (C:Array Value) (te:TypeId) (hC:blk w g=some (.cells C te)) (hM:C.toList=encL enc M) (m c:Nat) (hm:m=M.length) (hm0:0<m) (h63:L.length+m<=1000000) (hlo:lo<=w.heap.size) :
    ∃ (s':Sl) (w':World),(Builtin.append_ #[t,t] ty #[.slice s.p s.n s.c,.slice (some ⟨g,0,none⟩) m c]).run P w=.ok (.slice s'.p s'.n s'.c) w'/\Row w' lo w'.heap.size e k enc s' (L++M)/\Grew lo e w w':=by
  obtain ⟨ht,i,z,hi,hz,hsize,hbytes,hzs⟩:=hE
  have hlen:=zcc (L:=M) hk
  have hgl:g<w.heap.size:=(Array.getElem?_eq_some_iff.1 (show w.heap[g]? = _ from hC)).1
  have hn:=h.len
  obtain ⟨v',w',hr,hown,hgrow,hnil⟩:=run_append_own (P:=P) w lo t ty e i z k i.bytes ht hi hz hsize rfl hzs hk0 (.slice s.p s.n s.c) L.length (encL enc L) h.own ⟨g,0,none⟩ m c (encL enc M) (by rw [hlen,hm])
    (fun j u hu=>by
      have hadd:(⟨g,0,none⟩:Addr).add j=⟨g,j,none⟩:=by unfold Addr.add;split<;>simp_all
      rw [hadd,za2,hC]
      simp only [zgd]
      rw [<- hM] at hu
      simpa using hu)
    (fun u hu=>by
      simp only [encL,List.mem_flatMap] at hu
      obtain ⟨x,_,hx⟩:=hu
      exact (Array.all_eq_true_iff_forall_mem.1 (h1 x)) u (by simpa using hx))
    (by unfold maxLen;omega) (by
      have:(L.length+m) * i.bytes<=1000000 * 1000:=Nat.mul_le_mul h63 hbytes
      omega) hlo
  have hown':w'.ownsRow lo e k v' (L++M).length (encL enc (L++M)):=by rw [zek,List.length_append,<- hm];exact hown
  obtain ⟨s',rfl,hrow⟩:=Row.of_own _ hown' rfl
  refine ⟨s',w',hr,hrow,⟨hgrow.os,hgrow.tape,hgrow.output,hgrow.size,fun b hb=>hgrow.block b oM (fun e'=>?_)⟩,fun b A t' hte hb=>?_⟩
  · exact absurd (h.own.lt b e'.symm).1 oM
  · have hb':w.heap[b]? = some (.cells A t'):=hb
    refine (hgrow.block b (Array.getElem?_eq_some_iff.1 hb').1 (fun e'=>?_)).trans hb'
    rcases h.own.2 with ⟨hv,_⟩|⟨g',cap,cur,hv,_,hg',_⟩
    · rw [hv] at e';simp [Value.ownBlock] at e'
    · rw [hv] at e'
      simp only [Value.ownBlock,Option.some.injEq] at e'
      rw [e',hg'] at hb'
      simp only [Option.some.injEq,Obj.cells.injEq] at hb'
      exact hte hb'.2.1.symm
theorem zh9 {w:World} {o:Oper} {a:Act} {K:Act->World->Prop} {Q:Exit->Act->World->Prop} (s1 x:Operand) (t:TypeId)
    (ho:o.op=.call { callee:=.builtin .append,args:=#[s1,x],argTypes:=#[t,t] })
    (hrow:Row w lo hi e k enc s L) (hk:∀ x,(enc x).size=k) (h1:∀ x,(enc x).all (fun v=>v.oneCell')=true) (hk0:0<k)
    (hE:ElemInfo P t e k) (hs:a.eval s1=.slice s.p s.n s.c) (M:List α) (g:Nat) (C:Array Value) (te:TypeId) (m c:Nat) (hx:a.eval x=.slice (some ⟨g,0,none⟩) m c) (hC:blk w g=some (.cells C te)) (hM:C.toList=encL enc M) (hm:m=M.length) (hm0:0<m) (h63:L.length+m<=1000000) (hlo:lo<=w.heap.size)
    (hK:∀ (s':Sl) (w':World),Row w' lo w'.heap.size e k enc s' (L++M)->Grew lo e w w'->K (a.put o.dst (.slice s'.p s'.n s'.c)) w'):o.wp P a w K Q:=by
  obtain ⟨s',w',hr,h2,h3⟩:=zkx (P:=P) w hrow hk h1 hk0 t o.type hE M g C te hC hM m c hm hm0 h63 hlo
  unfold Oper.wp execOp
  simp only [ho,resolve,invoke,builtin,Sem.run_bind,Sem.run_pure,Result.andThen_ok,List.map_toArray,List.map_cons,List.map_nil,hs,hx,hr]
  exact hK s' w' h2 h3
theorem za7 {w:World} {ops:Array Oper} {rest:List Oper} {o:Oper} {a:Act} {Q:Exit->Act->World->Prop} (hgd:o.guard=none) (s1 x:Operand) (t:TypeId)
    (ho:o.op=.call { callee:=.builtin .append,args:=#[s1,x],argTypes:=#[t,t] })
    (hrow:Row w lo hi e k enc s L) (hk:∀ x,(enc x).size=k) (h1:∀ x,(enc x).all (fun v=>v.oneCell')=true) (hk0:0<k)
    (hE:ElemInfo P t e k) (hs:a.eval s1=.slice s.p s.n s.c) (M:List α) (g:Nat) (C:Array Value) (te:TypeId) (m c:Nat) (hx:a.eval x=.slice (some ⟨g,0,none⟩) m c) (hC:blk w g=some (.cells C te)) (hM:C.toList=encL enc M) (hm:m=M.length) (hm0:0<m) (h63:L.length+m<=1000000) (hlo:lo<=w.heap.size)
    (hK:∀ (s':Sl) (w':World),Row w' lo w'.heap.size e k enc s' (L++M)->Grew lo e w w'->wpList P ops Q rest (a.put o.dst (.slice s'.p s'.n s'.c)) w'):wpList P ops Q (o::rest) a w:=
  wpList_plain hgd fun _ hKK=>zh9 s1 x t ho hrow hk h1 hk0 hE hs M g C te m c hx hC hM hm hm0 h63 hlo fun s' w' h2 h3=>hKK _ _ (hK s' w' h2 h3)
theorem zbr {w:World} {ops:Array Oper} {o:Oper} {a:Act} {K:Act->World->Prop} {Q:Exit->Act->World->Prop} {E:Prop} (hgd:o.guard=none) (s1 x:Operand) (t:TypeId)
    (ho:o.op=.call { callee:=.builtin .append,args:=#[s1,x],argTypes:=#[t,t] })
    (hrow:Row w lo hi e k enc s L) (hk:∀ x,(enc x).size=k) (h1:∀ x,(enc x).all (fun v=>v.oneCell')=true) (hk0:0<k)
    (hE:ElemInfo P t e k) (hs:a.eval s1=.slice s.p s.n s.c) (M:List α) (g:Nat) (C:Array Value) (te:TypeId) (m c:Nat) (hx:a.eval x=.slice (some ⟨g,0,none⟩) m c) (hC:blk w g=some (.cells C te)) (hM:C.toList=encL enc M) (hm:m=M.length) (hm0:0<m) (h63:L.length+m<=1000000) (hlo:lo<=w.heap.size)
    (hK:∀ (s':Sl) (w':World),Row w' lo w'.heap.size e k enc s' (L++M)->Grew lo e w w'->K (a.put o.dst (.slice s'.p s'.n s'.c)) w') :
    if Region.wanted o (yielded ops a.tmps)=true then Oper.wp P o a w K Q else E:=by
  have hw:Region.wanted o (yielded ops a.tmps)=true:=by simp [Region.wanted,hgd]
  rw [if_pos hw]
  exact zh9 s1 x t ho hrow hk h1 hk0 hE hs M g C te m c hx hC hM hm hm0 h63 hlo hK
end
section
variable {α:Type} {w w':World} {lo hi:Nat} {e:TypeId} {k:Nat} {enc:α->Array Value} {s:Sl} {L:List α}
theorem Row.keepT (h:Row w lo hi e k enc s L) (hw:∀ g cur,lo<=g->g<hi->blk w g=some (.cells cur e)->blk w' g=blk w g):Row w' lo hi e k enc s L:=by
  refine ⟨⟨h.own.1,?_⟩,h.top⟩
  rcases h.own.2 with hn|⟨g,cap,cur,hv,hlo,hb,r⟩
  · exact .inl hn
  · exact .inr ⟨g,cap,cur,hv,hlo,(hw g cur hlo (h.top g (by rw [hv];rfl)) hb).trans hb,r⟩
theorem Row.set {b:Nat} {A A':Array Value} {t t':TypeId} (h:Row w lo hi e k enc s L) (hb:blk w b=some (.cells A t)) (ht:t≠e):Row (zai w b A' t') lo hi e k enc s L:=
  h.keepT fun g cur _ _ hg=>blk_setBlk_other w b g A' t' (fun e'=>by subst e';rw [hb] at hg;simp only [Option.some.injEq,Obj.cells.injEq] at hg;exact ht hg.2.1)
end
section
variable {α:Type} {w w':World} {lo hi:Nat} {e:TypeId} {k:Nat} {enc:α->Array Value} {s:Sl} {L:List α}
theorem zw4 (hk:∀ x,(enc x).size=k) (L:List α) (i:Nat) (hi:i<L.length) (o:Nat) (ho:o<k) (u:Value) (x:α) (hx:enc x=(enc L[i]).setIfInBounds o u):encL enc (L.set i x)=(encL enc L).set (i * k+o) u:=by
  induction L generalizing i with
  | nil=>simp at hi
  | cons y L ih=>
    cases i with
    | zero=>
      simp only [List.getElem_cons_zero] at hx
      rw [List.set_cons_zero,ze5,ze5,Nat.zero_mul,Nat.zero_add,List.set_append_left _ _ (by simpa [hk] using ho),hx,Array.toList_setIfInBounds]
    | succ i=>
      have e1:(i+1) * k+o=(enc y).toList.length+(i * k+o):=by simp [hk,Nat.add_mul];omega
      rw [List.set_cons_succ,ze5,ze5,e1,List.set_append_right _ _ oM,Nat.add_sub_cancel_left]
      congr 1
      exact ih i (by simpa using hi) (by simpa using hx)
theorem Row.put (h:Row w lo hi e k enc s L) (hk:∀ x,(enc x).size=k) {g:Nat} {cur:Array Value} (hg:s.p=some ⟨g,0,none⟩) (hb:blk w g=some (.cells cur e)) (i:Nat) (hi':i<L.length) (o:Nat) (ho:o<k) (u:Value) (x:α) (hx:enc x=(enc L[i]).setIfInBounds o u) :
    Row (zai w g (cur.setIfInBounds (i * k+o) u) e) lo hi e k enc s (L.set i x):=by
  have hlen:=h.len
  have hv:Value.slice s.p s.n s.c=.slice (some ⟨g,0,none⟩) L.length s.c:=by rw [hg,hlen]
  have h1:=h.own
  rw [hv] at h1
  have h2:=(h1.stored (i * k+o) u).1
  have e1:w.setCell ⟨g,i * k+o,none⟩ u=zai w g (cur.setIfInBounds (i * k+o) u) e:=by
    rw [zjz w g _ u (by rw [hb];rfl),hb];rfl
  rw [e1,<- zw4 hk L i hi' o ho u x hx,<- hv] at h2
  exact ⟨by rw [List.length_set];exact h2,h.top⟩
end
end
section
open Go.RowKit
def inR (r:SRegion) (a:Int):Bool:=decide (r.from_<=a)&&decide (a<=r.to)
def zhs:List SRegion->Int->Option Nat
 | [],_=>none
 | r::L,a=>if inR r a=true then some 0 else (zhs L a).map (· + 1)
def zh6 (L:List SRegion) (a:Int):Int:=match zhs L a with|some i=>(i:Int)|none => -1
def zlp (x:Int):Int:=if x<0 then 0 else if 100<x then 100 else x
def zjt (L:List SRegion) (a:Int):Int:=match zhs L a with|some i=>zlp (L[i]?.getD SRegion.zero).waits|none=>0
def zes (r:SRegion):Bool:=decide (r.from_<=r.to)&&decide (0<=r.waits)&&decide (r.waits<=100)
theorem zmh:∀ (L:List SRegion) (a:Int) (i:Nat),zhs L a=some i->i<L.length
 | [],_,_,h=>by simp [zhs] at h
 | r::L,a,i,h=>by
  unfold zhs at h
  split at h
  ·simp at h;subst h;simp
  ·cases hf:zhs L a with
   | none=>rw [hf] at h;simp at h
   | some j=>
    rw [hf] at h
    simp at h
    have:=zmh L a j hf
    subst h
    simp;omega
def isMem:List SCell->Bool
 | []=>true
 | [c]=>c.val != 0
 | c::d::r=>c.val != 0&&decide (c.at_<d.at_)&&isMem (d::r)
def getC:List SCell->Int->Int
 | [],_=>0
 | c::r,a=>if (r.any fun d=>d.at_==a)=true then getC r a else if c.at_=a then c.val else 0
def putC:List SCell->Int->Int->List SCell
 | [],a,v=>if v=0 then [] else [⟨a,v⟩]
 | c::r,a,v=>if c.at_<a then c::putC r a v else if c.at_=a then (if v=0 then r else ⟨a,v⟩::r) else (if v=0 then c::r else ⟨a,v⟩::c::r)
def zjj (L:List SRegion) (M:List SCell) (a:Int):Int:=if (zhs L a).isNone=true then 255 else getC M a
def zen (L:List SRegion) (M:List SCell) (a v:Int):List SCell:=
 match zhs L a with|some i=>if (L[i]?.getD SRegion.zero).ram=true then putC M a v else M|none=>M
end
end Go.Proofs.YtlmbamdkklkliaaGreat
