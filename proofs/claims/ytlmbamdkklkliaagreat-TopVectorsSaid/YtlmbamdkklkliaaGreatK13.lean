/- Part of the proof that a law holds at every input. No conditions. -/
import Derived.IntWalk
import Derived.LoopTactic
import Derived.Test.YtlmbamdkklkliaaGreatK09
namespace Go.Proofs.YtlmbamdkklkliaaGreat
set_option linter.unusedVariables false
set_option linter.unusedSimpArgs false
set_option maxRecDepth 100000
set_option maxHeartbeats 16000000
open Go.Proofs.Tryz
open Go.IntWalk (iteOmega)
section
open Go.RowKit
variable (dst:Option Tmp) (ty:TypeId) (pos:String) (aft:Array Edge) (gd:Option (Nat × Bool)) (A:Act) (w:World) (K:Act->World->Prop) (Q:Exit->Act->World->Prop)
structure SSystem where
 core:SCore
 memory:Sl
 pic:SPIC
 dma:SDMA
 waited:Int
 outs:Sl
def SSystem.zero:SSystem:=⟨SCore.zero,⟨none,0,0⟩,SPIC.zero,SDMA.zero,0,⟨none,0,0⟩⟩
def SSystem.cells (x:SSystem):Array Value:=#[.int .i64 x.core.cpu.chip,.int .u8 x.core.cpu.regs.a,.int .u8 x.core.cpu.regs.b,.int .u8 x.core.cpu.regs.c,.int .u8 x.core.cpu.regs.d,.int .u8 x.core.cpu.regs.e,.int .u8 x.core.cpu.regs.h,.int .u8 x.core.cpu.regs.l,.bool x.core.cpu.regs.f.s,.bool x.core.cpu.regs.f.z,.bool x.core.cpu.regs.f.k,.bool x.core.cpu.regs.f.ac,.bool x.core.cpu.regs.f.p,.bool x.core.cpu.regs.f.v,.bool x.core.cpu.regs.f.cy,.int .u16 x.core.cpu.regs.sp,.int .u16 x.core.cpu.regs.pc,.bool x.core.cpu.ie,.bool x.core.cpu.delay,.bool x.core.cpu.halted,.int .u8 x.core.cpu.mask,.bool x.core.cpu.trap,.bool x.core.cpu.r75,.bool x.core.cpu.wasTrap,.bool x.core.cpu.was75,.bool x.core.cpu.saved,.bool x.core.cpu.savedIE,.bool x.core.cpu.sod,.int .i64 x.core.source,.slice x.core.got.p x.core.got.n x.core.got.c,.int .i64 x.core.cycle.kind,.int .u16 x.core.cycle.at_,.int .u8 x.core.cycle.data,.int .i64 x.core.cycle.states,.int .i64 x.core.next,.bool x.core.hold,.slice x.memory.p x.memory.n x.memory.c,.int .i64 x.pic.stage,.bool x.pic.level,.bool x.pic.four,.bool x.pic.single,.bool x.pic.fourth,.int .u8 x.pic.low,.int .u8 x.pic.high,.bool x.pic.auto,.bool x.pic.rotate,.bool x.pic.special,.bool x.pic.readISR,.bool x.pic.poll,.int .u8 x.pic.lines,.int .u8 x.pic.edge,.int .u8 x.pic.isr,.int .u8 x.pic.imr,.int .i64 x.pic.lowest,.int .i64 x.pic.step,.int .i64 x.pic.serving,.bool x.pic.spurious,.int .u16 x.dma.at_,.int .u8 x.dma.value,.int .i64 x.dma.left,.int .i64 x.waited,.slice x.outs.p x.outs.n x.outs.c]
@[go_sem] theorem SSystem.size (x:SSystem):(x.cells).size=62:=lay rfl
@[go_sem ↓] theorem SSystem.zeroValue (w:World):(zeroValue 52).run prog w=.ok (.agg SSystem.zero.cells) w:=lK
@[go_sem ↓] theorem SSystem.load (x:Tmp) :
  Oper.wp prog ⟨dst,.load 52 (.tmp x),ty,pos,aft,gd⟩ A w K Q=if zb6 62 (A.eval (.tmp x)) w=true then K (A.put dst (zbh 62 (A.eval (.tmp x)) w)) w else Oper.wp prog ⟨dst,.load 52 (.const (A.eval (.tmp x))),ty,pos,aft,gd⟩ A w K Q:=zbm kR kR dst x ty pos aft gd A w K Q
@[go_sem ↓] theorem SSystem.store (x y:Tmp) :
  Oper.wp prog ⟨dst,.store 52 (.tmp x) (.tmp y),ty,pos,aft,gd⟩ A w K Q=if zcz 62 (A.eval (.tmp x)) (A.eval (.tmp y)) w=true then K (A.put dst undef) (zdv (A.eval (.tmp x)) (A.eval (.tmp y)) w) else Oper.wp prog ⟨dst,.store 52 (.const (A.eval (.tmp x))) (.const (A.eval (.tmp y))),ty,pos,aft,gd⟩ A w K Q:=zbg kR dst x y ty pos aft gd A w K Q
@[go_sem ↓] theorem SSystem.run_op (ρ:Operand->Value) (x:Operand) (w:World):(execOp ρ ⟨dst,.load 52 x,ty,pos,aft,gd⟩).run prog w=if zb6 62 (ρ x) w=true then .ok (.value (zbh 62 (ρ x) w)) w else (do let v <- Instr.loadAt 52 (ρ x);pure (Next.value v):Sem Next).run prog w:=zb8 kR kR ρ dst x ty pos aft gd w
section
variable (x:SSystem)
include x
@[go_sem] theorem SSystem.okl_whole (t:TypeId) (fr:Nat × Nat):okO 62 (some (.cells x.cells t fr)) 0=true:=lK
@[go_sem] theorem SSystem.ld_whole (t:TypeId) (fr:Nat × Nat):valO 62 (some (.cells x.cells t fr)) 0=.agg (x).cells:=lK
@[go_sem] theorem SSystem.oks_whole (y:SSystem) (t:TypeId):okS 62 (some (.cells x.cells t (0,0))) 0 y.cells=true:=lK
@[go_sem] theorem SSystem.st_whole (y:SSystem) (t b:Nat) (w:World):stS (some (.cells x.cells t (0,0))) b 0 y.cells w=zai w b (y:SSystem).cells t:=lK
@[go_sem] theorem SSystem.okl_:(∀ (t:TypeId) (fr:Nat × Nat),okO 36 (some (.cells x.cells t fr)) 0=true)/\(∀ (t:TypeId) (fr:Nat × Nat),okO 28 (some (.cells x.cells t fr)) 0=true):=by (repeat' apply And.intro)<;>intros<;>kernel_rfl
@[go_sem] theorem SSystem.ld_:(∀ (t:TypeId) (fr:Nat × Nat),valO 36 (some (.cells x.cells t fr)) 0=.agg (x.core).cells)/\(∀ (t:TypeId) (fr:Nat × Nat),valO 28 (some (.cells x.cells t fr)) 0=.agg (x.core.cpu).cells):=by (repeat' apply And.intro)<;>intros<;>kernel_rfl
@[go_sem] theorem SSystem.e_:(∀ h,x.cells[29]'h=.slice x.core.got.p x.core.got.n x.core.got.c)/\(∀ h,x.cells[36]'h=.slice x.memory.p x.memory.n x.memory.c)/\(∀ h,x.cells[61]'h=.slice x.outs.p x.outs.n x.outs.c):=by (repeat' apply And.intro)<;>intros<;>kernel_rfl
@[go_sem] theorem SSystem.s_:(∀ (p:Option Addr) (n c:Nat),x.cells.setIfInBounds 29 (.slice p n c)=({ x with core := { x.core with got:=⟨p,n,c⟩ } }:SSystem).cells)/\(∀ (p:Option Addr) (n c:Nat),x.cells.setIfInBounds 36 (.slice p n c)=({ x with memory:=⟨p,n,c⟩ }:SSystem).cells)/\(∀ (p:Option Addr) (n c:Nat),x.cells.setIfInBounds 61 (.slice p n c)=({ x with outs:=⟨p,n,c⟩ }:SSystem).cells):=by (repeat' apply And.intro)<;>intros<;>kernel_rfl
end
def SSystem.places:Array (Nat × Nat):=#[(0,36),(36,1),(37,20),(57,3),(60,1),(61,1)]
def SSystem.fill (x:SSystem) (l:List (Nat × Value)):Option (Array Value):=Instr.fill (SSystem.places[·]?) x.cells l
@[go_sem] theorem SSystem.fill_ (x:SSystem):(SSystem.fill x []=some x.cells)/\(∀ (y:SCore) (r:List (Nat × Value)),SSystem.fill x ((0,.agg y.cells)::r)=SSystem.fill { x with core:=y } r)/\(∀ (p:Option Addr) (n c:Nat) (r:List (Nat × Value)),SSystem.fill x ((1,.slice p n c)::r)=SSystem.fill { x with memory:=⟨p,n,c⟩ } r)/\(∀ (y:SPIC) (r:List (Nat × Value)),SSystem.fill x ((2,.agg y.cells)::r)=SSystem.fill { x with pic:=y } r):=by (repeat' apply And.intro)<;>intros<;>kernel_rfl
structure SMachine where
 sys:SSystem
 board:SBoard
def SMachine.zero:SMachine:=⟨SSystem.zero,SBoard.zero⟩
def SMachine.cells (x:SMachine):Array Value:=#[.int .i64 x.sys.core.cpu.chip,.int .u8 x.sys.core.cpu.regs.a,.int .u8 x.sys.core.cpu.regs.b,.int .u8 x.sys.core.cpu.regs.c,.int .u8 x.sys.core.cpu.regs.d,.int .u8 x.sys.core.cpu.regs.e,.int .u8 x.sys.core.cpu.regs.h,.int .u8 x.sys.core.cpu.regs.l,.bool x.sys.core.cpu.regs.f.s,.bool x.sys.core.cpu.regs.f.z,.bool x.sys.core.cpu.regs.f.k,.bool x.sys.core.cpu.regs.f.ac,.bool x.sys.core.cpu.regs.f.p,.bool x.sys.core.cpu.regs.f.v,.bool x.sys.core.cpu.regs.f.cy,.int .u16 x.sys.core.cpu.regs.sp,.int .u16 x.sys.core.cpu.regs.pc,.bool x.sys.core.cpu.ie,.bool x.sys.core.cpu.delay,.bool x.sys.core.cpu.halted,.int .u8 x.sys.core.cpu.mask,.bool x.sys.core.cpu.trap,.bool x.sys.core.cpu.r75,.bool x.sys.core.cpu.wasTrap,.bool x.sys.core.cpu.was75,.bool x.sys.core.cpu.saved,.bool x.sys.core.cpu.savedIE,.bool x.sys.core.cpu.sod,.int .i64 x.sys.core.source,.slice x.sys.core.got.p x.sys.core.got.n x.sys.core.got.c,.int .i64 x.sys.core.cycle.kind,.int .u16 x.sys.core.cycle.at_,.int .u8 x.sys.core.cycle.data,.int .i64 x.sys.core.cycle.states,.int .i64 x.sys.core.next,.bool x.sys.core.hold,.slice x.sys.memory.p x.sys.memory.n x.sys.memory.c,.int .i64 x.sys.pic.stage,.bool x.sys.pic.level,.bool x.sys.pic.four,.bool x.sys.pic.single,.bool x.sys.pic.fourth,.int .u8 x.sys.pic.low,.int .u8 x.sys.pic.high,.bool x.sys.pic.auto,.bool x.sys.pic.rotate,.bool x.sys.pic.special,.bool x.sys.pic.readISR,.bool x.sys.pic.poll,.int .u8 x.sys.pic.lines,.int .u8 x.sys.pic.edge,.int .u8 x.sys.pic.isr,.int .u8 x.sys.pic.imr,.int .i64 x.sys.pic.lowest,.int .i64 x.sys.pic.step,.int .i64 x.sys.pic.serving,.bool x.sys.pic.spurious,.int .u16 x.sys.dma.at_,.int .u8 x.sys.dma.value,.int .i64 x.sys.dma.left,.int .i64 x.sys.waited,.slice x.sys.outs.p x.sys.outs.n x.sys.outs.c,.int .i64 x.board.chip,.slice x.board.regions.p x.board.regions.n x.board.regions.c,.int .i64 x.board.iowaits,.int .u8 x.board.picPort,.int .u8 x.board.dmaPort,.bool x.board.jam,.slice x.board.image.p x.board.image.n x.board.image.c]
@[go_sem] theorem SMachine.size (x:SMachine):(x.cells).size=69:=lay rfl
@[go_sem ↓] theorem SMachine.zeroValue (w:World):(zeroValue 91).run prog w=.ok (.agg SMachine.zero.cells) w:=lK
@[go_sem] theorem SMachine.okl_ (x:SMachine):(∀ (t:TypeId) (fr:Nat × Nat),okO 62 (some (.cells x.cells t fr)) 0=true)/\(∀ (t:TypeId) (fr:Nat × Nat),okO 36 (some (.cells x.cells t fr)) 0=true)/\(∀ (t:TypeId) (fr:Nat × Nat),okO 4 (some (.cells x.cells t fr)) 30=true)/\(∀ (t:TypeId) (fr:Nat × Nat),okO 20 (some (.cells x.cells t fr)) 37=true)/\(∀ (t:TypeId) (fr:Nat × Nat),okO 3 (some (.cells x.cells t fr)) 57=true):=by (repeat' apply And.intro)<;>intros<;>kernel_rfl
@[go_sem] theorem SMachine.ld_ (x:SMachine):(∀ (t:TypeId) (fr:Nat × Nat),valO 62 (some (.cells x.cells t fr)) 0=.agg (x.sys).cells)/\(∀ (t:TypeId) (fr:Nat × Nat),valO 36 (some (.cells x.cells t fr)) 0=.agg (x.sys.core).cells)/\(∀ (t:TypeId) (fr:Nat × Nat),valO 4 (some (.cells x.cells t fr)) 30=.agg (x.sys.core.cycle).cells)/\(∀ (t:TypeId) (fr:Nat × Nat),valO 20 (some (.cells x.cells t fr)) 37=.agg (x.sys.pic).cells)/\(∀ (t:TypeId) (fr:Nat × Nat),valO 3 (some (.cells x.cells t fr)) 57=.agg (x.sys.dma).cells):=by (repeat' apply And.intro)<;>intros<;>kernel_rfl
@[go_sem] theorem SMachine.oks_ (x:SMachine):(∀ (y:SCore) (t:TypeId),okS 36 (some (.cells x.cells t (0,0))) 0 y.cells=true)/\(∀ (y:SPIC) (t:TypeId),okS 20 (some (.cells x.cells t (0,0))) 37 y.cells=true)/\(∀ (y:SDMA) (t:TypeId),okS 3 (some (.cells x.cells t (0,0))) 57 y.cells=true):=by (repeat' apply And.intro)<;>intros<;>kernel_rfl
@[go_sem] theorem SMachine.s_ (x:SMachine):(∀ (p:Option Addr) (n c:Nat),x.cells.setIfInBounds 36 (.slice p n c)=({ x with sys := { x.sys with memory:=⟨p,n,c⟩ } }:SMachine).cells)/\(∀ (v:Int),x.cells.setIfInBounds 54 (.int .i64 v)=({ x with sys := { x.sys with pic := { x.sys.pic with step:=v } } }:SMachine).cells)/\(∀ (v:Int),x.cells.setIfInBounds 59 (.int .i64 v)=({ x with sys := { x.sys with dma := { x.sys.dma with left:=v } } }:SMachine).cells)/\(∀ (v:Int),x.cells.setIfInBounds 60 (.int .i64 v)=({ x with sys := { x.sys with waited:=v } }:SMachine).cells)/\(∀ (p:Option Addr) (n c:Nat),x.cells.setIfInBounds 61 (.slice p n c)=({ x with sys := { x.sys with outs:=⟨p,n,c⟩ } }:SMachine).cells):=by (repeat' apply And.intro)<;>intros<;>kernel_rfl
@[go_sem] theorem SMachine.e_ (x:SMachine):(∀ h,x.cells[34]'h=.int .i64 x.sys.core.next)/\(∀ h,x.cells[36]'h=.slice x.sys.memory.p x.sys.memory.n x.sys.memory.c)/\(∀ h,x.cells[54]'h=.int .i64 x.sys.pic.step)/\(∀ h,x.cells[59]'h=.int .i64 x.sys.dma.left)/\(∀ h,x.cells[60]'h=.int .i64 x.sys.waited)/\(∀ h,x.cells[61]'h=.slice x.sys.outs.p x.sys.outs.n x.sys.outs.c)/\(∀ h,x.cells[63]'h=.slice x.board.regions.p x.board.regions.n x.board.regions.c)/\(∀ h,x.cells[64]'h=.int .i64 x.board.iowaits)/\(∀ h,x.cells[65]'h=.int .u8 x.board.picPort)/\(∀ h,x.cells[66]'h=.int .u8 x.board.dmaPort)/\(∀ h,x.cells[67]'h=.bool x.board.jam):=by (repeat' apply And.intro)<;>intros<;>kernel_rfl
def SMachine.places:Array (Nat × Nat):=#[(0,62),(62,7)]
def SMachine.fill (x:SMachine) (l:List (Nat × Value)):Option (Array Value):=Instr.fill (SMachine.places[·]?) x.cells l
@[go_sem] theorem SMachine.fill_ (x:SMachine):(SMachine.fill x []=some x.cells)/\(∀ (y:SSystem) (r:List (Nat × Value)),SMachine.fill x ((0,.agg y.cells)::r)=SMachine.fill { x with sys:=y } r)/\(∀ (y:SBoard) (r:List (Nat × Value)),SMachine.fill x ((1,.agg y.cells)::r)=SMachine.fill { x with board:=y } r):=by (repeat' apply And.intro)<;>intros<;>kernel_rfl
@[go_sem ↓] theorem SMachine.build (parts:Array (Nat × Operand)) (h:(SMachine.fill SMachine.zero (parts.toList.map fun p=>(p.1,A.eval p.2))).isSome=true) :
  Oper.wp prog ⟨dst,.build 91 parts,ty,pos,aft,gd⟩ A w K Q=K (A.put dst (.agg ((SMachine.fill SMachine.zero (parts.toList.map fun p=>(p.1,A.eval p.2))).getD #[]))) w:=zba (fields:=zcm prog 91) (places:=SMachine.places) (fun w=>SMachine.zeroValue w) kR (fun w=>kR) dst parts ty pos aft gd A w K Q h
structure SMoment where
 lines:SLines
 data:Int
 cell:SCell
 wrote:Bool
 before:SCore
 pins:SPins
def SMoment.zero:SMoment:=⟨SLines.zero,0,SCell.zero,false,SCore.zero,SPins.zero⟩
def SMoment.cells (x:SMoment):Array Value:=#[.bool x.lines.ready,.bool x.lines.hold,.bool x.lines.reset,.bool x.lines.sid,.bool x.lines.trap,.bool x.lines.r75,.bool x.lines.r65,.bool x.lines.r55,.bool x.lines.intr,.int .u8 x.data,.int .u16 x.cell.at_,.int .u8 x.cell.val,.bool x.wrote,.int .i64 x.before.cpu.chip,.int .u8 x.before.cpu.regs.a,.int .u8 x.before.cpu.regs.b,.int .u8 x.before.cpu.regs.c,.int .u8 x.before.cpu.regs.d,.int .u8 x.before.cpu.regs.e,.int .u8 x.before.cpu.regs.h,.int .u8 x.before.cpu.regs.l,.bool x.before.cpu.regs.f.s,.bool x.before.cpu.regs.f.z,.bool x.before.cpu.regs.f.k,.bool x.before.cpu.regs.f.ac,.bool x.before.cpu.regs.f.p,.bool x.before.cpu.regs.f.v,.bool x.before.cpu.regs.f.cy,.int .u16 x.before.cpu.regs.sp,.int .u16 x.before.cpu.regs.pc,.bool x.before.cpu.ie,.bool x.before.cpu.delay,.bool x.before.cpu.halted,.int .u8 x.before.cpu.mask,.bool x.before.cpu.trap,.bool x.before.cpu.r75,.bool x.before.cpu.wasTrap,.bool x.before.cpu.was75,.bool x.before.cpu.saved,.bool x.before.cpu.savedIE,.bool x.before.cpu.sod,.int .i64 x.before.source,.slice x.before.got.p x.before.got.n x.before.got.c,.int .i64 x.before.cycle.kind,.int .u16 x.before.cycle.at_,.int .u8 x.before.cycle.data,.int .i64 x.before.cycle.states,.int .i64 x.before.next,.bool x.before.hold,.int .i64 x.pins.state,.int .u16 x.pins.addr,.int .u8 x.pins.data,.bool x.pins.sync,.bool x.pins.dbin,.bool x.pins.wait,.bool x.pins.inte,.bool x.pins.ale,.bool x.pins.iom,.bool x.pins.s1,.bool x.pins.s0,.bool x.pins.rd,.bool x.pins.inta,.bool x.pins.sod,.bool x.pins.wr,.bool x.pins.hlda,.bool x.pins.float]
@[go_sem] theorem SMoment.size (x:SMoment):(x.cells).size=66:=lay rfl
@[go_sem ↓] theorem SMoment.zeroValue (w:World):(zeroValue 96).run prog w=.ok (.agg SMoment.zero.cells) w:=lK
@[go_sem ↓] theorem SMoment.load (x:Tmp) :
  Oper.wp prog ⟨dst,.load 96 (.tmp x),ty,pos,aft,gd⟩ A w K Q=if zb6 66 (A.eval (.tmp x)) w=true then K (A.put dst (zbh 66 (A.eval (.tmp x)) w)) w else Oper.wp prog ⟨dst,.load 96 (.const (A.eval (.tmp x))),ty,pos,aft,gd⟩ A w K Q:=zbm kR kR dst x ty pos aft gd A w K Q
@[go_sem ↓] theorem SMoment.store (x y:Tmp) :
  Oper.wp prog ⟨dst,.store 96 (.tmp x) (.tmp y),ty,pos,aft,gd⟩ A w K Q=if zcz 66 (A.eval (.tmp x)) (A.eval (.tmp y)) w=true then K (A.put dst undef) (zdv (A.eval (.tmp x)) (A.eval (.tmp y)) w) else Oper.wp prog ⟨dst,.store 96 (.const (A.eval (.tmp x))) (.const (A.eval (.tmp y))),ty,pos,aft,gd⟩ A w K Q:=zbg kR dst x y ty pos aft gd A w K Q
theorem SMoment.ret {fn:Func} {R:Ending->World->Prop} {a:Act} {w:World} {p:Tmp} {g:Nat} (y:SMoment) (hfn:fn.results=#[.cell p 96]) (hp:a.tmps.getD p undef=.pointer (some ⟨g,0,none⟩)) (hb:blk w g=some (.cells y.cells 96)) (hd:a.defers=[]) (hR:R (.returned (.agg y.cells)) w):bodyPost prog fn R .ret a w:=zef hfn kR (by kernel_rfl:_=some 66) hp (by rw [hb];kernel_rfl) (by rw [hb];kernel_rfl) hd hR
@[go_sem] theorem SMoment.okl_ (x:SMoment):(∀ (t:TypeId) (fr:Nat × Nat),okO 66 (some (.cells x.cells t fr)) 0=true)/\(∀ (t:TypeId) (fr:Nat × Nat),okO 9 (some (.cells x.cells t fr)) 0=true)/\(∀ (t:TypeId) (fr:Nat × Nat),okO 2 (some (.cells x.cells t fr)) 10=true)/\(∀ (t:TypeId) (fr:Nat × Nat),okO 36 (some (.cells x.cells t fr)) 13=true)/\(∀ (t:TypeId) (fr:Nat × Nat),okO 28 (some (.cells x.cells t fr)) 13=true)/\(∀ (t:TypeId) (fr:Nat × Nat),okO 17 (some (.cells x.cells t fr)) 49=true):=by (repeat' apply And.intro)<;>intros<;>kernel_rfl
@[go_sem] theorem SMoment.ld_ (x:SMoment):(∀ (t:TypeId) (fr:Nat × Nat),valO 66 (some (.cells x.cells t fr)) 0=.agg (x).cells)/\(∀ (t:TypeId) (fr:Nat × Nat),valO 9 (some (.cells x.cells t fr)) 0=.agg (x.lines).cells)/\(∀ (t:TypeId) (fr:Nat × Nat),valO 2 (some (.cells x.cells t fr)) 10=.agg (x.cell).cells)/\(∀ (t:TypeId) (fr:Nat × Nat),valO 36 (some (.cells x.cells t fr)) 13=.agg (x.before).cells)/\(∀ (t:TypeId) (fr:Nat × Nat),valO 28 (some (.cells x.cells t fr)) 13=.agg (x.before.cpu).cells)/\(∀ (t:TypeId) (fr:Nat × Nat),valO 17 (some (.cells x.cells t fr)) 49=.agg (x.pins).cells):=by (repeat' apply And.intro)<;>intros<;>kernel_rfl
@[go_sem] theorem SMoment.oks_ (x:SMoment):(∀ (y:SMoment) (t:TypeId),okS 66 (some (.cells x.cells t (0,0))) 0 y.cells=true)/\(∀ (y:SCell) (t:TypeId),okS 2 (some (.cells x.cells t (0,0))) 10 y.cells=true)/\(∀ (y:SPins) (t:TypeId),okS 17 (some (.cells x.cells t (0,0))) 49 y.cells=true):=by (repeat' apply And.intro)<;>intros<;>kernel_rfl
@[go_sem] theorem SMoment.st_ (x:SMoment):(∀ (y:SMoment) (t b:Nat) (w:World),stS (some (.cells x.cells t (0,0))) b 0 y.cells w=zai w b (y:SMoment).cells t)/\(∀ (y:SCell) (t b:Nat) (w:World),stS (some (.cells x.cells t (0,0))) b 10 y.cells w=zai w b ({ x with cell:=y }:SMoment).cells t)/\(∀ (y:SPins) (t b:Nat) (w:World),stS (some (.cells x.cells t (0,0))) b 49 y.cells w=zai w b ({ x with pins:=y }:SMoment).cells t):=by (repeat' apply And.intro)<;>intros<;>kernel_rfl
@[go_sem] theorem SMoment.s_ (x:SMoment):(∀ (v:Int),x.cells.setIfInBounds 9 (.int .u8 v)=({ x with data:=v }:SMoment).cells)/\(∀ (v:Bool),x.cells.setIfInBounds 12 (.bool v)=({ x with wrote:=v }:SMoment).cells):=by (repeat' apply And.intro)<;>intros<;>kernel_rfl
@[go_sem] theorem SMoment.e_ (x:SMoment):(∀ h,x.cells[9]'h=.int .u8 x.data)/\(∀ h,x.cells[10]'h=.int .u16 x.cell.at_)/\(∀ h,x.cells[11]'h=.int .u8 x.cell.val)/\(∀ h,x.cells[12]'h=.bool x.wrote)/\(∀ h,x.cells[41]'h=.int .i64 x.before.source)/\(∀ h,x.cells[49]'h=.int .i64 x.pins.state)/\(∀ h,x.cells[64]'h=.bool x.pins.hlda):=by (repeat' apply And.intro)<;>intros<;>kernel_rfl
def SMoment.places:Array (Nat × Nat):=#[(0,9),(9,1),(10,2),(12,1),(13,36),(49,17)]
def SMoment.fill (x:SMoment) (l:List (Nat × Value)):Option (Array Value):=Instr.fill (SMoment.places[·]?) x.cells l
@[go_sem] theorem SMoment.fill_ (x:SMoment):(SMoment.fill x []=some x.cells)/\(∀ (y:SLines) (r:List (Nat × Value)),SMoment.fill x ((0,.agg y.cells)::r)=SMoment.fill { x with lines:=y } r)/\(∀ (y:SCore) (r:List (Nat × Value)),SMoment.fill x ((4,.agg y.cells)::r)=SMoment.fill { x with before:=y } r):=by (repeat' apply And.intro)<;>intros<;>kernel_rfl
end
section
open Go.RowKit
variable (dst:Option Tmp) (ty:TypeId) (pos:String) (aft:Array Edge) (gd:Option (Nat × Bool)) (A:Act) (w:World) (K:Act->World->Prop) (Q:Exit->Act->World->Prop)
structure SRun where
 trace:Sl
 items:Sl
 events:Sl
 cpus:Sl
 system:SSystem
def SRun.zero:SRun:=⟨⟨none,0,0⟩,⟨none,0,0⟩,⟨none,0,0⟩,⟨none,0,0⟩,SSystem.zero⟩
def SRun.cells (x:SRun):Array Value:=#[.slice x.trace.p x.trace.n x.trace.c,.slice x.items.p x.items.n x.items.c,.slice x.events.p x.events.n x.events.c,.slice x.cpus.p x.cpus.n x.cpus.c,.int .i64 x.system.core.cpu.chip,.int .u8 x.system.core.cpu.regs.a,.int .u8 x.system.core.cpu.regs.b,.int .u8 x.system.core.cpu.regs.c,.int .u8 x.system.core.cpu.regs.d,.int .u8 x.system.core.cpu.regs.e,.int .u8 x.system.core.cpu.regs.h,.int .u8 x.system.core.cpu.regs.l,.bool x.system.core.cpu.regs.f.s,.bool x.system.core.cpu.regs.f.z,.bool x.system.core.cpu.regs.f.k,.bool x.system.core.cpu.regs.f.ac,.bool x.system.core.cpu.regs.f.p,.bool x.system.core.cpu.regs.f.v,.bool x.system.core.cpu.regs.f.cy,.int .u16 x.system.core.cpu.regs.sp,.int .u16 x.system.core.cpu.regs.pc,.bool x.system.core.cpu.ie,.bool x.system.core.cpu.delay,.bool x.system.core.cpu.halted,.int .u8 x.system.core.cpu.mask,.bool x.system.core.cpu.trap,.bool x.system.core.cpu.r75,.bool x.system.core.cpu.wasTrap,.bool x.system.core.cpu.was75,.bool x.system.core.cpu.saved,.bool x.system.core.cpu.savedIE,.bool x.system.core.cpu.sod,.int .i64 x.system.core.source,.slice x.system.core.got.p x.system.core.got.n x.system.core.got.c,.int .i64 x.system.core.cycle.kind,.int .u16 x.system.core.cycle.at_,.int .u8 x.system.core.cycle.data,.int .i64 x.system.core.cycle.states,.int .i64 x.system.core.next,.bool x.system.core.hold,.slice x.system.memory.p x.system.memory.n x.system.memory.c,.int .i64 x.system.pic.stage,.bool x.system.pic.level,.bool x.system.pic.four,.bool x.system.pic.single,.bool x.system.pic.fourth,.int .u8 x.system.pic.low,.int .u8 x.system.pic.high,.bool x.system.pic.auto,.bool x.system.pic.rotate,.bool x.system.pic.special,.bool x.system.pic.readISR,.bool x.system.pic.poll,.int .u8 x.system.pic.lines,.int .u8 x.system.pic.edge,.int .u8 x.system.pic.isr,.int .u8 x.system.pic.imr,.int .i64 x.system.pic.lowest,.int .i64 x.system.pic.step,.int .i64 x.system.pic.serving,.bool x.system.pic.spurious,.int .u16 x.system.dma.at_,.int .u8 x.system.dma.value,.int .i64 x.system.dma.left,.int .i64 x.system.waited,.slice x.system.outs.p x.system.outs.n x.system.outs.c]
@[go_sem] theorem SRun.size (x:SRun):(x.cells).size=66:=lay rfl
@[go_sem ↓] theorem SRun.zeroValue (w:World):(zeroValue 54).run prog w=.ok (.agg SRun.zero.cells) w:=lK
@[go_sem ↓] theorem SRun.load (x:Tmp) :
  Oper.wp prog ⟨dst,.load 54 (.tmp x),ty,pos,aft,gd⟩ A w K Q=if zb6 66 (A.eval (.tmp x)) w=true then K (A.put dst (zbh 66 (A.eval (.tmp x)) w)) w else Oper.wp prog ⟨dst,.load 54 (.const (A.eval (.tmp x))),ty,pos,aft,gd⟩ A w K Q:=zbm kR kR dst x ty pos aft gd A w K Q
@[go_sem ↓] theorem SRun.store (x y:Tmp) :
  Oper.wp prog ⟨dst,.store 54 (.tmp x) (.tmp y),ty,pos,aft,gd⟩ A w K Q=if zcz 66 (A.eval (.tmp x)) (A.eval (.tmp y)) w=true then K (A.put dst undef) (zdv (A.eval (.tmp x)) (A.eval (.tmp y)) w) else Oper.wp prog ⟨dst,.store 54 (.const (A.eval (.tmp x))) (.const (A.eval (.tmp y))),ty,pos,aft,gd⟩ A w K Q:=zbg kR dst x y ty pos aft gd A w K Q
@[go_sem] theorem SRun.okl_whole (x:SRun) (t:TypeId) (fr:Nat × Nat):okO 66 (some (.cells x.cells t fr)) 0=true:=lK
@[go_sem] theorem SRun.ld_whole (x:SRun) (t:TypeId) (fr:Nat × Nat):valO 66 (some (.cells x.cells t fr)) 0=.agg (x).cells:=lK
@[go_sem] theorem SRun.oks_whole (x:SRun) (y:SRun) (t:TypeId):okS 66 (some (.cells x.cells t (0,0))) 0 y.cells=true:=lK
@[go_sem] theorem SRun.st_whole (x:SRun) (y:SRun) (t b:Nat) (w:World):stS (some (.cells x.cells t (0,0))) b 0 y.cells w=zai w b (y:SRun).cells t:=lK
@[go_sem] theorem SRun.e_ (x:SRun):(∀ h,x.cells[0]'h=.slice x.trace.p x.trace.n x.trace.c)/\(∀ h,x.cells[2]'h=.slice x.events.p x.events.n x.events.c)/\(∀ h,x.cells[3]'h=.slice x.cpus.p x.cpus.n x.cpus.c)/\(∀ h,x.cells[5]'h=.int .u8 x.system.core.cpu.regs.a)/\(∀ h,x.cells[23]'h=.bool x.system.core.cpu.halted)/\(∀ h,x.cells[40]'h=.slice x.system.memory.p x.system.memory.n x.system.memory.c):=by (repeat' apply And.intro)<;>intros<;>kernel_rfl
structure SRecorder where
 machine:SMachine
 run:SRun
 last:SCPU
def SRecorder.zero:SRecorder:=⟨SMachine.zero,SRun.zero,SCPU.zero⟩
def SRecorder.cells (x:SRecorder):Array Value:=#[.int .i64 x.machine.sys.core.cpu.chip,.int .u8 x.machine.sys.core.cpu.regs.a,.int .u8 x.machine.sys.core.cpu.regs.b,.int .u8 x.machine.sys.core.cpu.regs.c,.int .u8 x.machine.sys.core.cpu.regs.d,.int .u8 x.machine.sys.core.cpu.regs.e,.int .u8 x.machine.sys.core.cpu.regs.h,.int .u8 x.machine.sys.core.cpu.regs.l,.bool x.machine.sys.core.cpu.regs.f.s,.bool x.machine.sys.core.cpu.regs.f.z,.bool x.machine.sys.core.cpu.regs.f.k,.bool x.machine.sys.core.cpu.regs.f.ac,.bool x.machine.sys.core.cpu.regs.f.p,.bool x.machine.sys.core.cpu.regs.f.v,.bool x.machine.sys.core.cpu.regs.f.cy,.int .u16 x.machine.sys.core.cpu.regs.sp,.int .u16 x.machine.sys.core.cpu.regs.pc,.bool x.machine.sys.core.cpu.ie,.bool x.machine.sys.core.cpu.delay,.bool x.machine.sys.core.cpu.halted,.int .u8 x.machine.sys.core.cpu.mask,.bool x.machine.sys.core.cpu.trap,.bool x.machine.sys.core.cpu.r75,.bool x.machine.sys.core.cpu.wasTrap,.bool x.machine.sys.core.cpu.was75,.bool x.machine.sys.core.cpu.saved,.bool x.machine.sys.core.cpu.savedIE,.bool x.machine.sys.core.cpu.sod,.int .i64 x.machine.sys.core.source,.slice x.machine.sys.core.got.p x.machine.sys.core.got.n x.machine.sys.core.got.c,.int .i64 x.machine.sys.core.cycle.kind,.int .u16 x.machine.sys.core.cycle.at_,.int .u8 x.machine.sys.core.cycle.data,.int .i64 x.machine.sys.core.cycle.states,.int .i64 x.machine.sys.core.next,.bool x.machine.sys.core.hold,.slice x.machine.sys.memory.p x.machine.sys.memory.n x.machine.sys.memory.c,.int .i64 x.machine.sys.pic.stage,.bool x.machine.sys.pic.level,.bool x.machine.sys.pic.four,.bool x.machine.sys.pic.single,.bool x.machine.sys.pic.fourth,.int .u8 x.machine.sys.pic.low,.int .u8 x.machine.sys.pic.high,.bool x.machine.sys.pic.auto,.bool x.machine.sys.pic.rotate,.bool x.machine.sys.pic.special,.bool x.machine.sys.pic.readISR,.bool x.machine.sys.pic.poll,.int .u8 x.machine.sys.pic.lines,.int .u8 x.machine.sys.pic.edge,.int .u8 x.machine.sys.pic.isr,.int .u8 x.machine.sys.pic.imr,.int .i64 x.machine.sys.pic.lowest,.int .i64 x.machine.sys.pic.step,.int .i64 x.machine.sys.pic.serving,.bool x.machine.sys.pic.spurious,.int .u16 x.machine.sys.dma.at_,.int .u8 x.machine.sys.dma.value,.int .i64 x.machine.sys.dma.left,.int .i64 x.machine.sys.waited,.slice x.machine.sys.outs.p x.machine.sys.outs.n x.machine.sys.outs.c,.int .i64 x.machine.board.chip,.slice x.machine.board.regions.p x.machine.board.regions.n x.machine.board.regions.c,.int .i64 x.machine.board.iowaits,.int .u8 x.machine.board.picPort,.int .u8 x.machine.board.dmaPort,.bool x.machine.board.jam,.slice x.machine.board.image.p x.machine.board.image.n x.machine.board.image.c,.slice x.run.trace.p x.run.trace.n x.run.trace.c,.slice x.run.items.p x.run.items.n x.run.items.c,.slice x.run.events.p x.run.events.n x.run.events.c,.slice x.run.cpus.p x.run.cpus.n x.run.cpus.c,.int .i64 x.run.system.core.cpu.chip,.int .u8 x.run.system.core.cpu.regs.a,.int .u8 x.run.system.core.cpu.regs.b,.int .u8 x.run.system.core.cpu.regs.c,.int .u8 x.run.system.core.cpu.regs.d,.int .u8 x.run.system.core.cpu.regs.e,.int .u8 x.run.system.core.cpu.regs.h,.int .u8 x.run.system.core.cpu.regs.l,.bool x.run.system.core.cpu.regs.f.s,.bool x.run.system.core.cpu.regs.f.z,.bool x.run.system.core.cpu.regs.f.k,.bool x.run.system.core.cpu.regs.f.ac,.bool x.run.system.core.cpu.regs.f.p,.bool x.run.system.core.cpu.regs.f.v,.bool x.run.system.core.cpu.regs.f.cy,.int .u16 x.run.system.core.cpu.regs.sp,.int .u16 x.run.system.core.cpu.regs.pc,.bool x.run.system.core.cpu.ie,.bool x.run.system.core.cpu.delay,.bool x.run.system.core.cpu.halted,.int .u8 x.run.system.core.cpu.mask,.bool x.run.system.core.cpu.trap,.bool x.run.system.core.cpu.r75,.bool x.run.system.core.cpu.wasTrap,.bool x.run.system.core.cpu.was75,.bool x.run.system.core.cpu.saved,.bool x.run.system.core.cpu.savedIE,.bool x.run.system.core.cpu.sod,.int .i64 x.run.system.core.source,.slice x.run.system.core.got.p x.run.system.core.got.n x.run.system.core.got.c,.int .i64 x.run.system.core.cycle.kind,.int .u16 x.run.system.core.cycle.at_,.int .u8 x.run.system.core.cycle.data,.int .i64 x.run.system.core.cycle.states,.int .i64 x.run.system.core.next,.bool x.run.system.core.hold,.slice x.run.system.memory.p x.run.system.memory.n x.run.system.memory.c,.int .i64 x.run.system.pic.stage,.bool x.run.system.pic.level,.bool x.run.system.pic.four,.bool x.run.system.pic.single,.bool x.run.system.pic.fourth,.int .u8 x.run.system.pic.low,.int .u8 x.run.system.pic.high,.bool x.run.system.pic.auto,.bool x.run.system.pic.rotate,.bool x.run.system.pic.special,.bool x.run.system.pic.readISR,.bool x.run.system.pic.poll,.int .u8 x.run.system.pic.lines,.int .u8 x.run.system.pic.edge,.int .u8 x.run.system.pic.isr,.int .u8 x.run.system.pic.imr,.int .i64 x.run.system.pic.lowest,.int .i64 x.run.system.pic.step,.int .i64 x.run.system.pic.serving,.bool x.run.system.pic.spurious,.int .u16 x.run.system.dma.at_,.int .u8 x.run.system.dma.value,.int .i64 x.run.system.dma.left,.int .i64 x.run.system.waited,.slice x.run.system.outs.p x.run.system.outs.n x.run.system.outs.c,.int .i64 x.last.chip,.int .u8 x.last.regs.a,.int .u8 x.last.regs.b,.int .u8 x.last.regs.c,.int .u8 x.last.regs.d,.int .u8 x.last.regs.e,.int .u8 x.last.regs.h,.int .u8 x.last.regs.l,.bool x.last.regs.f.s,.bool x.last.regs.f.z,.bool x.last.regs.f.k,.bool x.last.regs.f.ac,.bool x.last.regs.f.p,.bool x.last.regs.f.v,.bool x.last.regs.f.cy,.int .u16 x.last.regs.sp,.int .u16 x.last.regs.pc,.bool x.last.ie,.bool x.last.delay,.bool x.last.halted,.int .u8 x.last.mask,.bool x.last.trap,.bool x.last.r75,.bool x.last.wasTrap,.bool x.last.was75,.bool x.last.saved,.bool x.last.savedIE,.bool x.last.sod]
@[go_sem] theorem SRecorder.size (x:SRecorder):(x.cells).size=163:=lay rfl
@[go_sem ↓] theorem SRecorder.zeroValue (w:World):(zeroValue 93).run prog w=.ok (.agg SRecorder.zero.cells) w:=lK
@[go_sem] theorem SRecorder.okl_ (x:SRecorder):(∀ (t:TypeId) (fr:Nat × Nat),okO 62 (some (.cells x.cells t fr)) 0=true)/\(∀ (t:TypeId) (fr:Nat × Nat),okO 36 (some (.cells x.cells t fr)) 0=true)/\(∀ (t:TypeId) (fr:Nat × Nat),okO 28 (some (.cells x.cells t fr)) 0=true)/\(∀ (t:TypeId) (fr:Nat × Nat),okO 66 (some (.cells x.cells t fr)) 69=true)/\(∀ (t:TypeId) (fr:Nat × Nat),okO 28 (some (.cells x.cells t fr)) 135=true):=by (repeat' apply And.intro)<;>intros<;>kernel_rfl
@[go_sem] theorem SRecorder.ld_ (x:SRecorder):(∀ (t:TypeId) (fr:Nat × Nat),valO 62 (some (.cells x.cells t fr)) 0=.agg (x.machine.sys).cells)/\(∀ (t:TypeId) (fr:Nat × Nat),valO 36 (some (.cells x.cells t fr)) 0=.agg (x.machine.sys.core).cells)/\(∀ (t:TypeId) (fr:Nat × Nat),valO 28 (some (.cells x.cells t fr)) 0=.agg (x.machine.sys.core.cpu).cells)/\(∀ (t:TypeId) (fr:Nat × Nat),valO 66 (some (.cells x.cells t fr)) 69=.agg (x.run).cells)/\(∀ (t:TypeId) (fr:Nat × Nat),valO 28 (some (.cells x.cells t fr)) 135=.agg (x.last).cells):=by (repeat' apply And.intro)<;>intros<;>kernel_rfl
@[go_sem] theorem SRecorder.oks_ (x:SRecorder):(∀ (y:SSystem) (t:TypeId),okS 62 (some (.cells x.cells t (0,0))) 73 y.cells=true)/\(∀ (y:SCPU) (t:TypeId),okS 28 (some (.cells x.cells t (0,0))) 135 y.cells=true):=by (repeat' apply And.intro)<;>intros<;>kernel_rfl
@[go_sem] theorem SRecorder.st_ (x:SRecorder):(∀ (y:SSystem) (t b:Nat) (w:World),stS (some (.cells x.cells t (0,0))) b 73 y.cells w=zai w b ({ x with run := { x.run with system:=y } }:SRecorder).cells t)/\(∀ (y:SCPU) (t b:Nat) (w:World),stS (some (.cells x.cells t (0,0))) b 135 y.cells w=zai w b ({ x with last:=y }:SRecorder).cells t):=by (repeat' apply And.intro)<;>intros<;>kernel_rfl
@[go_sem] theorem SRecorder.e_ (x:SRecorder):(∀ h,x.cells[69]'h=.slice x.run.trace.p x.run.trace.n x.run.trace.c)/\(∀ h,x.cells[70]'h=.slice x.run.items.p x.run.items.n x.run.items.c)/\(∀ h,x.cells[71]'h=.slice x.run.events.p x.run.events.n x.run.events.c)/\(∀ h,x.cells[72]'h=.slice x.run.cpus.p x.run.cpus.n x.run.cpus.c):=by (repeat' apply And.intro)<;>intros<;>kernel_rfl
@[go_sem] theorem SRecorder.s_ (x:SRecorder):(∀ (p:Option Addr) (n c:Nat),x.cells.setIfInBounds 69 (.slice p n c)=({ x with run := { x.run with trace:=⟨p,n,c⟩ } }:SRecorder).cells)/\(∀ (p:Option Addr) (n c:Nat),x.cells.setIfInBounds 70 (.slice p n c)=({ x with run := { x.run with items:=⟨p,n,c⟩ } }:SRecorder).cells)/\(∀ (p:Option Addr) (n c:Nat),x.cells.setIfInBounds 71 (.slice p n c)=({ x with run := { x.run with events:=⟨p,n,c⟩ } }:SRecorder).cells)/\(∀ (p:Option Addr) (n c:Nat),x.cells.setIfInBounds 72 (.slice p n c)=({ x with run := { x.run with cpus:=⟨p,n,c⟩ } }:SRecorder).cells):=by (repeat' apply And.intro)<;>intros<;>kernel_rfl
def SRecorder.places:Array (Nat × Nat):=#[(0,69),(69,66),(135,28)]
def SRecorder.fill (x:SRecorder) (l:List (Nat × Value)):Option (Array Value):=Instr.fill (SRecorder.places[·]?) x.cells l
@[go_sem] theorem SRecorder.fill_ (x:SRecorder):(SRecorder.fill x []=some x.cells)/\(∀ (y:SMachine) (r:List (Nat × Value)),SRecorder.fill x ((0,.agg y.cells)::r)=SRecorder.fill { x with machine:=y } r)/\(∀ (y:SCPU) (r:List (Nat × Value)),SRecorder.fill x ((2,.agg y.cells)::r)=SRecorder.fill { x with last:=y } r):=by (repeat' apply And.intro)<;>intros<;>kernel_rfl
@[go_sem ↓] theorem SRecorder.build (parts:Array (Nat × Operand)) (h:(SRecorder.fill SRecorder.zero (parts.toList.map fun p=>(p.1,A.eval p.2))).isSome=true) :
  Oper.wp prog ⟨dst,.build 93 parts,ty,pos,aft,gd⟩ A w K Q=K (A.put dst (.agg ((SRecorder.fill SRecorder.zero (parts.toList.map fun p=>(p.1,A.eval p.2))).getD #[]))) w:=zba (fields:=zcm prog 93) (places:=SRecorder.places) (fun w=>SRecorder.zeroValue w) kR (fun w=>kR) dst parts ty pos aft gd A w K Q h
end
section
open Go.RowKit
def zqi (c:Int) (r:Int) (p:Int):Int:=
 bits .xor .u8 (bits .xor .u8 (bits .xor .u8 c r) p) 165
theorem zlq (c:Int) (r:Int) (p:Int) (w:World)  :
  Calls prog 31 #[.int .u8 c,.int .u8 r,.int .u8 p] w fun e w'=>e=.returned (.int .u8 (zqi c r p))/\w=w':=by
 all_goals
  go_enter func31,ntmps31
  go_wp2_with fail
  all_goals
   go_ret
   refine ⟨?_,rfl⟩
   (try simp only [beq_iff_eq,beq_eq_false_iff_ne,ne_eq,bne_iff_ne,bne_eq_false_iff_eq] at *);first|(simp [go_sem,↓iteOmega,zqi, *]<;>first|omega|((repeat' split)<;>first|rfl|omega|simp_all))|(exfalso;omega)
def zez (c:Int) (r:Int) (p:Int):Int:=
 zqi c r p
theorem zpd (c:Int) (r:Int) (p:Int) (w:World)  :
  Calls prog 68 #[.int .u8 c,.int .u8 r,.int .u8 p] w fun e w'=>e=.returned (.int .u8 (zez c r p))/\w=w':=by
 all_goals
  go_enter func68,ntmps68
  go_wp2_with fail
  all_goals
   go_ret
   refine ⟨?_,rfl⟩
   (try simp only [beq_iff_eq,beq_eq_false_iff_ne,ne_eq,bne_iff_ne,bne_eq_false_iff_eq] at *);first|(simp [go_sem,↓iteOmega,zez, *]<;>first|omega|((repeat' split)<;>first|rfl|omega|simp_all))|(exfalso;omega)
def idleIn  : SInput:=
 { SInput.zero with ready:=true }
theorem zlj  (w:World)  :
  Calls prog 30 #[] w fun e w'=>e=.returned (.agg (idleIn).cells)/\Below w.heap.size w w':=by
 all_goals
  go_enter func30,ntmps30
  go_wp2_with fail
  all_goals
   refine SInput.ret (idleIn) rfl rfl ?_ rfl ⟨rfl,bL⟩
   (try simp only [beq_iff_eq,beq_eq_false_iff_ne,ne_eq,bne_iff_ne,bne_eq_false_iff_eq] at *);first|(simp [go_sem,↓iteOmega,idleIn, *]<;>first|omega|((repeat' split)<;>first|rfl|omega|simp_all))|(exfalso;omega)
def zjd  : SInput:=
 idleIn
theorem zrj  (w:World)  :
  Calls prog 95 #[] w fun e w'=>e=.returned (.agg (zjd).cells)/\Below w.heap.size w w':=by
 all_goals
  go_enter func95,ntmps95
  go_wp2_with fail
  all_goals
   refine SInput.ret (zjd) rfl rfl ?_ rfl ⟨rfl,bL⟩
   (try simp only [beq_iff_eq,beq_eq_false_iff_ne,ne_eq,bne_iff_ne,bne_eq_false_iff_eq] at *);first|(simp [go_sem,↓iteOmega,zjd, *]<;>first|omega|((repeat' split)<;>first|rfl|omega|simp_all))|(exfalso;omega)
theorem ze6 (on:Bool) (n:Int) (w:World) (h0:0<=n) (h1:n<=7) :
  Calls prog 67 #[.bool on,.int .i64 n] w fun e w'=>(∃ v:Int,e=.returned (.int .u8 v)/\0<=v/\v<=255)/\w=w':=by
 have hq:n=0\/n=1\/n=2\/n=3\/n=4\/n=5\/n=6\/n=7:=oM
 clear h0 h1
 cases on
 ·go_enter func67,ntmps67
  go_wp2_with fail
  go_ret
  exact ⟨⟨_,rfl,oM,oM⟩,rfl⟩
 ·rcases hq with rfl|rfl|rfl|rfl|rfl|rfl|rfl|rfl
  all_goals
   go_enter func67,ntmps67
   go_wp2_with fail
   go_ret
   exact ⟨⟨_,rfl,dC,dC⟩,rfl⟩
theorem ztr (c n:Int) (b:Nat) (w:World) (hc:w.cell? ⟨b,0,none⟩=some (.int .u8 c)) (h0:0<=n) (h1:n<=7) :
  Calls prog 62 #[.int .i64 n,.pointer (some ⟨b,0,none⟩)] w fun e w'=>(∃ v:Bool,e=.returned (.bool v))/\w=w':=by
 go_enter func62,ntmps62
 go_wp2_with fail
 go_ret
 exact ⟨⟨_,rfl⟩,rfl⟩
end
section
open Go.RowKit
theorem ztq (c:Int) (w:World) :
  Calls prog 32 #[.int .u8 c] w fun e w'=>(∃ i:SInput,e=.returned (.agg i.cells)/\i.requests=0/\i.port=0)/\Below w.heap.size w w':=by
 go_enter func32,ntmps32
 go_wp2_with (first|(go_at_call 62;(refine (ztr c _ w.heap.size _ (by simp [go_sem]) oM oM).mono ?_);rintro e w' ⟨⟨v,rfl⟩,rfl⟩))
 rename_i v0 v1 v2 v3 v4 v5 v6
 refine SInput.ret ⟨!v0,v1,v2,v3,v4,v5,v6,v,0,0⟩ rfl rfl ?_ rfl ⟨⟨_,rfl,rfl,rfl⟩,bL⟩
 simp [go_sem,↓iteOmega, *]
 rfl
end
section
open Go.RowKit
theorem zlh (c:SCell) (r:List SCell):isMem (c::r)=(c.val != 0&&(match r with | []=>true|d::_=>decide (c.at_<d.at_))&&isMem r):=by
 cases r<;>simp [isMem]
theorem zfq (M:List SCell):isMem M=true ↔ ∀ j,∀ hj:j<M.length,M[j].val≠0/\∀ h0:0<j,(M[j-1]'oM).at_<M[j].at_:=by
 induction M with
 | nil=>simp [isMem]
 | cons c r ih=>
  rw [zlh]
  simp only [Bool.and_eq_true,bne_iff_ne,ne_eq,ih]
  constructor
  ·rintro ⟨⟨h1,h2⟩,h3⟩ j hj
   cases j with
   | zero=>exact ⟨h1,fun h=>absurd h oM⟩
   | succ j=>
    have:=h3 j (by simpa using hj)
    refine ⟨by simpa using this.1,fun _=>?_⟩
    cases j with
    | zero=>
     cases r with
     | nil=>simp at hj
     | cons d r=>simpa using h2
    | succ j=>simpa using this.2 oM
  ·intro h
   have h0:=h 0 sI
   refine ⟨⟨by simpa using h0.1,?_⟩,fun j hj=>?_⟩
   ·cases r with
    | nil=>rfl
    | cons d r=>exact decide_eq_true ((h 1 sI).2 oM)
   ·have:=h (j+1) (by simpa using hj)
    refine ⟨by simpa using this.1,fun h0=>?_⟩
    have h2:=this.2 oM
    cases j with
    | zero=>omega
    | succ j=>simpa using h2
theorem zp5 {M:List SCell} (h:isMem M=true):∀ (d i:Nat) (hj:i+d+1<M.length),(M[i]'oM).at_<(M[i+d+1]'hj).at_
 | 0,i,hj=>by have:=((zfq M).1 h (i+1) hj).2 oM;simpa using this
 | d+1,i,hj=>by
  have h1:=zp5 h d i oM
  have h2:=((zfq M).1 h (i+d+1+1) oM).2 oM
  have e:i+(d+1)+1=i+d+1+1:=oM
  simp only [e]
  simp only [Nat.add_sub_cancel] at h2
  omega
theorem zdx {M:List SCell} (h:isMem M=true) (i j:Nat) (hij:i<j) (hj:j<M.length):(M[i]'oM).at_<(M[j]'hj).at_:=by
 have:=zp5 h (j-i-1) i oM
 have e:i+(j-i-1)+1=j:=oM
 simpa only [e] using this
def lbC:List SCell->Int->Nat
 | [],_=>0
 | c::r,a=>if c.at_<a then lbC r a+1 else 0
def zd8 (M:List SCell) (a:Int):Bool:=match M[lbC M a]? with|some c=>c.at_==a|none=>false
theorem zxv:∀ (M:List SCell) (a:Int),lbC M a<=M.length
 | [],_=>by simp [lbC]
 | c::r,a=>by
  unfold lbC
  split
  ·have:=zxv r a
   simp;omega
  ·simp
theorem zxw:∀ (M:List SCell) (a:Int) (i:Nat) (hi:i<=M.length) (h1:∀ j,∀ hj:j<i,(M[j]'oM).at_<a) (h2:∀ h:i<M.length,a<=M[i].at_),lbC M a=i
 | [],a,i,hi,_,_=>by simp at hi;simp [lbC,hi]
 | c::r,a,0,hi,h1,h2=>by
  have:=h2 sI
  simp only [List.getElem_cons_zero] at this
  simp [lbC];omega
 | c::r,a,i+1,hi,h1,h2=>by
  have h0:=h1 0 oM
  simp only [List.getElem_cons_zero] at h0
  unfold lbC
  rw [if_pos h0,zxw r a i (by simpa using hi) (fun j hj=>by simpa using h1 (j+1) oM) (fun h=>h2 (by simpa using h))]
theorem zsz:∀ (M:List SCell) (a v:Int),putC M a v =
  if v=0 then (if zd8 M a=true then M.take (lbC M a)++M.drop (lbC M a+1) else M)
  else if zd8 M a=true then M.set (lbC M a) ⟨a,v⟩ else M.take (lbC M a)++⟨a,v⟩::M.drop (lbC M a)
 | [],a,v=>by simp [putC,zd8,lbC]
 | c::r,a,v=>by
  have ih:=zsz r a v
  by_cases h1:c.at_<a
  ·have e1:lbC (c::r) a=lbC r a+1:=by simp [lbC,h1]
   have e2:zd8 (c::r) a=zd8 r a:=by simp [zd8,e1]
   have e3:putC (c::r) a v=c::putC r a v:=by simp [putC,h1]
   rw [e3,e1,e2,ih]
   by_cases hv:v=0<;>cases ht:zd8 r a<;>simp [hv]
  ·have e1:lbC (c::r) a=0:=by simp [lbC,h1]
   have e2:zd8 (c::r) a=(c.at_==a):=by simp [zd8,e1]
   rw [e1,e2]
   unfold putC
   rw [if_neg h1]
   by_cases h2:c.at_=a<;>by_cases hv:v=0<;>simp [h2,hv]
theorem zl1:∀ (M:List SCell) (a v:Int) (d:SCell),d ∈ putC M a v->d ∈ M\/(d=⟨a,v⟩/\v≠0)
 | [],a,v,d,h=>by
  unfold putC at h
  split at h
  ·simp at h
  ·exact .inr ⟨by simpa using h,‹_›⟩
 | c::r,a,v,d,h=>by
  unfold putC at h
  repeat' split at h
  ·rcases List.mem_cons.1 h with rfl|h
   ·simp
   ·rcases zl1 r a v d h with h|h
    ·simp [h]
    ·exact .inr h
  ·simp [h]
  ·rcases List.mem_cons.1 h with rfl|h
   ·exact .inr ⟨rfl,‹_›⟩
   ·simp [h]
  ·exact .inl h
  ·rcases List.mem_cons.1 h with rfl|h
   ·exact .inr ⟨rfl,‹_›⟩
   ·exact .inl h
theorem zl2:∀ (M:List SCell) (a v:Int),(putC M a v).length<=M.length+1
 | [],a,v=>by unfold putC;split<;>simp
 | c::r,a,v=>by
  have:=zl2 r a v
  unfold putC
  repeat' split
  all_goals (simp only [List.length_cons];omega)
structure MemOk (M:List SCell):Prop where
 rise:M.Pairwise fun c d=>c.at_<d.at_
 ok:∀ c ∈ M,c.val≠0/\0<=c.val/\c.val<=255/\0<=c.at_/\c.at_<=65535
theorem MemOk.nil:MemOk []:=⟨List.Pairwise.nil,by simp⟩
theorem MemOk.isMem:∀ {M:List SCell},MemOk M->isMem M=true
 | [],_=>rfl
 | c::r,h=>by
  have h1:=List.pairwise_cons.1 h.rise
  rw [zlh,MemOk.isMem ⟨h1.2,fun d hd=>h.ok d (by simp [hd])⟩]
  have:=(h.ok c sI).1
  cases r with
  | nil=>simp [this]
  | cons d r=>simp [this,h1.1 d sI]
theorem MemOk.of_isMem:∀ {M:List SCell},(∀ c ∈ M,0<=c.val/\c.val<=255/\0<=c.at_/\c.at_<=65535)->Go.Proofs.YtlmbamdkklkliaaGreat.isMem M=true->MemOk M:=by
 intro M hb h
 refine ⟨?_,fun c hc=>?_⟩
 ·rw [List.pairwise_iff_getElem]
  intro i j hi hj hij
  exact zdx h i j hij hj
 ·obtain ⟨i,hi,rfl⟩:=List.getElem_of_mem hc
  exact ⟨((zfq M).1 h i hi).1,hb _ hc⟩
theorem MemOk.put:∀ {M:List SCell} (a v:Int),MemOk M->0<=a/\a<=65535->0<=v/\v<=255->MemOk (putC M a v):=by
 intro M a v h ha hv
 refine ⟨?_,fun d hd=>?_⟩
 ·have hr:=h.rise
  clear h
  induction M with
  | nil=>unfold putC;split<;>simp
  | cons c r ih=>
   have h1:=List.pairwise_cons.1 hr
   unfold putC
   by_cases h2:c.at_<a
   ·rw [if_pos h2,List.pairwise_cons]
    refine ⟨fun d hd=>?_,ih h1.2⟩
    rcases zl1 r a v d hd with h|h
    ·exact h1.1 d h
    ·rw [h.1];exact h2
   ·rw [if_neg h2]
    by_cases h3:c.at_=a
    ·rw [if_pos h3]
     split
     ·exact h1.2
     ·rw [List.pairwise_cons]
      exact ⟨fun d hd=>by have:=h1.1 d hd;rw [h3] at this;exact this,h1.2⟩
    ·rw [if_neg h3]
     split
     ·exact hr
     ·rw [List.pairwise_cons]
      refine ⟨fun d hd=>?_,hr⟩
      show a<d.at_
      rcases List.mem_cons.1 hd with rfl|hd
      ·omega
      ·have:=h1.1 d hd;omega
 ·rcases zl1 M a v d hd with h1|h1
  ·exact h.ok d h1
  ·rw [h1.1];exact ⟨h1.2,hv.1,hv.2,ha.1,ha.2⟩
def zjk (l:List SCell):List SCell:=if isMem l=true then l else l.foldl (fun o c=>putC o c.at_ c.val) []
theorem zmf:∀ (l o:List SCell),MemOk o->(∀ c ∈ l,0<=c.val/\c.val<=255/\0<=c.at_/\c.at_<=65535)->MemOk (l.foldl (fun o c=>putC o c.at_ c.val) o)/\(l.foldl (fun o c=>putC o c.at_ c.val) o).length<=o.length+l.length
 | [],o,h,_=>⟨h,by simp⟩
 | c::l,o,h,hb=>by
  have hc:=hb c sI
  have:=zmf l (putC o c.at_ c.val) (h.put _ _ ⟨hc.2.2.1,hc.2.2.2⟩ ⟨hc.1,hc.2.1⟩) (fun d hd=>hb d (by simp [hd]))
  refine ⟨this.1,?_⟩
  have h2:=zl2 o c.at_ c.val
  simp only [List.foldl_cons,List.length_cons]
  omega
theorem zp3 (l:List SCell) (hb:∀ c ∈ l,0<=c.val/\c.val<=255/\0<=c.at_/\c.at_<=65535):MemOk (zjk l)/\(zjk l).length<=l.length:=by
 unfold zjk
 split
 ·exact ⟨MemOk.of_isMem hb ‹_›,Nat.le_refl _⟩
 ·have:=zmf l [] MemOk.nil hb
  exact ⟨this.1,by simpa using this.2⟩
theorem zqc:∀ (M:List SCell) (a:Int) (k:Nat) (hk:k<M.length),M[k].at_=a->(∀ j,∀ hj:j<M.length,k<j->M[j].at_≠a)->getC M a=M[k].val
 | [],_,_,hk,_,_=>by simp at hk
 | c::r,a,0,hk,h1,h2=>by
  have:(r.any fun d=>d.at_==a)=false:=by
   rw [List.any_eq_false]
   intro d hd
   obtain ⟨j,hj,rfl⟩:=List.getElem_of_mem hd
   have:=h2 (j+1) (by simpa using hj) oM
   exact fun e=>this (by simpa using e)
  simp only [List.getElem_cons_zero] at h1
  simp [getC,this,h1]
 | c::r,a,k+1,hk,h1,h2=>by
  have hk':k<r.length:=by simpa using hk
  have:(r.any fun d=>d.at_==a)=true:=by
   rw [List.any_eq_true]
   exact ⟨r[k],List.getElem_mem _,by simpa using h1⟩
  have ih:=zqc r a k hk' (by simpa using h1) (fun j hj hkj=>h2 (j+1) (by simpa using hj) oM)
  simp [getC,this,ih]
theorem ztw:∀ (M:List SCell) (a:Int),(∀ j,∀ hj:j<M.length,M[j].at_≠a)->getC M a=0
 | [],_,_=>rfl
 | c::r,a,h=>by
  have:(r.any fun d=>d.at_==a)=false:=by
   rw [List.any_eq_false]
   intro d hd
   obtain ⟨j,hj,rfl⟩:=List.getElem_of_mem hd
   exact fun e=>h (j+1) (by simpa using hj) (by simpa using e)
  have h0:c.at_≠a:=h 0 sI
  simp [getC,this,h0]
theorem zzj {M:List SCell} (h:MemOk M) (a:Int):0<=getC M a/\getC M a<=255:=by
 have hb:∀ c ∈ M,0<=c.val/\c.val<=255:=fun c hc=>⟨(h.ok c hc).2.1,(h.ok c hc).2.2.1⟩
 clear h
 induction M with
 | nil=>simp [getC]
 | cons c r ih=>
  unfold getC
  have:=hb c sI
  have:=ih fun d hd=>hb d (by simp [hd])
  repeat' split
  all_goals omega
theorem zvf {M:List SCell} (L:List SRegion) (h:MemOk M) (a:Int):0<=zjj L M a/\zjj L M a<=255:=by
 unfold zjj
 split
 ·omega
 ·exact zzj h a
theorem zjr {M:List SCell} (L:List SRegion) (h:MemOk M) (a v:Int) (ha:0<=a/\a<=65535) (hv:0<=v/\v<=255):MemOk (zen L M a v):=by
 unfold zen
 split
 ·split
  ·exact h.put a v ha hv
  ·exact h
 ·exact h
theorem zit (L:List SRegion) (M:List SCell) (a v:Int):(zen L M a v).length<=M.length+1:=by
 unfold zen
 repeat' split
 ·exact zl2 _ _ _
 all_goals omega
end
section
open Go.RowKit
theorem zcd (op:BinOp) (a b:Int):0<=bits op .u8 a b/\bits op .u8 a b<=255:=by
 have key:∀ n:Int,0<=IntKind.u8.wrap n/\IntKind.u8.wrap n<=255:=fun n=>by rw [IntKind.wrap_u8];omega
 unfold bits
 exact key _
def hit (s l:Int):Bool:=bits .and .u8 (s / 2 ^ l.toNat) 1==1
def zim (s m:Int):Nat->Int->Int
 | 0,_ => -1
 | n+1,q=>if hit s ((m+q)%8) then (m+q)%8 else zim s m n (q+1)
def zdy (s m:Int):Int:=zim s m 8 1
theorem zng (s m:Int):∀ n q,-1<=zim s m n q/\zim s m n q<=7
 | 0,_=>by simp [zim]
 | n+1,q=>by
  unfold zim
  split
  ·omega
  ·exact zng s m n (q+1)
theorem zfg (s m:Int) : -1<=zdy s m/\zdy s m<=7:=zng s m 8 1
theorem zc8 (s m:Int) (w:World) (h0:0<=s) (h1:s<=255):Calls prog 133 #[.int .u8 s,.int .i64 m] w fun e w'=>e=.returned (.int .i64 (zdy s m))/\w=w':=by
 have hm:=zd7 m
 go_enter func133,ntmps133
 go_wp2_with fail
 go_loop [5] (fun k=>∃ (f:Nat) (q:Int),q+f=9/\1<=q/\q<=9/\Hid (zdy s m=zim s m f q)/\k=.int .i64 q) (fun k=>(9-intOf k).toNat)
 case atStart=>exact ⟨8,1,oM,oM,oM,rfl,rfl⟩
 case round=>
  obtain ⟨f,q,qf,q1,q2,hH,rfl⟩:=hrel
  have hq:=zd7 (m%8+q)
  by_cases hk:q<=8
  ·have hl0:0<=(m%8+q)%8:=oM
   have hl1:(m%8+q)%8<=7:=oM
   obtain ⟨g,rfl⟩:∃ g,f=g+1:=⟨f-1,oM⟩
   go_wp2_with fail
   case roundEnd=>
    refine ⟨⟨g,q+1,oM,oM,oM,?_,rfl⟩,by simp [intOf];omega⟩
    have e:=hH.out
    unfold zim hit at e
    rw [if_neg (by simp [*])] at e
    exact e
   ·go_ret
    refine ⟨zyl ?_,rfl⟩
    have e:=hH.out
    unfold zim hit at e
    rw [if_pos aS] at e
    exact e.symm
  ·obtain rfl:f=0:=oM
   go_wp2_with fail
   go_ret
   exact ⟨zyl (by rw [hH.out];rfl),rfl⟩
def rank (l:Int) (m:Int):Int:=
 (l%8-m%8+7)%8
theorem zvj (l:Int) (m:Int) (w:World)  :
  Calls prog 155 #[.int .i64 l,.int .i64 m] w fun e w'=>e=.returned (.int .i64 (rank l m))/\w=w':=by
 have hm1:=zd7 l
 have hm2:=zd7 m
 have hm3:=zd7 (l%8-m%8+7)
 all_goals
  go_enter func155,ntmps155
  go_wp2_with fail
  all_goals
   go_ret
   refine ⟨?_,rfl⟩
   (try simp only [beq_iff_eq,beq_eq_false_iff_ne,ne_eq,bne_iff_ne,bne_eq_false_iff_eq] at *);first|(simp [go_sem,↓iteOmega,rank, *]<;>first|omega|((repeat' split)<;>first|rfl|omega|simp_all))|(exfalso;omega)
def zwb (imr isr:Int) (sp:Bool):Int:=if sp then bits .andNot .u8 isr imr else isr
def zs4 (irr imr isr m:Int) (sp:Bool):Int:=
 if zdy (bits .andNot .u8 irr imr) m<0\/(0<=zdy (zwb imr isr sp) m/\rank (zdy (zwb imr isr sp) m) m<=rank (zdy (bits .andNot .u8 irr imr) m) m) then -1 else zdy (bits .andNot .u8 irr imr) m
theorem zs3 (irr imr isr m:Int) (sp:Bool) (w:World) (h0:0<=isr) (h1:isr<=255):Calls prog 129 #[.int .u8 irr,.int .u8 imr,.int .u8 isr,.int .i64 m,.bool sp] w fun e w'=>e=.returned (.int .i64 (zs4 irr imr isr m sp))/\w=w':=by
 have b1:=(zcd .andNot irr imr).1
 have b2:=(zcd .andNot irr imr).2
 have b3:=(zcd .andNot isr imr).1
 have b4:=(zcd .andNot isr imr).2
 cases sp
 all_goals
  go_enter func129,ntmps129
  go_wp2_with (first|with_reducible refine Cpv (zc8 _ _ _ oM oM) ?_|with_reducible refine Cpv (zvj _ _ _) ?_)
  all_goals
   go_ret
   refine ⟨zyl ?_,rfl⟩
   first|(simp [zs4,zwb, *];done)|(simp only [zs4,zwb];simp;first|rw [if_pos oM]|rw [if_neg oM]|omega)
end
end Go.Proofs.YtlmbamdkklkliaaGreat
