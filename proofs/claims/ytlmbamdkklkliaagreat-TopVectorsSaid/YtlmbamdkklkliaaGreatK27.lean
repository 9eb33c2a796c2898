/- Part of the proof that a law holds at every input. No conditions. -/
import Derived.Deep.RegionWith
import Derived.RegionTactic
import Derived.Test.YtlmbamdkklkliaaGreatK04
import Derived.Test.YtlmbamdkklkliaaGreatK25
namespace Go.Proofs.YtlmbamdkklkliaaGreat
set_option linter.unusedVariables false
set_option linter.unusedSimpArgs false
set_option linter.unusedSectionVars false
set_option maxRecDepth 100000
set_option maxHeartbeats 16000000
open Go.Proofs.Tryz
section
open Go.RowKit
structure FinA (n0:Nat) (w0:World) (b ob:Nat) (P:SPlan) (G:List Int) (O:SCPU) (w:World):Prop where
 plan:PlanAt n0 b P G [] w
 out:blk w ob=some (.cells O.cells 41)
 lo:n0<=ob
 bel:w0.grownBy w (some ob)
section
variable {n0 b ob:Nat} {w0 w w':World} {P:SPlan} {G:List Int} {O O':SCPU}
section
variable (h:FinA n0 w0 b ob P G O w)
include h
theorem FinA.lt:ob<w.heap.size:=(zaa h.out).2.2
theorem FinA.ne:ob≠b:=fun e=>by
 have h1:=h.plan.at_
 rw [<- e,h.out] at h1
 simp only [Option.some.injEq,Obj.cells.injEq] at h1
 exact absurd h1.2.1 dC
theorem FinA.thru (hb:Below w.heap.size w w'):FinA n0 w0 b ob P G O w':=
 ⟨h.plan.thru hb,(hb.block ob h.lt).trans h.out,h.lo,⟨hb.os.trans h.bel.os,hb.tape.trans h.bel.tape,hb.output.trans h.bel.output,Nat.le_trans h.bel.size hb.size,fun k hk hne=>(hb.block k (Nat.lt_of_lt_of_le hk h.bel.size)).trans (h.bel.block k hk hne)⟩⟩
theorem FinA.drew:FinA n0 w0 b ob P G O w.drew:=⟨h.plan.drew,h.out,h.lo,⟨h.bel.os,h.bel.tape,h.bel.output,h.bel.size,h.bel.block⟩⟩
theorem FinA.regrown (hw:∃ p:Regrown,w'=Go.Sort.grow (redrawn w p.d) p.os):FinA n0 w0 b ob P G O w':=by
 obtain ⟨p,rfl⟩:=hw
 exact h.thru (below_regrown w p.d p.os)
theorem FinA.set (O':SCPU):FinA n0 w0 b ob P G O' (zai w ob O'.cells 41):=by
 have hB:Below n0 w (zai w ob O'.cells 41):=zae (Below.refl _ _) h.lo
 exact ⟨⟨(blk_setBlk_other _ _ _ _ _ (Ne.symm h.ne)).trans h.plan.at_,h.plan.lo,h.plan.got.thru hB nL,by rw [size_setBlk];exact h.plan.cyc.set h.out dC⟩,blk_setBlk_same _ _ _ _ h.lt,h.lo,⟨hB.os.trans h.bel.os,hB.tape.trans h.bel.tape,hB.output.trans h.bel.output,Nat.le_trans h.bel.size hB.size,fun k hk hne=>(zbw _ _ _ _ _ (fun e=>hne (by rw [e]))).trans (h.bel.block k hk hne)⟩⟩
theorem FinA.facts:(∀ i,w.cell? ⟨b,i,none⟩=P.cells[i]?)/\(∀ i,w.cell? ⟨ob,i,none⟩=O.cells[i]?)/\(∀ i,w.frozen? ⟨ob,i,none⟩=false)/\blk w b=some (.cells P.cells 198)/\blk w ob=some (.cells O.cells 41)/\ob<w.heap.size:=
 ⟨(zaa h.plan.at_).1,(zaa h.out).1,(zaa h.out).2.1,h.plan.at_,h.out,h.lt⟩
theorem FinA.qfacts:(∀ d os,blk (Go.Sort.grow (redrawn w d) os) b=some (.cells P.cells 198))/\(∀ d os,blk (Go.Sort.grow (redrawn w d) os) ob=some (.cells O.cells 41)) /\
  (∀ i d os,(Go.Sort.grow (redrawn w d) os).cell? ⟨b,i,none⟩=P.cells[i]?)/\(∀ i d os,(Go.Sort.grow (redrawn w d) os).cell? ⟨ob,i,none⟩=O.cells[i]?):=
 have h1:=fun d os=>((below_regrown w d os).block b h.plan.lt).trans h.plan.at_
 have h2:=fun d os=>((below_regrown w d os).block ob h.lt).trans h.out
 ⟨h1,h2,fun i d os=>(zaa (h1 d os)).1 i,fun i d os=>(zaa (h2 d os)).1 i⟩
theorem FinA.q (d:Nat) (os:Array Obj):PlanAt n0 b P G [] (Go.Sort.grow (redrawn w d) os):=h.plan.thru (below_regrown w d os)
end
end
def Does (n0:Nat) (w0:World) (b ob:Nat) (P:SPlan) (G:List Int) (O:SCPU) (e:Ending) (w':World):Prop:=e=.returned (.tuple #[])/\FinA n0 w0 b ob P G O w'
theorem zeh {G:List Int} (h:∀ x ∈ G,0<=x/\x<=255) (n:Nat):0<=zfp G n/\zfp G n<=65535:=zii _ _ (zd4 h _) (zd4 h _)
section
variable {n0 b ob:Nat} {w0:World} {P:SPlan} {G:List Int} {O:SCPU} (w:World) (hF:FinA n0 w0 b ob P G O w) (hr:P.c.regs.Ok) (hO:O.regs.Ok) (hG:G.length<=1000000) (hgb:∀ x ∈ G,0<=x/\x<=255)
include n0 b ob w0 P G O w hF hr hO hG hgb
theorem zy6 (hk:P.i.kind=2) (hs:P.i.src=6) :
  Calls prog 149 #[.pointer (some ⟨b,0,none⟩),.pointer (some ⟨ob,1,none⟩)] w (Does n0 w0 b ob P G { O with regs:=zbv P G O.regs }):=by
 obtain ⟨hcl,hco,hfo,hat,hto,hlo⟩:=hF.facts
 go_enter func149,ntmps149
 go_wp2_with (first|(go_at_call 141;(refine (zfw _ hF.plan _).mono ?_);rintro e w' ⟨rfl,hB⟩;replace hF:=hF.thru hB;clear hB hcl hco hfo hat hto hlo;obtain ⟨hcl,hco,hfo,hat,hto,hlo⟩:=hF.facts)|(go_at_call 138;(refine (zcy _ hF.plan 1 oM hG).mono ?_);rintro e w' ⟨rfl,rfl⟩))
 obtain ⟨qb,qo,qc,qd⟩:=hF.qfacts
 refine zad 11 kR kR ?_
 simp only [tkd]
 repeat (quiet_step (first|(go_at_call 170;exact Calls.regrown_of (zg4 _ _ _ _))))
 refine wpQuiet_nil ?_
 intro wq hwq
 replace hF:=hF.regrown hwq
 clear hwq qb qo qc qd hcl hco hfo hat hto hlo
 obtain ⟨hcl,hco,hfo,hat,hto,hlo⟩:=hF.facts
 go_wp2_with fail
 go_end0
 (refine ⟨rfl,?_⟩;first|exact hF.set _|exact hF|exact (hF.set _).drew|exact hF.drew.set _|(have h:=(hF.set { O with regs:=zbv P G O.regs }).drew;simp [zbv,hk,hs] at h ⊢;exact h)|(have h:=hF.set { O with regs:=zbv P G O.regs };simp [zbv,hk,hs] at h ⊢;exact h)|(simp [zbv,hk,hs];exact hF))
theorem zy7 (hk:P.i.kind=2) (hs:(P.i.src==6)=false) :
  Calls prog 149 #[.pointer (some ⟨b,0,none⟩),.pointer (some ⟨ob,1,none⟩)] w (Does n0 w0 b ob P G { O with regs:=zbv P G O.regs }):=by
 obtain ⟨hcl,hco,hfo,hat,hto,hlo⟩:=hF.facts
 go_enter func149,ntmps149
 go_wp2_with (first|(go_at_call 141;(refine (zfw _ hF.plan _).mono ?_);rintro e w' ⟨rfl,hB⟩;replace hF:=hF.thru hB;clear hB hcl hco hfo hat hto hlo;obtain ⟨hcl,hco,hfo,hat,hto,hlo⟩:=hF.facts)|(go_at_call 138;(refine (zcy _ hF.plan 1 oM hG).mono ?_);rintro e w' ⟨rfl,rfl⟩))
 obtain ⟨qb,qo,qc,qd⟩:=hF.qfacts
 refine zad 11 kR kR ?_
 simp only [tkd]
 repeat (quiet_step (first|(go_at_call 170;exact Calls.regrown_of (zg4 _ _ _ _))))
 refine wpQuiet_nil ?_
 intro wq hwq
 replace hF:=hF.regrown hwq
 clear hwq qb qo qc qd hcl hco hfo hat hto hlo
 obtain ⟨hcl,hco,hfo,hat,hto,hlo⟩:=hF.facts
 go_wp2_with fail
 go_end0
 (refine ⟨rfl,?_⟩;first|exact hF.set _|exact hF|exact (hF.set _).drew|exact hF.drew.set _|(have h:=(hF.set { O with regs:=zbv P G O.regs }).drew;simp [zbv,hk,beq_eq_false_iff_ne.1 hs] at h ⊢;exact h)|(have h:=hF.set { O with regs:=zbv P G O.regs };simp [zbv,hk,beq_eq_false_iff_ne.1 hs] at h ⊢;exact h)|(simp [zbv,hk,beq_eq_false_iff_ne.1 hs];exact hF))
theorem z1z (hk:P.i.kind=3)  :
  Calls prog 149 #[.pointer (some ⟨b,0,none⟩),.pointer (some ⟨ob,1,none⟩)] w (Does n0 w0 b ob P G { O with regs:=zbv P G O.regs }):=by
 obtain ⟨hcl,hco,hfo,hat,hto,hlo⟩:=hF.facts
 go_enter func149,ntmps149
 go_wp2_with fail
 obtain ⟨qb,qo,qc,qd⟩:=hF.qfacts
 refine zad 12 kR kR ?_
 simp only [tkd]
 repeat (quiet_step (first|(go_at_call 138;exact Calls.regrown_of ((zcy _ (hF.q _ _) 1 oM hG).mono fun _ _ ⟨he,hw⟩=>⟨he,hw ▸ Below.refl _ _⟩))|(go_at_call 170;exact Calls.regrown_of (zg4 _ _ _ _))))
 refine wpQuiet_nil ?_
 intro wq hwq
 replace hF:=hF.regrown hwq
 clear hwq qb qo qc qd hcl hco hfo hat hto hlo
 obtain ⟨hcl,hco,hfo,hat,hto,hlo⟩:=hF.facts
 go_wp2_with fail
 go_end0
 (refine ⟨rfl,?_⟩;first|exact hF.set _|exact hF|exact (hF.set _).drew|exact hF.drew.set _|(have h:=(hF.set { O with regs:=zbv P G O.regs }).drew;simp [zbv,hk] at h ⊢;exact h)|(have h:=hF.set { O with regs:=zbv P G O.regs };simp [zbv,hk] at h ⊢;exact h)|(simp [zbv,hk];exact hF))
theorem z1y (hk:P.i.kind=4)  :
  Calls prog 149 #[.pointer (some ⟨b,0,none⟩),.pointer (some ⟨ob,1,none⟩)] w (Does n0 w0 b ob P G { O with regs:=zbv P G O.regs }):=by
 obtain ⟨hcl,hco,hfo,hat,hto,hlo⟩:=hF.facts
 go_enter func149,ntmps149
 go_wp2_with fail
 obtain ⟨qb,qo,qc,qd⟩:=hF.qfacts
 refine zad 12 kR kR ?_
 simp only [tkd]
 repeat (quiet_step (first|(go_at_call 164;exact Calls.regrown_of ((zbp _ (hF.q _ _) hG hgb).mono fun _ _ ⟨he,hw⟩=>⟨he,hw ▸ Below.refl _ _⟩))|(go_at_call 171;exact Calls.regrown_of (zce _ _ _ _ (zeh hgb 1).1 (zeh hgb 1).2))))
 refine wpQuiet_nil ?_
 intro wq hwq
 replace hF:=hF.regrown hwq
 clear hwq qb qo qc qd hcl hco hfo hat hto hlo
 obtain ⟨hcl,hco,hfo,hat,hto,hlo⟩:=hF.facts
 go_wp2_with fail
 go_end0
 (refine ⟨rfl,?_⟩;first|exact hF.set _|exact hF|exact (hF.set _).drew|exact hF.drew.set _|(have h:=(hF.set { O with regs:=zbv P G O.regs }).drew;simp [zbv,hk] at h ⊢;exact h)|(have h:=hF.set { O with regs:=zbv P G O.regs };simp [zbv,hk] at h ⊢;exact h)|(simp [zbv,hk];exact hF))
theorem z1x (hk:P.i.kind=5)  :
  Calls prog 149 #[.pointer (some ⟨b,0,none⟩),.pointer (some ⟨ob,1,none⟩)] w (Does n0 w0 b ob P G { O with regs:=zbv P G O.regs }):=by
 obtain ⟨hcl,hco,hfo,hat,hto,hlo⟩:=hF.facts
 go_enter func149,ntmps149
 go_wp2_with (first|(go_at_call 138;(refine (zcy _ hF.plan 3 oM hG).mono ?_);rintro e w' ⟨rfl,rfl⟩))
 go_end0
 (refine ⟨rfl,?_⟩;first|exact hF.set _|exact hF|exact (hF.set _).drew|exact hF.drew.set _|(have h:=(hF.set { O with regs:=zbv P G O.regs }).drew;simp [zbv,hk] at h ⊢;exact h)|(have h:=hF.set { O with regs:=zbv P G O.regs };simp [zbv,hk] at h ⊢;exact h)|(simp [zbv,hk];exact hF))
theorem z1v (hk:P.i.kind=9)  :
  Calls prog 149 #[.pointer (some ⟨b,0,none⟩),.pointer (some ⟨ob,1,none⟩)] w (Does n0 w0 b ob P G { O with regs:=zbv P G O.regs }):=by
 obtain ⟨hcl,hco,hfo,hat,hto,hlo⟩:=hF.facts
 go_enter func149,ntmps149
 go_wp2_with (first|(go_at_call 138;(refine (zcy _ hF.plan 1 oM hG).mono ?_);rintro e w' ⟨rfl,rfl⟩))
 go_end0
 (refine ⟨rfl,?_⟩;first|exact hF.set _|exact hF|exact (hF.set _).drew|exact hF.drew.set _|(have h:=(hF.set { O with regs:=zbv P G O.regs }).drew;simp [zbv,hk] at h ⊢;exact h)|(have h:=hF.set { O with regs:=zbv P G O.regs };simp [zbv,hk] at h ⊢;exact h)|(simp [zbv,hk];exact hF))
theorem zy4 (hk:P.i.kind=33)  :
  Calls prog 149 #[.pointer (some ⟨b,0,none⟩),.pointer (some ⟨ob,1,none⟩)] w (Does n0 w0 b ob P G { O with regs:=zbv P G O.regs }):=by
 obtain ⟨hcl,hco,hfo,hat,hto,hlo⟩:=hF.facts
 go_enter func149,ntmps149
 go_wp2_with (first|(go_at_call 138;(refine (zcy _ hF.plan 2 oM hG).mono ?_);rintro e w' ⟨rfl,rfl⟩))
 go_end0
 (refine ⟨rfl,?_⟩;first|exact hF.set _|exact hF|exact (hF.set _).drew|exact hF.drew.set _|(have h:=(hF.set { O with regs:=zbv P G O.regs }).drew;simp [zbv,hk] at h ⊢;exact h)|(have h:=hF.set { O with regs:=zbv P G O.regs };simp [zbv,hk] at h ⊢;exact h)|(simp [zbv,hk];exact hF))
theorem z1w (hk:P.i.kind=7)  :
  Calls prog 149 #[.pointer (some ⟨b,0,none⟩),.pointer (some ⟨ob,1,none⟩)] w (Does n0 w0 b ob P G { O with regs:=zbv P G O.regs }):=by
 obtain ⟨hcl,hco,hfo,hat,hto,hlo⟩:=hF.facts
 go_enter func149,ntmps149
 go_wp2_with fail
 obtain ⟨qb,qo,qc,qd⟩:=hF.qfacts
 refine zad 7 kR kR ?_
 simp only [tkd]
 repeat (quiet_step (first|(go_at_call 164;exact Calls.regrown_of ((zrf _ (hF.q _ _) hG hgb).mono fun _ _ ⟨he,hw⟩=>⟨he,hw ▸ Below.refl _ _⟩))|(go_at_call 171;exact Calls.regrown_of (zce _ _ _ _ (zeh hgb 3).1 (zeh hgb 3).2))))
 refine wpQuiet_nil ?_
 intro wq hwq
 replace hF:=hF.regrown hwq
 clear hwq qb qo qc qd hcl hco hfo hat hto hlo
 obtain ⟨hcl,hco,hfo,hat,hto,hlo⟩:=hF.facts
 go_wp2_with fail
 go_end0
 (refine ⟨rfl,?_⟩;first|exact hF.set _|exact hF|exact (hF.set _).drew|exact hF.drew.set _|(have h:=(hF.set { O with regs:=zbv P G O.regs }).drew;simp [zbv,hk] at h ⊢;exact h)|(have h:=hF.set { O with regs:=zbv P G O.regs };simp [zbv,hk] at h ⊢;exact h)|(simp [zbv,hk];exact hF))
theorem zy3 (hk:P.i.kind=47)  :
  Calls prog 149 #[.pointer (some ⟨b,0,none⟩),.pointer (some ⟨ob,1,none⟩)] w (Does n0 w0 b ob P G { O with regs:=zbv P G O.regs }):=by
 obtain ⟨hcl,hco,hfo,hat,hto,hlo⟩:=hF.facts
 go_enter func149,ntmps149
 go_wp2_with fail
 obtain ⟨qb,qo,qc,qd⟩:=hF.qfacts
 refine zad 7 kR kR ?_
 simp only [tkd]
 repeat (quiet_step (first|(go_at_call 164;exact Calls.regrown_of ((zbp _ (hF.q _ _) hG hgb).mono fun _ _ ⟨he,hw⟩=>⟨he,hw ▸ Below.refl _ _⟩))|(go_at_call 171;exact Calls.regrown_of (zce _ _ _ _ (zeh hgb 1).1 (zeh hgb 1).2))))
 refine wpQuiet_nil ?_
 intro wq hwq
 replace hF:=hF.regrown hwq
 clear hwq qb qo qc qd hcl hco hfo hat hto hlo
 obtain ⟨hcl,hco,hfo,hat,hto,hlo⟩:=hF.facts
 go_wp2_with fail
 go_end0
 (refine ⟨rfl,?_⟩;first|exact hF.set _|exact hF|exact (hF.set _).drew|exact hF.drew.set _|(have h:=(hF.set { O with regs:=zbv P G O.regs }).drew;simp [zbv,hk] at h ⊢;exact h)|(have h:=hF.set { O with regs:=zbv P G O.regs };simp [zbv,hk] at h ⊢;exact h)|(simp [zbv,hk];exact hF))
theorem zy5 (hk:P.i.kind=32)  :
  Calls prog 149 #[.pointer (some ⟨b,0,none⟩),.pointer (some ⟨ob,1,none⟩)] w (Does n0 w0 b ob P G { O with regs:=zbv P G O.regs }):=by
 obtain ⟨hcl,hco,hfo,hat,hto,hlo⟩:=hF.facts
 go_enter func149,ntmps149
 go_wp2_with fail
 obtain ⟨qb,qo,qc,qd⟩:=hF.qfacts
 refine zad 7 kR kR ?_
 simp only [tkd]
 repeat (quiet_step (first|(go_at_call 164;exact Calls.regrown_of ((zbp _ (hF.q _ _) hG hgb).mono fun _ _ ⟨he,hw⟩=>⟨he,hw ▸ Below.refl _ _⟩))|(go_at_call 171;exact Calls.regrown_of (zce _ _ _ _ (zeh hgb 1).1 (zeh hgb 1).2))))
 refine wpQuiet_nil ?_
 intro wq hwq
 replace hF:=hF.regrown hwq
 clear hwq qb qo qc qd hcl hco hfo hat hto hlo
 obtain ⟨hcl,hco,hfo,hat,hto,hlo⟩:=hF.facts
 go_wp2_with fail
 go_end0
 (refine ⟨rfl,?_⟩;first|exact hF.set _|exact hF|exact (hF.set _).drew|exact hF.drew.set _|(have h:=(hF.set { O with regs:=zbv P G O.regs }).drew;simp [zbv,hk] at h ⊢;exact h)|(have h:=hF.set { O with regs:=zbv P G O.regs };simp [zbv,hk] at h ⊢;exact h)|(simp [zbv,hk];exact hF))
theorem zy8 (hk:P.i.kind=11)  :
  Calls prog 149 #[.pointer (some ⟨b,0,none⟩),.pointer (some ⟨ob,1,none⟩)] w (Does n0 w0 b ob P G { O with regs:=zbv P G O.regs }):=by
 obtain ⟨hcl,hco,hfo,hat,hto,hlo⟩:=hF.facts
 go_enter func149,ntmps149
 go_wp2_with fail
 go_region
 all_goals go_wp2_with fail
 all_goals go_end0
 all_goals (refine ⟨rfl,?_⟩;first|exact hF.set _|exact hF|exact (hF.set _).drew|exact hF.drew.set _|(have h:=(hF.set { O with regs:=zbv P G O.regs }).drew;simp [zbv,hk] at h ⊢;exact h)|(have h:=hF.set { O with regs:=zbv P G O.regs };simp [zbv,hk] at h ⊢;exact h)|(simp [zbv,hk];exact hF))
theorem zv5 (hk:zd3 P.i.kind=true) :
  Calls prog 149 #[.pointer (some ⟨b,0,none⟩),.pointer (some ⟨ob,1,none⟩)] w (Does n0 w0 b ob P G { O with regs:=zbv P G O.regs }):=by
 have hk2:P.i.kind=2\/P.i.kind=3\/P.i.kind=4\/P.i.kind=5\/P.i.kind=9\/P.i.kind=33\/P.i.kind=7\/P.i.kind=47\/P.i.kind=32\/P.i.kind=11:=by simp [zd3] at hk;omega
 rcases hk2 with h|h|h|h|h|h|h|h|h|h
 ·by_cases hs:P.i.src=6
  ·exact zy6 w hF hr hO hG hgb h hs
  ·exact zy7 w hF hr hO hG hgb h (beq_eq_false_iff_ne.2 hs)
 ·exact z1z w hF hr hO hG hgb h
 ·exact z1y w hF hr hO hG hgb h
 ·exact z1x w hF hr hO hG hgb h
 ·exact z1v w hF hr hO hG hgb h
 ·exact zy4 w hF hr hO hG hgb h
 ·exact z1w w hF hr hO hG hgb h
 ·exact zy3 w hF hr hO hG hgb h
 ·exact zy5 w hF hr hO hG hgb h
 ·exact zy8 w hF hr hO hG hgb h
end

end
end Go.Proofs.YtlmbamdkklkliaaGreat
