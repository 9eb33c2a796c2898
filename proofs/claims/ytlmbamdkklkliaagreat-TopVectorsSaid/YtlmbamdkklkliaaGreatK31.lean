/- Part of the proof that a law holds at every input. No conditions. -/
import Derived.Deep.DrawnRows
import Derived.Test.YtlmbamdkklkliaaGreatK27
namespace Go.Proofs.YtlmbamdkklkliaaGreat
set_option linter.unusedVariables false
set_option linter.unusedSimpArgs false
set_option linter.unusedSectionVars false
set_option maxRecDepth 100000
set_option maxHeartbeats 16000000
open Go.Proofs.Tryz
open Lib (hid)
section
open Go.RowKit
attribute [local go_sem ↓] Go.wp_at_zero Go.wp_at_succ
theorem z0j:∀ n:Fin 256,bits .xor .u8 IntKind.u8.max n.val=255-n.val:=by decide +kernel
theorem cpl (n:Int) (h:0<=n) (h2:n<=255):bits .xor .u8 IntKind.u8.max n=255-n:=by
 obtain ⟨k,rfl⟩:=Int.eq_ofNat_of_zero_le h
 exact z0j ⟨k,oM⟩
theorem zul (a b:Int):0<=dadR a b/\dadR a b<=65535:=by unfold dadR;omega
theorem zj6 (P:SPlan) (G:List Int) (hr:P.c.regs.Ok) (hgb:∀ x ∈ G,0<=x/\x<=255):0<=ze1 P G/\ze1 P G<=255:=by
 unfold ze1;split
 ·exact zd4 hgb 1
 ·exact zfr _ _ hr
theorem zja {n0 b:Nat} {P:SPlan} {G:List Int} {C:List SCycle} (w:World) (hP:PlanAt n0 b P G C w) (hr:P.c.regs.Ok) (hG:G.length<=1000000) (hgb:∀ x ∈ G,0<=x/\x<=255) :
  Calls prog 173 #[.pointer (some ⟨b,0,none⟩)] w fun e w'=>e=.returned (.int .u8 (ze1 P G))/\Below w.heap.size w w':=by
 obtain ⟨hcl,hfr,hlt⟩:=zaa hP.at_
 have hat:=hP.at_
 obtain ⟨v,hv⟩:∃ v,ze1 P G=v:=⟨_,rfl⟩
 by_cases h1:P.i.kind=13
 ·have e:v=gAt G 1:=by rw [<- hv];simp [ze1,h1]
  subst e
  have HV:=hid hv
  clear hv
  go_enter func173,ntmps173
  go_wp2_with fail
  refine (zcy _ hP 1 oM hG).mono ?_;rintro e w' ⟨rfl,rfl⟩
  go_wp2_with fail
  go_ret
  exact ⟨by rw [HV.out];rfl,Below.refl _ _⟩
 ·have h1':(P.i.kind==13)=false:=beq_eq_false_iff_ne.2 h1
  by_cases h2:P.i.src=6
  ·have e:v=gAt G 1:=by rw [<- hv];simp [ze1,h2]
   subst e
   have HV:=hid hv
   clear hv h1
   go_enter func173,ntmps173
   go_wp2_with fail
   refine (zcy _ hP 1 oM hG).mono ?_;rintro e w' ⟨rfl,rfl⟩
   go_wp2_with fail
   go_ret
   exact ⟨by rw [HV.out];rfl,Below.refl _ _⟩
  ·have h2':(P.i.src==6)=false:=beq_eq_false_iff_ne.2 h2
   have e:v=getR P.c.regs P.i.src:=by rw [<- hv];simp [ze1,h1,h2]
   subst e
   have HV:=hid hv
   clear hv h1 h2
   go_enter func173,ntmps173
   go_wp2_with fail
   refine (zfw _ hP _).mono ?_;rintro e w' ⟨rfl,hB⟩
   go_wp2_with fail
   go_ret
   exact ⟨by rw [HV.out];rfl,hB⟩
theorem zih (x:Int):0<=x%65536/\x%65536<=65535:=oM
section
variable {n0 b ob:Nat} {w0:World} {P:SPlan} {G:List Int} {O:SCPU} (w:World) (hF:FinA n0 w0 b ob P G O w) (hr:P.c.regs.Ok) (hO:O.regs.Ok) (hG:G.length<=1000000) (hgb:∀ x ∈ G,0<=x/\x<=255)
include n0 b ob w0 P G O w hF hr hO hG hgb
theorem zxd (hk:P.i.kind=14) (hd:P.i.dst=6) :
  Calls prog 150 #[.pointer (some ⟨b,0,none⟩),.pointer (some ⟨ob,1,none⟩)] w (Does n0 w0 b ob P G { O with regs:=zan P G O.regs }):=by
 obtain ⟨hcl,hco,hfo,hat,hto,hlo⟩:=hF.facts
 go_enter func150,ntmps150
 have hbd:=zd4 hgb 1
 go_wp2_with (first|(go_at_call 141;(refine (zfw _ hF.plan _).mono ?_);rintro e w' ⟨rfl,hB⟩;replace hF:=hF.thru hB;clear hB hcl hco hfo hat hto hlo;obtain ⟨hcl,hco,hfo,hat,hto,hlo⟩:=hF.facts)|(go_at_call 138;(refine (zcy _ hF.plan 1 oM hG).mono ?_);rintro e w' ⟨rfl,rfl⟩)|(go_at_call 162;(refine (zme _ _ _ _ hbd.1 hbd.2).mono ?_);rintro e w' ⟨rfl,hB⟩;replace hF:=hF.thru hB;clear hB hcl hco hfo hat hto hlo;obtain ⟨hcl,hco,hfo,hat,hto,hlo⟩:=hF.facts))
 generalize hW:zai _ ob _ _=w2
 replace hF:FinA n0 w0 b ob P G { O with regs := { O.regs with f:=(inrF P.c.chip (gAt G 1) O.regs.f).2 } } w2:=by rw [<- hW];exact hF.set _
 clear hW hcl hco hfo hat hto hlo
 obtain ⟨hcl,hco,hfo,hat,hto,hlo⟩:=hF.facts
 obtain ⟨qb,qo,qc,qd⟩:=hF.qfacts
 refine zad 11 kR kR ?_
 simp only [tkd]
 repeat (quiet_step (first|(go_at_call 170;exact Calls.regrown_of (zg4 _ _ _ _))))
 refine wpQuiet_nil ?_
 intro wq hwq
 replace hF:=hF.regrown hwq
 clear hwq qb qo qc qd hcl hco hfo hat hto hlo
 obtain ⟨hcl,hco,hfo,hat,hto,hlo⟩:=hF.facts
 go_wp2_with fail
 go_end0
 (refine ⟨rfl,?_⟩;first|exact hF.set _|exact hF|exact (hF.set _).drew|exact hF.drew.set _|(have h:=(hF.set { O with regs:=zan P G O.regs }).drew;simp [zan,hk,hd,zfs] at h ⊢;exact h)|(have h:=hF.set { O with regs:=zan P G O.regs };simp [zan,hk,hd,zfs] at h ⊢;exact h)|(simp [zan,hk,hd,zfs];exact hF))
theorem zxc (hk:P.i.kind=14) (hd:(P.i.dst==6)=false) :
  Calls prog 150 #[.pointer (some ⟨b,0,none⟩),.pointer (some ⟨ob,1,none⟩)] w (Does n0 w0 b ob P G { O with regs:=zan P G O.regs }):=by
 obtain ⟨hcl,hco,hfo,hat,hto,hlo⟩:=hF.facts
 go_enter func150,ntmps150
 have hbd:=zfr P.c.regs P.i.dst hr
 go_wp2_with (first|(go_at_call 141;(refine (zfw _ hF.plan _).mono ?_);rintro e w' ⟨rfl,hB⟩;replace hF:=hF.thru hB;clear hB hcl hco hfo hat hto hlo;obtain ⟨hcl,hco,hfo,hat,hto,hlo⟩:=hF.facts)|(go_at_call 138;(refine (zcy _ hF.plan 1 oM hG).mono ?_);rintro e w' ⟨rfl,rfl⟩)|(go_at_call 162;(refine (zme _ _ _ _ hbd.1 hbd.2).mono ?_);rintro e w' ⟨rfl,hB⟩;replace hF:=hF.thru hB;clear hB hcl hco hfo hat hto hlo;obtain ⟨hcl,hco,hfo,hat,hto,hlo⟩:=hF.facts))
 generalize hW:zai _ ob _ _=w2
 replace hF:FinA n0 w0 b ob P G { O with regs := { O.regs with f:=(inrF P.c.chip (getR P.c.regs P.i.dst) O.regs.f).2 } } w2:=by rw [<- hW];exact hF.set _
 clear hW hcl hco hfo hat hto hlo
 obtain ⟨hcl,hco,hfo,hat,hto,hlo⟩:=hF.facts
 obtain ⟨qb,qo,qc,qd⟩:=hF.qfacts
 refine zad 11 kR kR ?_
 simp only [tkd]
 repeat (quiet_step (first|(go_at_call 170;exact Calls.regrown_of (zg4 _ _ _ _))))
 refine wpQuiet_nil ?_
 intro wq hwq
 replace hF:=hF.regrown hwq
 clear hwq qb qo qc qd hcl hco hfo hat hto hlo
 obtain ⟨hcl,hco,hfo,hat,hto,hlo⟩:=hF.facts
 go_wp2_with fail
 go_end0
 (refine ⟨rfl,?_⟩;first|exact hF.set _|exact hF|exact (hF.set _).drew|exact hF.drew.set _|(have h:=(hF.set { O with regs:=zan P G O.regs }).drew;simp [zan,hk,beq_eq_false_iff_ne.1 hd,zfs] at h ⊢;exact h)|(have h:=hF.set { O with regs:=zan P G O.regs };simp [zan,hk,beq_eq_false_iff_ne.1 hd,zfs] at h ⊢;exact h)|(simp [zan,hk,beq_eq_false_iff_ne.1 hd,zfs];exact hF))
theorem zxb (hk:P.i.kind=15) (hd:P.i.dst=6) :
  Calls prog 150 #[.pointer (some ⟨b,0,none⟩),.pointer (some ⟨ob,1,none⟩)] w (Does n0 w0 b ob P G { O with regs:=zan P G O.regs }):=by
 obtain ⟨hcl,hco,hfo,hat,hto,hlo⟩:=hF.facts
 go_enter func150,ntmps150
 have hbd:=zd4 hgb 1
 go_wp2_with (first|(go_at_call 141;(refine (zfw _ hF.plan _).mono ?_);rintro e w' ⟨rfl,hB⟩;replace hF:=hF.thru hB;clear hB hcl hco hfo hat hto hlo;obtain ⟨hcl,hco,hfo,hat,hto,hlo⟩:=hF.facts)|(go_at_call 138;(refine (zcy _ hF.plan 1 oM hG).mono ?_);rintro e w' ⟨rfl,rfl⟩)|(go_at_call 163;(refine (zmj _ _ _ _ hbd.1 hbd.2).mono ?_);rintro e w' ⟨rfl,hB⟩;replace hF:=hF.thru hB;clear hB hcl hco hfo hat hto hlo;obtain ⟨hcl,hco,hfo,hat,hto,hlo⟩:=hF.facts))
 generalize hW:zai _ ob _ _=w2
 replace hF:FinA n0 w0 b ob P G { O with regs := { O.regs with f:=(dcrF P.c.chip (gAt G 1) O.regs.f).2 } } w2:=by rw [<- hW];exact hF.set _
 clear hW hcl hco hfo hat hto hlo
 obtain ⟨hcl,hco,hfo,hat,hto,hlo⟩:=hF.facts
 obtain ⟨qb,qo,qc,qd⟩:=hF.qfacts
 refine zad 11 kR kR ?_
 simp only [tkd]
 repeat (quiet_step (first|(go_at_call 170;exact Calls.regrown_of (zg4 _ _ _ _))))
 refine wpQuiet_nil ?_
 intro wq hwq
 replace hF:=hF.regrown hwq
 clear hwq qb qo qc qd hcl hco hfo hat hto hlo
 obtain ⟨hcl,hco,hfo,hat,hto,hlo⟩:=hF.facts
 go_wp2_with fail
 go_end0
 (refine ⟨rfl,?_⟩;first|exact hF.set _|exact hF|exact (hF.set _).drew|exact hF.drew.set _|(have h:=(hF.set { O with regs:=zan P G O.regs }).drew;simp [zan,hk,hd,zfs] at h ⊢;exact h)|(have h:=hF.set { O with regs:=zan P G O.regs };simp [zan,hk,hd,zfs] at h ⊢;exact h)|(simp [zan,hk,hd,zfs];exact hF))
theorem zxa (hk:P.i.kind=15) (hd:(P.i.dst==6)=false) :
  Calls prog 150 #[.pointer (some ⟨b,0,none⟩),.pointer (some ⟨ob,1,none⟩)] w (Does n0 w0 b ob P G { O with regs:=zan P G O.regs }):=by
 obtain ⟨hcl,hco,hfo,hat,hto,hlo⟩:=hF.facts
 go_enter func150,ntmps150
 have hbd:=zfr P.c.regs P.i.dst hr
 go_wp2_with (first|(go_at_call 141;(refine (zfw _ hF.plan _).mono ?_);rintro e w' ⟨rfl,hB⟩;replace hF:=hF.thru hB;clear hB hcl hco hfo hat hto hlo;obtain ⟨hcl,hco,hfo,hat,hto,hlo⟩:=hF.facts)|(go_at_call 138;(refine (zcy _ hF.plan 1 oM hG).mono ?_);rintro e w' ⟨rfl,rfl⟩)|(go_at_call 163;(refine (zmj _ _ _ _ hbd.1 hbd.2).mono ?_);rintro e w' ⟨rfl,hB⟩;replace hF:=hF.thru hB;clear hB hcl hco hfo hat hto hlo;obtain ⟨hcl,hco,hfo,hat,hto,hlo⟩:=hF.facts))
 generalize hW:zai _ ob _ _=w2
 replace hF:FinA n0 w0 b ob P G { O with regs := { O.regs with f:=(dcrF P.c.chip (getR P.c.regs P.i.dst) O.regs.f).2 } } w2:=by rw [<- hW];exact hF.set _
 clear hW hcl hco hfo hat hto hlo
 obtain ⟨hcl,hco,hfo,hat,hto,hlo⟩:=hF.facts
 obtain ⟨qb,qo,qc,qd⟩:=hF.qfacts
 refine zad 11 kR kR ?_
 simp only [tkd]
 repeat (quiet_step (first|(go_at_call 170;exact Calls.regrown_of (zg4 _ _ _ _))))
 refine wpQuiet_nil ?_
 intro wq hwq
 replace hF:=hF.regrown hwq
 clear hwq qb qo qc qd hcl hco hfo hat hto hlo
 obtain ⟨hcl,hco,hfo,hat,hto,hlo⟩:=hF.facts
 go_wp2_with fail
 go_end0
 (refine ⟨rfl,?_⟩;first|exact hF.set _|exact hF|exact (hF.set _).drew|exact hF.drew.set _|(have h:=(hF.set { O with regs:=zan P G O.regs }).drew;simp [zan,hk,beq_eq_false_iff_ne.1 hd,zfs] at h ⊢;exact h)|(have h:=hF.set { O with regs:=zan P G O.regs };simp [zan,hk,beq_eq_false_iff_ne.1 hd,zfs] at h ⊢;exact h)|(simp [zan,hk,beq_eq_false_iff_ne.1 hd,zfs];exact hF))
theorem z0r (hk:P.i.kind=16)  :
  Calls prog 150 #[.pointer (some ⟨b,0,none⟩),.pointer (some ⟨ob,1,none⟩)] w (Does n0 w0 b ob P G { O with regs:=zan P G O.regs }):=by
 obtain ⟨hcl,hco,hfo,hat,hto,hlo⟩:=hF.facts
 go_enter func150,ntmps150
 have hbd:=zeg P.c.regs P.i.pair hr
 go_wp2_with (first|(go_at_call 140;(refine (za0 _ hF.plan _ hr).mono ?_);rintro e w' ⟨rfl,hB⟩;replace hF:=hF.thru hB;clear hB hcl hco hfo hat hto hlo;obtain ⟨hcl,hco,hfo,hat,hto,hlo⟩:=hF.facts)|(go_at_call 174;(refine (zwc _ _ _ _ hbd.1 hbd.2).mono ?_);rintro e w' ⟨rfl,hB⟩;replace hF:=hF.thru hB;clear hB hcl hco hfo hat hto hlo;obtain ⟨hcl,hco,hfo,hat,hto,hlo⟩:=hF.facts))
 generalize hW:zai _ ob _ _=w2
 replace hF:FinA n0 w0 b ob P G { O with regs := { O.regs with f:=(inxF P.c.chip (zc6 P.c.regs P.i.pair) O.regs.f).2 } } w2:=by rw [<- hW];exact hF.set _
 clear hW hcl hco hfo hat hto hlo
 obtain ⟨hcl,hco,hfo,hat,hto,hlo⟩:=hF.facts
 obtain ⟨qb,qo,qc,qd⟩:=hF.qfacts
 refine zad 11 kR kR ?_
 simp only [tkd]
 repeat (quiet_step (first|(go_at_call 171;exact Calls.regrown_of (zce _ _ _ _ (zih _).1 (zih _).2))))
 refine wpQuiet_nil ?_
 intro wq hwq
 replace hF:=hF.regrown hwq
 clear hwq qb qo qc qd hcl hco hfo hat hto hlo
 obtain ⟨hcl,hco,hfo,hat,hto,hlo⟩:=hF.facts
 go_wp2_with fail
 go_end0
 (refine ⟨rfl,?_⟩;first|exact hF.set _|exact hF|exact (hF.set _).drew|exact hF.drew.set _|(have h:=(hF.set { O with regs:=zan P G O.regs }).drew;simp [zan,hk,zio] at h ⊢;exact h)|(have h:=hF.set { O with regs:=zan P G O.regs };simp [zan,hk,zio] at h ⊢;exact h)|(simp [zan,hk,zio];exact hF))
theorem z0q (hk:P.i.kind=17)  :
  Calls prog 150 #[.pointer (some ⟨b,0,none⟩),.pointer (some ⟨ob,1,none⟩)] w (Does n0 w0 b ob P G { O with regs:=zan P G O.regs }):=by
 obtain ⟨hcl,hco,hfo,hat,hto,hlo⟩:=hF.facts
 go_enter func150,ntmps150
 have hbd:=zeg P.c.regs P.i.pair hr
 go_wp2_with (first|(go_at_call 140;(refine (za0 _ hF.plan _ hr).mono ?_);rintro e w' ⟨rfl,hB⟩;replace hF:=hF.thru hB;clear hB hcl hco hfo hat hto hlo;obtain ⟨hcl,hco,hfo,hat,hto,hlo⟩:=hF.facts)|(go_at_call 175;(refine (zw7 _ _ _ _ hbd.1 hbd.2).mono ?_);rintro e w' ⟨rfl,hB⟩;replace hF:=hF.thru hB;clear hB hcl hco hfo hat hto hlo;obtain ⟨hcl,hco,hfo,hat,hto,hlo⟩:=hF.facts))
 generalize hW:zai _ ob _ _=w2
 replace hF:FinA n0 w0 b ob P G { O with regs := { O.regs with f:=(dcxF P.c.chip (zc6 P.c.regs P.i.pair) O.regs.f).2 } } w2:=by rw [<- hW];exact hF.set _
 clear hW hcl hco hfo hat hto hlo
 obtain ⟨hcl,hco,hfo,hat,hto,hlo⟩:=hF.facts
 obtain ⟨qb,qo,qc,qd⟩:=hF.qfacts
 refine zad 11 kR kR ?_
 simp only [tkd]
 repeat (quiet_step (first|(go_at_call 171;exact Calls.regrown_of (zce _ _ _ _ (zih _).1 (zih _).2))))
 refine wpQuiet_nil ?_
 intro wq hwq
 replace hF:=hF.regrown hwq
 clear hwq qb qo qc qd hcl hco hfo hat hto hlo
 obtain ⟨hcl,hco,hfo,hat,hto,hlo⟩:=hF.facts
 go_wp2_with fail
 go_end0
 (refine ⟨rfl,?_⟩;first|exact hF.set _|exact hF|exact (hF.set _).drew|exact hF.drew.set _|(have h:=(hF.set { O with regs:=zan P G O.regs }).drew;simp [zan,hk,zio] at h ⊢;exact h)|(have h:=hF.set { O with regs:=zan P G O.regs };simp [zan,hk,zio] at h ⊢;exact h)|(simp [zan,hk,zio];exact hF))
theorem z0p (hk:P.i.kind=18)  :
  Calls prog 150 #[.pointer (some ⟨b,0,none⟩),.pointer (some ⟨ob,1,none⟩)] w (Does n0 w0 b ob P G { O with regs:=zan P G O.regs }):=by
 obtain ⟨hcl,hco,hfo,hat,hto,hlo⟩:=hF.facts
 go_enter func150,ntmps150
 have hbd:=zeg P.c.regs P.i.pair hr
 have hbh:=zeg P.c.regs 2 hr
 go_wp2_with fail
 obtain ⟨qb,qo,qc,qd⟩:=hF.qfacts
 refine zad 20 kR kR ?_
 simp only [tkd]
 repeat (quiet_step (first|(go_at_call 140;exact Calls.regrown_of (za0 _ (hF.q _ _) _ hr))|(go_at_call 176;exact Calls.regrown_of (zw8 _ _ _ _ _ hbh.1 hbh.2 hbd.1 hbd.2))))
 refine wpQuiet_nil ?_
 intro wq hwq
 replace hF:=hF.regrown hwq
 clear hwq qb qo qc qd hcl hco hfo hat hto hlo
 obtain ⟨hcl,hco,hfo,hat,hto,hlo⟩:=hF.facts
 go_wp2_with fail
 generalize hW:zai _ ob _ _=w2
 replace hF:FinA n0 w0 b ob P G { O with regs := { O.regs with f:=(dadF P.c.chip (zc6 P.c.regs 2) (zc6 P.c.regs P.i.pair) O.regs.f).2 } } w2:=by rw [<- hW];exact hF.set _
 clear hW hcl hco hfo hat hto hlo
 obtain ⟨hcl,hco,hfo,hat,hto,hlo⟩:=hF.facts
 go_wp2_with (first|(go_at_call 171;(refine (zce _ _ _ _ (zul _ _).1 (zul _ _).2).mono ?_);rintro e w' ⟨rfl,hB⟩;replace hF:=hF.thru hB;clear hB hcl hco hfo hat hto hlo;obtain ⟨hcl,hco,hfo,hat,hto,hlo⟩:=hF.facts))
 go_end0
 (refine ⟨rfl,?_⟩;first|exact hF.set _|exact hF|exact (hF.set _).drew|exact hF.drew.set _|(have h:=(hF.set { O with regs:=zan P G O.regs }).drew;simp [zan,hk] at h ⊢;exact h)|(have h:=hF.set { O with regs:=zan P G O.regs };simp [zan,hk] at h ⊢;exact h)|(simp [zan,hk];exact hF))
theorem z0n (hk:P.i.kind=20)  :
  Calls prog 150 #[.pointer (some ⟨b,0,none⟩),.pointer (some ⟨ob,1,none⟩)] w (Does n0 w0 b ob P G { O with regs:=zan P G O.regs }):=by
 obtain ⟨hcl,hco,hfo,hat,hto,hlo⟩:=hF.facts
 go_enter func150,ntmps150
 go_wp2_with fail
 go_end0
 (refine ⟨rfl,?_⟩;first|exact hF.set _|exact hF|exact (hF.set _).drew|exact hF.drew.set _|(have h:=(hF.set { O with regs:=zan P G O.regs }).drew;simp [zan,hk,cpl _ hO.a.1 hO.a.2] at h ⊢;exact h)|(have h:=hF.set { O with regs:=zan P G O.regs };simp [zan,hk,cpl _ hO.a.1 hO.a.2] at h ⊢;exact h)|(simp [zan,hk,cpl _ hO.a.1 hO.a.2];exact hF))
theorem z0m (hk:P.i.kind=21)  :
  Calls prog 150 #[.pointer (some ⟨b,0,none⟩),.pointer (some ⟨ob,1,none⟩)] w (Does n0 w0 b ob P G { O with regs:=zan P G O.regs }):=by
 obtain ⟨hcl,hco,hfo,hat,hto,hlo⟩:=hF.facts
 go_enter func150,ntmps150
 go_wp2_with fail
 go_end0
 (refine ⟨rfl,?_⟩;first|exact hF.set _|exact hF|exact (hF.set _).drew|exact hF.drew.set _|(have h:=(hF.set { O with regs:=zan P G O.regs }).drew;simp [zan,hk] at h ⊢;exact h)|(have h:=hF.set { O with regs:=zan P G O.regs };simp [zan,hk] at h ⊢;exact h)|(simp [zan,hk];exact hF))
theorem z0l (hk:P.i.kind=22)  :
  Calls prog 150 #[.pointer (some ⟨b,0,none⟩),.pointer (some ⟨ob,1,none⟩)] w (Does n0 w0 b ob P G { O with regs:=zan P G O.regs }):=by
 obtain ⟨hcl,hco,hfo,hat,hto,hlo⟩:=hF.facts
 go_enter func150,ntmps150
 go_wp2_with fail
 go_end0
 (refine ⟨rfl,?_⟩;first|exact hF.set _|exact hF|exact (hF.set _).drew|exact hF.drew.set _|(have h:=(hF.set { O with regs:=zan P G O.regs }).drew;simp [zan,hk] at h ⊢;exact h)|(have h:=hF.set { O with regs:=zan P G O.regs };simp [zan,hk] at h ⊢;exact h)|(simp [zan,hk];exact hF))
theorem z0o (hk:P.i.kind=19)  :
  Calls prog 150 #[.pointer (some ⟨b,0,none⟩),.pointer (some ⟨ob,1,none⟩)] w (Does n0 w0 b ob P G { O with regs:=zan P G O.regs }):=by
 obtain ⟨hcl,hco,hfo,hat,hto,hlo⟩:=hF.facts
 go_enter func150,ntmps150
 go_wp2_with fail
 obtain ⟨qb,qo,qc,qd⟩:=hF.qfacts
 refine zat 17 (fun k=>k==1||k==14||k==15) kR kR (fun _ _ _ d _ h=>by cases d<;>exact h) ?_
 simp only [tkd]
 repeat (first|(refine zb2 rfl (by rfl) ?_;apply Exists.intro;refine ⟨fun w=>?_,?_⟩;(go_simp;first|done|with_reducible rfl))|(refine zcp rfl (fun K hK=>?_);go_simp;first|(refine hK _ ?_;clear hK K)|(apply Exists.intro;refine ⟨fun _=>?_,hK _ ?_⟩;(first|(go_at_call 177;exact Calls.regrown_of (zw9 _ _ _ _ hO.a.1 hO.a.2)));clear hK K)))
 refine zda ?_
 intro wq hwq
 replace hF:=hF.regrown hwq
 clear hwq qb qo qc qd hcl hco hfo hat hto hlo
 obtain ⟨hcl,hco,hfo,hat,hto,hlo⟩:=hF.facts
 go_wp2_with fail
 go_end0
 (refine ⟨rfl,?_⟩;first|exact hF.set _|exact hF|exact (hF.set _).drew|exact hF.drew.set _|(have h:=(hF.set { O with regs:=zan P G O.regs }).drew;simp [zan,hk] at h ⊢;exact h)|(have h:=hF.set { O with regs:=zan P G O.regs };simp [zan,hk] at h ⊢;exact h)|(simp [zan,hk];exact hF))
end

end
section
open Go.RowKit
attribute [local go_sem ↓] Go.wp_at_zero Go.wp_at_succ
section
variable {n0 b ob:Nat} {w0:World} {P:SPlan} {G:List Int} {O:SCPU} (w:World) (hF:FinA n0 w0 b ob P G O w) (hr:P.c.regs.Ok) (hO:O.regs.Ok) (hG:G.length<=1000000) (hgb:∀ x ∈ G,0<=x/\x<=255)
include n0 b ob w0 P G O w hF hr hO hG hgb
theorem z0t (hk:P.i.kind=12)  :
  Calls prog 150 #[.pointer (some ⟨b,0,none⟩),.pointer (some ⟨ob,1,none⟩)] w (Does n0 w0 b ob P G { O with regs:=zan P G O.regs }):=by
 obtain ⟨hcl,hco,hfo,hat,hto,hlo⟩:=hF.facts
 go_enter func150,ntmps150
 have hbd:=zj6 P G hr hgb
 go_wp2_with fail
 obtain ⟨qb,qo,qc,qd⟩:=hF.qfacts
 refine zat 24 (fun k=>k==1||k==21||k==22) kR kR (fun _ _ _ d _ h=>by cases d<;>exact h) ?_
 simp only [tkd]
 repeat (first|(refine zb2 rfl (by rfl) ?_;apply Exists.intro;refine ⟨fun w=>?_,?_⟩;(go_simp;first|done|with_reducible rfl))|(refine zcp rfl (fun K hK=>?_);go_simp;first|(refine hK _ ?_;clear hK K)|(apply Exists.intro;refine ⟨fun _=>?_,hK _ ?_⟩;(first|(go_at_call 173;exact Calls.regrown_of (zja _ (hF.q _ _) hr hG hgb))|(go_at_call 172;exact Calls.regrown_of (zqn _ _ _ _ _ _ hO.a.1 hO.a.2 hbd.1 hbd.2)));clear hK K)))
 refine zda ?_
 intro wq hwq
 replace hF:=hF.regrown hwq
 clear hwq qb qo qc qd hcl hco hfo hat hto hlo
 obtain ⟨hcl,hco,hfo,hat,hto,hlo⟩:=hF.facts
 go_wp2_with fail
 go_end0
 (refine ⟨rfl,?_⟩;first|exact hF.set _|exact hF|exact (hF.set _).drew|exact hF.drew.set _|(have h:=(hF.set { O with regs:=zan P G O.regs }).drew;simp [zan,hk] at h ⊢;exact h)|(have h:=hF.set { O with regs:=zan P G O.regs };simp [zan,hk] at h ⊢;exact h)|(simp [zan,hk];exact hF))
theorem z0s (hk:P.i.kind=13)  :
  Calls prog 150 #[.pointer (some ⟨b,0,none⟩),.pointer (some ⟨ob,1,none⟩)] w (Does n0 w0 b ob P G { O with regs:=zan P G O.regs }):=by
 obtain ⟨hcl,hco,hfo,hat,hto,hlo⟩:=hF.facts
 go_enter func150,ntmps150
 have hbd:=zj6 P G hr hgb
 go_wp2_with fail
 obtain ⟨qb,qo,qc,qd⟩:=hF.qfacts
 refine zat 24 (fun k=>k==1||k==21||k==22) kR kR (fun _ _ _ d _ h=>by cases d<;>exact h) ?_
 simp only [tkd]
 repeat (first|(refine zb2 rfl (by rfl) ?_;apply Exists.intro;refine ⟨fun w=>?_,?_⟩;(go_simp;first|done|with_reducible rfl))|(refine zcp rfl (fun K hK=>?_);go_simp;first|(refine hK _ ?_;clear hK K)|(apply Exists.intro;refine ⟨fun _=>?_,hK _ ?_⟩;(first|(go_at_call 173;exact Calls.regrown_of (zja _ (hF.q _ _) hr hG hgb))|(go_at_call 172;exact Calls.regrown_of (zqn _ _ _ _ _ _ hO.a.1 hO.a.2 hbd.1 hbd.2)));clear hK K)))
 refine zda ?_
 intro wq hwq
 replace hF:=hF.regrown hwq
 clear hwq qb qo qc qd hcl hco hfo hat hto hlo
 obtain ⟨hcl,hco,hfo,hat,hto,hlo⟩:=hF.facts
 go_wp2_with fail
 go_end0
 (refine ⟨rfl,?_⟩;first|exact hF.set _|exact hF|exact (hF.set _).drew|exact hF.drew.set _|(have h:=(hF.set { O with regs:=zan P G O.regs }).drew;simp [zan,hk] at h ⊢;exact h)|(have h:=hF.set { O with regs:=zan P G O.regs };simp [zan,hk] at h ⊢;exact h)|(simp [zan,hk];exact hF))
end

end
end Go.Proofs.YtlmbamdkklkliaaGreat
