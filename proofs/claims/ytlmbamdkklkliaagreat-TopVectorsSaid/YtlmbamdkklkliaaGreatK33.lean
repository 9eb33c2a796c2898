/- Part of the proof that a law holds at every input. No conditions. -/
import Derived.Deep.DrawnRows
import Derived.Test.YtlmbamdkklkliaaGreatK24
import Derived.Test.YtlmbamdkklkliaaGreatK31
namespace Go.Proofs.YtlmbamdkklkliaaGreat
set_option linter.unusedVariables false
set_option linter.unusedSimpArgs false
set_option linter.unusedSectionVars false
set_option maxRecDepth 100000
set_option maxHeartbeats 16000000
open Go.Proofs.Tryz
section
open Go.RowKit
attribute [local go_sem ↓] Go.wp_at_zero Go.wp_at_succ
theorem ziv (x:Int):0<=IntKind.u16.wrap x/\IntKind.u16.wrap x<=65535:=by rw [IntKind.wrap_u16];omega
theorem zx3 (a b:Int):0<=dsR a b/\dsR a b<=65535:=zii _ _ ⟨zex _ _ _,zey _ _ _⟩ ⟨zex _ _ _,zey _ _ _⟩
theorem zhh (a b:Int):0<=bits .or .u16 a b/\bits .or .u16 a b<=65535:=ziv _
theorem zhy {G:List Int} (h:∀ x ∈ G,0<=x/\x<=255) (n:Nat):IntKind.u16.wrap (gAt G n)=gAt G n:=by have:=zd4 h n;rw [IntKind.wrap_u16];omega
section
variable {n0 b ob:Nat} {w0:World} {P:SPlan} {G:List Int} {O:SCPU} (w:World) (hF:FinA n0 w0 b ob P G O w) (hr:P.c.regs.Ok) (hO:O.regs.Ok) (hG:G.length<=1000000) (hgb:∀ x ∈ G,0<=x/\x<=255)
include n0 b ob w0 P G O w hF hr hO hG hgb
theorem z19 (hk:P.i.kind=40) :
  Calls prog 154 #[.pointer (some ⟨b,0,none⟩),.pointer (some ⟨ob,1,none⟩)] w (Does n0 w0 b ob P G { O with regs:=zcw P G O.regs }):=by
 obtain ⟨hcl,hco,hfo,hat,hto,hlo⟩:=hF.facts
 go_enter func154,ntmps154
 have h2:=zeg P.c.regs 2 hr
 have h3:=zeg P.c.regs 0 hr
 go_wp2_with (first|(go_at_call 140;(refine (za0 _ hF.plan _ hr).mono ?_);rintro e w' ⟨rfl,hB⟩;replace hF:=hF.thru hB;clear hB hcl hco hfo hat hto hlo;obtain ⟨hcl,hco,hfo,hat,hto,hlo⟩:=hF.facts)|(go_at_call 181;(refine (zui _ _ _ h2.1 h2.2 h3.1 h3.2).mono ?_);rintro e w' ⟨rfl,hB⟩;replace hF:=hF.thru hB;clear hB hcl hco hfo hat hto hlo;obtain ⟨hcl,hco,hfo,hat,hto,hlo⟩:=hF.facts))
 generalize hW:zai _ ob _ _=w2
 replace hF:FinA n0 w0 b ob P G { O with regs := { O.regs with f:=(zuj (zc6 P.c.regs 2) (zc6 P.c.regs 0)).2 } } w2:=by rw [<- hW];exact hF.set _
 clear hW hcl hco hfo hat hto hlo
 obtain ⟨hcl,hco,hfo,hat,hto,hlo⟩:=hF.facts
 go_wp2_with (first|(go_at_call 171;(refine (zce _ _ _ _ (zx3 _ _).1 (zx3 _ _).2).mono ?_);rintro e w' ⟨rfl,hB⟩;replace hF:=hF.thru hB;clear hB hcl hco hfo hat hto hlo;obtain ⟨hcl,hco,hfo,hat,hto,hlo⟩:=hF.facts))
 go_end0
 (refine ⟨rfl,?_⟩;first|exact hF.set _|exact hF|exact (hF.set _).drew|exact hF.drew.set _|(have h:=(hF.set { O with regs:=zcw P G O.regs }).drew;simp [zcw,hk,zhy hgb] at h ⊢;exact h)|(have h:=hF.set { O with regs:=zcw P G O.regs };simp [zcw,hk,zhy hgb] at h ⊢;exact h)|(simp [zcw,hk,zhy hgb];exact hF))
theorem z18 (hk:P.i.kind=41) :
  Calls prog 154 #[.pointer (some ⟨b,0,none⟩),.pointer (some ⟨ob,1,none⟩)] w (Does n0 w0 b ob P G { O with regs:=zcw P G O.regs }):=by
 obtain ⟨hcl,hco,hfo,hat,hto,hlo⟩:=hF.facts
 go_enter func154,ntmps154
 have h2:=zeg P.c.regs 2 hr
 go_wp2_with (first|(go_at_call 140;(refine (za0 _ hF.plan _ hr).mono ?_);rintro e w' ⟨rfl,hB⟩;replace hF:=hF.thru hB;clear hB hcl hco hfo hat hto hlo;obtain ⟨hcl,hco,hfo,hat,hto,hlo⟩:=hF.facts)|(go_at_call 182;(refine (zxn _ _ h2.1 h2.2).mono ?_);rintro e w' ⟨rfl,rfl⟩))
 generalize hW:zai _ ob _ _=w2
 replace hF:FinA n0 w0 b ob P G { O with regs := { O.regs with f := { O.regs.f with cy:=(arhl (zc6 P.c.regs 2)).2 } } } w2:=by rw [<- hW];exact hF.set _
 clear hW hcl hco hfo hat hto hlo
 obtain ⟨hcl,hco,hfo,hat,hto,hlo⟩:=hF.facts
 go_wp2_with (first|(go_at_call 171;(refine (zce _ _ _ _ (zhh _ _).1 (zhh _ _).2).mono ?_);rintro e w' ⟨rfl,hB⟩;replace hF:=hF.thru hB;clear hB hcl hco hfo hat hto hlo;obtain ⟨hcl,hco,hfo,hat,hto,hlo⟩:=hF.facts))
 go_end0
 (refine ⟨rfl,?_⟩;first|exact hF.set _|exact hF|exact (hF.set _).drew|exact hF.drew.set _|(have h:=(hF.set { O with regs:=zcw P G O.regs }).drew;simp [zcw,hk,zhy hgb] at h ⊢;exact h)|(have h:=hF.set { O with regs:=zcw P G O.regs };simp [zcw,hk,zhy hgb] at h ⊢;exact h)|(simp [zcw,hk,zhy hgb];exact hF))
theorem z17 (hk:P.i.kind=42) :
  Calls prog 154 #[.pointer (some ⟨b,0,none⟩),.pointer (some ⟨ob,1,none⟩)] w (Does n0 w0 b ob P G { O with regs:=zcw P G O.regs }):=by
 obtain ⟨hcl,hco,hfo,hat,hto,hlo⟩:=hF.facts
 go_enter func154,ntmps154
 have h2:=zeg P.c.regs 1 hr
 go_wp2_with fail
 obtain ⟨qb,qo,qc,qd⟩:=hF.qfacts
 refine zat 18 (fun k=>k==1||k==13||k==15||k==16) kR kR (fun _ _ _ d _ h=>by cases d<;>exact h) ?_
 simp only [tkd]
 repeat (first|(refine zb2 rfl (by rfl) ?_;apply Exists.intro;refine ⟨fun w=>?_,?_⟩;(go_simp;first|done|with_reducible rfl))|(refine zcp rfl (fun K hK=>?_);go_simp;first|(refine hK _ ?_;clear hK K)|(apply Exists.intro;refine ⟨fun _=>?_,hK _ ?_⟩;(first|(go_at_call 140;exact Calls.regrown_of (za0 _ (hF.q _ _) _ hr))|(go_at_call 183;exact Calls.regrown_of ((zvi _ _ _ h2.1 h2.2).mono fun _ _ ⟨he,hw⟩=>⟨he,hw ▸ Below.refl _ _⟩)));clear hK K)))
 refine zda ?_
 intro wq hwq
 replace hF:=hF.regrown hwq
 clear hwq qb qo qc qd hcl hco hfo hat hto hlo
 obtain ⟨hcl,hco,hfo,hat,hto,hlo⟩:=hF.facts
 go_wp2_with fail
 generalize hW:zai _ ob _ _=w2
 replace hF:FinA n0 w0 b ob P G { O with regs := { O.regs with f := { O.regs.f with cy:=(rdel (zc6 P.c.regs 1) O.regs.f.cy).2.1,v:=(rdel (zc6 P.c.regs 1) O.regs.f.cy).2.2 } } } w2:=by rw [<- hW];exact hF.set _
 clear hW hcl hco hfo hat hto hlo
 obtain ⟨hcl,hco,hfo,hat,hto,hlo⟩:=hF.facts
 go_wp2_with (first|(go_at_call 171;(refine (zce _ _ _ _ (zhh _ _).1 (zhh _ _).2).mono ?_);rintro e w' ⟨rfl,hB⟩;replace hF:=hF.thru hB;clear hB hcl hco hfo hat hto hlo;obtain ⟨hcl,hco,hfo,hat,hto,hlo⟩:=hF.facts))
 go_end0
 (refine ⟨rfl,?_⟩;first|exact hF.set _|exact hF|exact (hF.set _).drew|exact hF.drew.set _|(have h:=(hF.set { O with regs:=zcw P G O.regs }).drew;simp [zcw,hk,zhy hgb] at h ⊢;exact h)|(have h:=hF.set { O with regs:=zcw P G O.regs };simp [zcw,hk,zhy hgb] at h ⊢;exact h)|(simp [zcw,hk,zhy hgb];exact hF))
theorem z16 (hk:P.i.kind=43) :
  Calls prog 154 #[.pointer (some ⟨b,0,none⟩),.pointer (some ⟨ob,1,none⟩)] w (Does n0 w0 b ob P G { O with regs:=zcw P G O.regs }):=by
 obtain ⟨hcl,hco,hfo,hat,hto,hlo⟩:=hF.facts
 go_enter func154,ntmps154
 go_wp2_with fail
 obtain ⟨qb,qo,qc,qd⟩:=hF.qfacts
 refine zad 11 kR kR ?_
 simp only [tkd]
 repeat (quiet_step (first|(go_at_call 140;exact Calls.regrown_of (za0 _ (hF.q _ _) _ hr))|(go_at_call 138;exact Calls.regrown_of ((zcy _ (hF.q _ _) 1 oM hG).mono fun _ _ ⟨he,hw⟩=>⟨he,hw ▸ Below.refl _ _⟩))|(go_at_call 171;exact Calls.regrown_of (zce _ _ _ _ (ziv _).1 (ziv _).2))))
 refine wpQuiet_nil ?_
 intro wq hwq
 replace hF:=hF.regrown hwq
 clear hwq qb qo qc qd hcl hco hfo hat hto hlo
 obtain ⟨hcl,hco,hfo,hat,hto,hlo⟩:=hF.facts
 go_wp2_with fail
 go_end0
 (refine ⟨rfl,?_⟩;first|exact hF.set _|exact hF|exact (hF.set _).drew|exact hF.drew.set _|(have h:=(hF.set { O with regs:=zcw P G O.regs }).drew;simp [zcw,hk,zhy hgb] at h ⊢;exact h)|(have h:=hF.set { O with regs:=zcw P G O.regs };simp [zcw,hk,zhy hgb] at h ⊢;exact h)|(simp [zcw,hk,zhy hgb];exact hF))
theorem z15 (hk:P.i.kind=44) :
  Calls prog 154 #[.pointer (some ⟨b,0,none⟩),.pointer (some ⟨ob,1,none⟩)] w (Does n0 w0 b ob P G { O with regs:=zcw P G O.regs }):=by
 obtain ⟨hcl,hco,hfo,hat,hto,hlo⟩:=hF.facts
 go_enter func154,ntmps154
 go_wp2_with fail
 obtain ⟨qb,qo,qc,qd⟩:=hF.qfacts
 refine zad 13 kR kR ?_
 simp only [tkd]
 repeat (quiet_step (first|(go_at_call 138;exact Calls.regrown_of ((zcy _ (hF.q _ _) 1 oM hG).mono fun _ _ ⟨he,hw⟩=>⟨he,hw ▸ Below.refl _ _⟩))|(go_at_call 171;exact Calls.regrown_of (zce _ _ _ _ (ziv _).1 (ziv _).2))))
 refine wpQuiet_nil ?_
 intro wq hwq
 replace hF:=hF.regrown hwq
 clear hwq qb qo qc qd hcl hco hfo hat hto hlo
 obtain ⟨hcl,hco,hfo,hat,hto,hlo⟩:=hF.facts
 go_wp2_with fail
 go_end0
 (refine ⟨rfl,?_⟩;first|exact hF.set _|exact hF|exact (hF.set _).drew|exact hF.drew.set _|(have h:=(hF.set { O with regs:=zcw P G O.regs }).drew;simp [zcw,hk,zhy hgb] at h ⊢;exact h)|(have h:=hF.set { O with regs:=zcw P G O.regs };simp [zcw,hk,zhy hgb] at h ⊢;exact h)|(simp [zcw,hk,zhy hgb];exact hF))
theorem z0k (hk:P.i.kind=23) :
  Calls prog 150 #[.pointer (some ⟨b,0,none⟩),.pointer (some ⟨ob,1,none⟩)] w (Does n0 w0 b ob P G { O with regs:=zan P G O.regs }):=by
 obtain ⟨hcl,hco,hfo,hat,hto,hlo⟩:=hF.facts
 go_enter func150,ntmps150
 go_wp2_with fail
 obtain ⟨qb,qo,qc,qd⟩:=hF.qfacts
 refine zat 22 (fun k=>k==1||k==19||k==20) kR kR (fun _ _ _ d _ h=>by cases d<;>exact h) ?_
 simp only [tkd]
 repeat (first|(refine zb2 rfl (by rfl) ?_;apply Exists.intro;refine ⟨fun w=>?_,?_⟩;(go_simp;first|done|with_reducible rfl))|(refine zcp rfl (fun K hK=>?_);go_simp;first|(refine hK _ ?_;clear hK K)|(apply Exists.intro;refine ⟨fun _=>?_,hK _ ?_⟩;(first|(go_at_call 178;exact Calls.regrown_of (zu5 _ _ _ _ hO.a.1 hO.a.2)));clear hK K)))
 refine zda ?_
 intro wq hwq
 replace hF:=hF.regrown hwq
 clear hwq qb qo qc qd hcl hco hfo hat hto hlo
 obtain ⟨hcl,hco,hfo,hat,hto,hlo⟩:=hF.facts
 go_wp2_with fail
 go_end0
 (refine ⟨rfl,?_⟩;first|exact hF.set _|exact hF|exact (hF.set _).drew|exact hF.drew.set _|(have h:=(hF.set { O with regs:=zan P G O.regs }).drew;simp [zan,hk] at h ⊢;exact h)|(have h:=hF.set { O with regs:=zan P G O.regs };simp [zan,hk] at h ⊢;exact h)|(simp [zan,hk];exact hF))
end

end
end Go.Proofs.YtlmbamdkklkliaaGreat
