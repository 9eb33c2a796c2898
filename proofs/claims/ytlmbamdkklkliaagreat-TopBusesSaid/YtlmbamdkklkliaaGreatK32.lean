/- Part of the proof that a law holds at every input. No conditions. -/
import Derived.Test.YtlmbamdkklkliaaGreatK31
namespace Go.Proofs.YtlmbamdkklkliaaGreat
set_option linter.unusedVariables false
set_option linter.unusedSimpArgs false
set_option linter.unusedSectionVars false
set_option maxRecDepth 100000
set_option maxHeartbeats 16000000
open Go.Proofs.Tryz
open Lib (hid)
section
open Go.RowKit
section
variable {n0 b ob:Nat} {w0:World} {P:SPlan} {G:List Int} {O:SCPU} (w:World) (hF:FinA n0 w0 b ob P G O w) (hr:P.c.regs.Ok) (hO:O.regs.Ok) (hG:G.length<=1000000) (hgb:∀ x ∈ G,0<=x/\x<=255)
include n0 b ob w0 P G O w hF hr hO hG hgb
theorem z0i (hk:P.i.kind=24) (ht:zcn P=false) :
  Calls prog 151 #[.pointer (some ⟨b,0,none⟩),.pointer (some ⟨ob,1,none⟩)] w (Does n0 w0 b ob P G { O with regs:=zal P G O.regs }):=by
 obtain ⟨hcl,hco,hfo,hat,hto,hlo⟩:=hF.facts
 have HT:=hid ht
 clear ht
 go_enter func151,ntmps151
 go_wp2_with (first|(go_at_call 166;(refine (zc4 _ hF.plan ).mono ?_);rw [HT.out];rintro e w' ⟨rfl,hB⟩;replace hF:=hF.thru hB;clear hB hcl hco hfo hat hto hlo;obtain ⟨hcl,hco,hfo,hat,hto,hlo⟩:=hF.facts)|(go_at_call 164;(refine (zbp _ hF.plan hG hgb).mono ?_);rintro e w' ⟨rfl,rfl⟩))
 go_end0
 (refine ⟨rfl,?_⟩;first|exact hF.set _|exact hF|exact (hF.set _).drew|exact hF.drew.set _|(have h:=(hF.set { O with regs:=zal P G O.regs }).drew;simp [zal,hk,HT.out] at h ⊢;exact h)|(have h:=hF.set { O with regs:=zal P G O.regs };simp [zal,hk,HT.out] at h ⊢;exact h)|(simp [zal,hk,HT.out];exact hF))
theorem z0g (hk:P.i.kind=25) (ht:zcn P=false) :
  Calls prog 151 #[.pointer (some ⟨b,0,none⟩),.pointer (some ⟨ob,1,none⟩)] w (Does n0 w0 b ob P G { O with regs:=zal P G O.regs }):=by
 obtain ⟨hcl,hco,hfo,hat,hto,hlo⟩:=hF.facts
 have HT:=hid ht
 clear ht
 go_enter func151,ntmps151
 go_wp2_with (first|(go_at_call 166;(refine (zc4 _ hF.plan ).mono ?_);rw [HT.out];rintro e w' ⟨rfl,hB⟩;replace hF:=hF.thru hB;clear hB hcl hco hfo hat hto hlo;obtain ⟨hcl,hco,hfo,hat,hto,hlo⟩:=hF.facts)|(go_at_call 164;(refine (zbp _ hF.plan hG hgb).mono ?_);rintro e w' ⟨rfl,rfl⟩))
 go_end0
 (refine ⟨rfl,?_⟩;first|exact hF.set _|exact hF|exact (hF.set _).drew|exact hF.drew.set _|(have h:=(hF.set { O with regs:=zal P G O.regs }).drew;simp [zal,hk,HT.out] at h ⊢;exact h)|(have h:=hF.set { O with regs:=zal P G O.regs };simp [zal,hk,HT.out] at h ⊢;exact h)|(simp [zal,hk,HT.out];exact hF))
theorem z0e (hk:P.i.kind=26) (ht:zcn P=false) :
  Calls prog 151 #[.pointer (some ⟨b,0,none⟩),.pointer (some ⟨ob,1,none⟩)] w (Does n0 w0 b ob P G { O with regs:=zal P G O.regs }):=by
 obtain ⟨hcl,hco,hfo,hat,hto,hlo⟩:=hF.facts
 have HT:=hid ht
 clear ht
 go_enter func151,ntmps151
 go_wp2_with (first|(go_at_call 166;(refine (zc4 _ hF.plan ).mono ?_);rw [HT.out];rintro e w' ⟨rfl,hB⟩;replace hF:=hF.thru hB;clear hB hcl hco hfo hat hto hlo;obtain ⟨hcl,hco,hfo,hat,hto,hlo⟩:=hF.facts)|(go_at_call 164;(refine (zbp _ hF.plan hG hgb).mono ?_);rintro e w' ⟨rfl,rfl⟩))
 go_end0
 (refine ⟨rfl,?_⟩;first|exact hF.set _|exact hF|exact (hF.set _).drew|exact hF.drew.set _|(have h:=(hF.set { O with regs:=zal P G O.regs }).drew;simp [zal,hk,HT.out] at h ⊢;exact h)|(have h:=hF.set { O with regs:=zal P G O.regs };simp [zal,hk,HT.out] at h ⊢;exact h)|(simp [zal,hk,HT.out];exact hF))
theorem z0a (hk:P.i.kind=45) (ht:zcn P=false) :
  Calls prog 151 #[.pointer (some ⟨b,0,none⟩),.pointer (some ⟨ob,1,none⟩)] w (Does n0 w0 b ob P G { O with regs:=zal P G O.regs }):=by
 obtain ⟨hcl,hco,hfo,hat,hto,hlo⟩:=hF.facts
 have HT:=hid ht
 clear ht
 go_enter func151,ntmps151
 go_wp2_with (first|(go_at_call 166;(refine (zc4 _ hF.plan ).mono ?_);rw [HT.out];rintro e w' ⟨rfl,hB⟩;replace hF:=hF.thru hB;clear hB hcl hco hfo hat hto hlo;obtain ⟨hcl,hco,hfo,hat,hto,hlo⟩:=hF.facts)|(go_at_call 164;(refine (zbp _ hF.plan hG hgb).mono ?_);rintro e w' ⟨rfl,rfl⟩))
 go_end0
 (refine ⟨rfl,?_⟩;first|exact hF.set _|exact hF|exact (hF.set _).drew|exact hF.drew.set _|(have h:=(hF.set { O with regs:=zal P G O.regs }).drew;simp [zal,hk,HT.out] at h ⊢;exact h)|(have h:=hF.set { O with regs:=zal P G O.regs };simp [zal,hk,HT.out] at h ⊢;exact h)|(simp [zal,hk,HT.out];exact hF))
theorem z0h (hk:P.i.kind=24) (ht:zcn P=true) :
  Calls prog 151 #[.pointer (some ⟨b,0,none⟩),.pointer (some ⟨ob,1,none⟩)] w (Does n0 w0 b ob P G { O with regs:=zal P G O.regs }):=by
 obtain ⟨hcl,hco,hfo,hat,hto,hlo⟩:=hF.facts
 have HT:=hid ht
 clear ht
 go_enter func151,ntmps151
 go_wp2_with (first|(go_at_call 166;(refine (zc4 _ hF.plan ).mono ?_);rw [HT.out];rintro e w' ⟨rfl,hB⟩;replace hF:=hF.thru hB;clear hB hcl hco hfo hat hto hlo;obtain ⟨hcl,hco,hfo,hat,hto,hlo⟩:=hF.facts)|(go_at_call 164;(refine (zbp _ hF.plan hG hgb).mono ?_);rintro e w' ⟨rfl,rfl⟩))
 go_end0
 (refine ⟨rfl,?_⟩;first|exact hF.set _|exact hF|exact (hF.set _).drew|exact hF.drew.set _|(have h:=(hF.set { O with regs:=zal P G O.regs }).drew;simp [zal,hk,HT.out] at h ⊢;exact h)|(have h:=hF.set { O with regs:=zal P G O.regs };simp [zal,hk,HT.out] at h ⊢;exact h)|(simp [zal,hk,HT.out];exact hF))
theorem z0f (hk:P.i.kind=25) (ht:zcn P=true) :
  Calls prog 151 #[.pointer (some ⟨b,0,none⟩),.pointer (some ⟨ob,1,none⟩)] w (Does n0 w0 b ob P G { O with regs:=zal P G O.regs }):=by
 obtain ⟨hcl,hco,hfo,hat,hto,hlo⟩:=hF.facts
 have HT:=hid ht
 clear ht
 go_enter func151,ntmps151
 go_wp2_with (first|(go_at_call 166;(refine (zc4 _ hF.plan ).mono ?_);rw [HT.out];rintro e w' ⟨rfl,hB⟩;replace hF:=hF.thru hB;clear hB hcl hco hfo hat hto hlo;obtain ⟨hcl,hco,hfo,hat,hto,hlo⟩:=hF.facts)|(go_at_call 164;(refine (zbp _ hF.plan hG hgb).mono ?_);rintro e w' ⟨rfl,rfl⟩))
 obtain ⟨qb,qo,qc,qd⟩:=hF.qfacts
 refine zat 11 (fun k=>k==1||k==4||k==5||k==6||k==8||k==9) kR kR (fun _ _ _ d _ h=>by cases d<;>exact h) ?_
 simp only [tkd]
 repeat (first|(refine zb2 rfl (by rfl) ?_;apply Exists.intro;refine ⟨fun w=>?_,?_⟩;(go_simp;first|done|with_reducible rfl))|(refine zcp rfl (fun K hK=>?_);go_simp;first|(refine hK _ ?_;clear hK K)|(apply Exists.intro;refine ⟨fun _=>?_,hK _ ?_⟩;(first|(go_at_call 164;exact Calls.regrown_of ((zbp _ (hF.q _ _) hG hgb).mono fun _ _ ⟨he,hw⟩=>⟨he,hw ▸ Below.refl _ _⟩)));clear hK K)))
 refine zda ?_
 intro wq hwq
 replace hF:=hF.regrown hwq
 clear hwq qb qo qc qd hcl hco hfo hat hto hlo
 obtain ⟨hcl,hco,hfo,hat,hto,hlo⟩:=hF.facts
 go_wp2_with fail
 go_end0
 (refine ⟨rfl,?_⟩;first|exact hF.set _|exact hF|exact (hF.set _).drew|exact hF.drew.set _|(have h:=(hF.set { O with regs:=zal P G O.regs }).drew;simp [zal,hk,HT.out] at h ⊢;exact h)|(have h:=hF.set { O with regs:=zal P G O.regs };simp [zal,hk,HT.out] at h ⊢;exact h)|(simp [zal,hk,HT.out];exact hF))
theorem z0d (hk:P.i.kind=26) (ht:zcn P=true) :
  Calls prog 151 #[.pointer (some ⟨b,0,none⟩),.pointer (some ⟨ob,1,none⟩)] w (Does n0 w0 b ob P G { O with regs:=zal P G O.regs }):=by
 obtain ⟨hcl,hco,hfo,hat,hto,hlo⟩:=hF.facts
 have HT:=hid ht
 clear ht
 go_enter func151,ntmps151
 go_wp2_with (first|(go_at_call 166;(refine (zc4 _ hF.plan ).mono ?_);rw [HT.out];rintro e w' ⟨rfl,hB⟩;replace hF:=hF.thru hB;clear hB hcl hco hfo hat hto hlo;obtain ⟨hcl,hco,hfo,hat,hto,hlo⟩:=hF.facts)|(go_at_call 164;(refine (zbp _ hF.plan hG hgb).mono ?_);rintro e w' ⟨rfl,rfl⟩))
 obtain ⟨qb,qo,qc,qd⟩:=hF.qfacts
 refine zat 11 (fun k=>k==1||k==4||k==5||k==6||k==8||k==9) kR kR (fun _ _ _ d _ h=>by cases d<;>exact h) ?_
 simp only [tkd]
 repeat (first|(refine zb2 rfl (by rfl) ?_;apply Exists.intro;refine ⟨fun w=>?_,?_⟩;(go_simp;first|done|with_reducible rfl))|(refine zcp rfl (fun K hK=>?_);go_simp;first|(refine hK _ ?_;clear hK K)|(apply Exists.intro;refine ⟨fun _=>?_,hK _ ?_⟩;(first|(go_at_call 164;exact Calls.regrown_of ((zbp _ (hF.q _ _) hG hgb).mono fun _ _ ⟨he,hw⟩=>⟨he,hw ▸ Below.refl _ _⟩)));clear hK K)))
 refine zda ?_
 intro wq hwq
 replace hF:=hF.regrown hwq
 clear hwq qb qo qc qd hcl hco hfo hat hto hlo
 obtain ⟨hcl,hco,hfo,hat,hto,hlo⟩:=hF.facts
 go_wp2_with fail
 go_end0
 (refine ⟨rfl,?_⟩;first|exact hF.set _|exact hF|exact (hF.set _).drew|exact hF.drew.set _|(have h:=(hF.set { O with regs:=zal P G O.regs }).drew;simp [zal,hk,HT.out] at h ⊢;exact h)|(have h:=hF.set { O with regs:=zal P G O.regs };simp [zal,hk,HT.out] at h ⊢;exact h)|(simp [zal,hk,HT.out];exact hF))
theorem zz9 (hk:P.i.kind=45) (ht:zcn P=true) :
  Calls prog 151 #[.pointer (some ⟨b,0,none⟩),.pointer (some ⟨ob,1,none⟩)] w (Does n0 w0 b ob P G { O with regs:=zal P G O.regs }):=by
 obtain ⟨hcl,hco,hfo,hat,hto,hlo⟩:=hF.facts
 have HT:=hid ht
 clear ht
 go_enter func151,ntmps151
 go_wp2_with (first|(go_at_call 166;(refine (zc4 _ hF.plan ).mono ?_);rw [HT.out];rintro e w' ⟨rfl,hB⟩;replace hF:=hF.thru hB;clear hB hcl hco hfo hat hto hlo;obtain ⟨hcl,hco,hfo,hat,hto,hlo⟩:=hF.facts)|(go_at_call 164;(refine (zbp _ hF.plan hG hgb).mono ?_);rintro e w' ⟨rfl,rfl⟩))
 go_end0
 (refine ⟨rfl,?_⟩;first|exact hF.set _|exact hF|exact (hF.set _).drew|exact hF.drew.set _|(have h:=(hF.set { O with regs:=zal P G O.regs }).drew;simp [zal,hk,HT.out] at h ⊢;exact h)|(have h:=hF.set { O with regs:=zal P G O.regs };simp [zal,hk,HT.out] at h ⊢;exact h)|(simp [zal,hk,HT.out];exact hF))
end
theorem zn3 (x:Int):IntKind.u16.wrap (wrap64 x)=IntKind.u16.wrap x:=by rw [IntKind.wrap_u16,IntKind.wrap_u16];unfold wrap64;omega
section
variable {n0 b ob:Nat} {w0:World} {P:SPlan} {G:List Int} {O:SCPU} (w:World) (hF:FinA n0 w0 b ob P G O w) (hr:P.c.regs.Ok) (hO:O.regs.Ok) (hG:G.length<=1000000) (hgb:∀ x ∈ G,0<=x/\x<=255)
include n0 b ob w0 P G O w hF hr hO hG hgb
theorem z2o (hk:P.i.kind=27)  :
  Calls prog 151 #[.pointer (some ⟨b,0,none⟩),.pointer (some ⟨ob,1,none⟩)] w (Does n0 w0 b ob P G { O with regs:=zal P G O.regs }):=by
 obtain ⟨hcl,hco,hfo,hat,hto,hlo⟩:=hF.facts
 go_enter func151,ntmps151
 go_wp2_with fail
 go_region
 all_goals go_wp2_with fail
 all_goals go_end0
 all_goals (refine ⟨rfl,?_⟩;first|exact hF.set _|exact hF|exact (hF.set _).drew|exact hF.drew.set _|(have h:=(hF.set { O with regs:=zal P G O.regs }).drew;simp [zal,hk,zn3] at h ⊢;exact h)|(have h:=hF.set { O with regs:=zal P G O.regs };simp [zal,hk,zn3] at h ⊢;exact h)|(simp [zal,hk,zn3];exact hF))
theorem z2n (hk:P.i.kind=28)  :
  Calls prog 151 #[.pointer (some ⟨b,0,none⟩),.pointer (some ⟨ob,1,none⟩)] w (Does n0 w0 b ob P G { O with regs:=zal P G O.regs }):=by
 obtain ⟨hcl,hco,hfo,hat,hto,hlo⟩:=hF.facts
 go_enter func151,ntmps151
 go_wp2_with (first|(go_at_call 140;(refine (za0 _ hF.plan _ hr).mono ?_);rintro e w' ⟨rfl,hB⟩;replace hF:=hF.thru hB;clear hB hcl hco hfo hat hto hlo;obtain ⟨hcl,hco,hfo,hat,hto,hlo⟩:=hF.facts))
 go_end0
 (refine ⟨rfl,?_⟩;first|exact hF.set _|exact hF|exact (hF.set _).drew|exact hF.drew.set _|(have h:=(hF.set { O with regs:=zal P G O.regs }).drew;simp [zal,hk] at h ⊢;exact h)|(have h:=hF.set { O with regs:=zal P G O.regs };simp [zal,hk] at h ⊢;exact h)|(simp [zal,hk];exact hF))
theorem z2m (hk:P.i.kind=29)  :
  Calls prog 151 #[.pointer (some ⟨b,0,none⟩),.pointer (some ⟨ob,1,none⟩)] w (Does n0 w0 b ob P G { O with regs:=zal P G O.regs }):=by
 obtain ⟨hcl,hco,hfo,hat,hto,hlo⟩:=hF.facts
 go_enter func151,ntmps151
 go_wp2_with (first|(go_at_call 140;(refine (za0 _ hF.plan _ hr).mono ?_);rintro e w' ⟨rfl,hB⟩;replace hF:=hF.thru hB;clear hB hcl hco hfo hat hto hlo;obtain ⟨hcl,hco,hfo,hat,hto,hlo⟩:=hF.facts))
 go_end0
 (refine ⟨rfl,?_⟩;first|exact hF.set _|exact hF|exact (hF.set _).drew|exact hF.drew.set _|(have h:=(hF.set { O with regs:=zal P G O.regs }).drew;simp [zal,hk] at h ⊢;exact h)|(have h:=hF.set { O with regs:=zal P G O.regs };simp [zal,hk] at h ⊢;exact h)|(simp [zal,hk];exact hF))
theorem z2l (hk:P.i.kind=30)  :
  Calls prog 151 #[.pointer (some ⟨b,0,none⟩),.pointer (some ⟨ob,1,none⟩)] w (Does n0 w0 b ob P G { O with regs:=zal P G O.regs }):=by
 obtain ⟨hcl,hco,hfo,hat,hto,hlo⟩:=hF.facts
 go_enter func151,ntmps151
 go_wp2_with fail
 go_end0
 (refine ⟨rfl,?_⟩;first|exact hF.set _|exact hF|exact (hF.set _).drew|exact hF.drew.set _|(have h:=(hF.set { O with regs:=zal P G O.regs }).drew;simp [zal,hk] at h ⊢;exact h)|(have h:=hF.set { O with regs:=zal P G O.regs };simp [zal,hk] at h ⊢;exact h)|(simp [zal,hk];exact hF))
theorem z0b (hk:P.i.kind=31) (hp:P.i.pair=3) :
  Calls prog 151 #[.pointer (some ⟨b,0,none⟩),.pointer (some ⟨ob,1,none⟩)] w (Does n0 w0 b ob P G { O with regs:=zal P G O.regs }):=by
 obtain ⟨hcl,hco,hfo,hat,hto,hlo⟩:=hF.facts
 go_enter func151,ntmps151
 go_wp2_with fail
 obtain ⟨qb,qo,qc,qd⟩:=hF.qfacts
 refine zad 12 kR kR ?_
 simp only [tkd]
 repeat (quiet_step (first|(go_at_call 164;exact Calls.regrown_of ((zbp _ (hF.q _ _) hG hgb).mono fun _ _ ⟨he,hw⟩=>⟨he,hw ▸ Below.refl _ _⟩))|(go_at_call 179;exact Calls.regrown_of (zoa _ _ _ _ (zeh hgb 1).1 (zeh hgb 1).2))))
 refine wpQuiet_nil ?_
 intro wq hwq
 replace hF:=hF.regrown hwq
 clear hwq qb qo qc qd hcl hco hfo hat hto hlo
 obtain ⟨hcl,hco,hfo,hat,hto,hlo⟩:=hF.facts
 go_wp2_with fail
 go_end0
 (refine ⟨rfl,?_⟩;first|exact hF.set _|exact hF|exact (hF.set _).drew|exact hF.drew.set _|(have h:=(hF.set { O with regs:=zal P G O.regs }).drew;simp [zal,hk,hp] at h ⊢;exact h)|(have h:=hF.set { O with regs:=zal P G O.regs };simp [zal,hk,hp] at h ⊢;exact h)|(simp [zal,hk,hp];exact hF))
theorem z0c (hk:P.i.kind=31) (hp:(P.i.pair==3)=false) :
  Calls prog 151 #[.pointer (some ⟨b,0,none⟩),.pointer (some ⟨ob,1,none⟩)] w (Does n0 w0 b ob P G { O with regs:=zal P G O.regs }):=by
 obtain ⟨hcl,hco,hfo,hat,hto,hlo⟩:=hF.facts
 go_enter func151,ntmps151
 go_wp2_with fail
 obtain ⟨qb,qo,qc,qd⟩:=hF.qfacts
 refine zad 12 kR kR ?_
 simp only [tkd]
 repeat (quiet_step (first|(go_at_call 164;exact Calls.regrown_of ((zbp _ (hF.q _ _) hG hgb).mono fun _ _ ⟨he,hw⟩=>⟨he,hw ▸ Below.refl _ _⟩))|(go_at_call 171;exact Calls.regrown_of (zce _ _ _ _ (zeh hgb 1).1 (zeh hgb 1).2))))
 refine wpQuiet_nil ?_
 intro wq hwq
 replace hF:=hF.regrown hwq
 clear hwq qb qo qc qd hcl hco hfo hat hto hlo
 obtain ⟨hcl,hco,hfo,hat,hto,hlo⟩:=hF.facts
 go_wp2_with fail
 go_end0
 (refine ⟨rfl,?_⟩;first|exact hF.set _|exact hF|exact (hF.set _).drew|exact hF.drew.set _|(have h:=(hF.set { O with regs:=zal P G O.regs }).drew;simp [zal,hk,beq_eq_false_iff_ne.1 hp] at h ⊢;exact h)|(have h:=hF.set { O with regs:=zal P G O.regs };simp [zal,hk,beq_eq_false_iff_ne.1 hp] at h ⊢;exact h)|(simp [zal,hk,beq_eq_false_iff_ne.1 hp];exact hF))
end

end
end Go.Proofs.YtlmbamdkklkliaaGreat
