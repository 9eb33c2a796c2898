/- Part of the proof that a law holds at every input. No conditions. -/
import Derived.Test.YtlmbamdkklkliaaGreatK01
namespace Go.Proofs.YtlmbamdkklkliaaGreat
set_option linter.unusedVariables false
set_option linter.unusedSimpArgs false
set_option maxRecDepth 100000
set_option maxHeartbeats 16000000
open Go.Proofs.Tryz
open Lib (hid)
section
open Go.RowKit
theorem zs8 (c:Bool) (w:World):Calls prog 202 #[.bool c] w fun e w'=>e=.returned (.int .i64 (b2i c))/\w=w':=by
  cases c <;>
  ( go_enter func202,ntmps202
    go_wp2
    go_ret
    exact ⟨rfl,rfl⟩)
theorem zlb (n:Int) (w:World):Calls prog 203 #[.int .i64 n] w fun e w'=>e=.returned (.bool (ovf n))/\w=w':=by
  have h:Hid (ovf n=(decide (n < -128)||decide (127<n))):=rfl
  by_cases h1:n < -128
  · go_enter func203,ntmps203
    go_wp2
    go_ret
    exact ⟨zym (by rw [h.out];simp [h1]),rfl⟩
  · go_enter func203,ntmps203
    go_wp2
    go_ret
    exact ⟨zym (by rw [h.out,decide_eq_false (show ¬n < -128 by omega)];rfl),rfl⟩
theorem zhz (a b:Int) (c:Bool) (w:World) (ha:0<=a) (ha':a<=255) (hb:0<=b) (hb':b<=255) :
    Calls prog 187 #[.int .u8 a,.int .u8 b,.bool c] w fun e w'=>e=.returned (.tuple #[.int .u8 (sumR a b c),.bool (sumO a b c),.bool (sumH a b c),.bool (sumV a b c)])/\w=w':=by
  have e1:=zlz a ha ha'
  have e2:=zlz b hb hb'
  have l1:=zu3 a ha ha'
  have l2:=zu4 a ha ha'
  have l3:=zu3 b hb hb'
  have l4:=zu4 b hb hb'
  have l5:=zya c
  have l6:=zyb c
  go_enter func187,ntmps187
  go_wp2_with (first|(go_at_call 202;refine (zs8 _ _).mono ?_;rintro e w' ⟨rfl,rfl⟩)|(go_at_call 203;refine (zlb _ _).mono ?_;rintro e w' ⟨rfl,rfl⟩))
  go_returns
  exact ⟨rfl,rfl⟩
theorem zhc (a b:Int) (c:Bool) (w:World) (ha:0<=a) (ha':a<=255) (hb:0<=b) (hb':b<=255) :
    Calls prog 189 #[.int .u8 a,.int .u8 b,.bool c] w fun e w'=>e=.returned (.tuple #[.int .u8 (difR a b c),.bool (difO a b c),.bool (difH a b c),.bool (difV a b c)])/\w=w':=by
  have e1:=zlz a ha ha'
  have e2:=zlz b hb hb'
  have l1:=zu3 a ha ha'
  have l2:=zu4 a ha ha'
  have l3:=zu3 b hb hb'
  have l4:=zu4 b hb hb'
  have l5:=zya c
  have l6:=zyb c
  go_enter func189,ntmps189
  go_wp2_with (first|(go_at_call 202;refine (zs8 _ _).mono ?_;rintro e w' ⟨rfl,rfl⟩)|(go_at_call 203;refine (zlb _ _).mono ?_;rintro e w' ⟨rfl,rfl⟩))
  go_returns
  exact ⟨rfl,rfl⟩
theorem zhm (h l:Int) (w:World) (ha:0<=h) (ha':h<=255) (hb:0<=l) (hb':l<=255) :
    Calls prog 145 #[.int .u8 h,.int .u8 l] w fun e w'=>e=.returned (.int .u16 (ze9 h l))/\w=w':=by
  have ej:=zoq h l ha ha' hb hb'
  go_enter func145,ntmps145
  go_wp2
  go_ret
  exact ⟨rfl,rfl⟩
theorem zfn (a b c:Bool) (w:World):Calls prog 194 #[.bool a,.bool b,.bool c] w fun e w'=>e=.returned (.bool (majB a b c))/\w=w':=by
  cases a<;>cases b<;>cases c <;>
  ( go_enter func194,ntmps194
    go_wp2
    go_ret
    exact ⟨rfl,rfl⟩)
theorem zq4 (n:Nat) (hn:n<256) (w:World):Calls prog 205 #[.int .u8 n] w fun e w'=>e=.returned (.bool (zkz 8 n))/\w=w':=by
  go_enter func205,ntmps205
  go_wp2
  go_loop [0,3] (fun b e=>∃ (x:Nat) (v:Bool),x<256/\b=.int .u8 x/\e=.bool v/\Hid ((v==zkz 8 x)=zkz 8 n)) (fun b _=>(intOf b).toNat)
  case atStart=>exact ⟨n,true,hn,rfl,rfl,hid sI⟩
  case round=>
    obtain ⟨x,v,hx,rfl,rfl,hv⟩:=hrel
    by_cases hz:x=0
    · subst hz
      go_wp2
      go_ret
      exact ⟨zym (by have:=hv.out;rw [zvo] at this;simpa using this),rfl⟩
    · have hp:0<x:=oM
      have ht:((x:Int) != 0)=true:=by simp;omega
      go_wp2
      have hl:=z2s ⟨x,hx⟩ hp
      have hd:=zvp ⟨x,hx⟩ hp
      simp only at hl hd
      rw [zw6 x hx hp]
      refine ⟨⟨x &&& (x-1),!v,oM,rfl,rfl,hid ?_⟩,?_⟩
      · rw [hd,<- hv.out];cases v<;>cases zkz 8 x<;>rfl
      · simp only [intOf,Int.toNat_natCast];exact hl
theorem zq5 (b:Int) (w:World) (h:0<=b) (h':b<=255):Calls prog 205 #[.int .u8 b] w fun e w'=>e=.returned (.bool (par b))/\w=w':=by
  obtain ⟨n,rfl⟩:=Int.eq_ofNat_of_zero_le h
  exact zq4 n oM w
end
end Go.Proofs.YtlmbamdkklkliaaGreat
