/- The walk of the law RegsPSW. -/
import Derived.Test.YtappfgjbidckbaaRegsAny
import Derived.Test.YtappfgjbidckbaaMake
namespace Go.Proofs.Ytappfgjbidckbaa
open Go.RowKit
set_option linter.unusedVariables false

set_option maxHeartbeats 2000000 in
theorem regsPSW_walk (chip : Int) (a b c d e h l : Int) (s z k ac p v cy : Bool) (sp pc : Int) (x : Int) (w : World) (wchip : (Lit.int .i64 chip).wf = true) (wa : (Lit.int .u8 a).wf = true) (wb : (Lit.int .u8 b).wf = true) (wc : (Lit.int .u8 c).wf = true) (wd : (Lit.int .u8 d).wf = true) (we : (Lit.int .u8 e).wf = true) (wh : (Lit.int .u8 h).wf = true) (wl : (Lit.int .u8 l).wf = true) (wsp : (Lit.int .u16 sp).wf = true) (wpc : (Lit.int .u16 pc).wf = true) (wx : (Lit.int .u16 x).wf = true) :
    Calls Try.prog 7 #[.int .i64 chip, .agg #[.int .u8 a, .int .u8 b, .int .u8 c, .int .u8 d, .int .u8 e, .int .u8 h, .int .u8 l, .bool s, .bool z, .bool k, .bool ac, .bool p, .bool v, .bool cy, .int .u16 sp, .int .u16 pc], .int .u16 x] w fun e w' => e = .returned (.bool true) ∧ Below w.heap.size w w' := by
  obtain ⟨la, ua⟩ := wf_byte wa
  obtain ⟨lb, ub⟩ := wf_byte wb
  obtain ⟨lc, uc⟩ := wf_byte wc
  obtain ⟨ld, ud⟩ := wf_byte wd
  obtain ⟨le, ue⟩ := wf_byte we
  obtain ⟨lh, uh⟩ := wf_byte wh
  obtain ⟨ll, ul⟩ := wf_byte wl
  obtain ⟨hx, hx'⟩ := wf_word wx
  clear wx wchip lb ub lc uc ld ud le ue lh uh ll ul wa wb wc wd we wh wl wsp wpc
  have i0 : ∀ w, (Instr.index 27 (.agg #[.int .i64 chip, .int .i64 1, .int .i64 2]) (.int .i64 0)).run Try.prog w = .ok (.int .i64 chip) w := fun _ => by kernel_rfl
  have i1 : ∀ w, (Instr.index 27 (.agg #[.int .i64 chip, .int .i64 1, .int .i64 2]) (.int .i64 1)).run Try.prog w = .ok (.int .i64 1) w := fun _ => by kernel_rfl
  have i2 : ∀ w, (Instr.index 27 (.agg #[.int .i64 chip, .int .i64 1, .int .i64 2]) (.int .i64 2)).run Try.prog w = .ok (.int .i64 2) w := fun _ => by kernel_rfl
  go_enter Try.func7, Try.ntmps7
  go_wp2_with fail
  go_loopw [11] (fun i wr => ∃ m : Int, 0 ≤ m ∧ m ≤ 3 ∧ i = .int .i64 m ∧ HeldR w w.heap.size a b c d e h l s z k ac p v cy sp pc wr) (fun i _ => 3 - (intOf i).toNat)
  case atStart => exact ⟨0, by omega, by omega, rfl, HeldR.box _ _ _ _ _ _ _ _ _ _ _ _ _ _ _ _ _ _⟩
  case round =>
    obtain ⟨m, hm0, hm1, rfl, hS⟩ := hrel
    by_cases h3 : m = 3
    · subst h3
      go_wp2_with fail
      refine (known_any _).mono ?_; rintro e w1 ⟨rfl, h1⟩
      go_wp2_with fail
      go_ret
      exact ⟨rfl, hS.below h1⟩
    · obtain ⟨c', hix⟩ : ∃ c', ∀ w, (Instr.index 27 (.agg #[.int .i64 chip, .int .i64 1, .int .i64 2]) (.int .i64 m)).run Try.prog w = .ok (.int .i64 c') w := by
        obtain rfl | rfl | rfl : m = 0 ∨ m = 1 ∨ m = 2 := by omega
        · exact ⟨_, i0⟩
        · exact ⟨_, i1⟩
        · exact ⟨_, i2⟩
      clear i0 i1 i2
      have HS := Lib.hid hS
      obtain ⟨c0, c1, c2, c3, c4, c5, c6, c7, c8, c9, c10, c11, c12, c13, c14, c15, hz, hs, hB⟩ := hS
      go_wp2_with fail
      go_region_held3 (fun w' => w'.cell? ⟨w.heap.size, 0, none⟩ = some (.int .u8 a) ∧ w'.cell? ⟨w.heap.size, 1, none⟩ = some (.int .u8 b) ∧ w'.cell? ⟨w.heap.size, 2, none⟩ = some (.int .u8 c) ∧ w'.cell? ⟨w.heap.size, 3, none⟩ = some (.int .u8 d) ∧ w'.cell? ⟨w.heap.size, 4, none⟩ = some (.int .u8 e) ∧ w'.cell? ⟨w.heap.size, 5, none⟩ = some (.int .u8 h) ∧ w'.cell? ⟨w.heap.size, 6, none⟩ = some (.int .u8 l) ∧ w'.cell? ⟨w.heap.size, 7, none⟩ = some (.bool s) ∧ w'.cell? ⟨w.heap.size, 8, none⟩ = some (.bool z) ∧ w'.cell? ⟨w.heap.size, 9, none⟩ = some (.bool k) ∧ w'.cell? ⟨w.heap.size, 10, none⟩ = some (.bool ac) ∧ w'.cell? ⟨w.heap.size, 11, none⟩ = some (.bool p) ∧ w'.cell? ⟨w.heap.size, 12, none⟩ = some (.bool v) ∧ w'.cell? ⟨w.heap.size, 13, none⟩ = some (.bool cy) ∧ w'.cell? ⟨w.heap.size, 14, none⟩ = some (.int .u16 sp) ∧ w'.cell? ⟨w.heap.size, 15, none⟩ = some (.int .u16 pc) ∧ w.heap.size < w'.heap.size ∧ w.heap.size ≤ w'.heap.size ∧ Below w.heap.size w w') (first | assumption | exact HS.out.drew | (refine HeldR.thru hb ?_; assumption))
        (first | (go_at_call 18; refine (psw_any _ _ _ _ _ _ _ _ _ _ _ _ _ _ _ _ _ _ la ua).mono ?_; rintro e w2 ⟨rfl, hb⟩) | (go_at_call 19; refine (rpsw_any _ _ _ _ _ _ _ _ _ _ _ _ _ _ _ _ _ _ la ua).mono ?_; rintro e w2 ⟨rfl, hb⟩) | (go_at_call 20; refine (setpsw_any _ _ _ _ _ _ _ _ _ _ _ _ _ _ _ _ _ _ _ hx hx').mono ?_; rintro e w2 ⟨rfl, hb⟩) | (go_at_call 21; refine (rsetpsw_any _ _ _ _ _ _ _ _ _ _ _ _ _ _ _ _ _ _ _ hx hx').mono ?_; rintro e w2 ⟨rfl, hb⟩))
      have hS2 : HeldR w w.heap.size a b c d e h l s z k ac p v cy sp pc w2 := by assumption
      go_wp2_with fail
      go_roundw
      case rel => exact ⟨m + 1, by omega, by omega, rfl, hS2⟩
      case measure => simp [intOf]; omega
end Go.Proofs.Ytappfgjbidckbaa
