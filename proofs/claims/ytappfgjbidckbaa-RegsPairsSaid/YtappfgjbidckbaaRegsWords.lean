/- The words of A and the flags. -/
import Derived.Test.YtappfgjbidckbaaRegsGet
namespace Go.Proofs.Ytappfgjbidckbaa
open Go.RowKit
set_option linter.unusedVariables false

theorem unpack_two (chip b : Int) (on : Bool) (w : World) (hc : (chip == 2) = on) (h : 0 ≤ b) (h' : b ≤ 255) :
    Calls Try.prog 27 #[.int .i64 chip, .int .u8 b] w fun e w' => e = .returned (.agg #[.bool (tb b 128), .bool (tb b 64), .bool (on && tb b 32), .bool (tb b 16), .bool (tb b 4), .bool (on && tb b 2), .bool (tb b 1)]) ∧ ∃ o, (w.alloc o).alloc o = w' := by
  cases on
  all_goals
    go_enter Try.func27, Try.ntmps27
    go_wp2
    go_returns
    exact ⟨rfl, _, rfl⟩

theorem runpack_two (chip b : Int) (on : Bool) (w : World) (hc : (chip == 2) = on) (h : 0 ≤ b) (h' : b ≤ 255) :
    Calls Try.prog 28 #[.int .i64 chip, .int .u8 b] w fun e w' => e = .returned (.agg #[.bool (tb b 128), .bool (tb b 64), .bool (on && tb b 32), .bool (tb b 16), .bool (tb b 4), .bool (on && tb b 2), .bool (tb b 1)]) ∧ ∃ o, (w.alloc o).alloc o = w' := by
  cases on
  all_goals
    go_enter Try.func28, Try.ntmps28
    go_wp2_with (first | (go_at_call 31; refine (on_any _ _).mono ?_; rintro e w' ⟨rfl, rfl⟩))
    go_returns
    exact ⟨rfl, _, rfl⟩

set_option maxHeartbeats 1000000 in
theorem psw_any (chip : Int) (a b c d e h l : Int) (s z k ac p v cy : Bool) (sp pc : Int) (w : World) (la : 0 ≤ a) (ua : a ≤ 255) :
    Calls Try.prog 18 #[.int .i64 chip, .agg #[.int .u8 a, .int .u8 b, .int .u8 c, .int .u8 d, .int .u8 e, .int .u8 h, .int .u8 l, .bool s, .bool z, .bool k, .bool ac, .bool p, .bool v, .bool cy, .int .u16 sp, .int .u16 pc]] w fun e' w' => e' = .returned (.int .u16 (joinW a (packB (chip == 2) s z k ac p v cy))) ∧ Below w.heap.size w w' := by
  go_enter Try.func18, Try.ntmps18
  go_wp2_with fail
  go_region_held3 (fun w' => w'.cell? ⟨w.heap.size, 0, none⟩ = some (.int .u8 a) ∧ w'.cell? ⟨w.heap.size, 1, none⟩ = some (.int .u8 b) ∧ w'.cell? ⟨w.heap.size, 2, none⟩ = some (.int .u8 c) ∧ w'.cell? ⟨w.heap.size, 3, none⟩ = some (.int .u8 d) ∧ w'.cell? ⟨w.heap.size, 4, none⟩ = some (.int .u8 e) ∧ w'.cell? ⟨w.heap.size, 5, none⟩ = some (.int .u8 h) ∧ w'.cell? ⟨w.heap.size, 6, none⟩ = some (.int .u8 l) ∧ w'.cell? ⟨w.heap.size, 7, none⟩ = some (.bool s) ∧ w'.cell? ⟨w.heap.size, 8, none⟩ = some (.bool z) ∧ w'.cell? ⟨w.heap.size, 9, none⟩ = some (.bool k) ∧ w'.cell? ⟨w.heap.size, 10, none⟩ = some (.bool ac) ∧ w'.cell? ⟨w.heap.size, 11, none⟩ = some (.bool p) ∧ w'.cell? ⟨w.heap.size, 12, none⟩ = some (.bool v) ∧ w'.cell? ⟨w.heap.size, 13, none⟩ = some (.bool cy) ∧ w'.cell? ⟨w.heap.size, 14, none⟩ = some (.int .u16 sp) ∧ w'.cell? ⟨w.heap.size, 15, none⟩ = some (.int .u16 pc) ∧ w.heap.size < w'.heap.size ∧ w.heap.size ≤ w'.heap.size ∧ Below w.heap.size w w') (first | assumption | exact HeldR.box _ _ _ _ _ _ _ _ _ _ _ _ _ _ _ _ _ _ | exact HeldR.drew (HeldR.box _ _ _ _ _ _ _ _ _ _ _ _ _ _ _ _ _ _) | (refine HeldR.thru hb ?_; assumption))
    (first | (go_at_call 25; refine (pack_any _ _ _ _ _ _ _ _ _ _ rfl).mono ?_; rintro e w2 ⟨rfl, hb⟩) | (go_at_call 23; refine (join_any _ _ _ la ua (packB_lo _ _ _ _ _ _ _ _) (packB_hi _ _ _ _ _ _ _ _)).mono ?_; rintro e w2 ⟨rfl, rfl⟩))
  all_goals
    go_wp2_with fail
    go_ret
    exact ⟨rfl, by have hh : HeldR w w.heap.size a b c d e h l s z k ac p v cy sp pc _ := (by assumption); exact hh.2.2.2.2.2.2.2.2.2.2.2.2.2.2.2.2.2.2⟩

set_option maxHeartbeats 2000000 in
theorem setpsw_any (chip : Int) (a b c d e h l : Int) (s z k ac p v cy : Bool) (sp pc : Int) (x : Int) (w : World) (hx : 0 ≤ x) (hx' : x ≤ 65535) :
    Calls Try.prog 20 #[.int .i64 chip, .agg #[.int .u8 a, .int .u8 b, .int .u8 c, .int .u8 d, .int .u8 e, .int .u8 h, .int .u8 l, .bool s, .bool z, .bool k, .bool ac, .bool p, .bool v, .bool cy, .int .u16 sp, .int .u16 pc], .int .u16 x] w fun e' w' => e' = .returned (.agg #[.int .u8 (x / 256), .int .u8 b, .int .u8 c, .int .u8 d, .int .u8 e, .int .u8 h, .int .u8 l, .bool (tb (x % 256) 128), .bool (tb (x % 256) 64), .bool ((chip == 2) && tb (x % 256) 32), .bool (tb (x % 256) 16), .bool (tb (x % 256) 4), .bool ((chip == 2) && tb (x % 256) 2), .bool (tb (x % 256) 1), .int .u16 sp, .int .u16 pc]) ∧ Below w.heap.size w w' := by
  go_enter Try.func20, Try.ntmps20
  go_wp2_with fail
  refine (unpack_two _ (x % 256) _ _ rfl (by omega) (by omega)).mono ?_; rintro e w1 ⟨rfl, o, rfl⟩
  go_wp2_with fail
  go_returns
  exact ⟨rfl, by go_grown⟩

set_option maxHeartbeats 1000000 in
theorem rpsw_any (chip : Int) (a b c d e h l : Int) (s z k ac p v cy : Bool) (sp pc : Int) (w : World) (la : 0 ≤ a) (ua : a ≤ 255) :
    Calls Try.prog 19 #[.int .i64 chip, .agg #[.int .u8 a, .int .u8 b, .int .u8 c, .int .u8 d, .int .u8 e, .int .u8 h, .int .u8 l, .bool s, .bool z, .bool k, .bool ac, .bool p, .bool v, .bool cy, .int .u16 sp, .int .u16 pc]] w fun e' w' => e' = .returned (.int .u16 (joinW a (packB (chip == 2) s z k ac p v cy))) ∧ Below w.heap.size w w' := by
  go_enter Try.func19, Try.ntmps19
  go_wp2_with fail
  go_region_held3 (fun w' => w'.cell? ⟨w.heap.size, 0, none⟩ = some (.int .u8 a) ∧ w'.cell? ⟨w.heap.size, 1, none⟩ = some (.int .u8 b) ∧ w'.cell? ⟨w.heap.size, 2, none⟩ = some (.int .u8 c) ∧ w'.cell? ⟨w.heap.size, 3, none⟩ = some (.int .u8 d) ∧ w'.cell? ⟨w.heap.size, 4, none⟩ = some (.int .u8 e) ∧ w'.cell? ⟨w.heap.size, 5, none⟩ = some (.int .u8 h) ∧ w'.cell? ⟨w.heap.size, 6, none⟩ = some (.int .u8 l) ∧ w'.cell? ⟨w.heap.size, 7, none⟩ = some (.bool s) ∧ w'.cell? ⟨w.heap.size, 8, none⟩ = some (.bool z) ∧ w'.cell? ⟨w.heap.size, 9, none⟩ = some (.bool k) ∧ w'.cell? ⟨w.heap.size, 10, none⟩ = some (.bool ac) ∧ w'.cell? ⟨w.heap.size, 11, none⟩ = some (.bool p) ∧ w'.cell? ⟨w.heap.size, 12, none⟩ = some (.bool v) ∧ w'.cell? ⟨w.heap.size, 13, none⟩ = some (.bool cy) ∧ w'.cell? ⟨w.heap.size, 14, none⟩ = some (.int .u16 sp) ∧ w'.cell? ⟨w.heap.size, 15, none⟩ = some (.int .u16 pc) ∧ w.heap.size < w'.heap.size ∧ w.heap.size ≤ w'.heap.size ∧ Below w.heap.size w w') (first | assumption | exact HeldR.box _ _ _ _ _ _ _ _ _ _ _ _ _ _ _ _ _ _ | exact HeldR.drew (HeldR.box _ _ _ _ _ _ _ _ _ _ _ _ _ _ _ _ _ _) | (refine HeldR.thru hb ?_; assumption))
    (first | (go_at_call 26; refine (rpack_any _ _ _ _ _ _ _ _ _ _ rfl).mono ?_; rintro e w2 ⟨rfl, hb⟩) | (go_at_call 24; refine (rjoin_any _ _ _ la ua (packB_lo _ _ _ _ _ _ _ _) (packB_hi _ _ _ _ _ _ _ _)).mono ?_; rintro e w2 ⟨rfl, rfl⟩))
  all_goals
    go_wp2_with fail
    go_ret
    exact ⟨rfl, by have hh : HeldR w w.heap.size a b c d e h l s z k ac p v cy sp pc _ := (by assumption); exact hh.2.2.2.2.2.2.2.2.2.2.2.2.2.2.2.2.2.2⟩

set_option maxHeartbeats 2000000 in
theorem rsetpsw_any (chip : Int) (a b c d e h l : Int) (s z k ac p v cy : Bool) (sp pc : Int) (x : Int) (w : World) (hx : 0 ≤ x) (hx' : x ≤ 65535) :
    Calls Try.prog 21 #[.int .i64 chip, .agg #[.int .u8 a, .int .u8 b, .int .u8 c, .int .u8 d, .int .u8 e, .int .u8 h, .int .u8 l, .bool s, .bool z, .bool k, .bool ac, .bool p, .bool v, .bool cy, .int .u16 sp, .int .u16 pc], .int .u16 x] w fun e' w' => e' = .returned (.agg #[.int .u8 (x / 256), .int .u8 b, .int .u8 c, .int .u8 d, .int .u8 e, .int .u8 h, .int .u8 l, .bool (tb (x % 256) 128), .bool (tb (x % 256) 64), .bool ((chip == 2) && tb (x % 256) 32), .bool (tb (x % 256) 16), .bool (tb (x % 256) 4), .bool ((chip == 2) && tb (x % 256) 2), .bool (tb (x % 256) 1), .int .u16 sp, .int .u16 pc]) ∧ Below w.heap.size w w' := by
  go_enter Try.func21, Try.ntmps21
  go_wp2_with fail
  refine (runpack_two _ (x % 256) _ _ rfl (by omega) (by omega)).mono ?_; rintro e w1 ⟨rfl, o, rfl⟩
  go_wp2_with fail
  go_returns
  exact ⟨rfl, by go_grown⟩
end Go.Proofs.Ytappfgjbidckbaa
