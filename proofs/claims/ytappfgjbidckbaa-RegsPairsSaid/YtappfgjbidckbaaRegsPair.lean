/- Pair. -/
import Derived.Test.YtappfgjbidckbaaRegsGet
namespace Go.Proofs.Ytappfgjbidckbaa
open Go.RowKit
set_option linter.unusedVariables false

set_option maxHeartbeats 1000000 in
theorem pair_0 (a b c d e h l : Int) (s z k ac p v cy : Bool) (sp pc : Int) (n : Int) (w : World) (q : n % 4 = 0) (R0 : Hid (∀ i : Int, 0 ≤ regN a b c d e h l i)) (R1 : Hid (∀ i : Int, regN a b c d e h l i ≤ 255)) :
    Calls Try.prog 10 #[.agg #[.int .u8 a, .int .u8 b, .int .u8 c, .int .u8 d, .int .u8 e, .int .u8 h, .int .u8 l, .bool s, .bool z, .bool k, .bool ac, .bool p, .bool v, .bool cy, .int .u16 sp, .int .u16 pc], .int .i64 n] w fun e' w' => e' = .returned (.int .u16 (pairN a b c d e h l sp n)) ∧ Below w.heap.size w w' := by
  have hm := i64_and3 n
  rw [q] at hm
  have Q := Lib.hid q
  clear q
  go_enter Try.func10, Try.ntmps10
  go_wp2_with fail
  go_region_held3 (fun w' => w'.cell? ⟨w.heap.size, 0, none⟩ = some (.int .u8 a) ∧ w'.cell? ⟨w.heap.size, 1, none⟩ = some (.int .u8 b) ∧ w'.cell? ⟨w.heap.size, 2, none⟩ = some (.int .u8 c) ∧ w'.cell? ⟨w.heap.size, 3, none⟩ = some (.int .u8 d) ∧ w'.cell? ⟨w.heap.size, 4, none⟩ = some (.int .u8 e) ∧ w'.cell? ⟨w.heap.size, 5, none⟩ = some (.int .u8 h) ∧ w'.cell? ⟨w.heap.size, 6, none⟩ = some (.int .u8 l) ∧ w'.cell? ⟨w.heap.size, 7, none⟩ = some (.bool s) ∧ w'.cell? ⟨w.heap.size, 8, none⟩ = some (.bool z) ∧ w'.cell? ⟨w.heap.size, 9, none⟩ = some (.bool k) ∧ w'.cell? ⟨w.heap.size, 10, none⟩ = some (.bool ac) ∧ w'.cell? ⟨w.heap.size, 11, none⟩ = some (.bool p) ∧ w'.cell? ⟨w.heap.size, 12, none⟩ = some (.bool v) ∧ w'.cell? ⟨w.heap.size, 13, none⟩ = some (.bool cy) ∧ w'.cell? ⟨w.heap.size, 14, none⟩ = some (.int .u16 sp) ∧ w'.cell? ⟨w.heap.size, 15, none⟩ = some (.int .u16 pc) ∧ w.heap.size < w'.heap.size ∧ w.heap.size ≤ w'.heap.size ∧ Below w.heap.size w w') (first | assumption | exact HeldR.box _ _ _ _ _ _ _ _ _ _ _ _ _ _ _ _ _ _ | exact HeldR.drew (HeldR.box _ _ _ _ _ _ _ _ _ _ _ _ _ _ _ _ _ _) | (refine HeldR.thru hb ?_; assumption))
    (first | (go_at_call 8; refine (get_any _ _ _ _ _ _ _ _ _ _ _ _ _ _ _ _ _ _).mono ?_; rintro e w2 ⟨rfl, hb⟩) | (go_at_call 23; refine (join_any _ _ _ (R0.out _) (R1.out _) (R0.out _) (R1.out _)).mono ?_; rintro e w2 ⟨rfl, rfl⟩))
  all_goals
    go_wp2_with fail
    go_ret
    exact ⟨by simp [pairN, Q.out, (by decide : IntKind.i64.wrap 0 = 0), (by decide : IntKind.i64.wrap 1 = 1)], by have hh : HeldR w w.heap.size a b c d e h l s z k ac p v cy sp pc _ := (by assumption); exact hh.2.2.2.2.2.2.2.2.2.2.2.2.2.2.2.2.2.2⟩

set_option maxHeartbeats 1000000 in
theorem pair_1 (a b c d e h l : Int) (s z k ac p v cy : Bool) (sp pc : Int) (n : Int) (w : World) (q : n % 4 = 1) (R0 : Hid (∀ i : Int, 0 ≤ regN a b c d e h l i)) (R1 : Hid (∀ i : Int, regN a b c d e h l i ≤ 255)) :
    Calls Try.prog 10 #[.agg #[.int .u8 a, .int .u8 b, .int .u8 c, .int .u8 d, .int .u8 e, .int .u8 h, .int .u8 l, .bool s, .bool z, .bool k, .bool ac, .bool p, .bool v, .bool cy, .int .u16 sp, .int .u16 pc], .int .i64 n] w fun e' w' => e' = .returned (.int .u16 (pairN a b c d e h l sp n)) ∧ Below w.heap.size w w' := by
  have hm := i64_and3 n
  rw [q] at hm
  have Q := Lib.hid q
  clear q
  go_enter Try.func10, Try.ntmps10
  go_wp2_with fail
  go_region_held3 (fun w' => w'.cell? ⟨w.heap.size, 0, none⟩ = some (.int .u8 a) ∧ w'.cell? ⟨w.heap.size, 1, none⟩ = some (.int .u8 b) ∧ w'.cell? ⟨w.heap.size, 2, none⟩ = some (.int .u8 c) ∧ w'.cell? ⟨w.heap.size, 3, none⟩ = some (.int .u8 d) ∧ w'.cell? ⟨w.heap.size, 4, none⟩ = some (.int .u8 e) ∧ w'.cell? ⟨w.heap.size, 5, none⟩ = some (.int .u8 h) ∧ w'.cell? ⟨w.heap.size, 6, none⟩ = some (.int .u8 l) ∧ w'.cell? ⟨w.heap.size, 7, none⟩ = some (.bool s) ∧ w'.cell? ⟨w.heap.size, 8, none⟩ = some (.bool z) ∧ w'.cell? ⟨w.heap.size, 9, none⟩ = some (.bool k) ∧ w'.cell? ⟨w.heap.size, 10, none⟩ = some (.bool ac) ∧ w'.cell? ⟨w.heap.size, 11, none⟩ = some (.bool p) ∧ w'.cell? ⟨w.heap.size, 12, none⟩ = some (.bool v) ∧ w'.cell? ⟨w.heap.size, 13, none⟩ = some (.bool cy) ∧ w'.cell? ⟨w.heap.size, 14, none⟩ = some (.int .u16 sp) ∧ w'.cell? ⟨w.heap.size, 15, none⟩ = some (.int .u16 pc) ∧ w.heap.size < w'.heap.size ∧ w.heap.size ≤ w'.heap.size ∧ Below w.heap.size w w') (first | assumption | exact HeldR.box _ _ _ _ _ _ _ _ _ _ _ _ _ _ _ _ _ _ | exact HeldR.drew (HeldR.box _ _ _ _ _ _ _ _ _ _ _ _ _ _ _ _ _ _) | (refine HeldR.thru hb ?_; assumption))
    (first | (go_at_call 8; refine (get_any _ _ _ _ _ _ _ _ _ _ _ _ _ _ _ _ _ _).mono ?_; rintro e w2 ⟨rfl, hb⟩) | (go_at_call 23; refine (join_any _ _ _ (R0.out _) (R1.out _) (R0.out _) (R1.out _)).mono ?_; rintro e w2 ⟨rfl, rfl⟩))
  all_goals
    go_wp2_with fail
    go_ret
    exact ⟨by simp [pairN, Q.out, (by decide : IntKind.i64.wrap 2 = 2), (by decide : IntKind.i64.wrap 3 = 3)], by have hh : HeldR w w.heap.size a b c d e h l s z k ac p v cy sp pc _ := (by assumption); exact hh.2.2.2.2.2.2.2.2.2.2.2.2.2.2.2.2.2.2⟩

set_option maxHeartbeats 1000000 in
theorem pair_2 (a b c d e h l : Int) (s z k ac p v cy : Bool) (sp pc : Int) (n : Int) (w : World) (q : n % 4 = 2) (R0 : Hid (∀ i : Int, 0 ≤ regN a b c d e h l i)) (R1 : Hid (∀ i : Int, regN a b c d e h l i ≤ 255)) :
    Calls Try.prog 10 #[.agg #[.int .u8 a, .int .u8 b, .int .u8 c, .int .u8 d, .int .u8 e, .int .u8 h, .int .u8 l, .bool s, .bool z, .bool k, .bool ac, .bool p, .bool v, .bool cy, .int .u16 sp, .int .u16 pc], .int .i64 n] w fun e' w' => e' = .returned (.int .u16 (pairN a b c d e h l sp n)) ∧ Below w.heap.size w w' := by
  have hm := i64_and3 n
  rw [q] at hm
  have Q := Lib.hid q
  clear q
  go_enter Try.func10, Try.ntmps10
  go_wp2_with fail
  go_region_held3 (fun w' => w'.cell? ⟨w.heap.size, 0, none⟩ = some (.int .u8 a) ∧ w'.cell? ⟨w.heap.size, 1, none⟩ = some (.int .u8 b) ∧ w'.cell? ⟨w.heap.size, 2, none⟩ = some (.int .u8 c) ∧ w'.cell? ⟨w.heap.size, 3, none⟩ = some (.int .u8 d) ∧ w'.cell? ⟨w.heap.size, 4, none⟩ = some (.int .u8 e) ∧ w'.cell? ⟨w.heap.size, 5, none⟩ = some (.int .u8 h) ∧ w'.cell? ⟨w.heap.size, 6, none⟩ = some (.int .u8 l) ∧ w'.cell? ⟨w.heap.size, 7, none⟩ = some (.bool s) ∧ w'.cell? ⟨w.heap.size, 8, none⟩ = some (.bool z) ∧ w'.cell? ⟨w.heap.size, 9, none⟩ = some (.bool k) ∧ w'.cell? ⟨w.heap.size, 10, none⟩ = some (.bool ac) ∧ w'.cell? ⟨w.heap.size, 11, none⟩ = some (.bool p) ∧ w'.cell? ⟨w.heap.size, 12, none⟩ = some (.bool v) ∧ w'.cell? ⟨w.heap.size, 13, none⟩ = some (.bool cy) ∧ w'.cell? ⟨w.heap.size, 14, none⟩ = some (.int .u16 sp) ∧ w'.cell? ⟨w.heap.size, 15, none⟩ = some (.int .u16 pc) ∧ w.heap.size < w'.heap.size ∧ w.heap.size ≤ w'.heap.size ∧ Below w.heap.size w w') (first | assumption | exact HeldR.box _ _ _ _ _ _ _ _ _ _ _ _ _ _ _ _ _ _ | exact HeldR.drew (HeldR.box _ _ _ _ _ _ _ _ _ _ _ _ _ _ _ _ _ _) | (refine HeldR.thru hb ?_; assumption))
    (first | (go_at_call 8; refine (get_any _ _ _ _ _ _ _ _ _ _ _ _ _ _ _ _ _ _).mono ?_; rintro e w2 ⟨rfl, hb⟩) | (go_at_call 23; refine (join_any _ _ _ (R0.out _) (R1.out _) (R0.out _) (R1.out _)).mono ?_; rintro e w2 ⟨rfl, rfl⟩))
  all_goals
    go_wp2_with fail
    go_ret
    exact ⟨by simp [pairN, Q.out, (by decide : IntKind.i64.wrap 4 = 4), (by decide : IntKind.i64.wrap 5 = 5)], by have hh : HeldR w w.heap.size a b c d e h l s z k ac p v cy sp pc _ := (by assumption); exact hh.2.2.2.2.2.2.2.2.2.2.2.2.2.2.2.2.2.2⟩

set_option maxHeartbeats 1000000 in
theorem pair_3 (a b c d e h l : Int) (s z k ac p v cy : Bool) (sp pc : Int) (n : Int) (w : World) (q : n % 4 = 3) (R0 : Hid (∀ i : Int, 0 ≤ regN a b c d e h l i)) (R1 : Hid (∀ i : Int, regN a b c d e h l i ≤ 255)) :
    Calls Try.prog 10 #[.agg #[.int .u8 a, .int .u8 b, .int .u8 c, .int .u8 d, .int .u8 e, .int .u8 h, .int .u8 l, .bool s, .bool z, .bool k, .bool ac, .bool p, .bool v, .bool cy, .int .u16 sp, .int .u16 pc], .int .i64 n] w fun e' w' => e' = .returned (.int .u16 (pairN a b c d e h l sp n)) ∧ Below w.heap.size w w' := by
  have hm := i64_and3 n
  rw [q] at hm
  have Q := Lib.hid q
  clear q
  go_enter Try.func10, Try.ntmps10
  go_wp2_with fail
  go_ret
  exact ⟨by simp [pairN, Q.out], by go_grown⟩
end Go.Proofs.Ytappfgjbidckbaa
