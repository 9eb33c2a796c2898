/- The walk of the law RegsWrites. -/
import Derived.Test.YtappfgjbidckbaaRegsAny
import Derived.Test.YtappfgjbidckbaaMake
namespace Go.Proofs.Ytappfgjbidckbaa
open Go.RowKit
set_option linter.unusedVariables false

set_option maxHeartbeats 2000000 in
theorem regsWrites_walk (a b c d e h l : Int) (s z k ac p v cy : Bool) (sp pc : Int) (n x y : Int) (w : World) (wa : (Lit.int .u8 a).wf = true) (wb : (Lit.int .u8 b).wf = true) (wc : (Lit.int .u8 c).wf = true) (wd : (Lit.int .u8 d).wf = true) (we : (Lit.int .u8 e).wf = true) (wh : (Lit.int .u8 h).wf = true) (wl : (Lit.int .u8 l).wf = true) (wsp : (Lit.int .u16 sp).wf = true) (wpc : (Lit.int .u16 pc).wf = true) (wn : (Lit.int .i64 n).wf = true) (wx : (Lit.int .u8 x).wf = true) (wy : (Lit.int .u16 y).wf = true) :
    Calls Try.prog 5 #[.agg #[.int .u8 a, .int .u8 b, .int .u8 c, .int .u8 d, .int .u8 e, .int .u8 h, .int .u8 l, .bool s, .bool z, .bool k, .bool ac, .bool p, .bool v, .bool cy, .int .u16 sp, .int .u16 pc], .int .i64 n, .int .u8 x, .int .u16 y] w fun e w' => e = .returned (.bool true) ∧ Below w.heap.size w w' := by
  obtain ⟨hy, hy'⟩ := wf_word wy
  clear wn wx wy wa wb wc wd we wh wl wsp wpc
  go_enter Try.func5, Try.ntmps5
  go_wp2_with fail
  go_region_held3 (fun w' => w'.cell? ⟨w.heap.size, 0, none⟩ = some (.int .u8 a) ∧ w'.cell? ⟨w.heap.size, 1, none⟩ = some (.int .u8 b) ∧ w'.cell? ⟨w.heap.size, 2, none⟩ = some (.int .u8 c) ∧ w'.cell? ⟨w.heap.size, 3, none⟩ = some (.int .u8 d) ∧ w'.cell? ⟨w.heap.size, 4, none⟩ = some (.int .u8 e) ∧ w'.cell? ⟨w.heap.size, 5, none⟩ = some (.int .u8 h) ∧ w'.cell? ⟨w.heap.size, 6, none⟩ = some (.int .u8 l) ∧ w'.cell? ⟨w.heap.size, 7, none⟩ = some (.bool s) ∧ w'.cell? ⟨w.heap.size, 8, none⟩ = some (.bool z) ∧ w'.cell? ⟨w.heap.size, 9, none⟩ = some (.bool k) ∧ w'.cell? ⟨w.heap.size, 10, none⟩ = some (.bool ac) ∧ w'.cell? ⟨w.heap.size, 11, none⟩ = some (.bool p) ∧ w'.cell? ⟨w.heap.size, 12, none⟩ = some (.bool v) ∧ w'.cell? ⟨w.heap.size, 13, none⟩ = some (.bool cy) ∧ w'.cell? ⟨w.heap.size, 14, none⟩ = some (.int .u16 sp) ∧ w'.cell? ⟨w.heap.size, 15, none⟩ = some (.int .u16 pc) ∧ w.heap.size < w'.heap.size ∧ w.heap.size ≤ w'.heap.size ∧ Below w.heap.size w w') (first | assumption | exact HeldR.box _ _ _ _ _ _ _ _ _ _ _ _ _ _ _ _ _ _ | exact HeldR.drew (HeldR.box _ _ _ _ _ _ _ _ _ _ _ _ _ _ _ _ _ _) | (refine HeldR.thru hb ?_; assumption))
    (first | (go_at_call 14; refine (set_below _ _ _ _ _ _ _ _ _ _ _ _ _ _ _ _ _ _ _).mono ?_; rintro e w2 ⟨rfl, hb⟩) | (go_at_call 15; refine (rset_below _ _ _ _ _ _ _ _ _ _ _ _ _ _ _ _ _ _ _).mono ?_; rintro e w2 ⟨rfl, hb⟩) | (go_at_call 16; refine (setpair_any _ _ _ _ _ _ _ _ _ _ _ _ _ _ _ _ _ _ _ hy hy').mono ?_; rintro e w2 ⟨rfl, hb⟩) | (go_at_call 17; refine (rsetpair_any _ _ _ _ _ _ _ _ _ _ _ _ _ _ _ _ _ _ _ hy hy').mono ?_; rintro e w2 ⟨rfl, hb⟩) | (go_at_call 12; refine (known_any _).mono ?_; rintro e w2 ⟨rfl, hb⟩))
  all_goals
    go_wp2_with fail
    go_ret
    exact ⟨rfl, by have hh : HeldR w w.heap.size a b c d e h l s z k ac p v cy sp pc _ := (by assumption); exact hh.2.2.2.2.2.2.2.2.2.2.2.2.2.2.2.2.2.2⟩
end Go.Proofs.Ytappfgjbidckbaa
