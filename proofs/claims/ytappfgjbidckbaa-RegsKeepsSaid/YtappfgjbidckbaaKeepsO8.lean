/- The walk of the law RegsKeeps where the other place is another. -/
import Derived.Test.YtappfgjbidckbaaPlace8
namespace Go.Proofs.Ytappfgjbidckbaa
open Go.RowKit
set_option linter.unusedVariables false

set_option maxHeartbeats 4000000 in
theorem keeps_other (a b c d e h l : Int) (s z k_ ac p v cy : Bool) (sp pc : Int) (n k x : Int) (w : World) (N K : Int) (hN : placeN n 8 = N) (hK : placeN k 8 = K) (h0 : 0 ≤ N) (h1 : N < 8) (h6 : N ≠ 6) (k0 : 0 ≤ K) (k1 : K < 8) (hKN : K ≠ N) :
    Calls Try.prog 4 #[.agg #[.int .u8 a, .int .u8 b, .int .u8 c, .int .u8 d, .int .u8 e, .int .u8 h, .int .u8 l, .bool s, .bool z, .bool (k_), .bool ac, .bool p, .bool v, .bool cy, .int .u16 sp, .int .u16 pc], .int .i64 n, .int .i64 k, .int .u8 x] w fun e w' => e = .returned (.bool true) ∧ Below w.heap.size w w' := by
  have NN := Lib.hid hN
  clear hN
  have KK := Lib.hid hK
  clear hK
  have n6 : (N == 6) = false := by rw [beq_eq_false_iff_ne]; exact h6
  have kn : (K == N) = false := by rw [beq_eq_false_iff_ne]; exact hKN
  go_enter Try.func4, Try.ntmps4
  go_wp2_with fail
  refine (place_to _ 8 N _ (by omega) (by omega) NN.out).mono ?_; rintro e_ w_ ⟨rfl, rfl⟩
  go_wp2_with fail
  refine (place_to _ 8 K _ (by omega) (by omega) KK.out).mono ?_; rintro e_ w_ ⟨rfl, rfl⟩
  go_wp2_with fail
  refine (set_kept _ _ _ _ _ _ _ _ _ _ _ _ _ _ _ _ _ _ _ h0 h1 h6).mono ?_; rintro e_ w1 ⟨a', b', c', d', e', h', l', ⟨g1, g2⟩, rfl, hb⟩
  have g3 := g2 K k0 k1 hKN
  clear g2 h0 h1 h6 k0 k1 hKN
  have HR : HeldR w w.heap.size a b c d e h l s z k_ ac p v cy sp pc w1 := HeldR.thru hb (HeldR.box _ _ _ _ _ _ _ _ _ _ _ _ _ _ _ _ _ _)
  have H0 : Hid (HeldR w w.heap.size a b c d e h l s z k_ ac p v cy sp pc (w1.alloc (.cells #[.int .u8 (a'), .int .u8 (b'), .int .u8 (c'), .int .u8 (d'), .int .u8 (e'), .int .u8 (h'), .int .u8 (l'), .bool s, .bool z, .bool (k_), .bool ac, .bool p, .bool v, .bool cy, .int .u16 sp, .int .u16 pc] 26)) ∧ HeldR w w1.heap.size a' b' c' d' e' h' l' s z k_ ac p v cy sp pc (w1.alloc (.cells #[.int .u8 (a'), .int .u8 (b'), .int .u8 (c'), .int .u8 (d'), .int .u8 (e'), .int .u8 (h'), .int .u8 (l'), .bool s, .bool z, .bool (k_), .bool ac, .bool p, .bool v, .bool cy, .int .u16 sp, .int .u16 pc] 26))) := Lib.hid ⟨HR.thru ((Below.refl _ _).alloc (Nat.le_refl _) _), HeldR.fresh _ _ _ _ _ _ _ _ _ _ _ _ _ _ _ _ HR⟩
  clear HR hb
  go_wp2_with fail
  as_aux_lemma =>
    go_region_held3 (fun w' => (w'.cell? ⟨w.heap.size, 0, none⟩ = some (.int .u8 a) ∧ w'.cell? ⟨w.heap.size, 1, none⟩ = some (.int .u8 b) ∧ w'.cell? ⟨w.heap.size, 2, none⟩ = some (.int .u8 c) ∧ w'.cell? ⟨w.heap.size, 3, none⟩ = some (.int .u8 d) ∧ w'.cell? ⟨w.heap.size, 4, none⟩ = some (.int .u8 e) ∧ w'.cell? ⟨w.heap.size, 5, none⟩ = some (.int .u8 h) ∧ w'.cell? ⟨w.heap.size, 6, none⟩ = some (.int .u8 l) ∧ w'.cell? ⟨w.heap.size, 7, none⟩ = some (.bool s) ∧ w'.cell? ⟨w.heap.size, 8, none⟩ = some (.bool z) ∧ w'.cell? ⟨w.heap.size, 9, none⟩ = some (.bool (k_)) ∧ w'.cell? ⟨w.heap.size, 10, none⟩ = some (.bool ac) ∧ w'.cell? ⟨w.heap.size, 11, none⟩ = some (.bool p) ∧ w'.cell? ⟨w.heap.size, 12, none⟩ = some (.bool v) ∧ w'.cell? ⟨w.heap.size, 13, none⟩ = some (.bool cy) ∧ w'.cell? ⟨w.heap.size, 14, none⟩ = some (.int .u16 sp) ∧ w'.cell? ⟨w.heap.size, 15, none⟩ = some (.int .u16 pc) ∧ w.heap.size < w'.heap.size ∧ w.heap.size ≤ w'.heap.size ∧ Below w.heap.size w w') ∧ (w'.cell? ⟨w1.heap.size, 0, none⟩ = some (.int .u8 (a')) ∧ w'.cell? ⟨w1.heap.size, 1, none⟩ = some (.int .u8 (b')) ∧ w'.cell? ⟨w1.heap.size, 2, none⟩ = some (.int .u8 (c')) ∧ w'.cell? ⟨w1.heap.size, 3, none⟩ = some (.int .u8 (d')) ∧ w'.cell? ⟨w1.heap.size, 4, none⟩ = some (.int .u8 (e')) ∧ w'.cell? ⟨w1.heap.size, 5, none⟩ = some (.int .u8 (h')) ∧ w'.cell? ⟨w1.heap.size, 6, none⟩ = some (.int .u8 (l')) ∧ w'.cell? ⟨w1.heap.size, 7, none⟩ = some (.bool s) ∧ w'.cell? ⟨w1.heap.size, 8, none⟩ = some (.bool z) ∧ w'.cell? ⟨w1.heap.size, 9, none⟩ = some (.bool (k_)) ∧ w'.cell? ⟨w1.heap.size, 10, none⟩ = some (.bool ac) ∧ w'.cell? ⟨w1.heap.size, 11, none⟩ = some (.bool p) ∧ w'.cell? ⟨w1.heap.size, 12, none⟩ = some (.bool v) ∧ w'.cell? ⟨w1.heap.size, 13, none⟩ = some (.bool cy) ∧ w'.cell? ⟨w1.heap.size, 14, none⟩ = some (.int .u16 sp) ∧ w'.cell? ⟨w1.heap.size, 15, none⟩ = some (.int .u16 pc) ∧ w1.heap.size < w'.heap.size ∧ w.heap.size ≤ w'.heap.size ∧ Below w.heap.size w w')) (first | assumption | exact H0.out | exact keepBoth (Below.refl _ _).drew H0.out | (refine keepBoth hb ?_; assumption))
      (first | (go_at_call 8; refine (get_any _ _ _ _ _ _ _ _ _ _ _ _ _ _ _ _ _ _).mono ?_; rintro e_ w2 ⟨rfl, hb⟩) | (go_at_call 12; refine (known_any _).mono ?_; rintro e_ w2 ⟨rfl, hb⟩))
    all_goals
      go_wp2_with fail
      go_ret
      exact ⟨rfl, by have hh : HeldR w w1.heap.size a' b' c' d' e' h' l' s z k_ ac p v cy sp pc _ := And.right (by assumption); exact hh.2.2.2.2.2.2.2.2.2.2.2.2.2.2.2.2.2.2⟩
end Go.Proofs.Ytappfgjbidckbaa
