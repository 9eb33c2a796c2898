/- A walk of the law RegsPairs. -/
import Derived.Test.YtappfgjbidckbaaKeptP8
namespace Go.Proofs.Ytappfgjbidckbaa
open Go.RowKit
set_option linter.unusedVariables false

set_option maxHeartbeats 4000000 in
theorem pairs_hi_other (a b c d e h l : Int) (s z k_ ac p v cy : Bool) (sp pc : Int) (n k x : Int) (w : World) (K : Int) (hN : placeN n 4 = 3) (hK : placeN k 4 = K) (k0 : 0 ≤ K) (k1 : K < 4) (hKN : K ≠ 3) (hx : 0 ≤ x) (hx' : x ≤ 65535) (la : 0 ≤ a) (ua : a ≤ 255) (lb : 0 ≤ b) (ub : b ≤ 255) (lc : 0 ≤ c) (uc : c ≤ 255) (ld : 0 ≤ d) (ud : d ≤ 255) (le : 0 ≤ e) (ue : e ≤ 255) (lh : 0 ≤ h) (uh : h ≤ 255) (ll : 0 ≤ l) (ul : l ≤ 255) :
    Calls Try.prog 6 #[.agg #[.int .u8 a, .int .u8 b, .int .u8 c, .int .u8 d, .int .u8 e, .int .u8 h, .int .u8 l, .bool s, .bool z, .bool (k_), .bool ac, .bool p, .bool v, .bool cy, .int .u16 sp, .int .u16 pc], .int .i64 n, .int .i64 k, .int .u16 x] w fun e w' => e = .returned (.bool true) ∧ Below w.heap.size w w' := by
  have NN := Lib.hid hN
  clear hN
  have KK := Lib.hid hK
  clear hK
  have R0 : Hid (∀ i : Int, 0 ≤ regN a b c d e h l i) := reg0 la ua lb ub lc uc ld ud le ue lh uh ll ul
  have R1 : Hid (∀ i : Int, regN a b c d e h l i ≤ 255) := reg1 la ua lb ub lc uc ld ud le ue lh uh ll ul
  have SK := Lib.hid (fun W => setpair_kept a b c d e h l s z k_ ac p v cy sp pc 3 x W (by omega) (by omega) hx hx' la ua lb ub lc uc ld ud le ue lh uh ll ul)
  clear la ua lb ub lc uc ld ud le ue lh uh ll ul
  have kn : (K == 3) = false := by rw [beq_eq_false_iff_ne]; exact hKN
  go_enter Try.func6, Try.ntmps6
  go_wp2_with fail
  refine (place_to _ 4 3 _ (by omega) (by omega) NN.out).mono ?_; rintro e_ w_ ⟨rfl, rfl⟩
  go_wp2_with fail
  refine (place_to _ 4 K _ (by omega) (by omega) KK.out).mono ?_; rintro e_ w_ ⟨rfl, rfl⟩
  go_wp2_with fail
  refine (SK.out _).mono ?_; rintro e_ w1 ⟨b', c', d', e', h', l', sp', ⟨g1, g2, g4, g3⟩, ⟨S0, S1⟩, rfl, hb⟩
  clear g4 SK
  have g5 := g3 K k0 k1 hKN
  skip
  clear g1 g3 k0 k1 hKN
  have HR : HeldR w w.heap.size a b c d e h l s z k_ ac p v cy sp pc w1 := HeldR.thru hb (HeldR.box _ _ _ _ _ _ _ _ _ _ _ _ _ _ _ _ _ _)
  have H0 : Hid (HeldR w w.heap.size a b c d e h l s z k_ ac p v cy sp pc (w1.alloc (.cells #[.int .u8 a, .int .u8 (b'), .int .u8 (c'), .int .u8 (d'), .int .u8 (e'), .int .u8 (h'), .int .u8 (l'), .bool s, .bool z, .bool (k_), .bool ac, .bool p, .bool v, .bool cy, .int .u16 (sp'), .int .u16 pc] 26)) ∧ HeldR w w1.heap.size a b' c' d' e' h' l' s z k_ ac p v cy sp' pc (w1.alloc (.cells #[.int .u8 a, .int .u8 (b'), .int .u8 (c'), .int .u8 (d'), .int .u8 (e'), .int .u8 (h'), .int .u8 (l'), .bool s, .bool z, .bool (k_), .bool ac, .bool p, .bool v, .bool cy, .int .u16 (sp'), .int .u16 pc] 26))) := Lib.hid ⟨HR.thru ((Below.refl _ _).alloc (Nat.le_refl _) _), HeldR.fresh _ _ _ _ _ _ _ _ _ _ _ _ _ _ _ _ HR⟩
  clear HR hb
  go_wp2_with fail
  as_aux_lemma =>
    refine wp_region_held_drew (S := (fun w' => (w'.cell? ⟨w.heap.size, 0, none⟩ = some (.int .u8 a) ∧ w'.cell? ⟨w.heap.size, 1, none⟩ = some (.int .u8 b) ∧ w'.cell? ⟨w.heap.size, 2, none⟩ = some (.int .u8 c) ∧ w'.cell? ⟨w.heap.size, 3, none⟩ = some (.int .u8 d) ∧ w'.cell? ⟨w.heap.size, 4, none⟩ = some (.int .u8 e) ∧ w'.cell? ⟨w.heap.size, 5, none⟩ = some (.int .u8 h) ∧ w'.cell? ⟨w.heap.size, 6, none⟩ = some (.int .u8 l) ∧ w'.cell? ⟨w.heap.size, 7, none⟩ = some (.bool s) ∧ w'.cell? ⟨w.heap.size, 8, none⟩ = some (.bool z) ∧ w'.cell? ⟨w.heap.size, 9, none⟩ = some (.bool (k_)) ∧ w'.cell? ⟨w.heap.size, 10, none⟩ = some (.bool ac) ∧ w'.cell? ⟨w.heap.size, 11, none⟩ = some (.bool p) ∧ w'.cell? ⟨w.heap.size, 12, none⟩ = some (.bool v) ∧ w'.cell? ⟨w.heap.size, 13, none⟩ = some (.bool cy) ∧ w'.cell? ⟨w.heap.size, 14, none⟩ = some (.int .u16 sp) ∧ w'.cell? ⟨w.heap.size, 15, none⟩ = some (.int .u16 pc) ∧ w.heap.size < w'.heap.size ∧ w.heap.size ≤ w'.heap.size ∧ Below w.heap.size w w') ∧ (w'.cell? ⟨w1.heap.size, 0, none⟩ = some (.int .u8 a) ∧ w'.cell? ⟨w1.heap.size, 1, none⟩ = some (.int .u8 (b')) ∧ w'.cell? ⟨w1.heap.size, 2, none⟩ = some (.int .u8 (c')) ∧ w'.cell? ⟨w1.heap.size, 3, none⟩ = some (.int .u8 (d')) ∧ w'.cell? ⟨w1.heap.size, 4, none⟩ = some (.int .u8 (e')) ∧ w'.cell? ⟨w1.heap.size, 5, none⟩ = some (.int .u8 (h')) ∧ w'.cell? ⟨w1.heap.size, 6, none⟩ = some (.int .u8 (l')) ∧ w'.cell? ⟨w1.heap.size, 7, none⟩ = some (.bool s) ∧ w'.cell? ⟨w1.heap.size, 8, none⟩ = some (.bool z) ∧ w'.cell? ⟨w1.heap.size, 9, none⟩ = some (.bool (k_)) ∧ w'.cell? ⟨w1.heap.size, 10, none⟩ = some (.bool ac) ∧ w'.cell? ⟨w1.heap.size, 11, none⟩ = some (.bool p) ∧ w'.cell? ⟨w1.heap.size, 12, none⟩ = some (.bool v) ∧ w'.cell? ⟨w1.heap.size, 13, none⟩ = some (.bool cy) ∧ w'.cell? ⟨w1.heap.size, 14, none⟩ = some (.int .u16 (sp')) ∧ w'.cell? ⟨w1.heap.size, 15, none⟩ = some (.int .u16 pc) ∧ w1.heap.size < w'.heap.size ∧ w.heap.size ≤ w'.heap.size ∧ Below w.heap.size w w'))) (by kernel_rfl) ?_ (fun hHeld => ?_)
    · exact keepTwo (Below.refl _ _).drew H0.out
    refine wpAnyH_take (i := 0) (oi := ?_) (v := ?_) ?_ (by kernel_rfl) (by kernel_rfl) (by kernel_rfl) ?_ ?_ hHeld ?_
    rotate_left 2
    · (simp only [List.getElem?_toArray, List.getElem?_cons_zero]; rfl)
    · exact fun _ _ _ h => h
    · (refine Or.inl ⟨by rfl, ?_⟩; intro w_ hSw; (try dsimp only at hSw); go_simp; first | done | with_reducible rfl)
    try simp only [Act.put, List.setIfInBounds_toArray, List.set_cons_zero, List.set_cons_succ]
    refine wpAnyH_take (i := 1) (oi := ?_) (v := ?_) ?_ (by kernel_rfl) (by kernel_rfl) (by kernel_rfl) ?_ ?_ hHeld ?_
    rotate_left 2
    · (simp only [List.getElem?_toArray, List.getElem?_cons_succ, List.getElem?_cons_zero]; rfl)
    · exact fun _ _ _ h => h
    · (refine Or.inl ⟨by rfl, ?_⟩; intro w_ hSw; (try dsimp only at hSw); go_simp; first | done | with_reducible rfl)
    try simp only [Act.put, List.setIfInBounds_toArray, List.set_cons_zero, List.set_cons_succ]
    refine wpAnyH_take (i := 3) (oi := ?_) (v := ?_) ?_ (by kernel_rfl) (by kernel_rfl) (by kernel_rfl) ?_ ?_ hHeld ?_
    rotate_left 2
    · (simp only [List.getElem?_toArray, List.getElem?_cons_succ, List.getElem?_cons_zero]; rfl)
    · exact fun _ _ _ h => h
    · (refine Or.inl ⟨by rfl, ?_⟩; intro w_ hSw; (try dsimp only at hSw); go_simp; first | done | with_reducible rfl)
    try simp only [Act.put, List.setIfInBounds_toArray, List.set_cons_zero, List.set_cons_succ]
    refine wpAnyH_ready (rs := [2]) (by kernel_rfl) (by simp) ?_
    refine AllReadyH.cons (o := ?_) ?_ (fun K_ hK_ => ?_) AllReadyH.nil
    rotate_left 1
    · (simp only [List.getElem?_toArray, List.getElem?_cons_succ, List.getElem?_cons_zero]; rfl)
    go_simp
    refine (pair_any _ _ _ _ _ _ _ _ _ _ _ _ _ _ _ _ _ _ S0 S1).mono ?_; rintro e_ w4 ⟨rfl, hb_⟩
    refine hK_.out _ _ ?_ (fun hHeld2 => ?_)
    · ((try dsimp only); exact keepTwo hb_ hHeld)
    clear hK_ K_ hHeld
    have hHeld := hHeld2
    clear hHeld2
    try simp only [Act.put, List.setIfInBounds_toArray, List.set_cons_zero, List.set_cons_succ]
    refine wpAnyH_take (i := 4) (oi := ?_) (v := ?_) ?_ (by kernel_rfl) (by kernel_rfl) (by kernel_rfl) ?_ ?_ hHeld ?_
    rotate_left 2
    · (simp only [List.getElem?_toArray, List.getElem?_cons_succ, List.getElem?_cons_zero]; rfl)
    · exact fun _ _ _ h => h
    · (refine Or.inl ⟨by rfl, ?_⟩; intro w_ hSw; (try dsimp only at hSw); go_simp; first | done | with_reducible rfl)
    try simp only [Act.put, List.setIfInBounds_toArray, List.set_cons_zero, List.set_cons_succ]
    refine wpAnyH_take (i := 5) (oi := ?_) (v := ?_) ?_ (by kernel_rfl) (by kernel_rfl) (by kernel_rfl) ?_ ?_ hHeld ?_
    rotate_left 2
    · (simp only [List.getElem?_toArray, List.getElem?_cons_succ, List.getElem?_cons_zero]; rfl)
    · exact fun _ _ _ h => h
    · (refine Or.inl ⟨by rfl, ?_⟩; intro w_ hSw; (try dsimp only at hSw); go_simp; first | done | with_reducible rfl)
    try simp only [Act.put, List.setIfInBounds_toArray, List.set_cons_zero, List.set_cons_succ]
    refine wpAnyH_take (i := 6) (oi := ?_) (v := ?_) ?_ (by kernel_rfl) (by kernel_rfl) (by kernel_rfl) ?_ ?_ hHeld ?_
    rotate_left 2
    · (simp only [List.getElem?_toArray, List.getElem?_cons_succ, List.getElem?_cons_zero]; rfl)
    · exact fun _ _ _ h => h
    · (refine Or.inl ⟨by rfl, ?_⟩; intro w_ hSw; (try dsimp only at hSw); go_simp; first | done | with_reducible rfl)
    try simp only [Act.put, List.setIfInBounds_toArray, List.set_cons_zero, List.set_cons_succ]
    refine wpAnyH_take (i := 7) (oi := ?_) (v := ?_) ?_ (by kernel_rfl) (by kernel_rfl) (by kernel_rfl) ?_ ?_ hHeld ?_
    rotate_left 2
    · (simp only [List.getElem?_toArray, List.getElem?_cons_succ, List.getElem?_cons_zero]; rfl)
    · exact fun _ _ _ h => h
    · (refine Or.inl ⟨by rfl, ?_⟩; intro w_ hSw; (try dsimp only at hSw); go_simp; first | done | with_reducible rfl)
    try simp only [Act.put, List.setIfInBounds_toArray, List.set_cons_zero, List.set_cons_succ]
    refine wpAnyH_take (i := 8) (oi := ?_) (v := ?_) ?_ (by kernel_rfl) (by kernel_rfl) (by kernel_rfl) ?_ ?_ hHeld ?_
    rotate_left 2
    · (simp only [List.getElem?_toArray, List.getElem?_cons_succ, List.getElem?_cons_zero]; rfl)
    · exact fun _ _ _ h => h
    · (refine Or.inl ⟨by rfl, ?_⟩; intro w_ hSw; (try dsimp only at hSw); go_simp; first | done | with_reducible rfl)
    try simp only [Act.put, List.setIfInBounds_toArray, List.set_cons_zero, List.set_cons_succ]
    refine wpAnyH_take (i := 9) (oi := ?_) (v := ?_) ?_ (by kernel_rfl) (by kernel_rfl) (by kernel_rfl) ?_ ?_ hHeld ?_
    rotate_left 2
    · (simp only [List.getElem?_toArray, List.getElem?_cons_succ, List.getElem?_cons_zero]; rfl)
    · exact fun _ _ _ h => h
    · (refine Or.inl ⟨by rfl, ?_⟩; intro w_ hSw; (try dsimp only at hSw); go_simp; first | done | with_reducible rfl)
    try simp only [Act.put, List.setIfInBounds_toArray, List.set_cons_zero, List.set_cons_succ]
    refine wpAnyH_take (i := 10) (oi := ?_) (v := ?_) ?_ (by kernel_rfl) (by kernel_rfl) (by kernel_rfl) ?_ ?_ hHeld ?_
    rotate_left 2
    · (simp only [List.getElem?_toArray, List.getElem?_cons_succ, List.getElem?_cons_zero]; rfl)
    · exact fun _ _ _ h => h
    · (refine Or.inl ⟨by rfl, ?_⟩; intro w_ hSw; (try dsimp only at hSw); go_simp; first | done | with_reducible rfl)
    try simp only [Act.put, List.setIfInBounds_toArray, List.set_cons_zero, List.set_cons_succ]
    refine wpAnyH_take (i := 11) (oi := ?_) (v := ?_) ?_ (by kernel_rfl) (by kernel_rfl) (by kernel_rfl) ?_ ?_ hHeld ?_
    rotate_left 2
    · (simp only [List.getElem?_toArray, List.getElem?_cons_succ, List.getElem?_cons_zero]; rfl)
    · exact fun _ _ _ h => h
    · (refine Or.inl ⟨by rfl, ?_⟩; intro w_ hSw; (try dsimp only at hSw); go_simp; first | done | with_reducible rfl)
    try simp only [Act.put, List.setIfInBounds_toArray, List.set_cons_zero, List.set_cons_succ]
    refine wpAnyH_take (i := 13) (oi := ?_) (v := ?_) ?_ (by kernel_rfl) (by kernel_rfl) (by kernel_rfl) ?_ ?_ hHeld ?_
    rotate_left 2
    · (simp only [List.getElem?_toArray, List.getElem?_cons_succ, List.getElem?_cons_zero]; rfl)
    · exact fun _ _ _ h => h
    · (refine Or.inl ⟨by rfl, ?_⟩; intro w_ hSw; (try dsimp only at hSw); go_simp; first | done | with_reducible rfl)
    try simp only [Act.put, List.setIfInBounds_toArray, List.set_cons_zero, List.set_cons_succ]
    refine wpAnyH_take (i := 14) (oi := ?_) (v := ?_) ?_ (by kernel_rfl) (by kernel_rfl) (by kernel_rfl) ?_ ?_ hHeld ?_
    rotate_left 2
    · (simp only [List.getElem?_toArray, List.getElem?_cons_succ, List.getElem?_cons_zero]; rfl)
    · exact fun _ _ _ h => h
    · (refine Or.inl ⟨by rfl, ?_⟩; intro w_ hSw; (try dsimp only at hSw); go_simp; first | done | with_reducible rfl)
    try simp only [Act.put, List.setIfInBounds_toArray, List.set_cons_zero, List.set_cons_succ]
    refine wpAnyH_ready (rs := [12]) (by kernel_rfl) (by simp) ?_
    refine AllReadyH.cons (o := ?_) ?_ (fun K_ hK_ => ?_) AllReadyH.nil
    rotate_left 1
    · (simp only [List.getElem?_toArray, List.getElem?_cons_succ, List.getElem?_cons_zero]; rfl)
    go_simp
    refine (pair_any _ _ _ _ _ _ _ _ _ _ _ _ _ _ _ _ _ _ S0 S1).mono ?_; rintro e_ w4 ⟨rfl, hb_⟩
    refine hK_.out _ _ ?_ (fun hHeld2 => ?_)
    · ((try dsimp only); exact keepTwo hb_ hHeld)
    clear hK_ K_ hHeld
    have hHeld := hHeld2
    clear hHeld2
    try simp only [Act.put, List.setIfInBounds_toArray, List.set_cons_zero, List.set_cons_succ]
    refine wpAnyH_ready (rs := [15]) (by kernel_rfl) (by simp) ?_
    refine AllReadyH.cons (o := ?_) ?_ (fun K_ hK_ => ?_) AllReadyH.nil
    rotate_left 1
    · (simp only [List.getElem?_toArray, List.getElem?_cons_succ, List.getElem?_cons_zero]; rfl)
    go_simp
    refine (pair_any _ _ _ _ _ _ _ _ _ _ _ _ _ _ _ _ _ _ R0 R1).mono ?_; rintro e_ w4 ⟨rfl, hb_⟩
    refine hK_.out _ _ ?_ (fun hHeld2 => ?_)
    · ((try dsimp only); exact keepTwo hb_ hHeld)
    clear hK_ K_ hHeld
    have hHeld := hHeld2
    clear hHeld2
    try simp only [Act.put, List.setIfInBounds_toArray, List.set_cons_zero, List.set_cons_succ]
    refine wpAnyH_take (i := 16) (oi := ?_) (v := ?_) ?_ (by kernel_rfl) (by kernel_rfl) (by kernel_rfl) ?_ ?_ hHeld ?_
    rotate_left 2
    · (simp only [List.getElem?_toArray, List.getElem?_cons_succ, List.getElem?_cons_zero]; rfl)
    · exact fun _ _ _ h => h
    · (refine Or.inl ⟨by rfl, ?_⟩; intro w_ hSw; (try dsimp only at hSw); go_simp; first | done | with_reducible rfl)
    try simp only [Act.put, List.setIfInBounds_toArray, List.set_cons_zero, List.set_cons_succ]
    refine wpAnyH_take (i := 17) (oi := ?_) (v := ?_) ?_ (by kernel_rfl) (by kernel_rfl) (by kernel_rfl) ?_ ?_ hHeld ?_
    rotate_left 2
    · (simp only [List.getElem?_toArray, List.getElem?_cons_succ, List.getElem?_cons_zero]; rfl)
    · exact fun _ _ _ h => h
    · (refine Or.inl ⟨by rfl, ?_⟩; intro w_ hSw; (try dsimp only at hSw); go_simp; first | done | with_reducible rfl)
    try simp only [Act.put, List.setIfInBounds_toArray, List.set_cons_zero, List.set_cons_succ]
    refine wpAnyH_take (i := 18) (oi := ?_) (v := ?_) ?_ (by kernel_rfl) (by kernel_rfl) (by kernel_rfl) ?_ ?_ hHeld ?_
    rotate_left 2
    · (simp only [List.getElem?_toArray, List.getElem?_cons_succ, List.getElem?_cons_zero]; rfl)
    · exact fun _ _ _ h => h
    · (refine Or.inl ⟨by rfl, ?_⟩; intro w_ hSw; (try dsimp only at hSw); go_simp; first | done | with_reducible rfl)
    try simp only [Act.put, List.setIfInBounds_toArray, List.set_cons_zero, List.set_cons_succ]
    refine wpAnyH_take (i := 19) (oi := ?_) (v := ?_) ?_ (by kernel_rfl) (by kernel_rfl) (by kernel_rfl) ?_ ?_ hHeld ?_
    rotate_left 2
    · (simp only [List.getElem?_toArray, List.getElem?_cons_succ, List.getElem?_cons_zero]; rfl)
    · exact fun _ _ _ h => h
    · (refine Or.inl ⟨by rfl, ?_⟩; intro w_ hSw; (try dsimp only at hSw); go_simp; first | done | with_reducible rfl)
    try simp only [Act.put, List.setIfInBounds_toArray, List.set_cons_zero, List.set_cons_succ]
    refine wpAnyH_take (i := 20) (oi := ?_) (v := ?_) ?_ (by kernel_rfl) (by kernel_rfl) (by kernel_rfl) ?_ ?_ hHeld ?_
    rotate_left 2
    · (simp only [List.getElem?_toArray, List.getElem?_cons_succ, List.getElem?_cons_zero]; rfl)
    · exact fun _ _ _ h => h
    · (refine Or.inl ⟨by rfl, ?_⟩; intro w_ hSw; (try dsimp only at hSw); go_simp; first | done | with_reducible rfl)
    try simp only [Act.put, List.setIfInBounds_toArray, List.set_cons_zero, List.set_cons_succ]
    refine wpAnyH_take (i := 21) (oi := ?_) (v := ?_) ?_ (by kernel_rfl) (by kernel_rfl) (by kernel_rfl) ?_ ?_ hHeld ?_
    rotate_left 2
    · (simp only [List.getElem?_toArray, List.getElem?_cons_succ, List.getElem?_cons_zero]; rfl)
    · exact fun _ _ _ h => h
    · (refine Or.inl ⟨by rfl, ?_⟩; intro w_ hSw; (try dsimp only at hSw); go_simp; first | done | with_reducible rfl)
    try simp only [Act.put, List.setIfInBounds_toArray, List.set_cons_zero, List.set_cons_succ]
    refine wpAnyH_take (i := 22) (oi := ?_) (v := ?_) ?_ (by kernel_rfl) (by kernel_rfl) (by kernel_rfl) ?_ ?_ hHeld ?_
    rotate_left 2
    · (simp only [List.getElem?_toArray, List.getElem?_cons_succ, List.getElem?_cons_zero]; rfl)
    · exact fun _ _ _ h => h
    · (refine Or.inl ⟨by rfl, ?_⟩; intro w_ hSw; (try dsimp only at hSw); go_simp; first | done | with_reducible rfl)
    try simp only [Act.put, List.setIfInBounds_toArray, List.set_cons_zero, List.set_cons_succ]
    refine wpAnyH_take (i := 23) (oi := ?_) (v := ?_) ?_ (by kernel_rfl) (by kernel_rfl) (by kernel_rfl) ?_ ?_ hHeld ?_
    rotate_left 2
    · (simp only [List.getElem?_toArray, List.getElem?_cons_succ, List.getElem?_cons_zero]; rfl)
    · exact fun _ _ _ h => h
    · (refine Or.inl ⟨by rfl, ?_⟩; intro w_ hSw; (try dsimp only at hSw); go_simp; first | done | with_reducible rfl)
    try simp only [Act.put, List.setIfInBounds_toArray, List.set_cons_zero, List.set_cons_succ]
    refine wpAnyH_take (i := 24) (oi := ?_) (v := ?_) ?_ (by kernel_rfl) (by kernel_rfl) (by kernel_rfl) ?_ ?_ hHeld ?_
    rotate_left 2
    · (simp only [List.getElem?_toArray, List.getElem?_cons_succ, List.getElem?_cons_zero]; rfl)
    · exact fun _ _ _ h => h
    · (refine Or.inl ⟨by rfl, ?_⟩; intro w_ hSw; (try dsimp only at hSw); go_simp; first | done | with_reducible rfl)
    try simp only [Act.put, List.setIfInBounds_toArray, List.set_cons_zero, List.set_cons_succ]
    refine wpAnyH_take (i := 25) (oi := ?_) (v := ?_) ?_ (by kernel_rfl) (by kernel_rfl) (by kernel_rfl) ?_ ?_ hHeld ?_
    rotate_left 2
    · (simp only [List.getElem?_toArray, List.getElem?_cons_succ, List.getElem?_cons_zero]; rfl)
    · exact fun _ _ _ h => h
    · (refine Or.inl ⟨by rfl, ?_⟩; intro w_ hSw; (try dsimp only at hSw); go_simp; first | done | with_reducible rfl)
    try simp only [Act.put, List.setIfInBounds_toArray, List.set_cons_zero, List.set_cons_succ]
    refine wpAnyH_take (i := 26) (oi := ?_) (v := ?_) ?_ (by kernel_rfl) (by kernel_rfl) (by kernel_rfl) ?_ ?_ hHeld ?_
    rotate_left 2
    · (simp only [List.getElem?_toArray, List.getElem?_cons_succ, List.getElem?_cons_zero]; rfl)
    · exact fun _ _ _ h => h
    · (refine Or.inl ⟨by rfl, ?_⟩; intro w_ hSw; (try dsimp only at hSw); go_simp; first | done | with_reducible rfl)
    try simp only [Act.put, List.setIfInBounds_toArray, List.set_cons_zero, List.set_cons_succ]
    refine wpAnyH_take (i := 27) (oi := ?_) (v := ?_) ?_ (by kernel_rfl) (by kernel_rfl) (by kernel_rfl) ?_ ?_ hHeld ?_
    rotate_left 2
    · (simp only [List.getElem?_toArray, List.getElem?_cons_succ, List.getElem?_cons_zero]; rfl)
    · exact fun _ _ _ h => h
    · (refine Or.inl ⟨by rfl, ?_⟩; intro w_ hSw; (try dsimp only at hSw); go_simp; first | done | with_reducible rfl)
    try simp only [Act.put, List.setIfInBounds_toArray, List.set_cons_zero, List.set_cons_succ]
    refine wpAnyH_take (i := 28) (oi := ?_) (v := ?_) ?_ (by kernel_rfl) (by kernel_rfl) (by kernel_rfl) ?_ ?_ hHeld ?_
    rotate_left 2
    · (simp only [List.getElem?_toArray, List.getElem?_cons_succ, List.getElem?_cons_zero]; rfl)
    · exact fun _ _ _ h => h
    · (refine Or.inl ⟨by rfl, ?_⟩; intro w_ hSw; (try dsimp only at hSw); go_simp; first | done | with_reducible rfl)
    try simp only [Act.put, List.setIfInBounds_toArray, List.set_cons_zero, List.set_cons_succ]
    refine wpAnyH_take (i := 29) (oi := ?_) (v := ?_) ?_ (by kernel_rfl) (by kernel_rfl) (by kernel_rfl) ?_ ?_ hHeld ?_
    rotate_left 2
    · (simp only [List.getElem?_toArray, List.getElem?_cons_succ, List.getElem?_cons_zero]; rfl)
    · exact fun _ _ _ h => h
    · (refine Or.inl ⟨by rfl, ?_⟩; intro w_ hSw; (try dsimp only at hSw); go_simp; first | done | with_reducible rfl)
    try simp only [Act.put, List.setIfInBounds_toArray, List.set_cons_zero, List.set_cons_succ]
    refine wpAnyH_take (i := 30) (oi := ?_) (v := ?_) ?_ (by kernel_rfl) (by kernel_rfl) (by kernel_rfl) ?_ ?_ hHeld ?_
    rotate_left 2
    · (simp only [List.getElem?_toArray, List.getElem?_cons_succ, List.getElem?_cons_zero]; rfl)
    · exact fun _ _ _ h => h
    · (refine Or.inl ⟨by rfl, ?_⟩; intro w_ hSw; (try dsimp only at hSw); go_simp; first | done | with_reducible rfl)
    try simp only [Act.put, List.setIfInBounds_toArray, List.set_cons_zero, List.set_cons_succ]
    refine wpAnyH_take (i := 31) (oi := ?_) (v := ?_) ?_ (by kernel_rfl) (by kernel_rfl) (by kernel_rfl) ?_ ?_ hHeld ?_
    rotate_left 2
    · (simp only [List.getElem?_toArray, List.getElem?_cons_succ, List.getElem?_cons_zero]; rfl)
    · exact fun _ _ _ h => h
    · (refine Or.inl ⟨by rfl, ?_⟩; intro w_ hSw; (try dsimp only at hSw); go_simp; first | done | with_reducible rfl)
    try simp only [Act.put, List.setIfInBounds_toArray, List.set_cons_zero, List.set_cons_succ]
    refine wpAnyH_take (i := 32) (oi := ?_) (v := ?_) ?_ (by kernel_rfl) (by kernel_rfl) (by kernel_rfl) ?_ ?_ hHeld ?_
    rotate_left 2
    · (simp only [List.getElem?_toArray, List.getElem?_cons_succ, List.getElem?_cons_zero]; rfl)
    · exact fun _ _ _ h => h
    · (refine Or.inl ⟨by rfl, ?_⟩; intro w_ hSw; (try dsimp only at hSw); go_simp; first | done | with_reducible rfl)
    try simp only [Act.put, List.setIfInBounds_toArray, List.set_cons_zero, List.set_cons_succ]
    refine wpAnyH_take (i := 33) (oi := ?_) (v := ?_) ?_ (by kernel_rfl) (by kernel_rfl) (by kernel_rfl) ?_ ?_ hHeld ?_
    rotate_left 2
    · (simp only [List.getElem?_toArray, List.getElem?_cons_succ, List.getElem?_cons_zero]; rfl)
    · exact fun _ _ _ h => h
    · (refine Or.inl ⟨by rfl, ?_⟩; intro w_ hSw; (try dsimp only at hSw); go_simp; first | done | with_reducible rfl)
    try simp only [Act.put, List.setIfInBounds_toArray, List.set_cons_zero, List.set_cons_succ]
    refine wpAnyH_ready (rs := [34]) (by kernel_rfl) (by simp) ?_
    refine AllReadyH.cons (o := ?_) ?_ (fun K_ hK_ => ?_) AllReadyH.nil
    rotate_left 1
    · (simp only [List.getElem?_toArray, List.getElem?_cons_succ, List.getElem?_cons_zero]; rfl)
    go_simp
    refine (known_any _).mono ?_; rintro e_ w4 ⟨rfl, hb_⟩
    refine hK_.out _ _ ?_ (fun hHeld2 => ?_)
    · ((try dsimp only); exact keepTwo hb_ hHeld)
    clear hK_ K_ hHeld
    have hHeld := hHeld2
    clear hHeld2
    try simp only [Act.put, List.setIfInBounds_toArray, List.set_cons_zero, List.set_cons_succ]
    refine wpAnyH_take (i := 35) (oi := ?_) (v := ?_) ?_ (by kernel_rfl) (by kernel_rfl) (by kernel_rfl) ?_ ?_ hHeld ?_
    rotate_left 2
    · (simp only [List.getElem?_toArray, List.getElem?_cons_succ, List.getElem?_cons_zero]; rfl)
    · exact fun _ _ _ h => h
    · (refine Or.inl ⟨by rfl, ?_⟩; intro w_ hSw; (try dsimp only at hSw); go_simp; first | done | with_reducible rfl)
    try simp only [Act.put, List.setIfInBounds_toArray, List.set_cons_zero, List.set_cons_succ]
    refine wpAnyH_take (i := 36) (oi := ?_) (v := ?_) ?_ (by kernel_rfl) (by kernel_rfl) (by kernel_rfl) ?_ ?_ hHeld ?_
    rotate_left 2
    · (simp only [List.getElem?_toArray, List.getElem?_cons_succ, List.getElem?_cons_zero]; rfl)
    · exact fun _ _ _ h => h
    · (refine Or.inl ⟨by rfl, ?_⟩; intro w_ hSw; (try dsimp only at hSw); go_simp; first | done | with_reducible rfl)
    try simp only [Act.put, List.setIfInBounds_toArray, List.set_cons_zero, List.set_cons_succ]
    refine wpAnyH_done (by kernel_rfl) ?_ _
    go_wp2_with fail
    go_ret
    exact ⟨rfl, (And.right hHeld).2.2.2.2.2.2.2.2.2.2.2.2.2.2.2.2.2.2⟩
end Go.Proofs.Ytappfgjbidckbaa
