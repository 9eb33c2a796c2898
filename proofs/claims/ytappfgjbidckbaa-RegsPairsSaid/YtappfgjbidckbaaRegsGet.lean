/- Registers held in a block; the reference's Get; pairs. -/
import Derived.Test.YtappfgjbidckbaaRegs
import Derived.Deep.RegionHeld3
namespace Go.Proofs.Ytappfgjbidckbaa
open Go.RowKit
set_option linter.unusedVariables false

/-- Boxed registers (in block b) stay as they are, and nothing that is older than A has changed. -/
def HeldR (A : World) (blk : Nat) (a b c d e h l : Int) (s z k ac p v cy : Bool) (sp pc : Int) (w' : World) : Prop :=
  w'.cell? ⟨blk, 0, none⟩ = some (.int .u8 a) ∧ w'.cell? ⟨blk, 1, none⟩ = some (.int .u8 b) ∧ w'.cell? ⟨blk, 2, none⟩ = some (.int .u8 c) ∧ w'.cell? ⟨blk, 3, none⟩ = some (.int .u8 d) ∧ w'.cell? ⟨blk, 4, none⟩ = some (.int .u8 e) ∧ w'.cell? ⟨blk, 5, none⟩ = some (.int .u8 h) ∧ w'.cell? ⟨blk, 6, none⟩ = some (.int .u8 l) ∧ w'.cell? ⟨blk, 7, none⟩ = some (.bool s) ∧ w'.cell? ⟨blk, 8, none⟩ = some (.bool z) ∧ w'.cell? ⟨blk, 9, none⟩ = some (.bool k) ∧ w'.cell? ⟨blk, 10, none⟩ = some (.bool ac) ∧ w'.cell? ⟨blk, 11, none⟩ = some (.bool p) ∧ w'.cell? ⟨blk, 12, none⟩ = some (.bool v) ∧ w'.cell? ⟨blk, 13, none⟩ = some (.bool cy) ∧ w'.cell? ⟨blk, 14, none⟩ = some (.int .u16 sp) ∧ w'.cell? ⟨blk, 15, none⟩ = some (.int .u16 pc) ∧ blk < w'.heap.size ∧ A.heap.size ≤ w'.heap.size ∧ Below A.heap.size A w'
theorem HeldR.thru {A w1 w2 : World} {blk : Nat} {a b c d e h l : Int} {s z k ac p v cy : Bool} {sp pc : Int} (hb : Below w1.heap.size w1 w2) (H : HeldR A blk a b c d e h l s z k ac p v cy sp pc w1) : HeldR A blk a b c d e h l s z k ac p v cy sp pc w2 := by
  obtain ⟨c0, c1, c2, c3, c4, c5, c6, c7, c8, c9, c10, c11, c12, c13, c14, c15, hz, hs, hB⟩ := H
  have hc := (bcell hb).1
  exact ⟨(hc _ _ hz).trans c0, (hc _ _ hz).trans c1, (hc _ _ hz).trans c2, (hc _ _ hz).trans c3, (hc _ _ hz).trans c4, (hc _ _ hz).trans c5, (hc _ _ hz).trans c6, (hc _ _ hz).trans c7, (hc _ _ hz).trans c8, (hc _ _ hz).trans c9, (hc _ _ hz).trans c10, (hc _ _ hz).trans c11, (hc _ _ hz).trans c12, (hc _ _ hz).trans c13, (hc _ _ hz).trans c14, (hc _ _ hz).trans c15, Nat.lt_of_lt_of_le hz hb.size, Nat.le_trans hs hb.size, hB.trans (hb.mono hs)⟩
theorem HeldR.drew {A w1 : World} {blk : Nat} {a b c d e h l : Int} {s z k ac p v cy : Bool} {sp pc : Int} (H : HeldR A blk a b c d e h l s z k ac p v cy sp pc w1) : HeldR A blk a b c d e h l s z k ac p v cy sp pc w1.drew :=
  H.thru (Below.refl _ _).drew
theorem HeldR.box (w : World) (a b c d e h l : Int) (s z k ac p v cy : Bool) (sp pc : Int) (t : Nat) : HeldR w w.heap.size a b c d e h l s z k ac p v cy sp pc (w.alloc (.cells #[.int .u8 a, .int .u8 b, .int .u8 c, .int .u8 d, .int .u8 e, .int .u8 h, .int .u8 l, .bool s, .bool z, .bool k, .bool ac, .bool p, .bool v, .bool cy, .int .u16 sp, .int .u16 pc] t)) :=
  ⟨by simp, by simp, by simp, by simp, by simp, by simp, by simp, by simp, by simp, by simp, by simp, by simp, by simp, by simp, by simp, by simp, by simp, by simp, (Below.refl _ _).alloc (Nat.le_refl _) _⟩
theorem HeldR.fresh {A w : World} {blk t : Nat} (a b c d e h l : Int) (s z k ac p v cy : Bool) (sp pc : Int) {a' b' c' d' e' h' l' : Int} {s' z' k' ac' p' v' cy' : Bool} {sp' pc' : Int} (H : HeldR A blk a' b' c' d' e' h' l' s' z' k' ac' p' v' cy' sp' pc' w) : HeldR A w.heap.size a b c d e h l s z k ac p v cy sp pc (w.alloc (.cells #[.int .u8 a, .int .u8 b, .int .u8 c, .int .u8 d, .int .u8 e, .int .u8 h, .int .u8 l, .bool s, .bool z, .bool k, .bool ac, .bool p, .bool v, .bool cy, .int .u16 sp, .int .u16 pc] t)) := by
  obtain ⟨_, _, _, _, _, _, _, _, _, _, _, _, _, _, _, _, _, hs, hB⟩ := H
  exact ⟨by simp, by simp, by simp, by simp, by simp, by simp, by simp, by simp, by simp, by simp, by simp, by simp, by simp, by simp, by simp, by simp, by simp, by simp; omega, hB.alloc hs _⟩
theorem HeldR.below {A w w' : World} {blk : Nat} {a b c d e h l : Int} {s z k ac p v cy : Bool} {sp pc : Int} (H : HeldR A blk a b c d e h l s z k ac p v cy sp pc w) (hk : Below w.heap.size w w') : Below A.heap.size A w' := by
  obtain ⟨_, _, _, _, _, _, _, _, _, _, _, _, _, _, _, _, _, hs, hB⟩ := H
  exact hB.trans (hk.mono hs)
theorem regN_lo (a b c d e h l n : Int) (la : 0 ≤ a) (ua : a ≤ 255) (lb : 0 ≤ b) (ub : b ≤ 255) (lc : 0 ≤ c) (uc : c ≤ 255) (ld : 0 ≤ d) (ud : d ≤ 255) (le : 0 ≤ e) (ue : e ≤ 255) (lh : 0 ≤ h) (uh : h ≤ 255) (ll : 0 ≤ l) (ul : l ≤ 255) : 0 ≤ regN a b c d e h l n := by unfold regN; (repeat' split) <;> omega
theorem regN_hi (a b c d e h l n : Int) (la : 0 ≤ a) (ua : a ≤ 255) (lb : 0 ≤ b) (ub : b ≤ 255) (lc : 0 ≤ c) (uc : c ≤ 255) (ld : 0 ≤ d) (ud : d ≤ 255) (le : 0 ≤ e) (ue : e ≤ 255) (lh : 0 ≤ h) (uh : h ≤ 255) (ll : 0 ≤ l) (ul : l ≤ 255) : regN a b c d e h l n ≤ 255 := by unfold regN; (repeat' split) <;> omega

set_option maxHeartbeats 2000000 in
theorem rget_any (a b c d e h l : Int) (s z k ac p v cy : Bool) (sp pc : Int) (n : Int) (w : World) :
    Calls Try.prog 9 #[.agg #[.int .u8 a, .int .u8 b, .int .u8 c, .int .u8 d, .int .u8 e, .int .u8 h, .int .u8 l, .bool s, .bool z, .bool k, .bool ac, .bool p, .bool v, .bool cy, .int .u16 sp, .int .u16 pc], .int .i64 n] w fun e' w' => e' = .returned (.int .u8 (regN a b c d e h l n)) ∧ Below w.heap.size w w' := by
  have hm := i64_and7 n
  rcases (by omega : n % 8 = 0 ∨ n % 8 = 1 ∨ n % 8 = 2 ∨ n % 8 = 3 ∨ n % 8 = 4 ∨ n % 8 = 5 ∨ n % 8 = 6 ∨ n % 8 = 7) with q | q | q | q | q | q | q | q
  · rw [q] at hm
    have ix : ∀ w, (Instr.index 45 (.agg #[.int .u8 b, .int .u8 c, .int .u8 d, .int .u8 e, .int .u8 h, .int .u8 l, .int .u8 0, .int .u8 a]) (.int .i64 0)).run Try.prog w = .ok (.int .u8 b) w := fun _ => by kernel_rfl
    go_enter Try.func9, Try.ntmps9
    go_wp2_with fail
    go_ret
    exact ⟨by simp [regN, q], by go_grown⟩
  · rw [q] at hm
    have ix : ∀ w, (Instr.index 45 (.agg #[.int .u8 b, .int .u8 c, .int .u8 d, .int .u8 e, .int .u8 h, .int .u8 l, .int .u8 0, .int .u8 a]) (.int .i64 1)).run Try.prog w = .ok (.int .u8 c) w := fun _ => by kernel_rfl
    go_enter Try.func9, Try.ntmps9
    go_wp2_with fail
    go_ret
    exact ⟨by simp [regN, q], by go_grown⟩
  · rw [q] at hm
    have ix : ∀ w, (Instr.index 45 (.agg #[.int .u8 b, .int .u8 c, .int .u8 d, .int .u8 e, .int .u8 h, .int .u8 l, .int .u8 0, .int .u8 a]) (.int .i64 2)).run Try.prog w = .ok (.int .u8 d) w := fun _ => by kernel_rfl
    go_enter Try.func9, Try.ntmps9
    go_wp2_with fail
    go_ret
    exact ⟨by simp [regN, q], by go_grown⟩
  · rw [q] at hm
    have ix : ∀ w, (Instr.index 45 (.agg #[.int .u8 b, .int .u8 c, .int .u8 d, .int .u8 e, .int .u8 h, .int .u8 l, .int .u8 0, .int .u8 a]) (.int .i64 3)).run Try.prog w = .ok (.int .u8 e) w := fun _ => by kernel_rfl
    go_enter Try.func9, Try.ntmps9
    go_wp2_with fail
    go_ret
    exact ⟨by simp [regN, q], by go_grown⟩
  · rw [q] at hm
    have ix : ∀ w, (Instr.index 45 (.agg #[.int .u8 b, .int .u8 c, .int .u8 d, .int .u8 e, .int .u8 h, .int .u8 l, .int .u8 0, .int .u8 a]) (.int .i64 4)).run Try.prog w = .ok (.int .u8 h) w := fun _ => by kernel_rfl
    go_enter Try.func9, Try.ntmps9
    go_wp2_with fail
    go_ret
    exact ⟨by simp [regN, q], by go_grown⟩
  · rw [q] at hm
    have ix : ∀ w, (Instr.index 45 (.agg #[.int .u8 b, .int .u8 c, .int .u8 d, .int .u8 e, .int .u8 h, .int .u8 l, .int .u8 0, .int .u8 a]) (.int .i64 5)).run Try.prog w = .ok (.int .u8 l) w := fun _ => by kernel_rfl
    go_enter Try.func9, Try.ntmps9
    go_wp2_with fail
    go_ret
    exact ⟨by simp [regN, q], by go_grown⟩
  · rw [q] at hm
    have ix : ∀ w, (Instr.index 45 (.agg #[.int .u8 b, .int .u8 c, .int .u8 d, .int .u8 e, .int .u8 h, .int .u8 l, .int .u8 0, .int .u8 a]) (.int .i64 6)).run Try.prog w = .ok (.int .u8 0) w := fun _ => by kernel_rfl
    go_enter Try.func9, Try.ntmps9
    go_wp2_with fail
    go_ret
    exact ⟨by simp [regN, q], by go_grown⟩
  · rw [q] at hm
    have ix : ∀ w, (Instr.index 45 (.agg #[.int .u8 b, .int .u8 c, .int .u8 d, .int .u8 e, .int .u8 h, .int .u8 l, .int .u8 0, .int .u8 a]) (.int .i64 7)).run Try.prog w = .ok (.int .u8 a) w := fun _ => by kernel_rfl
    go_enter Try.func9, Try.ntmps9
    go_wp2_with fail
    go_ret
    exact ⟨by simp [regN, q], by go_grown⟩

/-- The pair with a number. -/
def pairN (a b c d e h l sp n : Int) : Int := if n % 4 = 3 then sp else joinW (regN a b c d e h l (2 * (n % 4))) (regN a b c d e h l (2 * (n % 4) + 1))
end Go.Proofs.Ytappfgjbidckbaa
