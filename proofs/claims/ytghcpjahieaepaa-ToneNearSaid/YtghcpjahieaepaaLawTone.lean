/- The walks of chapter 1's laws: each returns true and lets the world only grow. -/
import Derived.Test.YtghcpjahieaepaaToneR
import Derived.Test.YtghcpjahieaepaaPx
namespace Go.Proofs.Ytghcpjahieaepaa
open Go.RowKit
set_option linter.unusedVariables false

set_option maxHeartbeats 800000 in
theorem awake01 (w : World) : Calls Try.prog 16 #[] w fun e w' => e = .returned (.bool true) ∧ Grows w w' := by
  have e1 : mulT 128 128 = 64 := by decide
  have e2 : mulT 255 7 = 7 := by decide
  have e3 : divT 64 128 = 128 := by decide
  have e4 : divT 5 0 = 0 := by decide
  have e5 : divT 9 3 = 255 := by decide
  have e6 : divT 0 128 = 0 := by decide
  have e7 : rightT 2 0 0 1 = false := by decide
  go_enter Try.func16, Try.ntmps16
  go_wp2_with (first
    | (go_at_call 15; refine (tone_mul _ _ _ (by omega) (by omega) (by omega) (by omega)).mono ?_; rintro e w' ⟨rfl, rfl⟩)
    | (go_at_call 17; refine (tone_div _ _ _ (by omega) (by omega) (by omega) (by omega)).mono ?_; rintro e w' ⟨rfl, rfl⟩)
    | (go_at_call 26; refine (tone_plain _ _ _ _ _ (by omega) (by omega) (by omega) (by omega)).mono ?_; rintro e w' ⟨rfl, gp, rfl⟩)
    | (go_at_call 22; refine (tone_right _ _ _ _ _ (by omega) (by omega) (by omega) (by omega)).mono ?_; rintro e w' ⟨rfl, gr, rfl⟩))
  go_ret
  exact ⟨rfl, ((Grows.refl _).grow _).grow _⟩

set_option maxHeartbeats 800000 in
theorem toneNear_walk (a b : Int) (w : World) (ha : 0 ≤ a ∧ a ≤ 255) (hb : 0 ≤ b ∧ b ≤ 255) :
    Calls Try.prog 3 #[.int .u8 a, .int .u8 b] w fun e w' => e = .returned (.bool true) ∧ Grows w w' := by
  have h0 := mulT_bd a b ha.1 ha.2 hb.1 hb.2
  have h1 := prod_nonneg a b ha.1 hb.1
  have h2 := prod_le a b ha.1 ha.2 hb.1 hb.2
  have h3 := mulT_near a b
  have h4 := mulT_comm b a
  have h5 := mulT_255 a
  have h6 := mulT_0 a
  go_enter Try.func3, Try.ntmps3
  go_wp2_with (first
    | (go_at_call 15; refine (tone_mul _ _ _ (by omega) (by omega) (by omega) (by omega)).mono ?_; rintro e w' ⟨rfl, rfl⟩)
    | (go_at_call 16; refine (awake01 _).mono ?_; rintro e w' ⟨rfl, gp, rfl⟩))
  go_ret
  exact ⟨rfl, (Grows.refl _).grow _⟩
end Go.Proofs.Ytghcpjahieaepaa
