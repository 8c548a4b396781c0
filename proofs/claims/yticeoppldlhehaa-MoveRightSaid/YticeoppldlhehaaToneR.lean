/- The walks of the tones' questions: is a pixel right? (tone.Right and the reference's.) -/
import Derived.Test.YticeoppldlhehaaToneW
namespace Go.Proofs.Yticeoppldlhehaa
open Go.RowKit
set_option linter.unusedVariables false

set_option maxHeartbeats 400000 in
theorem ref01_right (r g b a : Int) (w : World) (hr : 0 ≤ r ∧ r ≤ 255) (hg : 0 ≤ g ∧ g ≤ 255) (hb : 0 ≤ b ∧ b ≤ 255) (ha : 0 ≤ a ∧ a ≤ 255) :
    Calls Try.prog 19 #[.agg #[.int .u8 r, .int .u8 g, .int .u8 b, .int .u8 a]] w fun e w' => e = .returned (.bool (rightT r g b a)) ∧ Grows w w' := by
  go_enter Try.func19, Try.ntmps19
  go_wp2
  refine wp_loop_rounds 4 ?_
  rw [rounds_succ]
  go_wp2
  refine region_grow (by kernel_rfl) (by kernel_rfl) ?_
  repeat (go_big_quiet_step (fail))
  refine wpQuiet_nil ?_
  rintro _ ⟨g0, rfl⟩
  go_wp2
  all_goals try (go_ret; exact ⟨ret_bool (by simp only [rightT]; simp; omega), ((Grows.refl _).alloc _).grow _⟩)
  rw [rounds_succ]
  go_wp2
  refine region_grow (by kernel_rfl) (by kernel_rfl) ?_
  repeat (go_big_quiet_step (fail))
  refine wpQuiet_nil ?_
  rintro _ ⟨g1, rfl⟩
  go_wp2
  all_goals try (go_ret; exact ⟨ret_bool (by simp only [rightT]; simp; omega), (((Grows.refl _).alloc _).grow _).grow _⟩)
  rw [rounds_succ]
  go_wp2
  refine region_grow (by kernel_rfl) (by kernel_rfl) ?_
  repeat (go_big_quiet_step (fail))
  refine wpQuiet_nil ?_
  rintro _ ⟨g2, rfl⟩
  go_wp2
  all_goals try (go_ret; exact ⟨ret_bool (by simp only [rightT]; simp; omega), ((((Grows.refl _).alloc _).grow _).grow _).grow _⟩)
  rw [rounds_succ]
  go_wp2
  go_ret
  exact ⟨ret_bool (by simp only [rightT]; simp; omega), ((((Grows.refl _).alloc _).grow _).grow _).grow _⟩

end Go.Proofs.Yticeoppldlhehaa
