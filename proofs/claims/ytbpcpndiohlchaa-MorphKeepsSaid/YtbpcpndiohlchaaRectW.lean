/- The walks of layer 3 (rectangles): each function returns what the plain one says. -/
import Derived.Test.YtbpcpndiohlchaaRows
import Derived.Test.YtbpcpndiohlchaaRectL
import Derived.Test.YtbpcpndiohlchaaWorld
import Derived.WalkSpells
import Derived.WalkLawsBesides
import Derived.Lib.Hide
import Derived.BigQuiet
namespace Go.Proofs.Ytbpcpndiohlchaa
open Go.RowKit
set_option linter.unusedVariables false

theorem rect_info : (Try.prog.info? 23).map (·.size) = some 4 := by kernel_rfl
theorem ret_b {a b : Bool} (h : a = b) : Ending.returned (.bool a) = .returned (.bool b) := by rw [h]
theorem ret_i {k : IntKind} {a b : Int} (h : a = b) : Ending.returned (.int k a) = .returned (.int k b) := by rw [h]

set_option maxHeartbeats 400000 in
theorem rect_empty (a0 a1 a2 a3 : Int) (w : World) :
    Calls Try.prog 40 #[.agg #[.int .i64 a0, .int .i64 a1, .int .i64 a2, .int .i64 a3]] w fun e w' => e = .returned (.bool (emptyR ⟨a0, a1, a2, a3⟩)) ∧ Grows w w' := by
  go_enter Try.func40, Try.ntmps40
  go_wp2
  all_goals
    go_ret
    exact ⟨ret_b (by rw [Bool.eq_iff_iff]; simp [emptyR] <;> omega), (by repeat (first | exact Grows.refl _ | apply Grows.grow | apply Grows.alloc | apply Grows.drew))⟩

set_option maxHeartbeats 400000 in
theorem ref03_empty (a0 a1 a2 a3 : Int) (w : World) :
    Calls Try.prog 22 #[.agg #[.int .i64 a0, .int .i64 a1, .int .i64 a2, .int .i64 a3]] w fun e w' => e = .returned (.bool (emptyR ⟨a0, a1, a2, a3⟩)) ∧ Grows w w' := by
  go_enter Try.func22, Try.ntmps22
  go_wp2
  all_goals
    go_ret
    exact ⟨ret_b (by rw [Bool.eq_iff_iff]; simp [emptyR] <;> omega), (by repeat (first | exact Grows.refl _ | apply Grows.grow | apply Grows.alloc | apply Grows.drew))⟩

set_option maxHeartbeats 400000 in
theorem rect_has (a0 a1 a2 a3 x y : Int) (w : World) :
    Calls Try.prog 47 #[.agg #[.int .i64 a0, .int .i64 a1, .int .i64 a2, .int .i64 a3], .int .i64 x, .int .i64 y] w fun e w' => e = .returned (.bool (hasR ⟨a0, a1, a2, a3⟩ x y)) ∧ Grows w w' := by
  go_enter Try.func47, Try.ntmps47
  go_wp2
  all_goals
    go_ret
    exact ⟨ret_b (by rw [Bool.eq_iff_iff]; simp [hasR] <;> omega), (by repeat (first | exact Grows.refl _ | apply Grows.grow | apply Grows.alloc | apply Grows.drew))⟩

set_option maxHeartbeats 400000 in
theorem ref03_has (a0 a1 a2 a3 x y : Int) (w : World) :
    Calls Try.prog 25 #[.agg #[.int .i64 a0, .int .i64 a1, .int .i64 a2, .int .i64 a3], .int .i64 x, .int .i64 y] w fun e w' => e = .returned (.bool (hasR ⟨a0, a1, a2, a3⟩ x y)) ∧ Grows w w' := by
  go_enter Try.func25, Try.ntmps25
  go_wp2
  all_goals
    go_ret
    exact ⟨ret_b (by rw [Bool.eq_iff_iff]; simp [hasR] <;> omega), (by repeat (first | exact Grows.refl _ | apply Grows.grow | apply Grows.alloc | apply Grows.drew))⟩

set_option maxHeartbeats 400000 in
theorem ref03_near (n : Int) (w : World) :
    Calls Try.prog 39 #[.int .i64 n] w fun e w' => e = .returned (.bool (nearN n)) ∧ w = w' := by
  go_enter Try.func39, Try.ntmps39
  go_wp2
  all_goals
    go_ret
    exact ⟨ret_b (by rw [Bool.eq_iff_iff]; simp [nearN] <;> omega), rfl⟩

set_option maxHeartbeats 400000 in
theorem ref03_right (a0 a1 a2 a3 : Int) (w : World) :
    Calls Try.prog 30 #[.agg #[.int .i64 a0, .int .i64 a1, .int .i64 a2, .int .i64 a3]] w fun e w' => e = .returned (.bool (rightR ⟨a0, a1, a2, a3⟩)) ∧ Grows w w' := by
  cases h0 : nearN a0
  rotate_left
  cases h1 : nearN a1
  rotate_left
  cases h2 : nearN a2
  rotate_left
  cases h3 : nearN a3
  all_goals
    go_enter Try.func30, Try.ntmps30
    go_wp2_with (go_at_call 39; refine (ref03_near _ _).mono ?_; rintro e w' ⟨rfl, rfl⟩)
    go_ret
    exact ⟨ret_b (by simp [rightR, *]), (by repeat (first | exact Grows.refl _ | apply Grows.grow | apply Grows.alloc | apply Grows.drew))⟩




end Go.Proofs.Ytbpcpndiohlchaa
