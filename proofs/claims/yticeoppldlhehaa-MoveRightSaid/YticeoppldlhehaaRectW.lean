/- The walks of layer 3 (rectangles): each function returns what the plain one says. -/
import Derived.Test.YticeoppldlhehaaRows
import Derived.Test.YticeoppldlhehaaRectL
import Derived.Test.YticeoppldlhehaaWorld
import Derived.WalkSpells
import Derived.WalkLawsBesides
import Derived.Lib.Hide
import Derived.BigQuiet
namespace Go.Proofs.Yticeoppldlhehaa
open Go.RowKit
set_option linter.unusedVariables false

theorem rect_info : (Try.prog.info? 23).map (·.size) = some 4 := by kernel_rfl
theorem ret_b {a b : Bool} (h : a = b) : Ending.returned (.bool a) = .returned (.bool b) := by rw [h]
theorem ret_i {k : IntKind} {a b : Int} (h : a = b) : Ending.returned (.int k a) = .returned (.int k b) := by rw [h]

set_option maxHeartbeats 400000 in
theorem rect_empty (a0 a1 a2 a3 : Int) (w : World) :
    Calls Try.prog 56 #[.agg #[.int .i64 a0, .int .i64 a1, .int .i64 a2, .int .i64 a3]] w fun e w' => e = .returned (.bool (emptyR ⟨a0, a1, a2, a3⟩)) ∧ Grows w w' := by
  go_enter Try.func56, Try.ntmps56
  go_wp2
  all_goals
    go_ret
    exact ⟨ret_b (by rw [Bool.eq_iff_iff]; simp [emptyR] <;> omega), (by repeat (first | exact Grows.refl _ | apply Grows.grow | apply Grows.alloc | apply Grows.drew))⟩

set_option maxHeartbeats 400000 in
theorem ref03_empty (a0 a1 a2 a3 : Int) (w : World) :
    Calls Try.prog 12 #[.agg #[.int .i64 a0, .int .i64 a1, .int .i64 a2, .int .i64 a3]] w fun e w' => e = .returned (.bool (emptyR ⟨a0, a1, a2, a3⟩)) ∧ Grows w w' := by
  go_enter Try.func12, Try.ntmps12
  go_wp2
  all_goals
    go_ret
    exact ⟨ret_b (by rw [Bool.eq_iff_iff]; simp [emptyR] <;> omega), (by repeat (first | exact Grows.refl _ | apply Grows.grow | apply Grows.alloc | apply Grows.drew))⟩

set_option maxHeartbeats 400000 in
theorem rect_has (a0 a1 a2 a3 x y : Int) (w : World) :
    Calls Try.prog 58 #[.agg #[.int .i64 a0, .int .i64 a1, .int .i64 a2, .int .i64 a3], .int .i64 x, .int .i64 y] w fun e w' => e = .returned (.bool (hasR ⟨a0, a1, a2, a3⟩ x y)) ∧ Grows w w' := by
  go_enter Try.func58, Try.ntmps58
  go_wp2
  all_goals
    go_ret
    exact ⟨ret_b (by rw [Bool.eq_iff_iff]; simp [hasR] <;> omega), (by repeat (first | exact Grows.refl _ | apply Grows.grow | apply Grows.alloc | apply Grows.drew))⟩

set_option maxHeartbeats 400000 in
theorem ref03_has (a0 a1 a2 a3 x y : Int) (w : World) :
    Calls Try.prog 15 #[.agg #[.int .i64 a0, .int .i64 a1, .int .i64 a2, .int .i64 a3], .int .i64 x, .int .i64 y] w fun e w' => e = .returned (.bool (hasR ⟨a0, a1, a2, a3⟩ x y)) ∧ Grows w w' := by
  go_enter Try.func15, Try.ntmps15
  go_wp2
  all_goals
    go_ret
    exact ⟨ret_b (by rw [Bool.eq_iff_iff]; simp [hasR] <;> omega), (by repeat (first | exact Grows.refl _ | apply Grows.grow | apply Grows.alloc | apply Grows.drew))⟩

set_option maxHeartbeats 400000 in
theorem ref03_near (n : Int) (w : World) :
    Calls Try.prog 39 #[.int .i64 n] w fun e w' => e = .returned (.bool (nearN n)) ∧ w = w' := by
  go_enter Try.func39, Try.ntmps39
  go_wp2
  all_goals
    go_ret
    exact ⟨ret_b (by rw [Bool.eq_iff_iff]; simp [nearN] <;> omega), rfl⟩

set_option maxHeartbeats 400000 in
theorem ref03_right (a0 a1 a2 a3 : Int) (w : World) :
    Calls Try.prog 17 #[.agg #[.int .i64 a0, .int .i64 a1, .int .i64 a2, .int .i64 a3]] w fun e w' => e = .returned (.bool (rightR ⟨a0, a1, a2, a3⟩)) ∧ Grows w w' := by
  cases h0 : nearN a0
  rotate_left
  cases h1 : nearN a1
  rotate_left
  cases h2 : nearN a2
  rotate_left
  cases h3 : nearN a3
  all_goals
    go_enter Try.func17, Try.ntmps17
    go_wp2_with (go_at_call 39; refine (ref03_near _ _).mono ?_; rintro e w' ⟨rfl, rfl⟩)
    go_ret
    exact ⟨ret_b (by simp [rightR, *]), (by repeat (first | exact Grows.refl _ | apply Grows.grow | apply Grows.alloc | apply Grows.drew))⟩


set_option maxHeartbeats 1600000 in
theorem rect_meet (a0 a1 a2 a3 b0 b1 b2 b3 : Int) (w : World) :
    Calls Try.prog 47 #[.agg #[.int .i64 a0, .int .i64 a1, .int .i64 a2, .int .i64 a3], .agg #[.int .i64 b0, .int .i64 b1, .int .i64 b2, .int .i64 b3]] w fun e w' => e = .returned (.agg #[.int .i64 (meetR ⟨a0, a1, a2, a3⟩ ⟨b0, b1, b2, b3⟩).x0, .int .i64 (meetR ⟨a0, a1, a2, a3⟩ ⟨b0, b1, b2, b3⟩).y0, .int .i64 (meetR ⟨a0, a1, a2, a3⟩ ⟨b0, b1, b2, b3⟩).x1, .int .i64 (meetR ⟨a0, a1, a2, a3⟩ ⟨b0, b1, b2, b3⟩).y1]) ∧ Grows w w' := by
  have hmx : ∀ a b : Int, (@ite Int (a < b) (Int.decLt a b) b a) = mxI a b := fun _ _ => rfl
  have hmn : ∀ a b : Int, (@ite Int (b < a) (Int.decLt b a) b a) = mnI a b := fun _ _ => rfl
  cases h : emptyR (⟨mxI a0 b0, mxI a1 b1, mnI a2 b2, mnI a3 b3⟩ : R)
  · have er : meetR ⟨a0, a1, a2, a3⟩ ⟨b0, b1, b2, b3⟩ = ⟨mxI a0 b0, mxI a1 b1, mnI a2 b2, mnI a3 b3⟩ := by simp [meetR, someR, h]
    rw [er]
    clear er
    go_enter Try.func47, Try.ntmps47
    go_wp2_with (go_at_call 56; refine (rect_empty _ _ _ _ _).mono ?_; rintro e w' ⟨rfl, gw, rfl⟩)
    refine bodyPost_ret (results_cell_row rfl _ _ _ 23 #[.int .i64 (mxI a0 b0), .int .i64 (mxI a1 b1), .int .i64 (mnI a2 b2), .int .i64 (mnI a3 b3)] (0, 0) _ rfl ?_ Try.underlying23 rfl rect_info) rfl ⟨rfl, (by repeat (first | exact Grows.refl _ | apply Grows.grow | apply Grows.alloc | apply Grows.drew))⟩
    exact (by repeat (first | exact blk_at _ _ _ (by first | omega | (simp; done) | (simp; omega)) | refine (blk_past _ _ _ (by first | omega | (simp; done) | (simp; omega))).trans ?_ | refine (heap_grow _ _ _ (by first | omega | (simp; done) | (simp; omega))).trans ?_ | refine (blk_drew _ _).trans ?_))
  · have er : meetR ⟨a0, a1, a2, a3⟩ ⟨b0, b1, b2, b3⟩ = ⟨0, 0, 0, 0⟩ := by simp [meetR, someR, zeroR, h]
    rw [er]
    clear er
    go_enter Try.func47, Try.ntmps47
    go_wp2_with (go_at_call 56; refine (rect_empty _ _ _ _ _).mono ?_; rintro e w' ⟨rfl, gw, rfl⟩)
    refine bodyPost_ret (results_cell_row rfl _ _ _ 23 #[.int .i64 0, .int .i64 0, .int .i64 0, .int .i64 0] (0, 0) _ rfl ?_ Try.underlying23 rfl rect_info) rfl ⟨rfl, (by repeat (first | exact Grows.refl _ | apply Grows.grow | apply Grows.alloc | apply Grows.drew))⟩
    exact (by repeat (first | exact blk_at _ _ _ (by first | omega | (simp; done) | (simp; omega)) | refine (blk_past _ _ _ (by first | omega | (simp; done) | (simp; omega))).trans ?_ | refine (heap_grow _ _ _ (by first | omega | (simp; done) | (simp; omega))).trans ?_ | refine (blk_drew _ _).trans ?_))


end Go.Proofs.Yticeoppldlhehaa
