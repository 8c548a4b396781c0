/- The walk of the reference of layer 8: whether a box and radii are little. -/
import Derived.Test.YticeoppldlhehaaRef3G
namespace Go.Proofs.Yticeoppldlhehaa
open Go.RowKit
set_option linter.unusedVariables false

theorem cutN_bd (n : Int) : -4398046511104 ≤ cutN n ∧ cutN n ≤ 4398046511104 := by
  unfold cutN
  simp only [mxI_eq, mnI_eq]
  omega
theorem good_whole (r : R) : GoodR (wholeR r) := good_some ((rightR_iff _).2 ⟨cutN_bd _, cutN_bd _, cutN_bd _, cutN_bd _⟩)
theorem good_grow (r : R) (a b c d : Int) : GoodR (growR r a b c d) := by
  unfold growR
  split
  · exact goodR_zero
  · exact good_whole _
def smallR (b : R) : Prop := (-33554432 ≤ b.x0 ∧ b.x0 ≤ 33554432) ∧ (-33554432 ≤ b.y0 ∧ b.y0 ≤ 33554432) ∧ (-33554432 ≤ b.x1 ∧ b.x1 ≤ 33554432) ∧ (-33554432 ≤ b.y1 ∧ b.y1 ≤ 33554432)
instance (b : R) : Decidable (smallR b) := by unfold smallR; infer_instance
theorem smallR.right {b : R} (h : smallR b) : rightR b = true := by
  unfold smallR at h
  rw [rightR_iff]
  omega
def fineB (b : R) (rx ry n : Int) : Bool := decide ((0 ≤ rx ∧ rx ≤ 255) ∧ (0 ≤ ry ∧ ry ≤ 255) ∧ smallR b) && decide (areaR (growR b rx ry rx ry) ≤ n)

theorem fineB_no {b : R} {rx ry n : Int} (h : ¬((0 ≤ rx ∧ rx ≤ 255) ∧ (0 ≤ ry ∧ ry ≤ 255) ∧ (-33554432 ≤ b.x0 ∧ b.x0 ≤ 33554432) ∧ (-33554432 ≤ b.y0 ∧ b.y0 ≤ 33554432) ∧ (-33554432 ≤ b.x1 ∧ b.x1 ≤ 33554432) ∧ (-33554432 ≤ b.y1 ∧ b.y1 ≤ 33554432))) : false = fineB b rx ry n := by
  have : decide ((0 ≤ rx ∧ rx ≤ 255) ∧ (0 ≤ ry ∧ ry ≤ 255) ∧ smallR b) = false := decide_eq_false h
  unfold fineB
  rw [this]
  rfl
theorem fineB_yes {b : R} {rx ry n : Int} (h : (0 ≤ rx ∧ rx ≤ 255) ∧ (0 ≤ ry ∧ ry ≤ 255) ∧ (-33554432 ≤ b.x0 ∧ b.x0 ≤ 33554432) ∧ (-33554432 ≤ b.y0 ∧ b.y0 ≤ 33554432) ∧ (-33554432 ≤ b.x1 ∧ b.x1 ≤ 33554432) ∧ (-33554432 ≤ b.y1 ∧ b.y1 ≤ 33554432)) : decide (areaR (growR b rx ry rx ry) ≤ n) = fineB b rx ry n := by
  have : decide ((0 ≤ rx ∧ rx ≤ 255) ∧ (0 ≤ ry ∧ ry ≤ 255) ∧ smallR b) = true := decide_eq_true h
  unfold fineB
  rw [this]
  rfl
theorem rect_near {b : R} (h : (-33554432 ≤ b.x0 ∧ b.x0 ≤ 33554432) ∧ (-33554432 ≤ b.y0 ∧ b.y0 ≤ 33554432) ∧ (-33554432 ≤ b.x1 ∧ b.x1 ≤ 33554432) ∧ (-33554432 ≤ b.y1 ∧ b.y1 ≤ 33554432)) : rightR b = true := smallR.right h


set_option maxHeartbeats 3200000 in
theorem ref08_Fine (b : R) (rx ry n : Int) (w : World) :
    Calls Try.prog 30 #[.agg #[.int .i64 b.x0, .int .i64 b.y0, .int .i64 b.x1, .int .i64 b.y1], .int .i64 rx, .int .i64 ry, .int .i64 n] w fun e w' => e = .returned (.bool (fineB b rx ry n)) ∧ Grows w w' := by
  by_cases c0 : rx < 0
  · rw [show fineB b rx ry n = false from (fineB_no (by omega)).symm]
    go_enter Try.func30, Try.ntmps30
    go_wp2
    go_ret
    exact ⟨rfl, (by repeat (first | exact Grows.refl _ | apply Grows.grow | apply Grows.alloc | apply Grows.drew))⟩
  by_cases c1 : ry < 0
  · rw [show fineB b rx ry n = false from (fineB_no (by omega)).symm]
    go_enter Try.func30, Try.ntmps30
    go_wp2
    go_ret
    exact ⟨rfl, (by repeat (first | exact Grows.refl _ | apply Grows.grow | apply Grows.alloc | apply Grows.drew))⟩
  by_cases c2 : 255 < rx
  · rw [show fineB b rx ry n = false from (fineB_no (by omega)).symm]
    go_enter Try.func30, Try.ntmps30
    go_wp2
    go_ret
    exact ⟨rfl, (by repeat (first | exact Grows.refl _ | apply Grows.grow | apply Grows.alloc | apply Grows.drew))⟩
  by_cases c3 : 255 < ry
  · rw [show fineB b rx ry n = false from (fineB_no (by omega)).symm]
    go_enter Try.func30, Try.ntmps30
    go_wp2
    go_ret
    exact ⟨rfl, (by repeat (first | exact Grows.refl _ | apply Grows.grow | apply Grows.alloc | apply Grows.drew))⟩
  by_cases c4 : b.x0 < -33554432
  · rw [show fineB b rx ry n = false from (fineB_no (by omega)).symm]
    go_enter Try.func30, Try.ntmps30
    go_wp2
    go_ret
    exact ⟨rfl, (by repeat (first | exact Grows.refl _ | apply Grows.grow | apply Grows.alloc | apply Grows.drew))⟩
  by_cases c5 : b.y0 < -33554432
  · rw [show fineB b rx ry n = false from (fineB_no (by omega)).symm]
    go_enter Try.func30, Try.ntmps30
    go_wp2
    go_ret
    exact ⟨rfl, (by repeat (first | exact Grows.refl _ | apply Grows.grow | apply Grows.alloc | apply Grows.drew))⟩
  by_cases c6 : 33554432 < b.x1
  · rw [show fineB b rx ry n = false from (fineB_no (by omega)).symm]
    go_enter Try.func30, Try.ntmps30
    go_wp2
    go_ret
    exact ⟨rfl, (by repeat (first | exact Grows.refl _ | apply Grows.grow | apply Grows.alloc | apply Grows.drew))⟩
  by_cases c7 : 33554432 < b.y1
  · rw [show fineB b rx ry n = false from (fineB_no (by omega)).symm]
    go_enter Try.func30, Try.ntmps30
    go_wp2
    go_ret
    exact ⟨rfl, (by repeat (first | exact Grows.refl _ | apply Grows.grow | apply Grows.alloc | apply Grows.drew))⟩
  by_cases c8 : b.x1 < -33554432
  · rw [show fineB b rx ry n = false from (fineB_no (by omega)).symm]
    go_enter Try.func30, Try.ntmps30
    go_wp2
    go_ret
    exact ⟨rfl, (by repeat (first | exact Grows.refl _ | apply Grows.grow | apply Grows.alloc | apply Grows.drew))⟩
  by_cases c9 : b.y1 < -33554432
  · rw [show fineB b rx ry n = false from (fineB_no (by omega)).symm]
    go_enter Try.func30, Try.ntmps30
    go_wp2
    go_ret
    exact ⟨rfl, (by repeat (first | exact Grows.refl _ | apply Grows.grow | apply Grows.alloc | apply Grows.drew))⟩
  by_cases c10 : 33554432 < b.x0
  · rw [show fineB b rx ry n = false from (fineB_no (by omega)).symm]
    go_enter Try.func30, Try.ntmps30
    go_wp2
    go_ret
    exact ⟨rfl, (by repeat (first | exact Grows.refl _ | apply Grows.grow | apply Grows.alloc | apply Grows.drew))⟩
  by_cases c11 : 33554432 < b.y0
  · rw [show fineB b rx ry n = false from (fineB_no (by omega)).symm]
    go_enter Try.func30, Try.ntmps30
    go_wp2
    go_ret
    exact ⟨rfl, (by repeat (first | exact Grows.refl _ | apply Grows.grow | apply Grows.alloc | apply Grows.drew))⟩
  have HR : Hid (rightR (growR b rx ry rx ry) = true) := (good_grow _ _ _ _ _).near
  have HGr : Hid (∀ w, Calls Try.prog 51 #[.agg #[.int .i64 b.x0, .int .i64 b.y0, .int .i64 b.x1, .int .i64 b.y1], .int .i64 rx, .int .i64 ry, .int .i64 rx, .int .i64 ry] w fun e w' => e = .returned (.agg #[.int .i64 (growR b rx ry rx ry).x0, .int .i64 (growR b rx ry rx ry).y0, .int .i64 (growR b rx ry rx ry).x1, .int .i64 (growR b rx ry rx ry).y1]) ∧ Grows w w') := fun w => ref03_growR b rx ry rx ry w (rect_near (by omega)) (by omega) (by omega) (by omega) (by omega)
  rw [show fineB b rx ry n = decide (areaR (growR b rx ry rx ry) ≤ n) from (fineB_yes (by omega)).symm]
  go_enter Try.func30, Try.ntmps30
  go_wp2_with (first | (go_at_call 51; refine (HGr.out _).mono ?_; rintro e w' ⟨rfl, hgw⟩; first | (obtain ⟨gw, rfl⟩ := grows_of_grow hgw) | (obtain ⟨gw, rfl⟩ := hgw)) | (first | (go_at_call 50; refine (ref03_areaR _ _ HR.out).mono ?_; rintro e w' ⟨rfl, hgw⟩; first | (obtain ⟨gw, rfl⟩ := grows_of_grow hgw) | (obtain ⟨gw, rfl⟩ := hgw))))
  go_ret
  exact ⟨rfl, (by repeat (first | exact Grows.refl _ | apply Grows.grow | apply Grows.alloc | apply Grows.drew))⟩
end Go.Proofs.Yticeoppldlhehaa
