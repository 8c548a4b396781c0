/- The walks of layer 3 (rectangles): each function returns what the plain one says. -/
import Derived.Test.YtklcmlbkhjcaiaaDoorRows
import Derived.Test.YtklcmlbkhjcaiaaDoorK1
import Derived.Test.YtklcmlbkhjcaiaaDoorWorld
import Derived.WalkSpells
import Derived.WalkLawsBesides
import Derived.Lib.Hide
import Derived.BigQuiet








namespace Go.Proofs.YtklcmlbkhjcaiaaDoor
open Go.RowKit
set_option linter.unusedVariables false

theorem rect_info : (Tryd.prog.info? 27).map (·.size) = some 4 := by kernel_rfl
theorem ret_b {a b : Bool} (h : a = b) : Ending.returned (.bool a) = .returned (.bool b) := by rw [h]
theorem ret_i {k : IntKind} {a b : Int} (h : a = b) : Ending.returned (.int k a) = .returned (.int k b) := by rw [h]

set_option maxHeartbeats 400000 in
theorem rect_empty (a0 a1 a2 a3 : Int) (w : World) :
    Calls Tryd.prog 80 #[.agg #[.int .i64 a0, .int .i64 a1, .int .i64 a2, .int .i64 a3]] w fun e w' => e = .returned (.bool (emptyR ⟨a0, a1, a2, a3⟩)) ∧ Grows w w' := by
  go_enter Tryd.func80, Tryd.ntmps80
  go_wp2
  all_goals
    go_ret
    exact ⟨ret_b (by rw [Bool.eq_iff_iff]; simp [emptyR] <;> omega), (by repeat (first | exact Grows.refl _ | apply Grows.grow | apply Grows.alloc | apply Grows.drew))⟩

set_option maxHeartbeats 400000 in
theorem ref03_empty (a0 a1 a2 a3 : Int) (w : World) :
    Calls Tryd.prog 28 #[.agg #[.int .i64 a0, .int .i64 a1, .int .i64 a2, .int .i64 a3]] w fun e w' => e = .returned (.bool (emptyR ⟨a0, a1, a2, a3⟩)) ∧ Grows w w' := by
  go_enter Tryd.func28, Tryd.ntmps28
  go_wp2
  all_goals
    go_ret
    exact ⟨ret_b (by rw [Bool.eq_iff_iff]; simp [emptyR] <;> omega), (by repeat (first | exact Grows.refl _ | apply Grows.grow | apply Grows.alloc | apply Grows.drew))⟩

set_option maxHeartbeats 400000 in
theorem rect_has (a0 a1 a2 a3 x y : Int) (w : World) :
    Calls Tryd.prog 90 #[.agg #[.int .i64 a0, .int .i64 a1, .int .i64 a2, .int .i64 a3], .int .i64 x, .int .i64 y] w fun e w' => e = .returned (.bool (hasR ⟨a0, a1, a2, a3⟩ x y)) ∧ Grows w w' := by
  go_enter Tryd.func90, Tryd.ntmps90
  go_wp2
  all_goals
    go_ret
    exact ⟨ret_b (by rw [Bool.eq_iff_iff]; simp [hasR] <;> omega), (by repeat (first | exact Grows.refl _ | apply Grows.grow | apply Grows.alloc | apply Grows.drew))⟩

set_option maxHeartbeats 400000 in
theorem ref03_has (a0 a1 a2 a3 x y : Int) (w : World) :
    Calls Tryd.prog 23 #[.agg #[.int .i64 a0, .int .i64 a1, .int .i64 a2, .int .i64 a3], .int .i64 x, .int .i64 y] w fun e w' => e = .returned (.bool (hasR ⟨a0, a1, a2, a3⟩ x y)) ∧ Grows w w' := by
  go_enter Tryd.func23, Tryd.ntmps23
  go_wp2
  all_goals
    go_ret
    exact ⟨ret_b (by rw [Bool.eq_iff_iff]; simp [hasR] <;> omega), (by repeat (first | exact Grows.refl _ | apply Grows.grow | apply Grows.alloc | apply Grows.drew))⟩

set_option maxHeartbeats 400000 in
theorem ref03_near (n : Int) (w : World) :
    Calls Tryd.prog 100 #[.int .i64 n] w fun e w' => e = .returned (.bool (nearN n)) ∧ w = w' := by
  go_enter Tryd.func100, Tryd.ntmps100
  go_wp2
  all_goals
    go_ret
    exact ⟨ret_b (by rw [Bool.eq_iff_iff]; simp [nearN] <;> omega), rfl⟩

set_option maxHeartbeats 400000 in
theorem ref03_right (a0 a1 a2 a3 : Int) (w : World) :
    Calls Tryd.prog 79 #[.agg #[.int .i64 a0, .int .i64 a1, .int .i64 a2, .int .i64 a3]] w fun e w' => e = .returned (.bool (rightR ⟨a0, a1, a2, a3⟩)) ∧ Grows w w' := by
  cases h0 : nearN a0
  rotate_left
  cases h1 : nearN a1
  rotate_left
  cases h2 : nearN a2
  rotate_left
  cases h3 : nearN a3
  all_goals
    go_enter Tryd.func79, Tryd.ntmps79
    go_wp2_with (go_at_call 100; refine (ref03_near _ _).mono ?_; rintro e w' ⟨rfl, rfl⟩)
    go_ret
    exact ⟨ret_b (by simp [rightR, *]), (by repeat (first | exact Grows.refl _ | apply Grows.grow | apply Grows.alloc | apply Grows.drew))⟩


set_option maxHeartbeats 1600000 in
theorem rect_meet (a0 a1 a2 a3 b0 b1 b2 b3 : Int) (w : World) :
    Calls Tryd.prog 82 #[.agg #[.int .i64 a0, .int .i64 a1, .int .i64 a2, .int .i64 a3], .agg #[.int .i64 b0, .int .i64 b1, .int .i64 b2, .int .i64 b3]] w fun e w' => e = .returned (.agg #[.int .i64 (meetR ⟨a0, a1, a2, a3⟩ ⟨b0, b1, b2, b3⟩).x0, .int .i64 (meetR ⟨a0, a1, a2, a3⟩ ⟨b0, b1, b2, b3⟩).y0, .int .i64 (meetR ⟨a0, a1, a2, a3⟩ ⟨b0, b1, b2, b3⟩).x1, .int .i64 (meetR ⟨a0, a1, a2, a3⟩ ⟨b0, b1, b2, b3⟩).y1]) ∧ Grows w w' := by
  have hmx : ∀ a b : Int, (@ite Int (a < b) (Int.decLt a b) b a) = mxI a b := fun _ _ => rfl
  have hmn : ∀ a b : Int, (@ite Int (b < a) (Int.decLt b a) b a) = mnI a b := fun _ _ => rfl
  cases h : emptyR (⟨mxI a0 b0, mxI a1 b1, mnI a2 b2, mnI a3 b3⟩ : R)
  · have er : meetR ⟨a0, a1, a2, a3⟩ ⟨b0, b1, b2, b3⟩ = ⟨mxI a0 b0, mxI a1 b1, mnI a2 b2, mnI a3 b3⟩ := by simp [meetR, someR, h]
    rw [er]
    clear er
    go_enter Tryd.func82, Tryd.ntmps82
    go_wp2_with (go_at_call 80; refine (rect_empty _ _ _ _ _).mono ?_; rintro e w' ⟨rfl, gw, rfl⟩)
    refine bodyPost_ret (results_cell_row rfl _ _ _ 27 #[.int .i64 (mxI a0 b0), .int .i64 (mxI a1 b1), .int .i64 (mnI a2 b2), .int .i64 (mnI a3 b3)] (0, 0) _ rfl ?_ Tryd.underlying27 rfl rect_info) rfl ⟨rfl, (by repeat (first | exact Grows.refl _ | apply Grows.grow | apply Grows.alloc | apply Grows.drew))⟩
    exact (by repeat (first | exact blk_at _ _ _ (by first | omega | (simp; done) | (simp; omega)) | refine (blk_past _ _ _ (by first | omega | (simp; done) | (simp; omega))).trans ?_ | refine (heap_grow _ _ _ (by first | omega | (simp; done) | (simp; omega))).trans ?_ | refine (blk_drew _ _).trans ?_))
  · have er : meetR ⟨a0, a1, a2, a3⟩ ⟨b0, b1, b2, b3⟩ = ⟨0, 0, 0, 0⟩ := by simp [meetR, someR, zeroR, h]
    rw [er]
    clear er
    go_enter Tryd.func82, Tryd.ntmps82
    go_wp2_with (go_at_call 80; refine (rect_empty _ _ _ _ _).mono ?_; rintro e w' ⟨rfl, gw, rfl⟩)
    refine bodyPost_ret (results_cell_row rfl _ _ _ 27 #[.int .i64 0, .int .i64 0, .int .i64 0, .int .i64 0] (0, 0) _ rfl ?_ Tryd.underlying27 rfl rect_info) rfl ⟨rfl, (by repeat (first | exact Grows.refl _ | apply Grows.grow | apply Grows.alloc | apply Grows.drew))⟩
    exact (by repeat (first | exact blk_at _ _ _ (by first | omega | (simp; done) | (simp; omega)) | refine (blk_past _ _ _ (by first | omega | (simp; done) | (simp; omega))).trans ?_ | refine (heap_grow _ _ _ (by first | omega | (simp; done) | (simp; omega))).trans ?_ | refine (blk_drew _ _).trans ?_))


end Go.Proofs.YtklcmlbkhjcaiaaDoor
/- The walks of layer 3 (rectangles), the second part: moved, grown, the area. -/


namespace Go.Proofs.YtklcmlbkhjcaiaaDoor
open Go.RowKit
set_option linter.unusedVariables false


set_option maxHeartbeats 1600000 in
theorem rect_whole (a0 a1 a2 a3 : Int) (w : World) (ha0 : -2305843009213693952 ≤ a0 ∧ a0 ≤ 2305843009213693952) (ha1 : -2305843009213693952 ≤ a1 ∧ a1 ≤ 2305843009213693952) (ha2 : -2305843009213693952 ≤ a2 ∧ a2 ≤ 2305843009213693952) (ha3 : -2305843009213693952 ≤ a3 ∧ a3 ≤ 2305843009213693952) :
    Calls Tryd.prog 84 #[.agg #[.int .i64 a0, .int .i64 a1, .int .i64 a2, .int .i64 a3]] w fun e w' => e = .returned (.agg #[.int .i64 (wholeR ⟨a0, a1, a2, a3⟩).x0, .int .i64 (wholeR ⟨a0, a1, a2, a3⟩).y0, .int .i64 (wholeR ⟨a0, a1, a2, a3⟩).x1, .int .i64 (wholeR ⟨a0, a1, a2, a3⟩).y1]) ∧ Grows w w' := by
  have hmx : ∀ a b : Int, (@ite Int (a < b) (Int.decLt a b) b a) = mxI a b := fun _ _ => rfl
  have hmn : ∀ a b : Int, (@ite Int (b < a) (Int.decLt b a) b a) = mnI a b := fun _ _ => rfl
  have hcut : ∀ n : Int, mxI (-4398046511104) (mnI n 4398046511104) = cutN n := fun _ => rfl
  cases h : emptyR (⟨cutN a0, cutN a1, cutN a2, cutN a3⟩ : R)
  · have er : wholeR ⟨a0, a1, a2, a3⟩ = ⟨cutN a0, cutN a1, cutN a2, cutN a3⟩ := by simp [wholeR, someR, h]
    rw [er]
    clear er
    go_enter Tryd.func84, Tryd.ntmps84
    go_wp2_with fail
    go_in
    go_wp2
    refine wp_loop_rounds 5 ?_
    repeat (rw [rounds_succ]; go_wp2)
    go_end0
    go_wp2_with (go_at_call 80; refine (rect_empty _ _ _ _ _).mono ?_; rintro e w' ⟨rfl, gw, rfl⟩)
    refine bodyPost_ret (results_cell_row rfl _ _ _ 27 #[.int .i64 (cutN a0), .int .i64 (cutN a1), .int .i64 (cutN a2), .int .i64 (cutN a3)] (0, 0) _ rfl ?_ Tryd.underlying27 rfl rect_info) rfl ⟨rfl, (by repeat (first | exact Grows.refl _ | apply Grows.grow | apply Grows.alloc | apply Grows.drew))⟩
    exact (by repeat (first | exact blk_at _ _ _ (by first | omega | (simp; done) | (simp; omega)) | refine (blk_past _ _ _ (by first | omega | (simp; done) | (simp; omega))).trans ?_ | refine (heap_grow _ _ _ (by first | omega | (simp; done) | (simp; omega))).trans ?_ | refine (blk_drew _ _).trans ?_))
  · have er : wholeR ⟨a0, a1, a2, a3⟩ = ⟨0, 0, 0, 0⟩ := by simp [wholeR, someR, zeroR, h]
    rw [er]
    clear er
    go_enter Tryd.func84, Tryd.ntmps84
    go_wp2_with fail
    go_in
    go_wp2
    refine wp_loop_rounds 5 ?_
    repeat (rw [rounds_succ]; go_wp2)
    go_end0
    go_wp2_with (go_at_call 80; refine (rect_empty _ _ _ _ _).mono ?_; rintro e w' ⟨rfl, gw, rfl⟩)
    refine bodyPost_ret (results_cell_row rfl _ _ _ 27 #[.int .i64 0, .int .i64 0, .int .i64 0, .int .i64 0] (0, 0) _ rfl ?_ Tryd.underlying27 rfl rect_info) rfl ⟨rfl, (by repeat (first | exact Grows.refl _ | apply Grows.grow | apply Grows.alloc | apply Grows.drew))⟩
    exact (by repeat (first | exact blk_at _ _ _ (by first | omega | (simp; done) | (simp; omega)) | refine (blk_past _ _ _ (by first | omega | (simp; done) | (simp; omega))).trans ?_ | refine (heap_grow _ _ _ (by first | omega | (simp; done) | (simp; omega))).trans ?_ | refine (blk_drew _ _).trans ?_))

theorem movedN_bd (n d : Int) (hn : -1152921504606846976 ≤ n ∧ n ≤ 1152921504606846976) (hd : -1152921504606846976 ≤ d ∧ d ≤ 1152921504606846976) : -2305843009213693952 ≤ movedN n d ∧ movedN n d ≤ 2305843009213693952 := by
  unfold movedN
  split <;> omega


set_option maxHeartbeats 1600000 in
theorem rect_grow (a0 a1 a2 a3 l u r d : Int) (w : World) (ha0 : -1152921504606846976 ≤ a0 ∧ a0 ≤ 1152921504606846976) (ha1 : -1152921504606846976 ≤ a1 ∧ a1 ≤ 1152921504606846976) (ha2 : -1152921504606846976 ≤ a2 ∧ a2 ≤ 1152921504606846976) (ha3 : -1152921504606846976 ≤ a3 ∧ a3 ≤ 1152921504606846976) (hl : -1152921504606846976 ≤ l ∧ l ≤ 1152921504606846976) (hu : -1152921504606846976 ≤ u ∧ u ≤ 1152921504606846976) (hr : -1152921504606846976 ≤ r ∧ r ≤ 1152921504606846976) (hd : -1152921504606846976 ≤ d ∧ d ≤ 1152921504606846976) :
    Calls Tryd.prog 61 #[.agg #[.int .i64 a0, .int .i64 a1, .int .i64 a2, .int .i64 a3], .int .i64 l, .int .i64 u, .int .i64 r, .int .i64 d] w fun e w' => e = .returned (.agg #[.int .i64 (growR ⟨a0, a1, a2, a3⟩ l u r d).x0, .int .i64 (growR ⟨a0, a1, a2, a3⟩ l u r d).y0, .int .i64 (growR ⟨a0, a1, a2, a3⟩ l u r d).x1, .int .i64 (growR ⟨a0, a1, a2, a3⟩ l u r d).y1]) ∧ Grows w w' := by
  cases h : emptyR (⟨a0, a1, a2, a3⟩ : R)
  · have er : growR ⟨a0, a1, a2, a3⟩ l u r d = (wholeR ⟨a0 - l, a1 - u, a2 + r, a3 + d⟩) := by simp [growR, h]
    rw [er]
    clear er
    go_enter Tryd.func61, Tryd.ntmps61
    go_wp2_with (first | (go_at_call 80; refine (rect_empty _ _ _ _ _).mono ?_; rintro e w' ⟨rfl, gw, rfl⟩) | (go_at_call 84; refine (rect_whole _ _ _ _ _ (by omega) (by omega) (by omega) (by omega)).mono ?_; rintro e w' ⟨rfl, gw, rfl⟩))
    refine bodyPost_ret (results_cell_row rfl _ _ _ 27 #[.int .i64 ((wholeR ⟨a0 - l, a1 - u, a2 + r, a3 + d⟩).x0), .int .i64 ((wholeR ⟨a0 - l, a1 - u, a2 + r, a3 + d⟩).y0), .int .i64 ((wholeR ⟨a0 - l, a1 - u, a2 + r, a3 + d⟩).x1), .int .i64 ((wholeR ⟨a0 - l, a1 - u, a2 + r, a3 + d⟩).y1)] (0, 0) _ rfl ?_ Tryd.underlying27 rfl rect_info) rfl ⟨rfl, (by repeat (first | exact Grows.refl _ | apply Grows.grow | apply Grows.alloc | apply Grows.drew))⟩
    exact (by repeat (first | exact blk_at _ _ _ (by first | omega | (simp; done) | (simp; omega)) | refine (blk_past _ _ _ (by first | omega | (simp; done) | (simp; omega))).trans ?_ | refine (heap_grow _ _ _ (by first | omega | (simp; done) | (simp; omega))).trans ?_ | refine (blk_drew _ _).trans ?_))
  · have er : growR ⟨a0, a1, a2, a3⟩ l u r d = ⟨0, 0, 0, 0⟩ := by simp [growR, zeroR, h]
    rw [er]
    clear er
    go_enter Tryd.func61, Tryd.ntmps61
    go_wp2_with (first | (go_at_call 80; refine (rect_empty _ _ _ _ _).mono ?_; rintro e w' ⟨rfl, gw, rfl⟩) | (go_at_call 84; refine (rect_whole _ _ _ _ _ (by omega) (by omega) (by omega) (by omega)).mono ?_; rintro e w' ⟨rfl, gw, rfl⟩))
    refine bodyPost_ret (results_cell_row rfl _ _ _ 27 #[.int .i64 0, .int .i64 0, .int .i64 0, .int .i64 0] (0, 0) _ rfl ?_ Tryd.underlying27 rfl rect_info) rfl ⟨rfl, (by repeat (first | exact Grows.refl _ | apply Grows.grow | apply Grows.alloc | apply Grows.drew))⟩
    exact (by repeat (first | exact blk_at _ _ _ (by first | omega | (simp; done) | (simp; omega)) | refine (blk_past _ _ _ (by first | omega | (simp; done) | (simp; omega))).trans ?_ | refine (heap_grow _ _ _ (by first | omega | (simp; done) | (simp; omega))).trans ?_ | refine (blk_drew _ _).trans ?_))

set_option maxHeartbeats 1600000 in
theorem rect_area (a0 a1 a2 a3 : Int) (w : World) (ha0 : -1152921504606846976 ≤ a0 ∧ a0 ≤ 1152921504606846976) (ha1 : -1152921504606846976 ≤ a1 ∧ a1 ≤ 1152921504606846976) (ha2 : -1152921504606846976 ≤ a2 ∧ a2 ≤ 1152921504606846976) (ha3 : -1152921504606846976 ≤ a3 ∧ a3 ≤ 1152921504606846976) :
    Calls Tryd.prog 81 #[.agg #[.int .i64 a0, .int .i64 a1, .int .i64 a2, .int .i64 a3]] w fun e w' => e = .returned (.int .i64 (areaR ⟨a0, a1, a2, a3⟩)) ∧ Grows w w' := by
  cases h : emptyR (⟨a0, a1, a2, a3⟩ : R)
  · have hn := (emptyR_not _).1 h
    simp only at hn
    have hq := Int.ediv_nonneg (a := 2305843009213693952) (b := a3 - a1) (by omega) (by omega)
    have hq2 := Int.ediv_le_self (a := 2305843009213693952) (a3 - a1) (by omega)
    have hm := area_min (a2 - a0) (a3 - a1) (by omega) (by omega)
    have hp : 0 ≤ (a2 - a0) * (a3 - a1) := Int.mul_nonneg (by omega) (by omega)
    by_cases hc : 2305843009213693952 / (a3 - a1) < a2 - a0
    · have er : areaR ⟨a0, a1, a2, a3⟩ = 2305843009213693952 := by simp [areaR, h, hc]
      rw [er]
      clear er hm
      go_enter Tryd.func81, Tryd.ntmps81
      go_wp2_with (go_at_call 80; refine (rect_empty _ _ _ _ _).mono ?_; rintro e w' ⟨rfl, gw, rfl⟩)
      first | refine region_grow2 (by kernel_rfl) (by kernel_rfl) ?_ | refine region_grow (by kernel_rfl) (by kernel_rfl) ?_
      repeat (go_big_quiet_step (fail))
      refine wpQuiet_nil ?_
      rintro _ ⟨gr, rfl⟩
      go_wp2
      go_ret
      exact ⟨rfl, (by repeat (first | exact Grows.refl _ | apply Grows.grow | apply Grows.alloc | apply Grows.drew))⟩
    · have er : areaR ⟨a0, a1, a2, a3⟩ = (a2 - a0) * (a3 - a1) := by simp [areaR, h, hc]
      rw [er]
      clear er
      rw [if_neg hc] at hm
      have hp2 : (a2 - a0) * (a3 - a1) ≤ 2305843009213693952 := by omega
      clear hm
      go_enter Tryd.func81, Tryd.ntmps81
      go_wp2_with (go_at_call 80; refine (rect_empty _ _ _ _ _).mono ?_; rintro e w' ⟨rfl, gw, rfl⟩)
      first | refine region_grow2 (by kernel_rfl) (by kernel_rfl) ?_ | refine region_grow (by kernel_rfl) (by kernel_rfl) ?_
      repeat (go_big_quiet_step (fail))
      refine wpQuiet_nil ?_
      rintro _ ⟨gr, rfl⟩
      go_wp2
      go_ret
      exact ⟨rfl, (by repeat (first | exact Grows.refl _ | apply Grows.grow | apply Grows.alloc | apply Grows.drew))⟩
  · have er : areaR ⟨a0, a1, a2, a3⟩ = 0 := by simp [areaR, h]
    rw [er]
    clear er
    go_enter Tryd.func81, Tryd.ntmps81
    go_wp2_with (go_at_call 80; refine (rect_empty _ _ _ _ _).mono ?_; rintro e w' ⟨rfl, gw, rfl⟩)
    go_ret
    exact ⟨rfl, (by repeat (first | exact Grows.refl _ | apply Grows.grow | apply Grows.alloc | apply Grows.drew))⟩



/-! The same for a rectangle that is one letter. -/
@[simp, go_sem] theorem R.eta (r : R) : (⟨r.x0, r.y0, r.x1, r.y1⟩ : R) = r := rfl
theorem rect_hasR (r : R) (x y : Int) (w : World) : Calls Tryd.prog 90 #[.agg #[.int .i64 r.x0, .int .i64 r.y0, .int .i64 r.x1, .int .i64 r.y1], .int .i64 x, .int .i64 y] w fun e w' => e = .returned (.bool (hasR r x y)) ∧ Grows w w' := rect_has _ _ _ _ _ _ _
theorem ref03_hasR (r : R) (x y : Int) (w : World) : Calls Tryd.prog 23 #[.agg #[.int .i64 r.x0, .int .i64 r.y0, .int .i64 r.x1, .int .i64 r.y1], .int .i64 x, .int .i64 y] w fun e w' => e = .returned (.bool (hasR r x y)) ∧ Grows w w' := ref03_has _ _ _ _ _ _ _
theorem rect_emptyR (r : R) (w : World) : Calls Tryd.prog 80 #[.agg #[.int .i64 r.x0, .int .i64 r.y0, .int .i64 r.x1, .int .i64 r.y1]] w fun e w' => e = .returned (.bool (emptyR r)) ∧ Grows w w' := rect_empty _ _ _ _ _
theorem ref03_emptyR (r : R) (w : World) : Calls Tryd.prog 28 #[.agg #[.int .i64 r.x0, .int .i64 r.y0, .int .i64 r.x1, .int .i64 r.y1]] w fun e w' => e = .returned (.bool (emptyR r)) ∧ Grows w w' := ref03_empty _ _ _ _ _
theorem ref03_rightR (r : R) (w : World) : Calls Tryd.prog 79 #[.agg #[.int .i64 r.x0, .int .i64 r.y0, .int .i64 r.x1, .int .i64 r.y1]] w fun e w' => e = .returned (.bool (rightR r)) ∧ Grows w w' := ref03_right _ _ _ _ _
theorem rect_meetR (r s : R) (w : World) : Calls Tryd.prog 82 #[.agg #[.int .i64 r.x0, .int .i64 r.y0, .int .i64 r.x1, .int .i64 r.y1], .agg #[.int .i64 s.x0, .int .i64 s.y0, .int .i64 s.x1, .int .i64 s.y1]] w fun e w' => e = .returned (.agg #[.int .i64 (meetR r s).x0, .int .i64 (meetR r s).y0, .int .i64 (meetR r s).x1, .int .i64 (meetR r s).y1]) ∧ Grows w w' := rect_meet _ _ _ _ _ _ _ _ _
theorem rect_areaR (r : R) (w : World) (h : GoodR r) : Calls Tryd.prog 81 #[.agg #[.int .i64 r.x0, .int .i64 r.y0, .int .i64 r.x1, .int .i64 r.y1]] w fun e w' => e = .returned (.int .i64 (areaR r)) ∧ Grows w w' :=
  rect_area _ _ _ _ _ (by have := h.bd; omega) (by have := h.bd; omega) (by have := h.bd; omega) (by have := h.bd; omega)
end Go.Proofs.YtklcmlbkhjcaiaaDoor
