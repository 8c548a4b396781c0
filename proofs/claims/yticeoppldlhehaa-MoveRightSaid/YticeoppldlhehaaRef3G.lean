/- The walks of the reference's rectangles (layer 3): cut, or nothing, grown. -/
import Derived.Test.YticeoppldlhehaaRef5
namespace Go.Proofs.Yticeoppldlhehaa
open Go.RowKit
set_option linter.unusedVariables false

set_option maxHeartbeats 400000 in
theorem ref03_less (a b : Int) (w : World) : Calls Try.prog 76 #[.int .i64 a, .int .i64 b] w fun e w' => e = .returned (.int .i64 (mnI a b)) ∧ w = w' := by
  go_enter Try.func76, Try.ntmps76
  go_wp2
  all_goals
    go_ret
    exact ⟨ret_i (by rw [mnI_eq]; omega), rfl⟩
set_option maxHeartbeats 400000 in
theorem ref03_more (a b : Int) (w : World) : Calls Try.prog 75 #[.int .i64 a, .int .i64 b] w fun e w' => e = .returned (.int .i64 (mxI a b)) ∧ w = w' := by
  go_enter Try.func75, Try.ntmps75
  go_wp2
  all_goals
    go_ret
    exact ⟨ret_i (by rw [mxI_eq]; omega), rfl⟩
set_option maxHeartbeats 400000 in
theorem ref03_cut (n : Int) (w : World) : Calls Try.prog 65 #[.int .i64 n] w fun e w' => e = .returned (.int .i64 (cutN n)) ∧ w = w' := by
  go_enter Try.func65, Try.ntmps65
  go_wp2_with (first | (go_at_call 76; refine (ref03_less _ _ _).mono ?_; rintro e w' ⟨rfl, rfl⟩) | (go_at_call 75; refine (ref03_more _ _ _).mono ?_; rintro e w' ⟨rfl, rfl⟩))
  go_ret
  exact ⟨rfl, rfl⟩
set_option maxHeartbeats 800000 in
theorem ref03_some (a b c d : Int) (w : World) : Calls Try.prog 64 #[.int .i64 a, .int .i64 b, .int .i64 c, .int .i64 d] w fun e w' => e = .returned (.agg #[.int .i64 (someR ⟨a, b, c, d⟩).x0, .int .i64 (someR ⟨a, b, c, d⟩).y0, .int .i64 (someR ⟨a, b, c, d⟩).x1, .int .i64 (someR ⟨a, b, c, d⟩).y1]) ∧ Grows w w' := by
  cases h : emptyR (⟨a, b, c, d⟩ : R)
  · have er : someR ⟨a, b, c, d⟩ = ⟨a, b, c, d⟩ := by simp [someR, h]
    rw [er]
    clear er
    go_enter Try.func64, Try.ntmps64
    go_wp2_with (go_at_call 12; refine (ref03_empty _ _ _ _ _).mono ?_; rintro e w' ⟨rfl, gw, rfl⟩)
    refine bodyPost_ret (results_cell_row rfl _ _ _ 23 #[.int .i64 a, .int .i64 b, .int .i64 c, .int .i64 d] (0, 0) _ rfl ?_ Try.underlying23 rfl rect_info) rfl ⟨rfl, (by repeat (first | exact Grows.refl _ | apply Grows.grow | apply Grows.alloc | apply Grows.drew))⟩
    exact (by repeat (first | exact blk_at _ _ _ (by first | omega | (simp; done) | (simp; omega)) | refine (blk_past _ _ _ (by first | omega | (simp; done) | (simp; omega))).trans ?_ | refine (heap_grow _ _ _ (by first | omega | (simp; done) | (simp; omega))).trans ?_ | refine (blk_drew _ _).trans ?_))
  · have er : someR ⟨a, b, c, d⟩ = ⟨0, 0, 0, 0⟩ := by simp [someR, zeroR, h]
    rw [er]
    clear er
    go_enter Try.func64, Try.ntmps64
    go_wp2_with (go_at_call 12; refine (ref03_empty _ _ _ _ _).mono ?_; rintro e w' ⟨rfl, gw, rfl⟩)
    refine bodyPost_ret (results_cell_row rfl _ _ _ 23 #[.int .i64 0, .int .i64 0, .int .i64 0, .int .i64 0] (0, 0) _ rfl ?_ Try.underlying23 rfl rect_info) rfl ⟨rfl, (by repeat (first | exact Grows.refl _ | apply Grows.grow | apply Grows.alloc | apply Grows.drew))⟩
    exact (by repeat (first | exact blk_at _ _ _ (by first | omega | (simp; done) | (simp; omega)) | refine (blk_past _ _ _ (by first | omega | (simp; done) | (simp; omega))).trans ?_ | refine (heap_grow _ _ _ (by first | omega | (simp; done) | (simp; omega))).trans ?_ | refine (blk_drew _ _).trans ?_))
set_option maxHeartbeats 1600000 in
theorem ref03_growR (b : R) (l u r d : Int) (w : World) (h : rightR b = true) (hl : 0 ≤ l ∧ l ≤ 1000000) (hu : 0 ≤ u ∧ u ≤ 1000000) (hr : 0 ≤ r ∧ r ≤ 1000000) (hd : 0 ≤ d ∧ d ≤ 1000000) :
    Calls Try.prog 51 #[.agg #[.int .i64 b.x0, .int .i64 b.y0, .int .i64 b.x1, .int .i64 b.y1], .int .i64 l, .int .i64 u, .int .i64 r, .int .i64 d] w fun e w' => e = .returned (.agg #[.int .i64 (growR b l u r d).x0, .int .i64 (growR b l u r d).y0, .int .i64 (growR b l u r d).x1, .int .i64 (growR b l u r d).y1]) ∧ Grows w w' := by
  obtain ⟨h0, h1, h2, h3⟩ := (rightR_iff b).1 h
  clear h
  cases he : emptyR b
  · have er : growR b l u r d = someR ⟨cutN (b.x0 - l), cutN (b.y0 - u), cutN (b.x1 + r), cutN (b.y1 + d)⟩ := by simp [growR, wholeR, he]
    rw [er]
    clear er
    go_enter Try.func51, Try.ntmps51
    go_wp2_with ((first | (go_at_call 12; refine (ref03_emptyR _ _).mono ?_; rintro e w' ⟨rfl, hgw⟩; first | (obtain ⟨gw, rfl⟩ := grows_of_grow hgw) | (obtain ⟨gw, rfl⟩ := hgw))))
    first | refine region_grow_tail2 21 (by kernel_rfl) (by kernel_rfl) ?_ | refine region_grow_tail 21 (by kernel_rfl) (by kernel_rfl) ?_
    simp only [List.take_succ_cons, List.take_zero, List.drop_succ_cons, List.drop_zero]
    repeat (go_big_quiet_step ((first | (go_at_call 65; exact grow_same (ref03_cut _ _ )) | (go_at_call 64; exact grow_of (ref03_some _ _ _ _ _ )))))
    refine wpQuiet_nil ?_
    rintro _ ⟨gr, rfl⟩
    go_wp2
    refine bodyPost_ret (results_cell_row rfl _ _ _ 23 #[.int .i64 (someR ⟨cutN (b.x0 - l), cutN (b.y0 - u), cutN (b.x1 + r), cutN (b.y1 + d)⟩).x0, .int .i64 (someR ⟨cutN (b.x0 - l), cutN (b.y0 - u), cutN (b.x1 + r), cutN (b.y1 + d)⟩).y0, .int .i64 (someR ⟨cutN (b.x0 - l), cutN (b.y0 - u), cutN (b.x1 + r), cutN (b.y1 + d)⟩).x1, .int .i64 (someR ⟨cutN (b.x0 - l), cutN (b.y0 - u), cutN (b.x1 + r), cutN (b.y1 + d)⟩).y1] (0, 0) _ rfl ?_ Try.underlying23 rfl rect_info) rfl ⟨rfl, (by repeat (first | exact Grows.refl _ | apply Grows.grow | apply Grows.alloc | apply Grows.drew))⟩
    exact (by repeat (first | exact blk_at _ _ _ (by first | omega | (simp; done) | (simp; omega)) | refine (blk_past _ _ _ (by first | omega | (simp; done) | (simp; omega))).trans ?_ | refine (heap_grow _ _ _ (by first | omega | (simp; done) | (simp; omega))).trans ?_ | refine (blk_drew _ _).trans ?_))
  · have er : growR b l u r d = ⟨0, 0, 0, 0⟩ := by simp [growR, zeroR, he]
    rw [er]
    clear er
    go_enter Try.func51, Try.ntmps51
    go_wp2_with ((first | (go_at_call 12; refine (ref03_emptyR _ _).mono ?_; rintro e w' ⟨rfl, hgw⟩; first | (obtain ⟨gw, rfl⟩ := grows_of_grow hgw) | (obtain ⟨gw, rfl⟩ := hgw))))
    refine bodyPost_ret (results_cell_row rfl _ _ _ 23 #[.int .i64 0, .int .i64 0, .int .i64 0, .int .i64 0] (0, 0) _ rfl ?_ Try.underlying23 rfl rect_info) rfl ⟨rfl, (by repeat (first | exact Grows.refl _ | apply Grows.grow | apply Grows.alloc | apply Grows.drew))⟩
    exact (by repeat (first | exact blk_at _ _ _ (by first | omega | (simp; done) | (simp; omega)) | refine (blk_past _ _ _ (by first | omega | (simp; done) | (simp; omega))).trans ?_ | refine (heap_grow _ _ _ (by first | omega | (simp; done) | (simp; omega))).trans ?_ | refine (blk_drew _ _).trans ?_))
end Go.Proofs.Yticeoppldlhehaa
