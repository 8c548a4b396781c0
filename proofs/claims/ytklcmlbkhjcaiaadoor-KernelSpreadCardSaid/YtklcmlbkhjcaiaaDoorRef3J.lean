/- The walks of the reference's Join, Meet, Move, Within (layer 3), of Box and all (layer 13). -/
import Derived.Test.YtklcmlbkhjcaiaaDoorK5
import Derived.Test.YtklcmlbkhjcaiaaDoorK10



namespace Go.Proofs.YtklcmlbkhjcaiaaDoor
open Go.RowKit
set_option linter.unusedVariables false

theorem someR_of {r : R} (h : emptyR r = false) : someR r = r := by simp [someR, h]
set_option maxHeartbeats 1600000 in
theorem ref03_joinR (a b : R) (w : World) :
    Calls Tryd.prog 17 #[.agg #[.int .i64 a.x0, .int .i64 a.y0, .int .i64 a.x1, .int .i64 a.y1], .agg #[.int .i64 b.x0, .int .i64 b.y0, .int .i64 b.x1, .int .i64 b.y1]] w fun e w' => e = .returned (.agg #[.int .i64 (joinR a b).x0, .int .i64 (joinR a b).y0, .int .i64 (joinR a b).x1, .int .i64 (joinR a b).y1]) ∧ Grows w w' := by
  cases ha : emptyR a
  case true =>
    have er : joinR a b = someR b := by unfold joinR someR; rw [if_pos ha]
    rw [er]
    clear er
    go_enter Tryd.func17, Tryd.ntmps17
    go_wp2_with ((first | (go_at_call 28; refine (ref03_emptyR _ _).mono ?_; rintro e w' ⟨rfl, hgw⟩; first | (obtain ⟨gw, rfl⟩ := grows_of_grow hgw) | (obtain ⟨gw, rfl⟩ := hgw)) | (go_at_call 46; refine (ref03_some _ _ _ _ _ ).mono ?_; rintro e w' ⟨rfl, hgw⟩; first | (obtain ⟨gw, rfl⟩ := grows_of_grow hgw) | (obtain ⟨gw, rfl⟩ := hgw))))
    refine bodyPost_ret (results_cell_row rfl _ _ _ 27 #[.int .i64 ((someR b).x0), .int .i64 ((someR b).y0), .int .i64 ((someR b).x1), .int .i64 ((someR b).y1)] (0, 0) _ rfl ?_ Tryd.underlying27 rfl rect_info) rfl ⟨rfl, (by repeat (first | exact Grows.refl _ | apply Grows.grow | apply Grows.alloc | apply Grows.drew))⟩
    exact (by repeat (first | exact blk_at _ _ _ (by first | omega | (simp; done) | (simp; omega)) | refine (blk_past _ _ _ (by first | omega | (simp; done) | (simp; omega))).trans ?_ | refine (heap_grow _ _ _ (by first | omega | (simp; done) | (simp; omega))).trans ?_ | refine (blk_drew _ _).trans ?_))
  cases hb : emptyR b
  case true =>
    have er : joinR a b = a := by unfold joinR; rw [if_neg (by simp [ha]), if_pos hb]
    rw [er]
    clear er
    go_enter Tryd.func17, Tryd.ntmps17
    go_wp2_with ((first | (go_at_call 28; refine (ref03_emptyR _ _).mono ?_; rintro e w' ⟨rfl, hgw⟩; first | (obtain ⟨gw, rfl⟩ := grows_of_grow hgw) | (obtain ⟨gw, rfl⟩ := hgw))))
    refine bodyPost_ret (results_cell_row rfl _ _ _ 27 #[.int .i64 (a.x0), .int .i64 (a.y0), .int .i64 (a.x1), .int .i64 (a.y1)] (0, 0) _ rfl ?_ Tryd.underlying27 rfl rect_info) rfl ⟨rfl, (by repeat (first | exact Grows.refl _ | apply Grows.grow | apply Grows.alloc | apply Grows.drew))⟩
    exact (by repeat (first | exact blk_at _ _ _ (by first | omega | (simp; done) | (simp; omega)) | refine (blk_past _ _ _ (by first | omega | (simp; done) | (simp; omega))).trans ?_ | refine (heap_grow _ _ _ (by first | omega | (simp; done) | (simp; omega))).trans ?_ | refine (blk_drew _ _).trans ?_))
  have er : joinR a b = (someR ⟨mnI a.x0 b.x0, mnI a.y0 b.y0, mxI a.x1 b.x1, mxI a.y1 b.y1⟩) := by
    have k1 := (emptyR_not a).1 ha
    have k2 := (emptyR_not b).1 hb
    unfold joinR
    rw [if_neg (by simp [ha]), if_neg (by simp [hb]), someR_of ((emptyR_not _).2 (by simp only [mnI_eq, mxI_eq]; omega))]
  rw [er]
  clear er
  go_enter Tryd.func17, Tryd.ntmps17
  go_wp2_with ((first | (go_at_call 28; refine (ref03_emptyR _ _).mono ?_; rintro e w' ⟨rfl, hgw⟩; first | (obtain ⟨gw, rfl⟩ := grows_of_grow hgw) | (obtain ⟨gw, rfl⟩ := hgw))))
  first | refine region_grow_tail2 21 (by kernel_rfl) (by kernel_rfl) ?_ | refine region_grow_tail 21 (by kernel_rfl) (by kernel_rfl) ?_
  simp only [List.take_succ_cons, List.take_zero, List.drop_succ_cons, List.drop_zero]
  repeat (go_big_quiet_step ((first | (go_at_call 47; exact grow_same (ref03_less _ _ _ )) | (go_at_call 48; exact grow_same (ref03_more _ _ _ )) | (go_at_call 46; exact grow_of (ref03_some _ _ _ _ _ )))))
  refine wpQuiet_nil ?_
  rintro _ ⟨gr, rfl⟩
  go_wp2
  refine bodyPost_ret (results_cell_row rfl _ _ _ 27 #[.int .i64 ((someR ⟨mnI a.x0 b.x0, mnI a.y0 b.y0, mxI a.x1 b.x1, mxI a.y1 b.y1⟩).x0), .int .i64 ((someR ⟨mnI a.x0 b.x0, mnI a.y0 b.y0, mxI a.x1 b.x1, mxI a.y1 b.y1⟩).y0), .int .i64 ((someR ⟨mnI a.x0 b.x0, mnI a.y0 b.y0, mxI a.x1 b.x1, mxI a.y1 b.y1⟩).x1), .int .i64 ((someR ⟨mnI a.x0 b.x0, mnI a.y0 b.y0, mxI a.x1 b.x1, mxI a.y1 b.y1⟩).y1)] (0, 0) _ rfl ?_ Tryd.underlying27 rfl rect_info) rfl ⟨rfl, (by repeat (first | exact Grows.refl _ | apply Grows.grow | apply Grows.alloc | apply Grows.drew))⟩
  exact (by repeat (first | exact blk_at _ _ _ (by first | omega | (simp; done) | (simp; omega)) | refine (blk_past _ _ _ (by first | omega | (simp; done) | (simp; omega))).trans ?_ | refine (heap_grow _ _ _ (by first | omega | (simp; done) | (simp; omega))).trans ?_ | refine (blk_drew _ _).trans ?_))
set_option maxHeartbeats 1600000 in
theorem ref03_meetR (a b : R) (w : World) :
    Calls Tryd.prog 31 #[.agg #[.int .i64 a.x0, .int .i64 a.y0, .int .i64 a.x1, .int .i64 a.y1], .agg #[.int .i64 b.x0, .int .i64 b.y0, .int .i64 b.x1, .int .i64 b.y1]] w fun e w' => e = .returned (.agg #[.int .i64 (meetR a b).x0, .int .i64 (meetR a b).y0, .int .i64 (meetR a b).x1, .int .i64 (meetR a b).y1]) ∧ Grows w w' := by
  have er : meetR a b = someR ⟨mxI a.x0 b.x0, mxI a.y0 b.y0, mnI a.x1 b.x1, mnI a.y1 b.y1⟩ := rfl
  rw [er]
  clear er
  go_enter Tryd.func31, Tryd.ntmps31
  go_wp2
  first | refine region_grow_tail2 21 (by kernel_rfl) (by kernel_rfl) ?_ | refine region_grow_tail 21 (by kernel_rfl) (by kernel_rfl) ?_
  simp only [List.take_succ_cons, List.take_zero, List.drop_succ_cons, List.drop_zero]
  repeat (go_big_quiet_step ((first | (go_at_call 47; exact grow_same (ref03_less _ _ _ )) | (go_at_call 48; exact grow_same (ref03_more _ _ _ )) | (go_at_call 46; exact grow_of (ref03_some _ _ _ _ _ )))))
  refine wpQuiet_nil ?_
  rintro _ ⟨gr, rfl⟩
  go_wp2
  refine bodyPost_ret (results_cell_row rfl _ _ _ 27 #[.int .i64 ((someR ⟨mxI a.x0 b.x0, mxI a.y0 b.y0, mnI a.x1 b.x1, mnI a.y1 b.y1⟩).x0), .int .i64 ((someR ⟨mxI a.x0 b.x0, mxI a.y0 b.y0, mnI a.x1 b.x1, mnI a.y1 b.y1⟩).y0), .int .i64 ((someR ⟨mxI a.x0 b.x0, mxI a.y0 b.y0, mnI a.x1 b.x1, mnI a.y1 b.y1⟩).x1), .int .i64 ((someR ⟨mxI a.x0 b.x0, mxI a.y0 b.y0, mnI a.x1 b.x1, mnI a.y1 b.y1⟩).y1)] (0, 0) _ rfl ?_ Tryd.underlying27 rfl rect_info) rfl ⟨rfl, (by repeat (first | exact Grows.refl _ | apply Grows.grow | apply Grows.alloc | apply Grows.drew))⟩
  exact (by repeat (first | exact blk_at _ _ _ (by first | omega | (simp; done) | (simp; omega)) | refine (blk_past _ _ _ (by first | omega | (simp; done) | (simp; omega))).trans ?_ | refine (heap_grow _ _ _ (by first | omega | (simp; done) | (simp; omega))).trans ?_ | refine (blk_drew _ _).trans ?_))
theorem cutN_far : cutN 4398046511104 = 4398046511104 ∧ cutN (-4398046511104) = -4398046511104 := by decide
set_option maxHeartbeats 800000 in
theorem ref03_edge (n d : Int) (w : World) (hn : -4398046511104 ≤ n ∧ n ≤ 4398046511104) (hd : -4398046511104 ≤ d ∧ d ≤ 4398046511104) :
    Calls Tryd.prog 57 #[.int .i64 n, .int .i64 d] w fun e w' => e = .returned (.int .i64 (cutN (movedN n d))) ∧ w = w' := by
  by_cases c1 : n = 4398046511104
  · subst c1
    rw [show cutN (movedN 4398046511104 d) = 4398046511104 from by unfold movedN; rw [if_pos (.inl rfl)]; exact cutN_far.1]
    go_enter Tryd.func57, Tryd.ntmps57
    go_wp2
    go_ret
    exact ⟨rfl, rfl⟩
  by_cases c2 : n = -4398046511104
  · subst c2
    rw [show cutN (movedN (-4398046511104) d) = -4398046511104 from by unfold movedN; rw [if_pos (.inr rfl)]; exact cutN_far.2]
    go_enter Tryd.func57, Tryd.ntmps57
    go_wp2
    go_ret
    exact ⟨rfl, rfl⟩
  rw [show cutN (movedN n d) = cutN (n + d) from by unfold movedN; rw [if_neg (by omega)]]
  have hw1 : IntKind.i64.wrap (n + d) = n + d := IntWalk.i64_in _ (by omega)
  have t1 : (n == 4398046511104) = false := by simpa using c1
  have t2 : (n == -4398046511104) = false := by simpa using c2
  go_enter Tryd.func57, Tryd.ntmps57
  go_wp2_with ((first | (go_at_call 58; refine (ref03_cut _ _ ).mono ?_; rintro e w' ⟨rfl, rfl⟩)))
  go_ret
  exact ⟨rfl, rfl⟩
set_option maxHeartbeats 1600000 in
theorem ref03_moveR (r : R) (dx dy : Int) (w : World) (h : rightR r = true) (hx : -4398046511104 ≤ dx ∧ dx ≤ 4398046511104) (hy : -4398046511104 ≤ dy ∧ dy ≤ 4398046511104) :
    Calls Tryd.prog 29 #[.agg #[.int .i64 r.x0, .int .i64 r.y0, .int .i64 r.x1, .int .i64 r.y1], .int .i64 dx, .int .i64 dy] w fun e w' => e = .returned (.agg #[.int .i64 (moveR r dx dy).x0, .int .i64 (moveR r dx dy).y0, .int .i64 (moveR r dx dy).x1, .int .i64 (moveR r dx dy).y1]) ∧ Grows w w' := by
  obtain ⟨h0, h1, h2, h3⟩ := (rightR_iff r).1 h
  clear h
  cases he : emptyR r
  · have er : moveR r dx dy = (someR ⟨cutN (movedN r.x0 dx), cutN (movedN r.y0 dy), cutN (movedN r.x1 dx), cutN (movedN r.y1 dy)⟩) := by simp [moveR, wholeR, he]
    rw [er]
    clear er
    go_enter Tryd.func29, Tryd.ntmps29
    go_wp2_with ((first | (go_at_call 28; refine (ref03_emptyR _ _).mono ?_; rintro e w' ⟨rfl, hgw⟩; first | (obtain ⟨gw, rfl⟩ := grows_of_grow hgw) | (obtain ⟨gw, rfl⟩ := hgw))))
    first | refine region_grow_tail2 17 (by kernel_rfl) (by kernel_rfl) ?_ | refine region_grow_tail 17 (by kernel_rfl) (by kernel_rfl) ?_
    simp only [List.take_succ_cons, List.take_zero, List.drop_succ_cons, List.drop_zero]
    repeat (go_big_quiet_step ((first | (go_at_call 57; exact grow_same (ref03_edge _ _ _ (by omega) (by omega))) | (go_at_call 46; exact grow_of (ref03_some _ _ _ _ _ )))))
    refine wpQuiet_nil ?_
    rintro _ ⟨gr, rfl⟩
    go_wp2
    refine bodyPost_ret (results_cell_row rfl _ _ _ 27 #[.int .i64 ((someR ⟨cutN (movedN r.x0 dx), cutN (movedN r.y0 dy), cutN (movedN r.x1 dx), cutN (movedN r.y1 dy)⟩).x0), .int .i64 ((someR ⟨cutN (movedN r.x0 dx), cutN (movedN r.y0 dy), cutN (movedN r.x1 dx), cutN (movedN r.y1 dy)⟩).y0), .int .i64 ((someR ⟨cutN (movedN r.x0 dx), cutN (movedN r.y0 dy), cutN (movedN r.x1 dx), cutN (movedN r.y1 dy)⟩).x1), .int .i64 ((someR ⟨cutN (movedN r.x0 dx), cutN (movedN r.y0 dy), cutN (movedN r.x1 dx), cutN (movedN r.y1 dy)⟩).y1)] (0, 0) _ rfl ?_ Tryd.underlying27 rfl rect_info) rfl ⟨rfl, (by repeat (first | exact Grows.refl _ | apply Grows.grow | apply Grows.alloc | apply Grows.drew))⟩
    exact (by repeat (first | exact blk_at _ _ _ (by first | omega | (simp; done) | (simp; omega)) | refine (blk_past _ _ _ (by first | omega | (simp; done) | (simp; omega))).trans ?_ | refine (heap_grow _ _ _ (by first | omega | (simp; done) | (simp; omega))).trans ?_ | refine (blk_drew _ _).trans ?_))
  · have er : moveR r dx dy = ⟨0, 0, 0, 0⟩ := by simp [moveR, zeroR, he]
    rw [er]
    clear er
    go_enter Tryd.func29, Tryd.ntmps29
    go_wp2_with ((first | (go_at_call 28; refine (ref03_emptyR _ _).mono ?_; rintro e w' ⟨rfl, hgw⟩; first | (obtain ⟨gw, rfl⟩ := grows_of_grow hgw) | (obtain ⟨gw, rfl⟩ := hgw))))
    refine bodyPost_ret (results_cell_row rfl _ _ _ 27 #[.int .i64 (0), .int .i64 (0), .int .i64 (0), .int .i64 (0)] (0, 0) _ rfl ?_ Tryd.underlying27 rfl rect_info) rfl ⟨rfl, (by repeat (first | exact Grows.refl _ | apply Grows.grow | apply Grows.alloc | apply Grows.drew))⟩
    exact (by repeat (first | exact blk_at _ _ _ (by first | omega | (simp; done) | (simp; omega)) | refine (blk_past _ _ _ (by first | omega | (simp; done) | (simp; omega))).trans ?_ | refine (heap_grow _ _ _ (by first | omega | (simp; done) | (simp; omega))).trans ?_ | refine (blk_drew _ _).trans ?_))
theorem ref03_hasIs15 (r : R) (x y : Int) (w : World) (b : Bool) (h : Hid (hasR r x y = b)) : Calls Tryd.prog 23 #[.agg #[.int .i64 r.x0, .int .i64 r.y0, .int .i64 r.x1, .int .i64 r.y1], .int .i64 x, .int .i64 y] w fun e w' => e = .returned (.bool b) ∧ Grows w w' := by
  have e : hasR r x y = b := h.out
  rw [← e]
  exact ref03_hasR r x y w
set_option maxHeartbeats 1600000 in
theorem ref03_withinR (a b : R) (w : World) (h : rightR a = true) :
    Calls Tryd.prog 33 #[.agg #[.int .i64 a.x0, .int .i64 a.y0, .int .i64 a.x1, .int .i64 a.y1], .agg #[.int .i64 b.x0, .int .i64 b.y0, .int .i64 b.x1, .int .i64 b.y1]] w fun e w' => e = .returned (.bool (withinR a b)) ∧ Grows w w' := by
  obtain ⟨h0, h1, h2, h3⟩ := (rightR_iff a).1 h
  clear h
  have hw1 : IntKind.i64.wrap (a.x1 - 1) = a.x1 - 1 := IntWalk.i64_in _ (by omega)
  have hw2 : IntKind.i64.wrap (a.y1 - 1) = a.y1 - 1 := IntWalk.i64_in _ (by omega)
  cases he : emptyR a
  case true =>
    have er : withinR a b = true := by simp [withinR, he]
    rw [er]
    clear er
    go_enter Tryd.func33, Tryd.ntmps33
    go_wp2_with ((first | (go_at_call 28; refine (ref03_emptyR _ _).mono ?_; rintro e w' ⟨rfl, hgw⟩; first | (obtain ⟨gw, rfl⟩ := grows_of_grow hgw) | (obtain ⟨gw, rfl⟩ := hgw)) | (go_at_call 23; refine (ref03_hasR _ _ _ _).mono ?_; rintro e w' ⟨rfl, hgw⟩; first | (obtain ⟨gw, rfl⟩ := grows_of_grow hgw) | (obtain ⟨gw, rfl⟩ := hgw))))
    go_ret
    exact ⟨rfl, (by repeat (first | exact Grows.refl _ | apply Grows.grow | apply Grows.alloc | apply Grows.drew))⟩
  have k := (emptyR_not a).1 he
  cases c1 : hasR b a.x0 a.y0
  case false =>
    have er : withinR a b = false := by
      unfold withinR
      rw [he, Bool.false_or]
      have : ¬ (hasR b a.x0 a.y0 = true) := by simp [c1]
      rw [hasR_iff] at this
      rw [Bool.eq_false_iff]
      simp only [ne_eq, Bool.and_eq_true, decide_eq_true_eq]
      omega
    rw [er]
    clear er
    have HHT := Lib.hid c1
    clear c1
    go_enter Tryd.func33, Tryd.ntmps33
    go_wp2_with (first | (first | (go_at_call 28; refine (ref03_emptyR _ _).mono ?_; rintro e w' ⟨rfl, hgw⟩; first | (obtain ⟨gw, rfl⟩ := grows_of_grow hgw) | (obtain ⟨gw, rfl⟩ := hgw))) | (go_at_call 23; with_reducible refine Calls.mono (ref03_hasIs15 b a.x0 a.y0 _ _ HHT) ?_; rintro e w' ⟨rfl, hgw⟩; first | (obtain ⟨gx, rfl⟩ := grows_of_grow hgw) | (obtain ⟨gx, rfl⟩ := hgw)))
    go_ret
    exact ⟨rfl, (by repeat (first | exact Grows.refl _ | apply Grows.grow | apply Grows.alloc | apply Grows.drew))⟩
  have er : withinR a b = hasR b (a.x1 - 1) (a.y1 - 1) := by
    unfold withinR
    rw [he, Bool.false_or, Bool.eq_iff_iff]
    rw [hasR_iff] at c1 ⊢
    simp only [Bool.and_eq_true, decide_eq_true_eq]
    omega
  rw [er]
  clear er
  have HHT := Lib.hid c1
  clear c1
  go_enter Tryd.func33, Tryd.ntmps33
  go_wp2_with (first | (first | (go_at_call 28; refine (ref03_emptyR _ _).mono ?_; rintro e w' ⟨rfl, hgw⟩; first | (obtain ⟨gw, rfl⟩ := grows_of_grow hgw) | (obtain ⟨gw, rfl⟩ := hgw))) | (go_at_call 23; with_reducible refine Calls.mono (ref03_hasIs15 b a.x0 a.y0 _ _ HHT) ?_; rintro e w' ⟨rfl, hgw⟩; first | (obtain ⟨gx, rfl⟩ := grows_of_grow hgw) | (obtain ⟨gx, rfl⟩ := hgw)) | (first | (go_at_call 23; refine (ref03_hasR _ _ _ _).mono ?_; rintro e w' ⟨rfl, hgw⟩; first | (obtain ⟨gw, rfl⟩ := grows_of_grow hgw) | (obtain ⟨gw, rfl⟩ := hgw))))
  go_ret
  exact ⟨rfl, (by repeat (first | exact Grows.refl _ | apply Grows.grow | apply Grows.alloc | apply Grows.drew))⟩
set_option maxRecDepth 100000 in
set_option maxHeartbeats 1600000 in
theorem ref13_Box (a : Option Addr) (len cap : Nat) (f : Nat → Int) (o : Int) (k : Nat) (r : R) (w : World) (h : Hid (IsInts w a len cap f)) (ho : o = k) (h4 : k + 4 ≤ len) (hk : k ≤ 1000) (hr : Hid (boxO f k = r)) :
    Calls Tryd.prog 32 #[.slice a len cap, .int .i64 o] w fun e w' => e = .returned (.agg #[.int .i64 r.x0, .int .i64 r.y0, .int .i64 r.x1, .int .i64 r.y1]) ∧ Grows w w' := by
  have m1 := h.out.le
  have m2 := h.out.most
  obtain ⟨b', off', rfl, hb', e0⟩ := h.out.at (k := k) (by omega)
  obtain ⟨b2, off2, e, -, e1⟩ := h.out.at (k := k + 1) (by omega)
  cases e
  obtain ⟨b2, off2, e, -, e2⟩ := h.out.at (k := k + 2) (by omega)
  cases e
  obtain ⟨b2, off2, e, -, e3⟩ := h.out.at (k := k + 3) (by omega)
  cases e
  obtain ⟨x0, y0, x1, y1⟩ := r
  have q : boxO f k = ⟨x0, y0, x1, y1⟩ := hr.out
  injection q with q0 q1 q2 q3
  rw [q0] at e0
  rw [q1] at e1
  rw [q2] at e2
  rw [q3] at e3
  subst ho
  clear q0 q1 q2 q3 hr h
  go_enter Tryd.func32, Tryd.ntmps32
  go_wp2
  first | refine region_grow_tail2 20 (by kernel_rfl) (by kernel_rfl) ?_ | refine region_grow_tail 20 (by kernel_rfl) (by kernel_rfl) ?_
  simp only [List.take_succ_cons, List.take_zero, List.drop_succ_cons, List.drop_zero]
  repeat (go_big_quiet_step (fail))
  refine wpQuiet_nil ?_
  rintro _ ⟨gr, rfl⟩
  go_wp2
  refine bodyPost_ret (results_cell_row rfl _ _ _ 27 #[.int .i64 (x0), .int .i64 (y0), .int .i64 (x1), .int .i64 (y1)] (0, 0) _ rfl ?_ Tryd.underlying27 rfl rect_info) rfl ⟨rfl, (by repeat (first | exact Grows.refl _ | apply Grows.grow | apply Grows.alloc | apply Grows.drew))⟩
  exact (by repeat (first | exact blk_at _ _ _ (by first | omega | (simp; done) | (simp; omega)) | refine (blk_past _ _ _ (by first | omega | (simp; done) | (simp; omega))).trans ?_ | refine (heap_grow _ _ _ (by first | omega | (simp; done) | (simp; omega))).trans ?_ | refine (blk_drew _ _).trans ?_))
set_option maxRecDepth 100000 in
set_option maxHeartbeats 1600000 in
theorem ref13_all (w : World) : Calls Tryd.prog 51 #[] w fun e w' => e = .returned (.agg #[.int .i64 allR.x0, .int .i64 allR.y0, .int .i64 allR.x1, .int .i64 allR.y1]) ∧ Grows w w' := by
  go_enter Tryd.func51, Tryd.ntmps51
  go_wp2
  refine bodyPost_ret (results_cell_row rfl _ _ _ 27 #[.int .i64 (-4398046511104), .int .i64 (-4398046511104), .int .i64 (4398046511104), .int .i64 (4398046511104)] (0, 0) _ rfl ?_ Tryd.underlying27 rfl rect_info) rfl ⟨rfl, (by repeat (first | exact Grows.refl _ | apply Grows.grow | apply Grows.alloc | apply Grows.drew))⟩
  exact (by repeat (first | exact blk_at _ _ _ (by first | omega | (simp; done) | (simp; omega)) | refine (blk_past _ _ _ (by first | omega | (simp; done) | (simp; omega))).trans ?_ | refine (heap_grow _ _ _ (by first | omega | (simp; done) | (simp; omega))).trans ?_ | refine (blk_drew _ _).trans ?_))
end Go.Proofs.YtklcmlbkhjcaiaaDoor
