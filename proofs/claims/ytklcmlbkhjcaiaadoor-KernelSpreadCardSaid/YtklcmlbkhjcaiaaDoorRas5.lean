/- The walks of windows: the program's and the reference's. -/
import Derived.Test.YtklcmlbkhjcaiaaDoorK4
import Derived.Test.YtklcmlbkhjcaiaaDoorK5



namespace Go.Proofs.YtklcmlbkhjcaiaaDoor
open Go.RowKit
set_option linter.unusedVariables false

/-- A window shows what is in it. -/
theorem copyF_window (r : R) (G : Img) : copyF (someR r) r 0 0 noF G = cutF (someR r) G := by
  funext u v
  unfold copyF cutF
  rw [hasR_some]
  by_cases h : hasR r u v = true
  · rw [if_pos ⟨h, h⟩, if_pos h]; simp
  · rw [if_neg (fun k => h k.1), if_neg h]; rfl
theorem copyF_window' (r : R) (G : Img) : copyF (someR r) (someR r) 0 0 noF G = cutF (someR r) G := by
  funext u v
  unfold copyF cutF
  by_cases h : hasR (someR r) u v = true
  · rw [if_pos ⟨h, h⟩, if_pos h]; simp
  · rw [if_neg (fun k => h k.1), if_neg h]; rfl

set_option maxHeartbeats 1600000 in
theorem ref05_Window (r rf : R) (af : Option Addr) (lf cf : Nat) (G : Img) (w : World) (hf : Hid (BufAt w rf af lf cf G)) (hr : rightR r = true) (hs : cntR (someR r) ≤ 30000000000000) (hsf : cntR rf ≤ 30000000000000) :
    Calls Tryd.prog 11 #[.agg #[.int .i64 rf.x0, .int .i64 rf.y0, .int .i64 rf.x1, .int .i64 rf.y1, .slice af lf cf], .agg #[.int .i64 r.x0, .int .i64 r.y0, .int .i64 r.x1, .int .i64 r.y1]] w (RetBuf w (someR r) (cutF (someR r) G)) := by
  rw [← copyF_window]
  go_enter Tryd.func11, Tryd.ntmps11
  go_wp2_with fail
  go_region_held3 (fun w' => w'.cell? ⟨w.heap.size, 0, none⟩ = some (.int .i64 rf.x0) ∧ w'.cell? ⟨w.heap.size, 1, none⟩ = some (.int .i64 rf.y0) ∧ w'.cell? ⟨w.heap.size, 2, none⟩ = some (.int .i64 rf.x1) ∧ w'.cell? ⟨w.heap.size, 3, none⟩ = some (.int .i64 rf.y1) ∧ w'.cell? ⟨w.heap.size, 4, none⟩ = some (.slice af lf cf) ∧ w'.cell? ⟨w.heap.size + 1, 0, none⟩ = some (.int .i64 r.x0) ∧ w'.cell? ⟨w.heap.size + 1, 1, none⟩ = some (.int .i64 r.y0) ∧ w'.cell? ⟨w.heap.size + 1, 2, none⟩ = some (.int .i64 r.x1) ∧ w'.cell? ⟨w.heap.size + 1, 3, none⟩ = some (.int .i64 r.y1)) (go_simp) (first
    | (go_at_call 35; (with_reducible refine (ref05_New r _ hr (by omega)).mono ?_); rintro e w' ⟨a1, l1, p1, rfl, hgw, HB1⟩; (first | (obtain ⟨gw, rfl⟩ := grows_of_grow hgw) | (obtain ⟨gw, rfl⟩ := hgw)); (try simp only [grow_drew] at HB1))
    | (go_at_call 34; (with_reducible refine Calls.mono (ref05_Copy (someR r) rf r 0 0 a1 af l1 p1 lf cf noF G _ ?_ ?_ hs hsf (by omega) (by omega)) ?_); (exact BufAt.grows HB1.out.1 (by repeat (first | exact Grows.refl _ | apply Grows.grow | apply Grows.alloc | apply Grows.drew))); (exact BufAt.grows hf.out (by repeat (first | exact Grows.refl _ | apply Grows.grow | apply Grows.alloc | apply Grows.drew))); rintro e w' ⟨a2, l2, p2, rfl, hgw, HB2⟩; (first | (obtain ⟨gw, rfl⟩ := grows_of_grow hgw) | (obtain ⟨gw, rfl⟩ := hgw)); (try simp only [grow_drew] at HB1)))
  go_wp2
  refine bodyPost_ret (results_cell_row rfl _ _ _ 35 #[.int .i64 (someR r).x0, .int .i64 (someR r).y0, .int .i64 (someR r).x1, .int .i64 (someR r).y1, .slice a2 l2 p2] (0, 0) _ rfl (by repeat (first | exact blk_at _ _ _ (by first | omega | (simp; done) | (simp; omega)) | refine (blk_past _ _ _ (by first | omega | (simp; done) | (simp; omega))).trans ?_ | refine (heap_grow _ _ _ (by first | omega | (simp; done) | (simp; omega))).trans ?_ | refine (blk_drew _ _).trans ?_)) Tryd.underlying35 rfl buf_info) rfl ⟨a2, l2, p2, rfl, (by repeat (first | exact Grows.refl _ | apply Grows.grow | apply Grows.alloc | apply Grows.drew)), swap_ret HB2.out (by simp <;> omega) (by simp <;> omega)⟩
end Go.Proofs.YtklcmlbkhjcaiaaDoor
