/- The walks of the reference of layer 8: Box, Fine. -/
import Derived.Test.YtklcmlbkhjcaiaaGreatDoorK16
import Derived.Test.YtklcmlbkhjcaiaaGreatDoorBlurB
import Derived.Deep.RegionHeld3




namespace Go.Proofs.YtklcmlbkhjcaiaaGreatDoor
open Go.RowKit
set_option linter.unusedVariables false

set_option maxHeartbeats 3200000 in
theorem ref08_Box (b rf : R) (af : Option Addr) (lf cf : Nat) (F : Img) (rx ry : Int) (w : World) (hf : Hid (BufAt w rf af lf cf F)) (hsf : cntR rf ≤ 30000000000000) (hb : rightR b = true) (hsg : cntR (growR b 0 ry 0 ry) ≤ 30000000000000) (hsb : cntR (someR b) ≤ 30000000000000)
    (hx0 : 0 ≤ rx) (hx1 : rx ≤ 255) (hy0 : 0 ≤ ry) (hy1 : ry ≤ 255) :
    Calls Tryz.prog 28 #[.agg #[.int .i64 rf.x0, .int .i64 rf.y0, .int .i64 rf.x1, .int .i64 rf.y1, .slice af lf cf], .agg #[.int .i64 b.x0, .int .i64 b.y0, .int .i64 b.x1, .int .i64 b.y1], .int .i64 rx, .int .i64 ry] w (RetBuf w (someR b) (boxF b rx ry F)) := by
  have hgg := good_grow b 0 ry 0 ry
  have HGr : Hid (∀ w, Calls Tryz.prog 48 #[.agg #[.int .i64 b.x0, .int .i64 b.y0, .int .i64 b.x1, .int .i64 b.y1], .int .i64 0, .int .i64 ry, .int .i64 0, .int .i64 ry] w fun e w' => e = .returned (.agg #[.int .i64 (growR b 0 ry 0 ry).x0, .int .i64 (growR b 0 ry 0 ry).y0, .int .i64 (growR b 0 ry 0 ry).x1, .int .i64 (growR b 0 ry 0 ry).y1]) ∧ Grows w w') := fun w => ref03_growR b 0 ry 0 ry w hb (by omega) (by omega) (by omega) (by omega)
  have HA1 : Hid (∀ W, BufAt W rf af lf cf F → Calls Tryz.prog 62 #[.agg #[.int .i64 rf.x0, .int .i64 rf.y0, .int .i64 rf.x1, .int .i64 rf.y1, .slice af lf cf], .agg #[.int .i64 (growR b 0 ry 0 ry).x0, .int .i64 (growR b 0 ry 0 ry).y0, .int .i64 (growR b 0 ry 0 ry).x1, .int .i64 (growR b 0 ry 0 ry).y1], .int .i64 rx, .int .i64 1, .int .i64 0] W (RetBuf W (growR b 0 ry 0 ry) (midF b rx ry F))) := fun W h => by
    have := ref08_AlongH (growR b 0 ry 0 ry) rf af lf cf F rx W h hsf hgg.near (by rw [hgg.some_eq]; exact hsg) hx0 hx1
    rwa [hgg.some_eq] at this
  have HA2 : Hid (∀ W a len cap, BufAt W (growR b 0 ry 0 ry) a len cap (midF b rx ry F) → Calls Tryz.prog 62 #[.agg #[.int .i64 (growR b 0 ry 0 ry).x0, .int .i64 (growR b 0 ry 0 ry).y0, .int .i64 (growR b 0 ry 0 ry).x1, .int .i64 (growR b 0 ry 0 ry).y1, .slice a len cap], .agg #[.int .i64 b.x0, .int .i64 b.y0, .int .i64 b.x1, .int .i64 b.y1], .int .i64 ry, .int .i64 0, .int .i64 1] W (RetBuf W (someR b) (boxF b rx ry F))) := fun W a len cap h => ref08_AlongV b (growR b 0 ry 0 ry) a len cap _ ry W h hsg hb hsb hy0 hy1
  obtain ⟨B, hB⟩ : ∃ B, B = boxF b rx ry F := ⟨_, rfl⟩
  obtain ⟨M, hM⟩ : ∃ M, M = midF b rx ry F := ⟨_, rfl⟩
  obtain ⟨g, hg⟩ : ∃ g, g = growR b 0 ry 0 ry := ⟨_, rfl⟩
  obtain ⟨s, hs⟩ : ∃ s, s = someR b := ⟨_, rfl⟩
  rw [← hB, ← hM, ← hg, ← hs] at HA2
  rw [← hM, ← hg] at HA1
  rw [← hg] at HGr
  rw [← hB, ← hs]
  clear hB hM hg hs hgg hsg hsb
  go_enter Tryz.func28, Tryz.ntmps28
  go_wp2_with fail
  go_region_held3 (fun w' => w'.cell? ⟨w.heap.size, 0, none⟩ = some (.int .i64 rf.x0) ∧ w'.cell? ⟨w.heap.size, 1, none⟩ = some (.int .i64 rf.y0) ∧ w'.cell? ⟨w.heap.size, 2, none⟩ = some (.int .i64 rf.x1) ∧ w'.cell? ⟨w.heap.size, 3, none⟩ = some (.int .i64 rf.y1) ∧ w'.cell? ⟨w.heap.size, 4, none⟩ = some (.slice af lf cf) ∧ w'.cell? ⟨w.heap.size + 1, 0, none⟩ = some (.int .i64 b.x0) ∧ w'.cell? ⟨w.heap.size + 1, 1, none⟩ = some (.int .i64 b.y0) ∧ w'.cell? ⟨w.heap.size + 1, 2, none⟩ = some (.int .i64 b.x1) ∧ w'.cell? ⟨w.heap.size + 1, 3, none⟩ = some (.int .i64 b.y1)) (go_simp) (first
    | (go_at_call 48; (with_reducible refine (HGr.out _).mono ?_); rintro e w' ⟨rfl, hgw⟩; (first | (obtain ⟨gw, rfl⟩ := grows_of_grow hgw) | (obtain ⟨gw, rfl⟩ := hgw)))
    | (go_at_call 62; (with_reducible refine Calls.mono (HA1.out _ ?_) ?_); (exact BufAt.grows hf.out (by repeat (first | exact Grows.refl _ | apply Grows.grow | apply Grows.alloc | apply Grows.drew))); rintro e w' ⟨a1, l1, p1, rfl, hgw, HB1⟩; (first | (obtain ⟨gw, rfl⟩ := grows_of_grow hgw) | (obtain ⟨gw, rfl⟩ := hgw)); (try simp only [grow_drew] at HB1))
    | (go_at_call 62; (with_reducible refine Calls.mono (HA2.out _ a1 l1 p1 ?_) ?_); (exact BufAt.grows HB1.out.1 (by repeat (first | exact Grows.refl _ | apply Grows.grow | apply Grows.alloc | apply Grows.drew))); rintro e w' ⟨a2, l2, p2, rfl, hgw, HB2⟩; (first | (obtain ⟨gw, rfl⟩ := grows_of_grow hgw) | (obtain ⟨gw, rfl⟩ := hgw)); (try simp only [grow_drew] at HB1)))
  go_wp2
  refine bodyPost_ret (results_cell_row rfl _ _ _ 32 #[.int .i64 s.x0, .int .i64 s.y0, .int .i64 s.x1, .int .i64 s.y1, .slice a2 l2 p2] (0, 0) _ rfl (by repeat (first | exact blk_at _ _ _ (by first | omega | (simp; done) | (simp; omega)) | refine (blk_past _ _ _ (by first | omega | (simp; done) | (simp; omega))).trans ?_ | refine (heap_grow _ _ _ (by first | omega | (simp; done) | (simp; omega))).trans ?_ | refine (blk_drew _ _).trans ?_)) Tryz.underlying32 rfl buf_info) rfl ⟨a2, l2, p2, rfl, (by repeat (first | exact Grows.refl _ | apply Grows.grow | apply Grows.alloc | apply Grows.drew)), swap_ret HB2.out (by simp <;> omega) (by simp <;> omega)⟩

end Go.Proofs.YtklcmlbkhjcaiaaGreatDoor
