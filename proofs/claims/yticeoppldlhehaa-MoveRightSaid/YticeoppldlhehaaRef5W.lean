/- The walk of the reference's 'With': a buffer with one pixel more. -/
import Derived.Test.YticeoppldlhehaaRef5
namespace Go.Proofs.Yticeoppldlhehaa
open Go.RowKit
set_option linter.unusedVariables false

set_option maxHeartbeats 1600000 in
theorem ref05_With (r : R) (a : Option Addr) (k cap : Nat) (f : Nat → P4) (p : P4) (base : Nat) (w : World) (h : Hid (w.ownsRow base 32 4 (.slice a k cap) k (cellsP f k))) (hp : Hid (f k = p)) (hk : k ≤ 30000000000000) (hb : base ≤ w.heap.size) :
    Calls Try.prog 41 #[.agg #[.int .i64 r.x0, .int .i64 r.y0, .int .i64 r.x1, .int .i64 r.y1, .slice a k cap], .agg #[.int .u8 p.r, .int .u8 p.g, .int .u8 p.b, .int .u8 p.a]] w fun e w' => ∃ g cap', e = .returned (.agg #[.int .i64 r.x0, .int .i64 r.y0, .int .i64 r.x1, .int .i64 r.y1, .slice (some ⟨g, 0, none⟩) (k + 1) cap']) ∧ w'.ownsRow base 32 4 (.slice (some ⟨g, 0, none⟩) (k + 1) cap') (k + 1) (cellsP f (k + 1)) ∧ w.grownBy w' (blkOf a) ∧ (blkOf a = some g ∨ w.heap.size ≤ g) := by
  go_enter Try.func41, Try.ntmps41
  go_wp2_with ((at_builtin
                refine wpList_append_one rfl (.tmp 6) (.tmp 8) rfl base a k cap f p rfl (ownsRow_grows h.out (by repeat (first | exact Grows.refl _ | apply Grows.grow | apply Grows.alloc | apply Grows.drew))) (w.heap.size + 1 + 1 + 1) 1 rfl (by unfold Blk; repeat (first | exact blk_at _ _ _ (by first | omega | (simp; done) | (simp; omega)) | refine (blk_past _ _ _ (by first | omega | (simp; done) | (simp; omega))).trans ?_ | refine (heap_grow _ _ _ (by first | omega | (simp; done) | (simp; omega))).trans ?_ | refine (blk_drew _ _).trans ?_)) hp.out hk (by simp; omega) ?_
                intro g cap' w1 h1 h2 h3 h4
                have hl := own_lt h.out
                have B0 : Blk w1 w.heap.size 26 #[.int .i64 r.x0, .int .i64 r.y0, .int .i64 r.x1, .int .i64 r.y1, .slice a k cap] := by
                  refine Blk.grown ?_ h2 (fun e => ?_)
                  · exact (by unfold Blk; repeat (first | exact blk_at _ _ _ (by first | omega | (simp; done) | (simp; omega)) | refine (blk_past _ _ _ (by first | omega | (simp; done) | (simp; omega))).trans ?_ | refine (heap_grow _ _ _ (by first | omega | (simp; done) | (simp; omega))).trans ?_ | refine (blk_drew _ _).trans ?_))
                  · have := hl _ e.symm; omega
                have B2 : Blk w1 (w.heap.size + 1 + 1) 26 #[.int .i64 0, .int .i64 0, .int .i64 0, .int .i64 0, .slice none 0 0] := by
                  refine Blk.grown ?_ h2 (fun e => ?_)
                  · exact (by unfold Blk; repeat (first | exact blk_at _ _ _ (by first | omega | (simp; done) | (simp; omega)) | refine (blk_past _ _ _ (by first | omega | (simp; done) | (simp; omega))).trans ?_ | refine (heap_grow _ _ _ (by first | omega | (simp; done) | (simp; omega))).trans ?_ | refine (blk_drew _ _).trans ?_))
                  · have := hl _ e.symm; omega
                obtain ⟨b0, b1, b2, b3, b4, bf⟩ := B0.c5
                obtain ⟨d0, d1, d2, d3, d4, df⟩ := B2.c5
                have l0 := B0.lt
                have l2 := B2.lt
                have G2 := grows_grownBy (w := w) (w1 := _) (by repeat (first | exact Grows.refl _ | apply Grows.grow | apply Grows.alloc | apply Grows.drew)) h2
                have G3 : Hid (blkOf a = some g ∨ w.heap.size ≤ g) := h3.imp id (fun e => by rw [e]; simp; omega)
                have G4 : g ≠ w.heap.size ∧ g ≠ w.heap.size + 1 + 1 := by
                  rcases h3 with e | e
                  · have := hl _ e; omega
                  · simp at e; omega
                have HB := Lib.hid B2
                clear B0 B2 h2 h3 h4 hl
                replace h1 := Lib.hid h1
                replace G2 := Lib.hid G2))
  refine bodyPost_ret (results_cell_row rfl _ _ _ 26 #[.int .i64 r.x0, .int .i64 r.y0, .int .i64 r.x1, .int .i64 r.y1, .slice (some ⟨g, 0, none⟩) (k + 1) cap'] (0, 0) _ rfl ((HB.out.far (p := ⟨w.heap.size, 4, none⟩) (by show w.heap.size + 1 + 1 ≠ w.heap.size; omega) _).set5 _ _ _ _ _) Try.underlying26 rfl buf_info) rfl ⟨g, cap', rfl, ?_, ?_, G3.out⟩
  · iterate 5 (refine ownsRow_far ?_ (by simpa using G4.2) _)
    exact ownsRow_far h1.out (by simpa using G4.1) _
  · iterate 5 (refine grownBy_setCell ?_ (.inr (by show w.heap.size ≤ w.heap.size + 1 + 1; omega)) _)
    exact grownBy_setCell G2.out (.inr (Nat.le_refl _)) _
end Go.Proofs.Yticeoppldlhehaa
