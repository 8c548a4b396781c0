/- The walks of the reference of layer 5, the first part: a pixel read, a new buffer, a buffer with one pixel more; areas. -/
import Derived.Test.YticeoppldlhehaaRas
import Derived.Test.YticeoppldlhehaaApp
import Derived.Laws.MakeOwn
import Derived.Deep.RegionHeld3
namespace Go.Proofs.Yticeoppldlhehaa
open Go.RowKit
set_option linter.unusedVariables false

set_option maxHeartbeats 800000 in
theorem ref05_At (r : R) (a : Option Addr) (len cap : Nat) (F : Img) (x y : Int) (w : World) (h : Hid (BufAt w r a len cap F)) (hs : cntR r ≤ 140737488355328) :
    Calls Try.prog 16 #[.agg #[.int .i64 r.x0, .int .i64 r.y0, .int .i64 r.x1, .int .i64 r.y1, .slice a len cap], .int .i64 x, .int .i64 y] w fun e w' => e = .returned (.agg #[.int .u8 (F x y).r, .int .u8 (F x y).g, .int .u8 (F x y).b, .int .u8 (F x y).a]) ∧ Grows w w' := by
  have hm := h.out.most
  have hg := h.out.good
  have hcn := h.out.count
  cases k : hasR r x y
  · rw [h.out.fits.out x y k]
    clear hs hcn hg
    go_enter Try.func16, Try.ntmps16
    go_wp2_with ((first | (go_at_call 15; refine (ref03_hasR _ _ _ _).mono ?_; rintro e w' ⟨rfl, hgw⟩; first | (obtain ⟨gw, rfl⟩ := grows_of_grow hgw) | (obtain ⟨gw, rfl⟩ := hgw))))
    refine bodyPost_ret (results_cell_row rfl _ _ _ 32 #[.int .u8 0, .int .u8 0, .int .u8 0, .int .u8 0] (0, 0) _ rfl ?_ Try.underlying32 rfl px_info) rfl ⟨rfl, (by repeat (first | exact Grows.refl _ | apply Grows.grow | apply Grows.alloc | apply Grows.drew))⟩
    exact (by repeat (first | exact blk_at _ _ _ (by first | omega | (simp; done) | (simp; omega)) | refine (blk_past _ _ _ (by first | omega | (simp; done) | (simp; omega))).trans ?_ | refine (heap_grow _ _ _ (by first | omega | (simp; done) | (simp; omega))).trans ?_ | refine (blk_drew _ _).trans ?_))
  · obtain ⟨b, off, rfl, hb, hok, c0, c1, c2, c3⟩ := h.out.px k
    obtain ⟨i0, i1, i2⟩ := idxR_bd k
    have hcc := hg.cnt
    have kk := (hasR_iff _ _ _).1 k
    have hbd := hg.bd
    have e : idxR r x y = (y - r.y0) * (r.x1 - r.x0) + (x - r.x0) := by unfold idxR; omega
    rw [e] at c0 c1 c2 c3 i1 i2
    have i3 : (y - r.y0) * (r.x1 - r.x0) + (x - r.x0) < len := by omega
    have i4 : (y - r.y0) * (r.x1 - r.x0) ≤ 140737488355328 := by omega
    clear hcc hcn hg i2 e
    go_enter Try.func16, Try.ntmps16
    go_wp2_with ((first | (go_at_call 15; refine (ref03_hasR _ _ _ _).mono ?_; rintro e w' ⟨rfl, hgw⟩; first | (obtain ⟨gw, rfl⟩ := grows_of_grow hgw) | (obtain ⟨gw, rfl⟩ := hgw))))
    refine bodyPost_ret (results_cell_row rfl _ _ _ 32 #[.int .u8 (F x y).r, .int .u8 (F x y).g, .int .u8 (F x y).b, .int .u8 (F x y).a] (0, 0) _ rfl ?_ Try.underlying32 rfl px_info) rfl ⟨rfl, (by repeat (first | exact Grows.refl _ | apply Grows.grow | apply Grows.alloc | apply Grows.drew))⟩
    exact (by repeat (first | exact blk_at _ _ _ (by first | omega | (simp; done) | (simp; omega)) | refine (blk_past _ _ _ (by first | omega | (simp; done) | (simp; omega))).trans ?_ | refine (heap_grow _ _ _ (by first | omega | (simp; done) | (simp; omega))).trans ?_ | refine (blk_drew _ _).trans ?_))

set_option maxHeartbeats 1600000 in
theorem ref03_area (a0 a1 a2 a3 : Int) (w : World) (ha0 : -1152921504606846976 ≤ a0 ∧ a0 ≤ 1152921504606846976) (ha1 : -1152921504606846976 ≤ a1 ∧ a1 ≤ 1152921504606846976) (ha2 : -1152921504606846976 ≤ a2 ∧ a2 ≤ 1152921504606846976) (ha3 : -1152921504606846976 ≤ a3 ∧ a3 ≤ 1152921504606846976) :
    Calls Try.prog 50 #[.agg #[.int .i64 a0, .int .i64 a1, .int .i64 a2, .int .i64 a3]] w fun e w' => e = .returned (.int .i64 (areaR ⟨a0, a1, a2, a3⟩)) ∧ Grows w w' := by
  cases h : emptyR (⟨a0, a1, a2, a3⟩ : R)
  · have hn := (emptyR_not _).1 h
    simp only at hn
    have hq := Int.ediv_nonneg (a := 2305843009213693952) (b := a3 - a1) (by omega) (by omega)
    have hq2 := Int.ediv_le_self (a := 2305843009213693952) (a3 - a1) (by omega)
    have hm := area_min (a2 - a0) (a3 - a1) (by omega) (by omega)
    have hp : 0 ≤ (a2 - a0) * (a3 - a1) := Int.mul_nonneg (by omega) (by omega)
    by_cases hc : 2305843009213693952 / (a3 - a1) < a2 - a0
    · have er : areaR ⟨a0, a1, a2, a3⟩ = 2305843009213693952 := by simp [areaR, h, hc]
      rw [er]
      clear er hm
      go_enter Try.func50, Try.ntmps50
      go_wp2_with (go_at_call 12; refine (ref03_empty _ _ _ _ _).mono ?_; rintro e w' ⟨rfl, gw, rfl⟩)
      first | refine region_grow2 (by kernel_rfl) (by kernel_rfl) ?_ | refine region_grow (by kernel_rfl) (by kernel_rfl) ?_
      repeat (go_big_quiet_step (fail))
      refine wpQuiet_nil ?_
      rintro _ ⟨gr, rfl⟩
      go_wp2
      go_ret
      exact ⟨rfl, (by repeat (first | exact Grows.refl _ | apply Grows.grow | apply Grows.alloc | apply Grows.drew))⟩
    · have er : areaR ⟨a0, a1, a2, a3⟩ = (a2 - a0) * (a3 - a1) := by simp [areaR, h, hc]
      rw [er]
      clear er
      rw [if_neg hc] at hm
      have hp2 : (a2 - a0) * (a3 - a1) ≤ 2305843009213693952 := by omega
      clear hm
      go_enter Try.func50, Try.ntmps50
      go_wp2_with (go_at_call 12; refine (ref03_empty _ _ _ _ _).mono ?_; rintro e w' ⟨rfl, gw, rfl⟩)
      first | refine region_grow2 (by kernel_rfl) (by kernel_rfl) ?_ | refine region_grow (by kernel_rfl) (by kernel_rfl) ?_
      repeat (go_big_quiet_step (fail))
      refine wpQuiet_nil ?_
      rintro _ ⟨gr, rfl⟩
      go_wp2
      go_ret
      exact ⟨rfl, (by repeat (first | exact Grows.refl _ | apply Grows.grow | apply Grows.alloc | apply Grows.drew))⟩
  · have er : areaR ⟨a0, a1, a2, a3⟩ = 0 := by simp [areaR, h]
    rw [er]
    clear er
    go_enter Try.func50, Try.ntmps50
    go_wp2_with (go_at_call 12; refine (ref03_empty _ _ _ _ _).mono ?_; rintro e w' ⟨rfl, gw, rfl⟩)
    go_ret
    exact ⟨rfl, (by repeat (first | exact Grows.refl _ | apply Grows.grow | apply Grows.alloc | apply Grows.drew))⟩
theorem ref03_areaR (r : R) (w : World) (h : rightR r = true) : Calls Try.prog 50 #[.agg #[.int .i64 r.x0, .int .i64 r.y0, .int .i64 r.x1, .int .i64 r.y1]] w fun e w' => e = .returned (.int .i64 (areaR r)) ∧ Grows w w' := by
  have := (rightR_iff _).1 h
  exact ref03_area _ _ _ _ _ (by omega) (by omega) (by omega) (by omega)
theorem ref03_areaC (r : R) (w : World) (h : GoodR r) (hs : cntR r ≤ 140737488355328) : Calls Try.prog 50 #[.agg #[.int .i64 r.x0, .int .i64 r.y0, .int .i64 r.x1, .int .i64 r.y1]] w fun e w' => e = .returned (.int .i64 (cntR r : Int)) ∧ Grows w w' := by
  have := ref03_areaR r w h.near
  rw [h.area' (by omega)] at this
  exact this

set_option maxHeartbeats 1600000 in
theorem ref05_New (r : R) (w : World) (hr : rightR r = true) (hs : cntR (someR r) ≤ 35184372088832) :
    Calls Try.prog 44 #[.agg #[.int .i64 r.x0, .int .i64 r.y0, .int .i64 r.x1, .int .i64 r.y1]] w (RetBuf w (someR r) noF) := by
  cases he : emptyR r
  · have e : someR r = r := by simp [someR, he]
    rw [e] at hs ⊢
    have hg : GoodR r := by have := good_some hr; rwa [e] at this
    have HG := Lib.hid hg
    have hmk := make_px (cntR r) hs
    clear hg e hr
    go_enter Try.func44, Try.ntmps44
    go_wp2_with ((first | (go_at_call 12; refine (ref03_emptyR _ _).mono ?_; rintro e w' ⟨rfl, hgw⟩; first | (obtain ⟨gw, rfl⟩ := grows_of_grow hgw) | (obtain ⟨gw, rfl⟩ := hgw))))
    go_region_held3 (fun w' => w'.cell? ⟨w.heap.size, 0, none⟩ = some (.int .i64 r.x0) ∧ w'.cell? ⟨w.heap.size, 1, none⟩ = some (.int .i64 r.y0) ∧ w'.cell? ⟨w.heap.size, 2, none⟩ = some (.int .i64 r.x1) ∧ w'.cell? ⟨w.heap.size, 3, none⟩ = some (.int .i64 r.y1)) (go_simp) ((first | (go_at_call 50; refine (ref03_areaC _ _ HG.out (by omega)).mono ?_; rintro e w' ⟨rfl, hgw⟩; first | (obtain ⟨gw, rfl⟩ := grows_of_grow hgw) | (obtain ⟨gw, rfl⟩ := hgw))))
    go_wp2
    refine bodyPost_ret (results_cell_row rfl _ _ _ 26 #[.int .i64 r.x0, .int .i64 r.y0, .int .i64 r.x1, .int .i64 r.y1, .slice (some ⟨w.heap.size + 1 + 1 + gw.news.size, 0, none⟩) (cntR r) (cntR r)] (0, 0) _ rfl ?_ Try.underlying26 rfl buf_info) rfl ?_
    · exact (by repeat (first | exact blk_at _ _ _ (by first | omega | (simp; done) | (simp; omega)) | refine (blk_past _ _ _ (by first | omega | (simp; done) | (simp; omega))).trans ?_ | refine (heap_grow _ _ _ (by first | omega | (simp; done) | (simp; omega))).trans ?_ | refine (blk_drew _ _).trans ?_))
    · exact ⟨_, _, _, rfl, (by repeat (first | exact Grows.refl _ | apply Grows.grow | apply Grows.alloc | apply Grows.drew)), bufAt_made (t := 32) HG.out (by omega) (by unfold Blk; repeat (first | exact blk_at _ _ _ (by first | omega | (simp; done) | (simp; omega)) | refine (blk_past _ _ _ (by first | omega | (simp; done) | (simp; omega))).trans ?_ | refine (heap_grow _ _ _ (by first | omega | (simp; done) | (simp; omega))).trans ?_ | refine (blk_drew _ _).trans ?_)), open_of_block (t := 32) (cs := madeCells #[.int .u8 0, .int .u8 0, .int .u8 0, .int .u8 0] (cntR r * 4)) (by unfold Blk; repeat (first | exact blk_at _ _ _ (by first | omega | (simp; done) | (simp; omega)) | refine (blk_past _ _ _ (by first | omega | (simp; done) | (simp; omega))).trans ?_ | refine (heap_grow _ _ _ (by first | omega | (simp; done) | (simp; omega))).trans ?_ | refine (blk_drew _ _).trans ?_)), fun x hx => by cases hx; show w.heap.size ≤ w.heap.size + 1 + 1 + gw.news.size; omega⟩
  · have e : someR r = zeroR := by simp [someR, he]
    rw [e]
    clear e hs hr
    go_enter Try.func44, Try.ntmps44
    go_wp2_with ((first | (go_at_call 12; refine (ref03_emptyR _ _).mono ?_; rintro e w' ⟨rfl, hgw⟩; first | (obtain ⟨gw, rfl⟩ := grows_of_grow hgw) | (obtain ⟨gw, rfl⟩ := hgw))))
    refine bodyPost_ret (results_cell_row rfl _ _ _ 26 #[.int .i64 0, .int .i64 0, .int .i64 0, .int .i64 0, .slice none 0 0] (0, 0) _ rfl ?_ Try.underlying26 rfl buf_info) rfl ⟨_, _, _, rfl, (by repeat (first | exact Grows.refl _ | apply Grows.grow | apply Grows.alloc | apply Grows.drew)), bufAt_zero _, Open.none_ _, fun x hx => by cases hx⟩
    exact (by repeat (first | exact blk_at _ _ _ (by first | omega | (simp; done) | (simp; omega)) | refine (blk_past _ _ _ (by first | omega | (simp; done) | (simp; omega))).trans ?_ | refine (heap_grow _ _ _ (by first | omega | (simp; done) | (simp; omega))).trans ?_ | refine (blk_drew _ _).trans ?_))

end Go.Proofs.Yticeoppldlhehaa
