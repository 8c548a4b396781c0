/- The walks of layer 5 (raster), the second part: new buffers, rows, filled. -/
import Derived.Test.YticeoppldlhehaaRas
import Derived.Test.YticeoppldlhehaaApp
import Derived.Laws.MakeOwn
import Derived.Deep.RegionHeld3
namespace Go.Proofs.Yticeoppldlhehaa
open Go.RowKit
set_option linter.unusedVariables false

theorem rect_areaC (r : R) (w : World) (h : GoodR r) (hs : cntR r ≤ 140737488355328) : Calls Try.prog 57 #[.agg #[.int .i64 r.x0, .int .i64 r.y0, .int .i64 r.x1, .int .i64 r.y1]] w fun e w' => e = .returned (.int .i64 (cntR r : Int)) ∧ Grows w w' := by
  have := rect_areaR r w h
  rw [h.area' (by omega)] at this
  exact this

set_option maxHeartbeats 1600000 in
theorem raster_New (r : R) (w : World) (hr : rightR r = true) (hs : cntR (someR r) ≤ 35184372088832) :
    Calls Try.prog 35 #[.agg #[.int .i64 r.x0, .int .i64 r.y0, .int .i64 r.x1, .int .i64 r.y1]] w (RetBuf w (someR r) noF) := by
  cases he : emptyR r
  · have e : someR r = r := by simp [someR, he]
    rw [e] at hs ⊢
    have hg : GoodR r := by have := good_some hr; rwa [e] at this
    have HG := Lib.hid hg
    have hmk := make_px (cntR r) hs
    clear hg e hr
    go_enter Try.func35, Try.ntmps35
    go_wp2_with ((first | (go_at_call 56; refine (rect_emptyR _ _).mono ?_; rintro e w' ⟨rfl, hgw⟩; first | (obtain ⟨gw, rfl⟩ := grows_of_grow hgw) | (obtain ⟨gw, rfl⟩ := hgw))))
    go_region_held3 (fun w' => w'.cell? ⟨w.heap.size, 0, none⟩ = some (.int .i64 r.x0) ∧ w'.cell? ⟨w.heap.size, 1, none⟩ = some (.int .i64 r.y0) ∧ w'.cell? ⟨w.heap.size, 2, none⟩ = some (.int .i64 r.x1) ∧ w'.cell? ⟨w.heap.size, 3, none⟩ = some (.int .i64 r.y1)) (go_simp) ((first | (go_at_call 57; refine (rect_areaC _ _ HG.out (by omega)).mono ?_; rintro e w' ⟨rfl, hgw⟩; first | (obtain ⟨gw, rfl⟩ := grows_of_grow hgw) | (obtain ⟨gw, rfl⟩ := hgw))))
    go_wp2
    refine bodyPost_ret (results_cell_row rfl _ _ _ 26 #[.int .i64 r.x0, .int .i64 r.y0, .int .i64 r.x1, .int .i64 r.y1, .slice (some ⟨w.heap.size + 1 + 1 + gw.news.size, 0, none⟩) (cntR r) (cntR r)] (0, 0) _ rfl ?_ Try.underlying26 rfl buf_info) rfl ?_
    · exact (by repeat (first | exact blk_at _ _ _ (by first | omega | (simp; done) | (simp; omega)) | refine (blk_past _ _ _ (by first | omega | (simp; done) | (simp; omega))).trans ?_ | refine (heap_grow _ _ _ (by first | omega | (simp; done) | (simp; omega))).trans ?_ | refine (blk_drew _ _).trans ?_))
    · exact ⟨_, _, _, rfl, (by repeat (first | exact Grows.refl _ | apply Grows.grow | apply Grows.alloc | apply Grows.drew)), bufAt_made (t := 32) HG.out (by omega) (by unfold Blk; repeat (first | exact blk_at _ _ _ (by first | omega | (simp; done) | (simp; omega)) | refine (blk_past _ _ _ (by first | omega | (simp; done) | (simp; omega))).trans ?_ | refine (heap_grow _ _ _ (by first | omega | (simp; done) | (simp; omega))).trans ?_ | refine (blk_drew _ _).trans ?_)), open_of_block (t := 32) (cs := madeCells #[.int .u8 0, .int .u8 0, .int .u8 0, .int .u8 0] (cntR r * 4)) (by unfold Blk; repeat (first | exact blk_at _ _ _ (by first | omega | (simp; done) | (simp; omega)) | refine (blk_past _ _ _ (by first | omega | (simp; done) | (simp; omega))).trans ?_ | refine (heap_grow _ _ _ (by first | omega | (simp; done) | (simp; omega))).trans ?_ | refine (blk_drew _ _).trans ?_)), fun x hx => by cases hx; show w.heap.size ≤ w.heap.size + 1 + 1 + gw.news.size; omega⟩
  · have e : someR r = zeroR := by simp [someR, he]
    rw [e]
    clear e hs hr
    go_enter Try.func35, Try.ntmps35
    go_wp2_with ((first | (go_at_call 56; refine (rect_emptyR _ _).mono ?_; rintro e w' ⟨rfl, hgw⟩; first | (obtain ⟨gw, rfl⟩ := grows_of_grow hgw) | (obtain ⟨gw, rfl⟩ := hgw))))
    refine bodyPost_ret (results_cell_row rfl _ _ _ 26 #[.int .i64 0, .int .i64 0, .int .i64 0, .int .i64 0, .slice none 0 0] (0, 0) _ rfl ?_ Try.underlying26 rfl buf_info) rfl ⟨_, _, _, rfl, (by repeat (first | exact Grows.refl _ | apply Grows.grow | apply Grows.alloc | apply Grows.drew)), bufAt_zero _, Open.none_ _, fun x hx => by cases hx⟩
    exact (by repeat (first | exact blk_at _ _ _ (by first | omega | (simp; done) | (simp; omega)) | refine (blk_past _ _ _ (by first | omega | (simp; done) | (simp; omega))).trans ?_ | refine (heap_grow _ _ _ (by first | omega | (simp; done) | (simp; omega))).trans ?_ | refine (blk_drew _ _).trans ?_))

set_option maxHeartbeats 800000 in
/-- A row of a rectangle within the box: its pixels begin at the first point's place. -/
theorem raster_row (r s : R) (b off len cap n c2 : Nat) (y : Int) (w : World) (hr : GoodR r) (hc : len = cntR r) (hle : len ≤ cap) (hm : cap ≤ 9223372036854775807) (hs : cntR r ≤ 140737488355328) (h0 : hasR r s.x0 y = true) (h1 : s.x1 - s.x0 ≤ n) (h1' : n ≤ s.x1 - s.x0) (h2 : s.x1 ≤ r.x1) (h3 : c2 + (idxR r s.x0 y).toNat = cap) :
    Calls Try.prog 60 #[.agg #[.int .i64 r.x0, .int .i64 r.y0, .int .i64 r.x1, .int .i64 r.y1, .slice (some ⟨b, off, none⟩) len cap], .agg #[.int .i64 s.x0, .int .i64 s.y0, .int .i64 s.x1, .int .i64 s.y1], .int .i64 y] w fun e w' => e = .returned (.slice (some ⟨b, off + (idxR r s.x0 y).toNat * 4, none⟩) n c2) ∧ Grows w w' := by
  have k := (hasR_iff r _ _).1 h0
  have hb := hr.bd
  obtain rfl : cap - (idxR r s.x0 y).toNat = c2 := by omega
  clear h3
  obtain ⟨i0, i1, i2⟩ := idxR_bd h0
  have hcn := hr.cnt
  have i3 : idxR r s.x0 y + (s.x1 - s.x0) ≤ len := by
    have e : idxR r (s.x1 - 1) y = idxR r s.x0 y + (s.x1 - 1 - s.x0) := by unfold idxR; omega
    by_cases hx : s.x0 = s.x1
    · omega
    · have h3 : hasR r (s.x1 - 1) y = true := (hasR_iff _ _ _).2 (by omega)
      have := (idxR_bd h3).2.2
      omega
  have hidx : idxR r s.x0 y < len := by omega
  have hidx2 : idxR r s.x0 y ≤ 140737488355328 := by omega
  have hidx3 : idxR r s.x0 y < cap := by omega
  have hidx4 : idxR r s.x0 y + s.x1 - s.x0 ≤ cap := by omega
  have H := Lib.hid hr
  have hlen := Lib.hid hc
  clear hcn hc i0 i2 hr
  go_enter Try.func60, Try.ntmps60
  go_wp2_with ((first | (go_at_call 59; refine (raster_at _ _ _ _ _ _ _ H.out (by assumption) (by omega)).mono ?_; rintro e w' ⟨rfl, hgw⟩; first | (obtain ⟨gw, rfl⟩ := grows_of_grow hgw) | (obtain ⟨gw, rfl⟩ := hgw))))
  go_ret
  exact ⟨by rw [show (idxR r s.x0 y + s.x1 - s.x0).toNat - (idxR r s.x0 y).toNat = n from by omega]; rfl, (by repeat (first | exact Grows.refl _ | apply Grows.grow | apply Grows.alloc | apply Grows.drew))⟩

/-- A row's length and capacity. -/
theorem row_room {r s : R} {len cap : Nat} {y : Int} (hr : GoodR r) (hc : len = cntR r) (hle : len ≤ cap) (h0 : hasR r s.x0 y = true) (h1 : s.x0 ≤ s.x1) (h2 : s.x1 ≤ r.x1) :
    ∃ n c2 : Nat, s.x1 - s.x0 ≤ n ∧ n ≤ s.x1 - s.x0 ∧ n ≤ c2 ∧ c2 ≤ cap ∧ Hid (c2 + (idxR r s.x0 y).toNat = cap) := by
  have k := (hasR_iff r _ _).1 h0
  obtain ⟨i0, i1, i2⟩ := idxR_bd h0
  have hcn := hr.cnt
  have i3 : idxR r s.x0 y + (s.x1 - s.x0) ≤ len := by
    have e : idxR r (s.x1 - 1) y = idxR r s.x0 y + (s.x1 - 1 - s.x0) := by unfold idxR; omega
    by_cases hx : s.x0 = s.x1
    · omega
    · have h3 : hasR r (s.x1 - 1) y = true := (hasR_iff _ _ _).2 (by omega)
      have := (idxR_bd h3).2.2
      omega
  exact ⟨(s.x1 - s.x0).toNat, cap - (idxR r s.x0 y).toNat, by omega, by omega, by omega, by omega, show _ = _ by omega⟩
end Go.Proofs.Yticeoppldlhehaa
