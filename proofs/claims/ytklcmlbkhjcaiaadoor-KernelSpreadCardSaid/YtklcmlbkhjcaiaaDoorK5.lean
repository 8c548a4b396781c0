/- The walks of the reference of layer 5, the first part: a pixel read, a new buffer, a buffer with one pixel more; areas. -/
import Derived.Test.YtklcmlbkhjcaiaaDoorRas
import Derived.Test.YtklcmlbkhjcaiaaDoorApp
import Derived.Laws.MakeOwn
import Derived.Deep.RegionHeld3





namespace Go.Proofs.YtklcmlbkhjcaiaaDoor
open Go.RowKit
set_option linter.unusedVariables false

set_option maxHeartbeats 800000 in
theorem ref05_At (r : R) (a : Option Addr) (len cap : Nat) (F : Img) (x y : Int) (w : World) (h : Hid (BufAt w r a len cap F)) (hs : cntR r ≤ 140737488355328) :
    Calls Tryd.prog 20 #[.agg #[.int .i64 r.x0, .int .i64 r.y0, .int .i64 r.x1, .int .i64 r.y1, .slice a len cap], .int .i64 x, .int .i64 y] w fun e w' => e = .returned (.agg #[.int .u8 (F x y).r, .int .u8 (F x y).g, .int .u8 (F x y).b, .int .u8 (F x y).a]) ∧ Grows w w' := by
  have hm := h.out.most
  have hg := h.out.good
  have hcn := h.out.count
  cases k : hasR r x y
  · rw [h.out.fits.out x y k]
    clear hs hcn hg
    go_enter Tryd.func20, Tryd.ntmps20
    go_wp2_with ((first | (go_at_call 23; refine (ref03_hasR _ _ _ _).mono ?_; rintro e w' ⟨rfl, hgw⟩; first | (obtain ⟨gw, rfl⟩ := grows_of_grow hgw) | (obtain ⟨gw, rfl⟩ := hgw))))
    refine bodyPost_ret (results_cell_row rfl _ _ _ 40 #[.int .u8 0, .int .u8 0, .int .u8 0, .int .u8 0] (0, 0) _ rfl ?_ Tryd.underlying40 rfl px_info) rfl ⟨rfl, (by repeat (first | exact Grows.refl _ | apply Grows.grow | apply Grows.alloc | apply Grows.drew))⟩
    exact (by repeat (first | exact blk_at _ _ _ (by first | omega | (simp; done) | (simp; omega)) | refine (blk_past _ _ _ (by first | omega | (simp; done) | (simp; omega))).trans ?_ | refine (heap_grow _ _ _ (by first | omega | (simp; done) | (simp; omega))).trans ?_ | refine (blk_drew _ _).trans ?_))
  · obtain ⟨b, off, rfl, hb, hok, c0, c1, c2, c3⟩ := h.out.px k
    obtain ⟨i0, i1, i2⟩ := idxR_bd k
    have hcc := hg.cnt
    have kk := (hasR_iff _ _ _).1 k
    have hbd := hg.bd
    have e : idxR r x y = (y - r.y0) * (r.x1 - r.x0) + (x - r.x0) := by unfold idxR; omega
    rw [e] at c0 c1 c2 c3 i1 i2
    have i3 : (y - r.y0) * (r.x1 - r.x0) + (x - r.x0) < len := by omega
    have i4 : (y - r.y0) * (r.x1 - r.x0) ≤ 140737488355328 := by omega
    clear hcc hcn hg i2 e
    go_enter Tryd.func20, Tryd.ntmps20
    go_wp2_with ((first | (go_at_call 23; refine (ref03_hasR _ _ _ _).mono ?_; rintro e w' ⟨rfl, hgw⟩; first | (obtain ⟨gw, rfl⟩ := grows_of_grow hgw) | (obtain ⟨gw, rfl⟩ := hgw))))
    refine bodyPost_ret (results_cell_row rfl _ _ _ 40 #[.int .u8 (F x y).r, .int .u8 (F x y).g, .int .u8 (F x y).b, .int .u8 (F x y).a] (0, 0) _ rfl ?_ Tryd.underlying40 rfl px_info) rfl ⟨rfl, (by repeat (first | exact Grows.refl _ | apply Grows.grow | apply Grows.alloc | apply Grows.drew))⟩
    exact (by repeat (first | exact blk_at _ _ _ (by first | omega | (simp; done) | (simp; omega)) | refine (blk_past _ _ _ (by first | omega | (simp; done) | (simp; omega))).trans ?_ | refine (heap_grow _ _ _ (by first | omega | (simp; done) | (simp; omega))).trans ?_ | refine (blk_drew _ _).trans ?_))

set_option maxHeartbeats 1600000 in
theorem ref03_area (a0 a1 a2 a3 : Int) (w : World) (ha0 : -1152921504606846976 ≤ a0 ∧ a0 ≤ 1152921504606846976) (ha1 : -1152921504606846976 ≤ a1 ∧ a1 ≤ 1152921504606846976) (ha2 : -1152921504606846976 ≤ a2 ∧ a2 ≤ 1152921504606846976) (ha3 : -1152921504606846976 ≤ a3 ∧ a3 ≤ 1152921504606846976) :
    Calls Tryd.prog 10 #[.agg #[.int .i64 a0, .int .i64 a1, .int .i64 a2, .int .i64 a3]] w fun e w' => e = .returned (.int .i64 (areaR ⟨a0, a1, a2, a3⟩)) ∧ Grows w w' := by
  cases h : emptyR (⟨a0, a1, a2, a3⟩ : R)
  · have hn := (emptyR_not _).1 h
    simp only at hn
    have hq := Int.ediv_nonneg (a := 2305843009213693952) (b := a3 - a1) (by omega) (by omega)
    have hq2 := Int.ediv_le_self (a := 2305843009213693952) (a3 - a1) (by omega)
    have hm := area_min (a2 - a0) (a3 - a1) (by omega) (by omega)
    have hp : 0 ≤ (a2 - a0) * (a3 - a1) := Int.mul_nonneg (by omega) (by omega)
    by_cases hc : 2305843009213693952 / (a3 - a1) < a2 - a0
    · have er : areaR ⟨a0, a1, a2, a3⟩ = 2305843009213693952 := by simp [areaR, h, hc]
      rw [er]
      clear er hm
      go_enter Tryd.func10, Tryd.ntmps10
      go_wp2_with (go_at_call 28; refine (ref03_empty _ _ _ _ _).mono ?_; rintro e w' ⟨rfl, gw, rfl⟩)
      first | refine region_grow2 (by kernel_rfl) (by kernel_rfl) ?_ | refine region_grow (by kernel_rfl) (by kernel_rfl) ?_
      repeat (go_big_quiet_step (fail))
      refine wpQuiet_nil ?_
      rintro _ ⟨gr, rfl⟩
      go_wp2
      go_ret
      exact ⟨rfl, (by repeat (first | exact Grows.refl _ | apply Grows.grow | apply Grows.alloc | apply Grows.drew))⟩
    · have er : areaR ⟨a0, a1, a2, a3⟩ = (a2 - a0) * (a3 - a1) := by simp [areaR, h, hc]
      rw [er]
      clear er
      rw [if_neg hc] at hm
      have hp2 : (a2 - a0) * (a3 - a1) ≤ 2305843009213693952 := by omega
      clear hm
      go_enter Tryd.func10, Tryd.ntmps10
      go_wp2_with (go_at_call 28; refine (ref03_empty _ _ _ _ _).mono ?_; rintro e w' ⟨rfl, gw, rfl⟩)
      first | refine region_grow2 (by kernel_rfl) (by kernel_rfl) ?_ | refine region_grow (by kernel_rfl) (by kernel_rfl) ?_
      repeat (go_big_quiet_step (fail))
      refine wpQuiet_nil ?_
      rintro _ ⟨gr, rfl⟩
      go_wp2
      go_ret
      exact ⟨rfl, (by repeat (first | exact Grows.refl _ | apply Grows.grow | apply Grows.alloc | apply Grows.drew))⟩
  · have er : areaR ⟨a0, a1, a2, a3⟩ = 0 := by simp [areaR, h]
    rw [er]
    clear er
    go_enter Tryd.func10, Tryd.ntmps10
    go_wp2_with (go_at_call 28; refine (ref03_empty _ _ _ _ _).mono ?_; rintro e w' ⟨rfl, gw, rfl⟩)
    go_ret
    exact ⟨rfl, (by repeat (first | exact Grows.refl _ | apply Grows.grow | apply Grows.alloc | apply Grows.drew))⟩
theorem ref03_areaR (r : R) (w : World) (h : rightR r = true) : Calls Tryd.prog 10 #[.agg #[.int .i64 r.x0, .int .i64 r.y0, .int .i64 r.x1, .int .i64 r.y1]] w fun e w' => e = .returned (.int .i64 (areaR r)) ∧ Grows w w' := by
  have := (rightR_iff _).1 h
  exact ref03_area _ _ _ _ _ (by omega) (by omega) (by omega) (by omega)
theorem ref03_areaC (r : R) (w : World) (h : GoodR r) (hs : cntR r ≤ 140737488355328) : Calls Tryd.prog 10 #[.agg #[.int .i64 r.x0, .int .i64 r.y0, .int .i64 r.x1, .int .i64 r.y1]] w fun e w' => e = .returned (.int .i64 (cntR r : Int)) ∧ Grows w w' := by
  have := ref03_areaR r w h.near
  rw [h.area' (by omega)] at this
  exact this

set_option maxHeartbeats 1600000 in
theorem ref05_New (r : R) (w : World) (hr : rightR r = true) (hs : cntR (someR r) ≤ 35184372088832) :
    Calls Tryd.prog 35 #[.agg #[.int .i64 r.x0, .int .i64 r.y0, .int .i64 r.x1, .int .i64 r.y1]] w (RetBuf w (someR r) noF) := by
  cases he : emptyR r
  · have e : someR r = r := by simp [someR, he]
    rw [e] at hs ⊢
    have hg : GoodR r := by have := good_some hr; rwa [e] at this
    have HG := Lib.hid hg
    have hmk := make_px (cntR r) hs
    clear hg e hr
    go_enter Tryd.func35, Tryd.ntmps35
    go_wp2_with ((first | (go_at_call 28; refine (ref03_emptyR _ _).mono ?_; rintro e w' ⟨rfl, hgw⟩; first | (obtain ⟨gw, rfl⟩ := grows_of_grow hgw) | (obtain ⟨gw, rfl⟩ := hgw))))
    go_region_held3 (fun w' => w'.cell? ⟨w.heap.size, 0, none⟩ = some (.int .i64 r.x0) ∧ w'.cell? ⟨w.heap.size, 1, none⟩ = some (.int .i64 r.y0) ∧ w'.cell? ⟨w.heap.size, 2, none⟩ = some (.int .i64 r.x1) ∧ w'.cell? ⟨w.heap.size, 3, none⟩ = some (.int .i64 r.y1)) (go_simp) ((first | (go_at_call 10; refine (ref03_areaC _ _ HG.out (by omega)).mono ?_; rintro e w' ⟨rfl, hgw⟩; first | (obtain ⟨gw, rfl⟩ := grows_of_grow hgw) | (obtain ⟨gw, rfl⟩ := hgw))))
    go_wp2
    refine bodyPost_ret (results_cell_row rfl _ _ _ 35 #[.int .i64 r.x0, .int .i64 r.y0, .int .i64 r.x1, .int .i64 r.y1, .slice (some ⟨w.heap.size + 1 + 1 + gw.news.size, 0, none⟩) (cntR r) (cntR r)] (0, 0) _ rfl ?_ Tryd.underlying35 rfl buf_info) rfl ?_
    · exact (by repeat (first | exact blk_at _ _ _ (by first | omega | (simp; done) | (simp; omega)) | refine (blk_past _ _ _ (by first | omega | (simp; done) | (simp; omega))).trans ?_ | refine (heap_grow _ _ _ (by first | omega | (simp; done) | (simp; omega))).trans ?_ | refine (blk_drew _ _).trans ?_))
    · exact ⟨_, _, _, rfl, (by repeat (first | exact Grows.refl _ | apply Grows.grow | apply Grows.alloc | apply Grows.drew)), bufAt_made (t := 40) HG.out (by omega) (by unfold Blk; repeat (first | exact blk_at _ _ _ (by first | omega | (simp; done) | (simp; omega)) | refine (blk_past _ _ _ (by first | omega | (simp; done) | (simp; omega))).trans ?_ | refine (heap_grow _ _ _ (by first | omega | (simp; done) | (simp; omega))).trans ?_ | refine (blk_drew _ _).trans ?_)), open_of_block (t := 40) (cs := madeCells #[.int .u8 0, .int .u8 0, .int .u8 0, .int .u8 0] (cntR r * 4)) (by unfold Blk; repeat (first | exact blk_at _ _ _ (by first | omega | (simp; done) | (simp; omega)) | refine (blk_past _ _ _ (by first | omega | (simp; done) | (simp; omega))).trans ?_ | refine (heap_grow _ _ _ (by first | omega | (simp; done) | (simp; omega))).trans ?_ | refine (blk_drew _ _).trans ?_)), fun x hx => by cases hx; show w.heap.size ≤ w.heap.size + 1 + 1 + gw.news.size; omega⟩
  · have e : someR r = zeroR := by simp [someR, he]
    rw [e]
    clear e hs hr
    go_enter Tryd.func35, Tryd.ntmps35
    go_wp2_with ((first | (go_at_call 28; refine (ref03_emptyR _ _).mono ?_; rintro e w' ⟨rfl, hgw⟩; first | (obtain ⟨gw, rfl⟩ := grows_of_grow hgw) | (obtain ⟨gw, rfl⟩ := hgw))))
    refine bodyPost_ret (results_cell_row rfl _ _ _ 35 #[.int .i64 0, .int .i64 0, .int .i64 0, .int .i64 0, .slice none 0 0] (0, 0) _ rfl ?_ Tryd.underlying35 rfl buf_info) rfl ⟨_, _, _, rfl, (by repeat (first | exact Grows.refl _ | apply Grows.grow | apply Grows.alloc | apply Grows.drew)), bufAt_zero _, Open.none_ _, fun x hx => by cases hx⟩
    exact (by repeat (first | exact blk_at _ _ _ (by first | omega | (simp; done) | (simp; omega)) | refine (blk_past _ _ _ (by first | omega | (simp; done) | (simp; omega))).trans ?_ | refine (heap_grow _ _ _ (by first | omega | (simp; done) | (simp; omega))).trans ?_ | refine (blk_drew _ _).trans ?_))

end Go.Proofs.YtklcmlbkhjcaiaaDoor
/- The walk of the reference's 'Copy': pixel by pixel. -/

namespace Go.Proofs.YtklcmlbkhjcaiaaDoor
open Go.RowKit
set_option linter.unusedVariables false

theorem Fits.copy {r s rf : R} {dx dy : Int} {F G : Img} (h : Fits r F) (k : Fits rf G) : Fits r (copyF r s dx dy F G) :=
  ⟨fun x y => by unfold copyF; split; exact k.ok _ _; exact h.ok x y, fun x y hn => by unfold copyF; rw [if_neg (by simp [hn])]; exact h.out x y hn⟩

set_option maxHeartbeats 3200000 in
theorem ref05_Copy (r rf s : R) (dx dy : Int) (a af : Option Addr) (len cap lf cf : Nat) (F G : Img) (w : World) (h : Hid (BufAt w r a len cap F)) (hf : Hid (BufAt w rf af lf cf G)) (hs : cntR r ≤ 30000000000000) (hsf : cntR rf ≤ 30000000000000) (hdx : -4398046511104 ≤ dx ∧ dx ≤ 4398046511104) (hdy : -4398046511104 ≤ dy ∧ dy ≤ 4398046511104) :
    Calls Tryd.prog 34 #[.agg #[.int .i64 r.x0, .int .i64 r.y0, .int .i64 r.x1, .int .i64 r.y1, .slice a len cap], .agg #[.int .i64 rf.x0, .int .i64 rf.y0, .int .i64 rf.x1, .int .i64 rf.y1, .slice af lf cf], .agg #[.int .i64 s.x0, .int .i64 s.y0, .int .i64 s.x1, .int .i64 s.y1], .int .i64 dx, .int .i64 dy] w (RetBuf w r (copyF r s dx dy F G)) := by
  have hm := h.out.most
  have hmf := hf.out.most
  have hg := h.out.good
  have hbd := hg.bd
  have hle := hg.le
  have HG := Lib.hid hg
  have HF : Hid (Fits r (copyF r s dx dy F G)) := h.out.fits.copy hf.out.fits
  have HFF : Hid (∀ u v, hasR r u v = true → copyF r s dx dy F G u v = if hasR s u v = true then G (u - dx) (v - dy) else F u v) := fun u v k => by simp [copyF, k]
  obtain ⟨F', hF'⟩ : ∃ F', F' = copyF r s dx dy F G := ⟨_, rfl⟩
  rw [← hF'] at HF HFF ⊢
  clear hg hF'
  go_enter Tryd.func34, Tryd.ntmps34
  go_wp2
  refine wp_name ?_
  intro W0 hW0
  have B0 : Hid (Blk W0 w.heap.size 35 #[.int .i64 r.x0, .int .i64 r.y0, .int .i64 r.x1, .int .i64 r.y1, .slice a len cap]) := by rw [hW0]; exact (by unfold Blk; repeat (first | exact blk_at _ _ _ (by first | omega | (simp; done) | (simp; omega)) | refine (blk_past _ _ _ (by first | omega | (simp; done) | (simp; omega))).trans ?_ | refine (heap_grow _ _ _ (by first | omega | (simp; done) | (simp; omega))).trans ?_ | refine (blk_drew _ _).trans ?_))
  have B1 : Hid (Blk W0 (w.heap.size + 1) 35 #[.int .i64 rf.x0, .int .i64 rf.y0, .int .i64 rf.x1, .int .i64 rf.y1, .slice af lf cf]) := by rw [hW0]; exact (by unfold Blk; repeat (first | exact blk_at _ _ _ (by first | omega | (simp; done) | (simp; omega)) | refine (blk_past _ _ _ (by first | omega | (simp; done) | (simp; omega))).trans ?_ | refine (heap_grow _ _ _ (by first | omega | (simp; done) | (simp; omega))).trans ?_ | refine (blk_drew _ _).trans ?_))
  have B2 : Hid (Blk W0 (w.heap.size + 1 + 1) 27 #[.int .i64 s.x0, .int .i64 s.y0, .int .i64 s.x1, .int .i64 s.y1]) := by rw [hW0]; exact (by unfold Blk; repeat (first | exact blk_at _ _ _ (by first | omega | (simp; done) | (simp; omega)) | refine (blk_past _ _ _ (by first | omega | (simp; done) | (simp; omega))).trans ?_ | refine (heap_grow _ _ _ (by first | omega | (simp; done) | (simp; omega))).trans ?_ | refine (blk_drew _ _).trans ?_))
  have B3 : Hid (Blk W0 (w.heap.size + 1 + 1 + 1) 35 #[.int .i64 0, .int .i64 0, .int .i64 0, .int .i64 0, .slice none 0 0]) := by rw [hW0]; exact (by unfold Blk; repeat (first | exact blk_at _ _ _ (by first | omega | (simp; done) | (simp; omega)) | refine (blk_past _ _ _ (by first | omega | (simp; done) | (simp; omega))).trans ?_ | refine (heap_grow _ _ _ (by first | omega | (simp; done) | (simp; omega))).trans ?_ | refine (blk_drew _ _).trans ?_))
  have B4 : Blk W0 (w.heap.size + 1 + 1 + 1 + 1) 35 #[.int .i64 r.x0, .int .i64 r.y0, .int .i64 r.x1, .int .i64 r.y1, .slice none 0 0] := by rw [hW0]; exact (by unfold Blk; repeat (first | exact blk_at _ _ _ (by first | omega | (simp; done) | (simp; omega)) | refine (blk_past _ _ _ (by first | omega | (simp; done) | (simp; omega))).trans ?_ | refine (heap_grow _ _ _ (by first | omega | (simp; done) | (simp; omega))).trans ?_ | refine (blk_drew _ _).trans ?_))
  have GW : Hid (Grows w W0) := by rw [hW0]; exact (by repeat (first | exact Grows.refl _ | apply Grows.grow | apply Grows.alloc | apply Grows.drew))
  have hsz : W0.heap.size = w.heap.size + 1 + 1 + 1 + 1 + 1 := by rw [hW0]; simp
  have hsz' : w.heap.size + 1 + 1 + 1 + 1 < W0.heap.size := by omega
  have HS : Hid (BufAt W0 r a len cap F) := h.out.grows GW.out
  have HSf : Hid (BufAt W0 rf af lf cf G) := hf.out.grows GW.out
  have ST : Hid (AppSt W0 W0 (w.heap.size + 1 + 1 + 1 + 1) r none 0 0 (fun i => F' (ptX r i) (ptY r i))) := AppSt.start _ B4
  clear hW0 hsz B4
  go_loopw [12] (fun y wr => ∃ (v : Int) (k : Nat) (a' : Option Addr) (cap' : Nat), r.y0 ≤ v ∧ v ≤ r.y1 ∧ y = .int .i64 v ∧ Hid ((k : Int) = idxR r r.x0 v ∧ AppSt W0 wr (w.heap.size + 1 + 1 + 1 + 1) r a' k cap' (fun i => F' (ptX r i) (ptY r i)))) (fun y _ => (r.y1 - intOf y).toNat)
  case atStart => exact ⟨_, 0, none, 0, by omega, by omega, rfl, by rw [idx_first]; rfl, ST.out⟩
  case round =>
    clear ST
    obtain ⟨v, k, a', cap', hv1, hv2, rfl, hh⟩ := hrel
    have b0 := hh.out.2.blk B0.out (by omega)
    obtain ⟨d0, d1, d2, d3, d4, df⟩ := b0.c5
    by_cases hlt : v < r.y1
    · go_wp2
      clear d0 d1 d2 d3 d4 df b0
      obtain ⟨wo, hwo⟩ : ∃ wo : World, wo = wr := ⟨_, rfl⟩
      clear hwo
      go_loopw [13] (fun x wr => ∃ (u : Int) (k : Nat) (a' : Option Addr) (cap' : Nat), r.x0 ≤ u ∧ u ≤ r.x1 ∧ x = .int .i64 u ∧ Hid ((k : Int) = idxR r u v ∧ AppSt W0 wr (w.heap.size + 1 + 1 + 1 + 1) r a' k cap' (fun i => F' (ptX r i) (ptY r i)))) (fun x _ => (r.x1 - intOf x).toNat)
      case atStart => exact ⟨_, k, a', cap', by omega, by omega, rfl, hh.out⟩
      case round =>
        clear hh
        obtain ⟨u, k, a', cap', hu1, hu2, rfl, hh⟩ := hrel
        have b0 := hh.out.2.blk B0.out (by omega)
        obtain ⟨d0, d1, d2, d3, d4, df⟩ := b0.c5
        by_cases hltx : u < r.x1
        · have hin : hasR r u v = true := (hasR_iff _ _ _).2 (by omega)
          have hcnt := HG.out.idx hin
          have hk : k ≤ 30000000000000 := by have := hh.out.1; omega
          have b1 := hh.out.2.blk B1.out (by omega)
          have b2 := hh.out.2.blk B2.out (by omega)
          obtain ⟨s0, s1, s2, s3, s4, sf⟩ := b1.c5
          obtain ⟨p0, p1, p2, p3, pf⟩ := b2.c4
          have bo := hh.out.2.ob
          obtain ⟨o0, o1, o2, o3, o4, of⟩ := bo.c5
          have l0 := b0.lt
          have l1 := b1.lt
          have l2 := b2.lt
          have lo := bo.lt
          have HSRC : Hid (BufAt wr r a len cap F) := h.out.far HS.out hh.out.2.by_ (by omega)
          have HSRC2 : Hid (BufAt wr rf af lf cf G) := hf.out.far HSf.out hh.out.2.by_ (by omega)
          have hbase := hh.out.2.by_.size
          have hpx := HFF.out u v hin
          have hfk : Hid ((fun i => F' (ptX r i) (ptY r i)) k = F' u v) := by
            show F' (ptX r k) (ptY r k) = _
            rw [ptX_of hin hh.out.1, ptY_of hin hh.out.1]
          clear b0 b1 b2 bo
          cases hc : hasR s u v
          · rw [hc] at hpx
            simp only [Bool.false_eq_true, if_false] at hpx
            have hfk' : Hid ((fun i => F' (ptX r i) (ptY r i)) k = F u v) := hfk.out.trans hpx
            clear hpx hfk
            go_wp2_with (first | (first | (go_at_call 20; (with_reducible refine (ref05_At _ _ _ _ _ _ _ _ (Lib.hid (BufAt.grows HSRC.out (by repeat (first | exact Grows.refl _ | apply Grows.grow | apply Grows.alloc | apply Grows.drew)))) (by omega)).mono ?_); rintro e w' ⟨rfl, hgw⟩; first | (obtain ⟨gw, rfl⟩ := grows_of_grow hgw) | (obtain ⟨gw, rfl⟩ := hgw)) | (go_at_call 20; (with_reducible refine (ref05_At _ _ _ _ _ _ _ _ (Lib.hid (BufAt.grows HSRC2.out (by repeat (first | exact Grows.refl _ | apply Grows.grow | apply Grows.alloc | apply Grows.drew)))) (by omega)).mono ?_); rintro e w' ⟨rfl, hgw⟩; first | (obtain ⟨gw, rfl⟩ := grows_of_grow hgw) | (obtain ⟨gw, rfl⟩ := hgw)) | (go_at_call 23; refine (ref03_hasR _ _ _ _).mono ?_; rintro e w' ⟨rfl, hgw⟩; first | (obtain ⟨gw, rfl⟩ := grows_of_grow hgw) | (obtain ⟨gw, rfl⟩ := hgw))) | (at_builtin; refine wpList_append_one rfl (.tmp 55) (.tmp 57) rfl W0.heap.size a' k cap' _ (F u v) rfl (ownsRow_grows hh.out.2.own (by repeat (first | exact Grows.refl _ | apply Grows.grow | apply Grows.alloc | apply Grows.drew))) _ 1 rfl (by unfold Blk; repeat (first | exact blk_at _ _ _ (by first | omega | (simp; done) | (simp; omega)) | refine (blk_past _ _ _ (by first | omega | (simp; done) | (simp; omega))).trans ?_ | refine (heap_grow _ _ _ (by first | omega | (simp; done) | (simp; omega))).trans ?_ | refine (blk_drew _ _).trans ?_)) hfk'.out hk (by simp; omega) ?_; intro g c1 w1 h1 h2 h3 h4; obtain ⟨PB, PST⟩ := hh.out.2.push (by repeat (first | exact Grows.refl _ | apply Grows.grow | apply Grows.alloc | apply Grows.drew)) h1 h2; obtain ⟨q0, q1, q2, q3, q4, qf⟩ := PB.c5; have ql := PB.lt; replace PST := Lib.hid PST; clear h1 h2 h3 h4 PB))
            go_roundw
            case rel => exact ⟨u + 1, k + 1, _, _, by omega, by omega, by go_num, by rw [idx_next]; have := hh.out.1; omega, PST.out⟩
            case measure => simp [intOf]; omega
          · rw [hc] at hpx
            simp only [if_true] at hpx
            have hfk' : Hid ((fun i => F' (ptX r i) (ptY r i)) k = G (u - dx) (v - dy)) := hfk.out.trans hpx
            clear hpx hfk
            go_wp2_with (first | (first | (go_at_call 20; (with_reducible refine (ref05_At _ _ _ _ _ _ _ _ (Lib.hid (BufAt.grows HSRC.out (by repeat (first | exact Grows.refl _ | apply Grows.grow | apply Grows.alloc | apply Grows.drew)))) (by omega)).mono ?_); rintro e w' ⟨rfl, hgw⟩; first | (obtain ⟨gw, rfl⟩ := grows_of_grow hgw) | (obtain ⟨gw, rfl⟩ := hgw)) | (go_at_call 20; (with_reducible refine (ref05_At _ _ _ _ _ _ _ _ (Lib.hid (BufAt.grows HSRC2.out (by repeat (first | exact Grows.refl _ | apply Grows.grow | apply Grows.alloc | apply Grows.drew)))) (by omega)).mono ?_); rintro e w' ⟨rfl, hgw⟩; first | (obtain ⟨gw, rfl⟩ := grows_of_grow hgw) | (obtain ⟨gw, rfl⟩ := hgw)) | (go_at_call 23; refine (ref03_hasR _ _ _ _).mono ?_; rintro e w' ⟨rfl, hgw⟩; first | (obtain ⟨gw, rfl⟩ := grows_of_grow hgw) | (obtain ⟨gw, rfl⟩ := hgw))) | (at_builtin; refine wpList_append_one rfl (.tmp 55) (.tmp 57) rfl W0.heap.size a' k cap' _ (G (u - dx) (v - dy)) rfl (ownsRow_grows hh.out.2.own (by repeat (first | exact Grows.refl _ | apply Grows.grow | apply Grows.alloc | apply Grows.drew))) _ 1 rfl (by unfold Blk; repeat (first | exact blk_at _ _ _ (by first | omega | (simp; done) | (simp; omega)) | refine (blk_past _ _ _ (by first | omega | (simp; done) | (simp; omega))).trans ?_ | refine (heap_grow _ _ _ (by first | omega | (simp; done) | (simp; omega))).trans ?_ | refine (blk_drew _ _).trans ?_)) hfk'.out hk (by simp; omega) ?_; intro g c1 w1 h1 h2 h3 h4; obtain ⟨PB, PST⟩ := hh.out.2.push (by repeat (first | exact Grows.refl _ | apply Grows.grow | apply Grows.alloc | apply Grows.drew)) h1 h2; obtain ⟨q0, q1, q2, q3, q4, qf⟩ := PB.c5; have ql := PB.lt; replace PST := Lib.hid PST; clear h1 h2 h3 h4 PB))
            go_roundw
            case rel => exact ⟨u + 1, k + 1, _, _, by omega, by omega, by go_num, by rw [idx_next]; have := hh.out.1; omega, PST.out⟩
            case measure => simp [intOf]; omega
        · obtain rfl : u = r.x1 := by omega
          go_wp2
          go_roundw
          case rel => exact ⟨v + 1, k, a', cap', by omega, by omega, by go_num, by have := hh.out.1; rw [idx_row] at this; exact this, hh.out.2⟩
          case measure => simp [intOf]; omega
    · obtain rfl : v = r.y1 := by omega
      have bo := hh.out.2.ob
      obtain ⟨o0, o1, o2, o3, o4, of⟩ := bo.c5
      have b3 := hh.out.2.blk B3.out (by omega)
      obtain ⟨e0, e1, e2, e3, e4, ef⟩ := b3.c5
      have H3 := Lib.hid b3
      have l3 := b3.lt
      have lo := bo.lt
      clear b3 bo b0
      go_wp2
      obtain ⟨D1, D2⟩ := hh.out.2.done HG.out HF.out hh.out.1 GW.out (n := w.heap.size + 1 + 1 + 1) (by omega) (by omega) (by omega) (.int .i64 r.x0) (.int .i64 r.y0) (.int .i64 r.x1) (.int .i64 r.y1) (.slice a' k cap')
      refine bodyPost_ret (results_cell_row rfl _ _ _ 35 #[.int .i64 r.x0, .int .i64 r.y0, .int .i64 r.x1, .int .i64 r.y1, .slice a' k cap'] (0, 0) _ rfl (H3.out.set5 _ _ _ _ _) Tryd.underlying35 rfl buf_info) rfl ⟨_, _, _, rfl, D1, D2⟩
end Go.Proofs.YtklcmlbkhjcaiaaDoor

/- The walks of the reference's rectangles (layer 3): cut, or nothing, grown. -/

namespace Go.Proofs.YtklcmlbkhjcaiaaDoor
open Go.RowKit
set_option linter.unusedVariables false

set_option maxHeartbeats 400000 in
theorem ref03_less (a b : Int) (w : World) : Calls Tryd.prog 47 #[.int .i64 a, .int .i64 b] w fun e w' => e = .returned (.int .i64 (mnI a b)) ∧ w = w' := by
  go_enter Tryd.func47, Tryd.ntmps47
  go_wp2
  all_goals
    go_ret
    exact ⟨ret_i (by rw [mnI_eq]; omega), rfl⟩
set_option maxHeartbeats 400000 in
theorem ref03_more (a b : Int) (w : World) : Calls Tryd.prog 48 #[.int .i64 a, .int .i64 b] w fun e w' => e = .returned (.int .i64 (mxI a b)) ∧ w = w' := by
  go_enter Tryd.func48, Tryd.ntmps48
  go_wp2
  all_goals
    go_ret
    exact ⟨ret_i (by rw [mxI_eq]; omega), rfl⟩
set_option maxHeartbeats 400000 in
theorem ref03_cut (n : Int) (w : World) : Calls Tryd.prog 58 #[.int .i64 n] w fun e w' => e = .returned (.int .i64 (cutN n)) ∧ w = w' := by
  go_enter Tryd.func58, Tryd.ntmps58
  go_wp2_with (first | (go_at_call 47; refine (ref03_less _ _ _).mono ?_; rintro e w' ⟨rfl, rfl⟩) | (go_at_call 48; refine (ref03_more _ _ _).mono ?_; rintro e w' ⟨rfl, rfl⟩))
  go_ret
  exact ⟨rfl, rfl⟩
set_option maxHeartbeats 800000 in
theorem ref03_some (a b c d : Int) (w : World) : Calls Tryd.prog 46 #[.int .i64 a, .int .i64 b, .int .i64 c, .int .i64 d] w fun e w' => e = .returned (.agg #[.int .i64 (someR ⟨a, b, c, d⟩).x0, .int .i64 (someR ⟨a, b, c, d⟩).y0, .int .i64 (someR ⟨a, b, c, d⟩).x1, .int .i64 (someR ⟨a, b, c, d⟩).y1]) ∧ Grows w w' := by
  cases h : emptyR (⟨a, b, c, d⟩ : R)
  · have er : someR ⟨a, b, c, d⟩ = ⟨a, b, c, d⟩ := by simp [someR, h]
    rw [er]
    clear er
    go_enter Tryd.func46, Tryd.ntmps46
    go_wp2_with (go_at_call 28; refine (ref03_empty _ _ _ _ _).mono ?_; rintro e w' ⟨rfl, gw, rfl⟩)
    refine bodyPost_ret (results_cell_row rfl _ _ _ 27 #[.int .i64 a, .int .i64 b, .int .i64 c, .int .i64 d] (0, 0) _ rfl ?_ Tryd.underlying27 rfl rect_info) rfl ⟨rfl, (by repeat (first | exact Grows.refl _ | apply Grows.grow | apply Grows.alloc | apply Grows.drew))⟩
    exact (by repeat (first | exact blk_at _ _ _ (by first | omega | (simp; done) | (simp; omega)) | refine (blk_past _ _ _ (by first | omega | (simp; done) | (simp; omega))).trans ?_ | refine (heap_grow _ _ _ (by first | omega | (simp; done) | (simp; omega))).trans ?_ | refine (blk_drew _ _).trans ?_))
  · have er : someR ⟨a, b, c, d⟩ = ⟨0, 0, 0, 0⟩ := by simp [someR, zeroR, h]
    rw [er]
    clear er
    go_enter Tryd.func46, Tryd.ntmps46
    go_wp2_with (go_at_call 28; refine (ref03_empty _ _ _ _ _).mono ?_; rintro e w' ⟨rfl, gw, rfl⟩)
    refine bodyPost_ret (results_cell_row rfl _ _ _ 27 #[.int .i64 0, .int .i64 0, .int .i64 0, .int .i64 0] (0, 0) _ rfl ?_ Tryd.underlying27 rfl rect_info) rfl ⟨rfl, (by repeat (first | exact Grows.refl _ | apply Grows.grow | apply Grows.alloc | apply Grows.drew))⟩
    exact (by repeat (first | exact blk_at _ _ _ (by first | omega | (simp; done) | (simp; omega)) | refine (blk_past _ _ _ (by first | omega | (simp; done) | (simp; omega))).trans ?_ | refine (heap_grow _ _ _ (by first | omega | (simp; done) | (simp; omega))).trans ?_ | refine (blk_drew _ _).trans ?_))
set_option maxHeartbeats 1600000 in
theorem ref03_growR (b : R) (l u r d : Int) (w : World) (h : rightR b = true) (hl : 0 ≤ l ∧ l ≤ 1000000) (hu : 0 ≤ u ∧ u ≤ 1000000) (hr : 0 ≤ r ∧ r ≤ 1000000) (hd : 0 ≤ d ∧ d ≤ 1000000) :
    Calls Tryd.prog 30 #[.agg #[.int .i64 b.x0, .int .i64 b.y0, .int .i64 b.x1, .int .i64 b.y1], .int .i64 l, .int .i64 u, .int .i64 r, .int .i64 d] w fun e w' => e = .returned (.agg #[.int .i64 (growR b l u r d).x0, .int .i64 (growR b l u r d).y0, .int .i64 (growR b l u r d).x1, .int .i64 (growR b l u r d).y1]) ∧ Grows w w' := by
  obtain ⟨h0, h1, h2, h3⟩ := (rightR_iff b).1 h
  clear h
  cases he : emptyR b
  · have er : growR b l u r d = someR ⟨cutN (b.x0 - l), cutN (b.y0 - u), cutN (b.x1 + r), cutN (b.y1 + d)⟩ := by simp [growR, wholeR, he]
    rw [er]
    clear er
    go_enter Tryd.func30, Tryd.ntmps30
    go_wp2_with ((first | (go_at_call 28; refine (ref03_emptyR _ _).mono ?_; rintro e w' ⟨rfl, hgw⟩; first | (obtain ⟨gw, rfl⟩ := grows_of_grow hgw) | (obtain ⟨gw, rfl⟩ := hgw))))
    first | refine region_grow_tail2 21 (by kernel_rfl) (by kernel_rfl) ?_ | refine region_grow_tail 21 (by kernel_rfl) (by kernel_rfl) ?_
    simp only [List.take_succ_cons, List.take_zero, List.drop_succ_cons, List.drop_zero]
    repeat (go_big_quiet_step ((first | (go_at_call 58; exact grow_same (ref03_cut _ _ )) | (go_at_call 46; exact grow_of (ref03_some _ _ _ _ _ )))))
    refine wpQuiet_nil ?_
    rintro _ ⟨gr, rfl⟩
    go_wp2
    refine bodyPost_ret (results_cell_row rfl _ _ _ 27 #[.int .i64 (someR ⟨cutN (b.x0 - l), cutN (b.y0 - u), cutN (b.x1 + r), cutN (b.y1 + d)⟩).x0, .int .i64 (someR ⟨cutN (b.x0 - l), cutN (b.y0 - u), cutN (b.x1 + r), cutN (b.y1 + d)⟩).y0, .int .i64 (someR ⟨cutN (b.x0 - l), cutN (b.y0 - u), cutN (b.x1 + r), cutN (b.y1 + d)⟩).x1, .int .i64 (someR ⟨cutN (b.x0 - l), cutN (b.y0 - u), cutN (b.x1 + r), cutN (b.y1 + d)⟩).y1] (0, 0) _ rfl ?_ Tryd.underlying27 rfl rect_info) rfl ⟨rfl, (by repeat (first | exact Grows.refl _ | apply Grows.grow | apply Grows.alloc | apply Grows.drew))⟩
    exact (by repeat (first | exact blk_at _ _ _ (by first | omega | (simp; done) | (simp; omega)) | refine (blk_past _ _ _ (by first | omega | (simp; done) | (simp; omega))).trans ?_ | refine (heap_grow _ _ _ (by first | omega | (simp; done) | (simp; omega))).trans ?_ | refine (blk_drew _ _).trans ?_))
  · have er : growR b l u r d = ⟨0, 0, 0, 0⟩ := by simp [growR, zeroR, he]
    rw [er]
    clear er
    go_enter Tryd.func30, Tryd.ntmps30
    go_wp2_with ((first | (go_at_call 28; refine (ref03_emptyR _ _).mono ?_; rintro e w' ⟨rfl, hgw⟩; first | (obtain ⟨gw, rfl⟩ := grows_of_grow hgw) | (obtain ⟨gw, rfl⟩ := hgw))))
    refine bodyPost_ret (results_cell_row rfl _ _ _ 27 #[.int .i64 0, .int .i64 0, .int .i64 0, .int .i64 0] (0, 0) _ rfl ?_ Tryd.underlying27 rfl rect_info) rfl ⟨rfl, (by repeat (first | exact Grows.refl _ | apply Grows.grow | apply Grows.alloc | apply Grows.drew))⟩
    exact (by repeat (first | exact blk_at _ _ _ (by first | omega | (simp; done) | (simp; omega)) | refine (blk_past _ _ _ (by first | omega | (simp; done) | (simp; omega))).trans ?_ | refine (heap_grow _ _ _ (by first | omega | (simp; done) | (simp; omega))).trans ?_ | refine (blk_drew _ _).trans ?_))
end Go.Proofs.YtklcmlbkhjcaiaaDoor

/- The walk of the reference of layer 8: whether a box and radii are little. -/

namespace Go.Proofs.YtklcmlbkhjcaiaaDoor
open Go.RowKit
set_option linter.unusedVariables false

theorem cutN_bd (n : Int) : -4398046511104 ≤ cutN n ∧ cutN n ≤ 4398046511104 := by
  unfold cutN
  simp only [mxI_eq, mnI_eq]
  omega
theorem good_whole (r : R) : GoodR (wholeR r) := good_some ((rightR_iff _).2 ⟨cutN_bd _, cutN_bd _, cutN_bd _, cutN_bd _⟩)
theorem good_grow (r : R) (a b c d : Int) : GoodR (growR r a b c d) := by
  unfold growR
  split
  · exact goodR_zero
  · exact good_whole _
def smallR (b : R) : Prop := (-33554432 ≤ b.x0 ∧ b.x0 ≤ 33554432) ∧ (-33554432 ≤ b.y0 ∧ b.y0 ≤ 33554432) ∧ (-33554432 ≤ b.x1 ∧ b.x1 ≤ 33554432) ∧ (-33554432 ≤ b.y1 ∧ b.y1 ≤ 33554432)
instance (b : R) : Decidable (smallR b) := by unfold smallR; infer_instance
theorem smallR.right {b : R} (h : smallR b) : rightR b = true := by
  unfold smallR at h
  rw [rightR_iff]
  omega
def fineB (b : R) (rx ry n : Int) : Bool := decide ((0 ≤ rx ∧ rx ≤ 255) ∧ (0 ≤ ry ∧ ry ≤ 255) ∧ smallR b) && decide (areaR (growR b rx ry rx ry) ≤ n)

theorem fineB_no {b : R} {rx ry n : Int} (h : ¬((0 ≤ rx ∧ rx ≤ 255) ∧ (0 ≤ ry ∧ ry ≤ 255) ∧ (-33554432 ≤ b.x0 ∧ b.x0 ≤ 33554432) ∧ (-33554432 ≤ b.y0 ∧ b.y0 ≤ 33554432) ∧ (-33554432 ≤ b.x1 ∧ b.x1 ≤ 33554432) ∧ (-33554432 ≤ b.y1 ∧ b.y1 ≤ 33554432))) : false = fineB b rx ry n := by
  have : decide ((0 ≤ rx ∧ rx ≤ 255) ∧ (0 ≤ ry ∧ ry ≤ 255) ∧ smallR b) = false := decide_eq_false h
  unfold fineB
  rw [this]
  rfl
theorem fineB_yes {b : R} {rx ry n : Int} (h : (0 ≤ rx ∧ rx ≤ 255) ∧ (0 ≤ ry ∧ ry ≤ 255) ∧ (-33554432 ≤ b.x0 ∧ b.x0 ≤ 33554432) ∧ (-33554432 ≤ b.y0 ∧ b.y0 ≤ 33554432) ∧ (-33554432 ≤ b.x1 ∧ b.x1 ≤ 33554432) ∧ (-33554432 ≤ b.y1 ∧ b.y1 ≤ 33554432)) : decide (areaR (growR b rx ry rx ry) ≤ n) = fineB b rx ry n := by
  have : decide ((0 ≤ rx ∧ rx ≤ 255) ∧ (0 ≤ ry ∧ ry ≤ 255) ∧ smallR b) = true := decide_eq_true h
  unfold fineB
  rw [this]
  rfl
theorem rect_near {b : R} (h : (-33554432 ≤ b.x0 ∧ b.x0 ≤ 33554432) ∧ (-33554432 ≤ b.y0 ∧ b.y0 ≤ 33554432) ∧ (-33554432 ≤ b.x1 ∧ b.x1 ≤ 33554432) ∧ (-33554432 ≤ b.y1 ∧ b.y1 ≤ 33554432)) : rightR b = true := smallR.right h


set_option maxHeartbeats 3200000 in
theorem ref08_Fine (b : R) (rx ry n : Int) (w : World) :
    Calls Tryd.prog 14 #[.agg #[.int .i64 b.x0, .int .i64 b.y0, .int .i64 b.x1, .int .i64 b.y1], .int .i64 rx, .int .i64 ry, .int .i64 n] w fun e w' => e = .returned (.bool (fineB b rx ry n)) ∧ Grows w w' := by
  by_cases c0 : rx < 0
  · rw [show fineB b rx ry n = false from (fineB_no (by omega)).symm]
    go_enter Tryd.func14, Tryd.ntmps14
    go_wp2
    go_ret
    exact ⟨rfl, (by repeat (first | exact Grows.refl _ | apply Grows.grow | apply Grows.alloc | apply Grows.drew))⟩
  by_cases c1 : ry < 0
  · rw [show fineB b rx ry n = false from (fineB_no (by omega)).symm]
    go_enter Tryd.func14, Tryd.ntmps14
    go_wp2
    go_ret
    exact ⟨rfl, (by repeat (first | exact Grows.refl _ | apply Grows.grow | apply Grows.alloc | apply Grows.drew))⟩
  by_cases c2 : 255 < rx
  · rw [show fineB b rx ry n = false from (fineB_no (by omega)).symm]
    go_enter Tryd.func14, Tryd.ntmps14
    go_wp2
    go_ret
    exact ⟨rfl, (by repeat (first | exact Grows.refl _ | apply Grows.grow | apply Grows.alloc | apply Grows.drew))⟩
  by_cases c3 : 255 < ry
  · rw [show fineB b rx ry n = false from (fineB_no (by omega)).symm]
    go_enter Tryd.func14, Tryd.ntmps14
    go_wp2
    go_ret
    exact ⟨rfl, (by repeat (first | exact Grows.refl _ | apply Grows.grow | apply Grows.alloc | apply Grows.drew))⟩
  by_cases c4 : b.x0 < -33554432
  · rw [show fineB b rx ry n = false from (fineB_no (by omega)).symm]
    go_enter Tryd.func14, Tryd.ntmps14
    go_wp2
    go_ret
    exact ⟨rfl, (by repeat (first | exact Grows.refl _ | apply Grows.grow | apply Grows.alloc | apply Grows.drew))⟩
  by_cases c5 : b.y0 < -33554432
  · rw [show fineB b rx ry n = false from (fineB_no (by omega)).symm]
    go_enter Tryd.func14, Tryd.ntmps14
    go_wp2
    go_ret
    exact ⟨rfl, (by repeat (first | exact Grows.refl _ | apply Grows.grow | apply Grows.alloc | apply Grows.drew))⟩
  by_cases c6 : 33554432 < b.x1
  · rw [show fineB b rx ry n = false from (fineB_no (by omega)).symm]
    go_enter Tryd.func14, Tryd.ntmps14
    go_wp2
    go_ret
    exact ⟨rfl, (by repeat (first | exact Grows.refl _ | apply Grows.grow | apply Grows.alloc | apply Grows.drew))⟩
  by_cases c7 : 33554432 < b.y1
  · rw [show fineB b rx ry n = false from (fineB_no (by omega)).symm]
    go_enter Tryd.func14, Tryd.ntmps14
    go_wp2
    go_ret
    exact ⟨rfl, (by repeat (first | exact Grows.refl _ | apply Grows.grow | apply Grows.alloc | apply Grows.drew))⟩
  by_cases c8 : b.x1 < -33554432
  · rw [show fineB b rx ry n = false from (fineB_no (by omega)).symm]
    go_enter Tryd.func14, Tryd.ntmps14
    go_wp2
    go_ret
    exact ⟨rfl, (by repeat (first | exact Grows.refl _ | apply Grows.grow | apply Grows.alloc | apply Grows.drew))⟩
  by_cases c9 : b.y1 < -33554432
  · rw [show fineB b rx ry n = false from (fineB_no (by omega)).symm]
    go_enter Tryd.func14, Tryd.ntmps14
    go_wp2
    go_ret
    exact ⟨rfl, (by repeat (first | exact Grows.refl _ | apply Grows.grow | apply Grows.alloc | apply Grows.drew))⟩
  by_cases c10 : 33554432 < b.x0
  · rw [show fineB b rx ry n = false from (fineB_no (by omega)).symm]
    go_enter Tryd.func14, Tryd.ntmps14
    go_wp2
    go_ret
    exact ⟨rfl, (by repeat (first | exact Grows.refl _ | apply Grows.grow | apply Grows.alloc | apply Grows.drew))⟩
  by_cases c11 : 33554432 < b.y0
  · rw [show fineB b rx ry n = false from (fineB_no (by omega)).symm]
    go_enter Tryd.func14, Tryd.ntmps14
    go_wp2
    go_ret
    exact ⟨rfl, (by repeat (first | exact Grows.refl _ | apply Grows.grow | apply Grows.alloc | apply Grows.drew))⟩
  have HR : Hid (rightR (growR b rx ry rx ry) = true) := (good_grow _ _ _ _ _).near
  have HGr : Hid (∀ w, Calls Tryd.prog 30 #[.agg #[.int .i64 b.x0, .int .i64 b.y0, .int .i64 b.x1, .int .i64 b.y1], .int .i64 rx, .int .i64 ry, .int .i64 rx, .int .i64 ry] w fun e w' => e = .returned (.agg #[.int .i64 (growR b rx ry rx ry).x0, .int .i64 (growR b rx ry rx ry).y0, .int .i64 (growR b rx ry rx ry).x1, .int .i64 (growR b rx ry rx ry).y1]) ∧ Grows w w') := fun w => ref03_growR b rx ry rx ry w (rect_near (by omega)) (by omega) (by omega) (by omega) (by omega)
  rw [show fineB b rx ry n = decide (areaR (growR b rx ry rx ry) ≤ n) from (fineB_yes (by omega)).symm]
  go_enter Tryd.func14, Tryd.ntmps14
  go_wp2_with (first | (go_at_call 30; refine (HGr.out _).mono ?_; rintro e w' ⟨rfl, hgw⟩; first | (obtain ⟨gw, rfl⟩ := grows_of_grow hgw) | (obtain ⟨gw, rfl⟩ := hgw)) | (first | (go_at_call 10; refine (ref03_areaR _ _ HR.out).mono ?_; rintro e w' ⟨rfl, hgw⟩; first | (obtain ⟨gw, rfl⟩ := grows_of_grow hgw) | (obtain ⟨gw, rfl⟩ := hgw))))
  go_ret
  exact ⟨rfl, (by repeat (first | exact Grows.refl _ | apply Grows.grow | apply Grows.alloc | apply Grows.drew))⟩
end Go.Proofs.YtklcmlbkhjcaiaaDoor

/- The walk of the reference's 'Fill': pixel by pixel. -/

namespace Go.Proofs.YtklcmlbkhjcaiaaDoor
open Go.RowKit
set_option linter.unusedVariables false

theorem Fits.fill {r s : R} {F : Img} (h : Fits r F) {p : P4} (hp : okP p) : Fits r (fillF r s p F) :=
  ⟨fun x y => by unfold fillF; split; exact hp; exact h.ok x y, fun x y hn => by unfold fillF; rw [if_neg (by simp [hn])]; exact h.out x y hn⟩

set_option maxHeartbeats 3200000 in
theorem ref05_Fill (r s : R) (a : Option Addr) (len cap : Nat) (F : Img) (p : P4) (w : World) (h : Hid (BufAt w r a len cap F)) (hs : cntR r ≤ 30000000000000) (hp : okP p) :
    Calls Tryd.prog 18 #[.agg #[.int .i64 r.x0, .int .i64 r.y0, .int .i64 r.x1, .int .i64 r.y1, .slice a len cap], .agg #[.int .i64 s.x0, .int .i64 s.y0, .int .i64 s.x1, .int .i64 s.y1], .agg #[.int .u8 p.r, .int .u8 p.g, .int .u8 p.b, .int .u8 p.a]] w (RetBuf w r (fillF r s p F)) := by
  have hm := h.out.most
  have hg := h.out.good
  have hbd := hg.bd
  have hle := hg.le
  have HG := Lib.hid hg
  have HF : Hid (Fits r (fillF r s p F)) := h.out.fits.fill hp
  have HFF : Hid (∀ u v, hasR r u v = true → fillF r s p F u v = if hasR s u v = true then p else F u v) := fun u v k => by simp [fillF, k]
  obtain ⟨F', hF'⟩ : ∃ F', F' = fillF r s p F := ⟨_, rfl⟩
  rw [← hF'] at HF HFF ⊢
  clear hg hF'
  go_enter Tryd.func18, Tryd.ntmps18
  go_wp2
  refine wp_name ?_
  intro W0 hW0
  have B0 : Hid (Blk W0 w.heap.size 35 #[.int .i64 r.x0, .int .i64 r.y0, .int .i64 r.x1, .int .i64 r.y1, .slice a len cap]) := by rw [hW0]; exact (by unfold Blk; repeat (first | exact blk_at _ _ _ (by first | omega | (simp; done) | (simp; omega)) | refine (blk_past _ _ _ (by first | omega | (simp; done) | (simp; omega))).trans ?_ | refine (heap_grow _ _ _ (by first | omega | (simp; done) | (simp; omega))).trans ?_ | refine (blk_drew _ _).trans ?_))
  have B1 : Hid (Blk W0 (w.heap.size + 1) 27 #[.int .i64 s.x0, .int .i64 s.y0, .int .i64 s.x1, .int .i64 s.y1]) := by rw [hW0]; exact (by unfold Blk; repeat (first | exact blk_at _ _ _ (by first | omega | (simp; done) | (simp; omega)) | refine (blk_past _ _ _ (by first | omega | (simp; done) | (simp; omega))).trans ?_ | refine (heap_grow _ _ _ (by first | omega | (simp; done) | (simp; omega))).trans ?_ | refine (blk_drew _ _).trans ?_))
  have B2 : Hid (Blk W0 (w.heap.size + 1 + 1) 40 #[.int .u8 p.r, .int .u8 p.g, .int .u8 p.b, .int .u8 p.a]) := by rw [hW0]; exact (by unfold Blk; repeat (first | exact blk_at _ _ _ (by first | omega | (simp; done) | (simp; omega)) | refine (blk_past _ _ _ (by first | omega | (simp; done) | (simp; omega))).trans ?_ | refine (heap_grow _ _ _ (by first | omega | (simp; done) | (simp; omega))).trans ?_ | refine (blk_drew _ _).trans ?_))
  have B3 : Hid (Blk W0 (w.heap.size + 1 + 1 + 1) 35 #[.int .i64 0, .int .i64 0, .int .i64 0, .int .i64 0, .slice none 0 0]) := by rw [hW0]; exact (by unfold Blk; repeat (first | exact blk_at _ _ _ (by first | omega | (simp; done) | (simp; omega)) | refine (blk_past _ _ _ (by first | omega | (simp; done) | (simp; omega))).trans ?_ | refine (heap_grow _ _ _ (by first | omega | (simp; done) | (simp; omega))).trans ?_ | refine (blk_drew _ _).trans ?_))
  have B4 : Blk W0 (w.heap.size + 1 + 1 + 1 + 1) 35 #[.int .i64 r.x0, .int .i64 r.y0, .int .i64 r.x1, .int .i64 r.y1, .slice none 0 0] := by rw [hW0]; exact (by unfold Blk; repeat (first | exact blk_at _ _ _ (by first | omega | (simp; done) | (simp; omega)) | refine (blk_past _ _ _ (by first | omega | (simp; done) | (simp; omega))).trans ?_ | refine (heap_grow _ _ _ (by first | omega | (simp; done) | (simp; omega))).trans ?_ | refine (blk_drew _ _).trans ?_))
  have GW : Hid (Grows w W0) := by rw [hW0]; exact (by repeat (first | exact Grows.refl _ | apply Grows.grow | apply Grows.alloc | apply Grows.drew))
  have hsz : W0.heap.size = w.heap.size + 1 + 1 + 1 + 1 + 1 := by rw [hW0]; simp
  have hsz' : w.heap.size + 1 + 1 + 1 + 1 < W0.heap.size := by omega
  have HS : Hid (BufAt W0 r a len cap F) := h.out.grows GW.out
  have ST : Hid (AppSt W0 W0 (w.heap.size + 1 + 1 + 1 + 1) r none 0 0 (fun i => F' (ptX r i) (ptY r i))) := AppSt.start _ B4
  clear hW0 hsz B4
  go_loopw [8] (fun y wr => ∃ (v : Int) (k : Nat) (a' : Option Addr) (cap' : Nat), r.y0 ≤ v ∧ v ≤ r.y1 ∧ y = .int .i64 v ∧ Hid ((k : Int) = idxR r r.x0 v ∧ AppSt W0 wr (w.heap.size + 1 + 1 + 1 + 1) r a' k cap' (fun i => F' (ptX r i) (ptY r i)))) (fun y _ => (r.y1 - intOf y).toNat)
  case atStart => exact ⟨_, 0, none, 0, by omega, by omega, rfl, by rw [idx_first]; rfl, ST.out⟩
  case round =>
    clear ST
    obtain ⟨v, k, a', cap', hv1, hv2, rfl, hh⟩ := hrel
    have b0 := hh.out.2.blk B0.out (by omega)
    obtain ⟨d0, d1, d2, d3, d4, df⟩ := b0.c5
    by_cases hlt : v < r.y1
    · go_wp2
      clear d0 d1 d2 d3 d4 df b0
      obtain ⟨wo, hwo⟩ : ∃ wo : World, wo = wr := ⟨_, rfl⟩
      clear hwo
      go_loopw [9] (fun x wr => ∃ (u : Int) (k : Nat) (a' : Option Addr) (cap' : Nat), r.x0 ≤ u ∧ u ≤ r.x1 ∧ x = .int .i64 u ∧ Hid ((k : Int) = idxR r u v ∧ AppSt W0 wr (w.heap.size + 1 + 1 + 1 + 1) r a' k cap' (fun i => F' (ptX r i) (ptY r i)))) (fun x _ => (r.x1 - intOf x).toNat)
      case atStart => exact ⟨_, k, a', cap', by omega, by omega, rfl, hh.out⟩
      case round =>
        clear hh
        obtain ⟨u, k, a', cap', hu1, hu2, rfl, hh⟩ := hrel
        have b0 := hh.out.2.blk B0.out (by omega)
        obtain ⟨d0, d1, d2, d3, d4, df⟩ := b0.c5
        by_cases hltx : u < r.x1
        · have hin : hasR r u v = true := (hasR_iff _ _ _).2 (by omega)
          have hcnt := HG.out.idx hin
          have hk : k ≤ 30000000000000 := by have := hh.out.1; omega
          have b1 := hh.out.2.blk B1.out (by omega)
          have b2 := hh.out.2.blk B2.out (by omega)
          obtain ⟨s0, s1, s2, s3, sf⟩ := b1.c4
          obtain ⟨p0, p1, p2, p3, pf⟩ := b2.c4
          have bo := hh.out.2.ob
          obtain ⟨o0, o1, o2, o3, o4, of⟩ := bo.c5
          have l0 := b0.lt
          have l1 := b1.lt
          have l2 := b2.lt
          have lo := bo.lt
          have HSRC : Hid (BufAt wr r a len cap F) := h.out.far HS.out hh.out.2.by_ (by omega)
          have hbase := hh.out.2.by_.size
          have hpx := HFF.out u v hin
          have hfk : Hid ((fun i => F' (ptX r i) (ptY r i)) k = F' u v) := by
            show F' (ptX r k) (ptY r k) = _
            rw [ptX_of hin hh.out.1, ptY_of hin hh.out.1]
          clear b0 b1 b2 bo
          cases hc : hasR s u v
          · rw [hc] at hpx
            simp only [Bool.false_eq_true, if_false] at hpx
            have hfk' : Hid ((fun i => F' (ptX r i) (ptY r i)) k = F u v) := hfk.out.trans hpx
            clear hpx hfk
            go_wp2_with (first | (first | (go_at_call 20; (with_reducible refine (ref05_At _ _ _ _ _ _ _ _ (Lib.hid (BufAt.grows HSRC.out (by repeat (first | exact Grows.refl _ | apply Grows.grow | apply Grows.alloc | apply Grows.drew)))) (by omega)).mono ?_); rintro e w' ⟨rfl, hgw⟩; first | (obtain ⟨gw, rfl⟩ := grows_of_grow hgw) | (obtain ⟨gw, rfl⟩ := hgw)) | (go_at_call 23; refine (ref03_hasR _ _ _ _).mono ?_; rintro e w' ⟨rfl, hgw⟩; first | (obtain ⟨gw, rfl⟩ := grows_of_grow hgw) | (obtain ⟨gw, rfl⟩ := hgw))) | (at_builtin; refine wpList_append_one rfl (.tmp 44) (.tmp 46) rfl W0.heap.size a' k cap' _ (F u v) rfl (ownsRow_grows hh.out.2.own (by repeat (first | exact Grows.refl _ | apply Grows.grow | apply Grows.alloc | apply Grows.drew))) _ 1 rfl (by unfold Blk; repeat (first | exact blk_at _ _ _ (by first | omega | (simp; done) | (simp; omega)) | refine (blk_past _ _ _ (by first | omega | (simp; done) | (simp; omega))).trans ?_ | refine (heap_grow _ _ _ (by first | omega | (simp; done) | (simp; omega))).trans ?_ | refine (blk_drew _ _).trans ?_)) hfk'.out hk (by simp; omega) ?_; intro g c1 w1 h1 h2 h3 h4; obtain ⟨PB, PST⟩ := hh.out.2.push (by repeat (first | exact Grows.refl _ | apply Grows.grow | apply Grows.alloc | apply Grows.drew)) h1 h2; obtain ⟨q0, q1, q2, q3, q4, qf⟩ := PB.c5; have ql := PB.lt; replace PST := Lib.hid PST; clear h1 h2 h3 h4 PB))
            go_roundw
            case rel => exact ⟨u + 1, k + 1, _, _, by omega, by omega, by go_num, by rw [idx_next]; have := hh.out.1; omega, PST.out⟩
            case measure => simp [intOf]; omega
          · rw [hc] at hpx
            simp only [if_true] at hpx
            have hfk' : Hid ((fun i => F' (ptX r i) (ptY r i)) k = p) := hfk.out.trans hpx
            clear hpx hfk
            go_wp2_with (first | (first | (go_at_call 20; (with_reducible refine (ref05_At _ _ _ _ _ _ _ _ (Lib.hid (BufAt.grows HSRC.out (by repeat (first | exact Grows.refl _ | apply Grows.grow | apply Grows.alloc | apply Grows.drew)))) (by omega)).mono ?_); rintro e w' ⟨rfl, hgw⟩; first | (obtain ⟨gw, rfl⟩ := grows_of_grow hgw) | (obtain ⟨gw, rfl⟩ := hgw)) | (go_at_call 23; refine (ref03_hasR _ _ _ _).mono ?_; rintro e w' ⟨rfl, hgw⟩; first | (obtain ⟨gw, rfl⟩ := grows_of_grow hgw) | (obtain ⟨gw, rfl⟩ := hgw))) | (at_builtin; refine wpList_append_one rfl (.tmp 44) (.tmp 46) rfl W0.heap.size a' k cap' _ p rfl (ownsRow_grows hh.out.2.own (by repeat (first | exact Grows.refl _ | apply Grows.grow | apply Grows.alloc | apply Grows.drew))) _ 1 rfl (by unfold Blk; repeat (first | exact blk_at _ _ _ (by first | omega | (simp; done) | (simp; omega)) | refine (blk_past _ _ _ (by first | omega | (simp; done) | (simp; omega))).trans ?_ | refine (heap_grow _ _ _ (by first | omega | (simp; done) | (simp; omega))).trans ?_ | refine (blk_drew _ _).trans ?_)) hfk'.out hk (by simp; omega) ?_; intro g c1 w1 h1 h2 h3 h4; obtain ⟨PB, PST⟩ := hh.out.2.push (by repeat (first | exact Grows.refl _ | apply Grows.grow | apply Grows.alloc | apply Grows.drew)) h1 h2; obtain ⟨q0, q1, q2, q3, q4, qf⟩ := PB.c5; have ql := PB.lt; replace PST := Lib.hid PST; clear h1 h2 h3 h4 PB))
            go_roundw
            case rel => exact ⟨u + 1, k + 1, _, _, by omega, by omega, by go_num, by rw [idx_next]; have := hh.out.1; omega, PST.out⟩
            case measure => simp [intOf]; omega
        · obtain rfl : u = r.x1 := by omega
          go_wp2
          go_roundw
          case rel => exact ⟨v + 1, k, a', cap', by omega, by omega, by go_num, by have := hh.out.1; rw [idx_row] at this; exact this, hh.out.2⟩
          case measure => simp [intOf]; omega
    · obtain rfl : v = r.y1 := by omega
      have bo := hh.out.2.ob
      obtain ⟨o0, o1, o2, o3, o4, of⟩ := bo.c5
      have b3 := hh.out.2.blk B3.out (by omega)
      obtain ⟨e0, e1, e2, e3, e4, ef⟩ := b3.c5
      have H3 := Lib.hid b3
      have l3 := b3.lt
      have lo := bo.lt
      clear b3 bo b0
      go_wp2
      obtain ⟨D1, D2⟩ := hh.out.2.done HG.out HF.out hh.out.1 GW.out (n := w.heap.size + 1 + 1 + 1) (by omega) (by omega) (by omega) (.int .i64 r.x0) (.int .i64 r.y0) (.int .i64 r.x1) (.int .i64 r.y1) (.slice a' k cap')
      refine bodyPost_ret (results_cell_row rfl _ _ _ 35 #[.int .i64 r.x0, .int .i64 r.y0, .int .i64 r.x1, .int .i64 r.y1, .slice a' k cap'] (0, 0) _ rfl (H3.out.set5 _ _ _ _ _) Tryd.underlying35 rfl buf_info) rfl ⟨_, _, _, rfl, D1, D2⟩
end Go.Proofs.YtklcmlbkhjcaiaaDoor
