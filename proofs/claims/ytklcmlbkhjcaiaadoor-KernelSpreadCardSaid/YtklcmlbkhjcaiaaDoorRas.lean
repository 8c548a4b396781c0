/- The walks of layer 5 (raster), the first part: a point's place, a pixel read, a pixel written. -/
import Derived.Test.YtklcmlbkhjcaiaaDoorBuf
import Derived.Test.YtklcmlbkhjcaiaaDoorK2
import Derived.Test.YtklcmlbkhjcaiaaDoorK3
import Derived.Test.YtklcmlbkhjcaiaaDoorBld





namespace Go.Proofs.YtklcmlbkhjcaiaaDoor
open Go.RowKit
set_option linter.unusedVariables false

theorem buf_info : (Tryd.prog.info? 35).map (·.size) = some 5 := by kernel_rfl
theorem px_info : (Tryd.prog.info? 40).map (·.size) = some 4 := by kernel_rfl

set_option maxHeartbeats 400000 in
theorem raster_at (r : R) (a : Option Addr) (len cap : Nat) (x y : Int) (w : World) (hr : GoodR r) (h : hasR r x y = true) (hs : cntR r ≤ 140737488355328) :
    Calls Tryd.prog 91 #[.agg #[.int .i64 r.x0, .int .i64 r.y0, .int .i64 r.x1, .int .i64 r.y1, .slice a len cap], .int .i64 x, .int .i64 y] w fun e w' => e = .returned (.int .i64 (idxR r x y)) ∧ Grows w w' := by
  have k := (hasR_iff r x y).1 h
  have hb := hr.bd
  obtain ⟨i0, i1, i2⟩ := idxR_bd h
  have hc := hr.cnt
  have hm : (y - r.y0) * (r.x1 - r.x0) ≤ idxR r x y := by unfold idxR; omega
  have hm2 : (y - r.y0) * (r.x1 - r.x0) ≤ 140737488355328 := by omega
  clear hc hm i1 i2 h
  go_enter Tryd.func91, Tryd.ntmps91
  go_wp2
  go_ret
  exact ⟨rfl, (by repeat (first | exact Grows.refl _ | apply Grows.grow | apply Grows.alloc | apply Grows.drew))⟩

/-- A point's pixel. -/
theorem hasR_cases (r : R) (x y : Int) : hasR r x y = true ∨ hasR r x y = false := by cases hasR r x y <;> simp

set_option maxHeartbeats 800000 in
theorem raster_At (r : R) (a : Option Addr) (len cap : Nat) (F : Img) (x y : Int) (w : World) (h : Hid (BufAt w r a len cap F)) (hs : cntR r ≤ 140737488355328) :
    Calls Tryd.prog 67 #[.agg #[.int .i64 r.x0, .int .i64 r.y0, .int .i64 r.x1, .int .i64 r.y1, .slice a len cap], .int .i64 x, .int .i64 y] w fun e w' => e = .returned (.agg #[.int .u8 (F x y).r, .int .u8 (F x y).g, .int .u8 (F x y).b, .int .u8 (F x y).a]) ∧ Grows w w' := by
  have hm := h.out.most
  have hg := h.out.good
  have hcn := h.out.count
  cases k : hasR r x y
  · rw [h.out.fits.out x y k]
    clear hs hcn hg
    go_enter Tryd.func67, Tryd.ntmps67
    go_wp2_with ((first | (go_at_call 90; refine (rect_hasR _ _ _ _).mono ?_; rintro e w' ⟨rfl, hgw⟩; first | (obtain ⟨gw, rfl⟩ := grows_of_grow hgw) | (obtain ⟨gw, rfl⟩ := hgw))))
    refine bodyPost_ret (results_cell_row rfl _ _ _ 40 #[.int .u8 0, .int .u8 0, .int .u8 0, .int .u8 0] (0, 0) _ rfl ?_ Tryd.underlying40 rfl px_info) rfl ⟨rfl, (by repeat (first | exact Grows.refl _ | apply Grows.grow | apply Grows.alloc | apply Grows.drew))⟩
    exact (by repeat (first | exact blk_at _ _ _ (by first | omega | (simp; done) | (simp; omega)) | refine (blk_past _ _ _ (by first | omega | (simp; done) | (simp; omega))).trans ?_ | refine (heap_grow _ _ _ (by first | omega | (simp; done) | (simp; omega))).trans ?_ | refine (blk_drew _ _).trans ?_))
  · obtain ⟨b, off, rfl, hb, hok, c0, c1, c2, c3⟩ := h.out.px k
    obtain ⟨-, i1, i2⟩ := idxR_bd k
    have hcc := hg.cnt
    have i3 : idxR r x y < len := by omega
    have H := Lib.hid hg
    clear hcc hcn hg i2
    go_enter Tryd.func67, Tryd.ntmps67
    go_wp2_with ((first | (go_at_call 90; refine (rect_hasR _ _ _ _).mono ?_; rintro e w' ⟨rfl, hgw⟩; first | (obtain ⟨gw, rfl⟩ := grows_of_grow hgw) | (obtain ⟨gw, rfl⟩ := hgw))))
    first | refine region_grow_tail2 8 (by kernel_rfl) (by kernel_rfl) ?_ | refine region_grow_tail 8 (by kernel_rfl) (by kernel_rfl) ?_
    simp only [List.take_succ_cons, List.take_zero, List.drop_succ_cons, List.drop_zero]
    repeat (go_big_quiet_step ((first | (go_at_call 91; exact grow_of (raster_at _ _ _ _ _ _ _ H.out (by assumption) (by omega))))))
    refine wpQuiet_nil ?_
    rintro _ ⟨gr, rfl⟩
    go_wp2
    refine bodyPost_ret (results_cell_row rfl _ _ _ 40 #[.int .u8 (F x y).r, .int .u8 (F x y).g, .int .u8 (F x y).b, .int .u8 (F x y).a] (0, 0) _ rfl ?_ Tryd.underlying40 rfl px_info) rfl ⟨rfl, (by repeat (first | exact Grows.refl _ | apply Grows.grow | apply Grows.alloc | apply Grows.drew))⟩
    exact (by repeat (first | exact blk_at _ _ _ (by first | omega | (simp; done) | (simp; omega)) | refine (blk_past _ _ _ (by first | omega | (simp; done) | (simp; omega))).trans ?_ | refine (heap_grow _ _ _ (by first | omega | (simp; done) | (simp; omega))).trans ?_ | refine (blk_drew _ _).trans ?_))

set_option maxHeartbeats 1600000 in
theorem raster_Put (o : Nat) (r : R) (a : Option Addr) (len cap : Nat) (F : Img) (x y : Int) (p : P4) (w : World) (ho : Hid (Blk w o 35 #[.int .i64 r.x0, .int .i64 r.y0, .int .i64 r.x1, .int .i64 r.y1, .slice a len cap])) (h : Hid (BufAt w r a len cap F)) (hop : Hid (Open w a)) (hs : cntR r ≤ 140737488355328) (hp : okP p) :
    Calls Tryd.prog 66 #[.pointer (some ⟨o, 0, none⟩), .int .i64 x, .int .i64 y, .agg #[.int .u8 p.r, .int .u8 p.g, .int .u8 p.b, .int .u8 p.a]] w fun e w' => e = .returned (.tuple #[]) ∧ w.grownBy w' (blkOf a) ∧ BufAt w' r a len cap (putF r F x y p) ∧ Open w' a := by
  have hm := h.out.most
  have hg := h.out.good
  have hcn := h.out.count
  have holt := ho.out.lt
  obtain ⟨o0, o1, o2, o3, o4, of⟩ := ho.out.c5
  cases k : hasR r x y
  · have hF : putF r F x y p = F := by
      funext u v
      unfold putF
      rw [if_neg]
      rintro ⟨h1, -⟩
      rw [k] at h1
      cases h1
    rw [hF]
    clear hs hcn hg hF hp
    go_enter Tryd.func66, Tryd.ntmps66
    go_wp2_with ((first | (go_at_call 90; refine (rect_hasR _ _ _ _).mono ?_; rintro e w' ⟨rfl, hgw⟩; first | (obtain ⟨gw, rfl⟩ := grows_of_grow hgw) | (obtain ⟨gw, rfl⟩ := hgw))))
    go_end0
    exact ⟨rfl, grownBy_of_grows (by repeat (first | exact Grows.refl _ | apply Grows.grow | apply Grows.alloc | apply Grows.drew)) _, h.out.grows (by repeat (first | exact Grows.refl _ | apply Grows.grow | apply Grows.alloc | apply Grows.drew)), hop.out.grows (by repeat (first | exact Grows.refl _ | apply Grows.grow | apply Grows.alloc | apply Grows.drew))⟩
  · obtain ⟨b, off, rfl, hb, hok, c0, c1, c2, c3⟩ := h.out.px k
    obtain ⟨-, i1, i2⟩ := idxR_bd k
    have hcc := hg.cnt
    have i3 : idxR r x y < len := by omega
    have H := Lib.hid hg
    have hf := (hop.out _ rfl).2
    clear hcc hcn hg i2
    go_enter Tryd.func66, Tryd.ntmps66
    go_wp2_with ((first | (go_at_call 90; refine (rect_hasR _ _ _ _).mono ?_; rintro e w' ⟨rfl, hgw⟩; first | (obtain ⟨gw, rfl⟩ := grows_of_grow hgw) | (obtain ⟨gw, rfl⟩ := hgw))))
    first | refine region_grow_tail2 12 (by kernel_rfl) (by kernel_rfl) ?_ | refine region_grow_tail 12 (by kernel_rfl) (by kernel_rfl) ?_
    simp only [List.take_succ_cons, List.take_zero, List.drop_succ_cons, List.drop_zero]
    repeat (go_big_quiet_step ((first | (go_at_call 91; exact grow_of (raster_at _ _ _ _ _ _ _ H.out (by assumption) (by omega))))))
    refine wpQuiet_nil ?_
    rintro _ ⟨gr, rfl⟩
    go_wp2
    go_end0
    have B := h.out.set rfl k hp
    have O := hop.out.setCells b (off + (idxR r x y).toNat * 4) (pxC p)
    have W := grownBy_setCells w b (off + (idxR r x y).toNat * 4) (pxC p)
    exact ⟨rfl, grownBy_grows W (by repeat (first | exact Grows.refl _ | apply Grows.grow | apply Grows.alloc | apply Grows.drew)), B.grows (by repeat (first | exact Grows.refl _ | apply Grows.grow | apply Grows.alloc | apply Grows.drew)), O.grows (by repeat (first | exact Grows.refl _ | apply Grows.grow | apply Grows.alloc | apply Grows.drew))⟩
end Go.Proofs.YtklcmlbkhjcaiaaDoor
