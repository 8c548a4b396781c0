/- The walks of layer 5 (raster), the second part: new buffers, rows, filled. -/
import Derived.Test.YtklcmlbkhjcaiaaDoorRas
import Derived.Test.YtklcmlbkhjcaiaaDoorApp
import Derived.Laws.MakeOwn
import Derived.Deep.RegionHeld3
import Derived.Test.YtklcmlbkhjcaiaaDoorBufC





namespace Go.Proofs.YtklcmlbkhjcaiaaDoor
open Go.RowKit
set_option linter.unusedVariables false

theorem rect_areaC (r : R) (w : World) (h : GoodR r) (hs : cntR r ≤ 140737488355328) : Calls Tryd.prog 81 #[.agg #[.int .i64 r.x0, .int .i64 r.y0, .int .i64 r.x1, .int .i64 r.y1]] w fun e w' => e = .returned (.int .i64 (cntR r : Int)) ∧ Grows w w' := by
  have := rect_areaR r w h
  rw [h.area' (by omega)] at this
  exact this

set_option maxHeartbeats 1600000 in
theorem raster_New (r : R) (w : World) (hr : rightR r = true) (hs : cntR (someR r) ≤ 35184372088832) :
    Calls Tryd.prog 59 #[.agg #[.int .i64 r.x0, .int .i64 r.y0, .int .i64 r.x1, .int .i64 r.y1]] w (RetBuf w (someR r) noF) := by
  cases he : emptyR r
  · have e : someR r = r := by simp [someR, he]
    rw [e] at hs ⊢
    have hg : GoodR r := by have := good_some hr; rwa [e] at this
    have HG := Lib.hid hg
    have hmk := make_px (cntR r) hs
    clear hg e hr
    go_enter Tryd.func59, Tryd.ntmps59
    go_wp2_with ((first | (go_at_call 80; refine (rect_emptyR _ _).mono ?_; rintro e w' ⟨rfl, hgw⟩; first | (obtain ⟨gw, rfl⟩ := grows_of_grow hgw) | (obtain ⟨gw, rfl⟩ := hgw))))
    go_region_held3 (fun w' => w'.cell? ⟨w.heap.size, 0, none⟩ = some (.int .i64 r.x0) ∧ w'.cell? ⟨w.heap.size, 1, none⟩ = some (.int .i64 r.y0) ∧ w'.cell? ⟨w.heap.size, 2, none⟩ = some (.int .i64 r.x1) ∧ w'.cell? ⟨w.heap.size, 3, none⟩ = some (.int .i64 r.y1)) (go_simp) ((first | (go_at_call 81; refine (rect_areaC _ _ HG.out (by omega)).mono ?_; rintro e w' ⟨rfl, hgw⟩; first | (obtain ⟨gw, rfl⟩ := grows_of_grow hgw) | (obtain ⟨gw, rfl⟩ := hgw))))
    go_wp2
    refine bodyPost_ret (results_cell_row rfl _ _ _ 35 #[.int .i64 r.x0, .int .i64 r.y0, .int .i64 r.x1, .int .i64 r.y1, .slice (some ⟨w.heap.size + 1 + 1 + gw.news.size, 0, none⟩) (cntR r) (cntR r)] (0, 0) _ rfl ?_ Tryd.underlying35 rfl buf_info) rfl ?_
    · exact (by repeat (first | exact blk_at _ _ _ (by first | omega | (simp; done) | (simp; omega)) | refine (blk_past _ _ _ (by first | omega | (simp; done) | (simp; omega))).trans ?_ | refine (heap_grow _ _ _ (by first | omega | (simp; done) | (simp; omega))).trans ?_ | refine (blk_drew _ _).trans ?_))
    · exact ⟨_, _, _, rfl, (by repeat (first | exact Grows.refl _ | apply Grows.grow | apply Grows.alloc | apply Grows.drew)), bufAt_made (t := 40) HG.out (by omega) (by unfold Blk; repeat (first | exact blk_at _ _ _ (by first | omega | (simp; done) | (simp; omega)) | refine (blk_past _ _ _ (by first | omega | (simp; done) | (simp; omega))).trans ?_ | refine (heap_grow _ _ _ (by first | omega | (simp; done) | (simp; omega))).trans ?_ | refine (blk_drew _ _).trans ?_)), open_of_block (t := 40) (cs := madeCells #[.int .u8 0, .int .u8 0, .int .u8 0, .int .u8 0] (cntR r * 4)) (by unfold Blk; repeat (first | exact blk_at _ _ _ (by first | omega | (simp; done) | (simp; omega)) | refine (blk_past _ _ _ (by first | omega | (simp; done) | (simp; omega))).trans ?_ | refine (heap_grow _ _ _ (by first | omega | (simp; done) | (simp; omega))).trans ?_ | refine (blk_drew _ _).trans ?_)), fun x hx => by cases hx; show w.heap.size ≤ w.heap.size + 1 + 1 + gw.news.size; omega⟩
  · have e : someR r = zeroR := by simp [someR, he]
    rw [e]
    clear e hs hr
    go_enter Tryd.func59, Tryd.ntmps59
    go_wp2_with ((first | (go_at_call 80; refine (rect_emptyR _ _).mono ?_; rintro e w' ⟨rfl, hgw⟩; first | (obtain ⟨gw, rfl⟩ := grows_of_grow hgw) | (obtain ⟨gw, rfl⟩ := hgw))))
    refine bodyPost_ret (results_cell_row rfl _ _ _ 35 #[.int .i64 0, .int .i64 0, .int .i64 0, .int .i64 0, .slice none 0 0] (0, 0) _ rfl ?_ Tryd.underlying35 rfl buf_info) rfl ⟨_, _, _, rfl, (by repeat (first | exact Grows.refl _ | apply Grows.grow | apply Grows.alloc | apply Grows.drew)), bufAt_zero _, Open.none_ _, fun x hx => by cases hx⟩
    exact (by repeat (first | exact blk_at _ _ _ (by first | omega | (simp; done) | (simp; omega)) | refine (blk_past _ _ _ (by first | omega | (simp; done) | (simp; omega))).trans ?_ | refine (heap_grow _ _ _ (by first | omega | (simp; done) | (simp; omega))).trans ?_ | refine (blk_drew _ _).trans ?_))

set_option maxHeartbeats 800000 in
/-- A row of a rectangle within the box: its pixels begin at the first point's place. -/
theorem raster_row (r s : R) (b off len cap n c2 : Nat) (y : Int) (w : World) (hr : GoodR r) (hc : len = cntR r) (hle : len ≤ cap) (hm : cap ≤ 9223372036854775807) (hs : cntR r ≤ 140737488355328) (h0 : hasR r s.x0 y = true) (h1 : s.x1 - s.x0 ≤ n) (h1' : n ≤ s.x1 - s.x0) (h2 : s.x1 ≤ r.x1) (h3 : c2 + (idxR r s.x0 y).toNat = cap) :
    Calls Tryd.prog 83 #[.agg #[.int .i64 r.x0, .int .i64 r.y0, .int .i64 r.x1, .int .i64 r.y1, .slice (some ⟨b, off, none⟩) len cap], .agg #[.int .i64 s.x0, .int .i64 s.y0, .int .i64 s.x1, .int .i64 s.y1], .int .i64 y] w fun e w' => e = .returned (.slice (some ⟨b, off + (idxR r s.x0 y).toNat * 4, none⟩) n c2) ∧ Grows w w' := by
  have k := (hasR_iff r _ _).1 h0
  have hb := hr.bd
  obtain rfl : cap - (idxR r s.x0 y).toNat = c2 := by omega
  clear h3
  obtain ⟨i0, i1, i2⟩ := idxR_bd h0
  have hcn := hr.cnt
  have i3 : idxR r s.x0 y + (s.x1 - s.x0) ≤ len := by
    have e : idxR r (s.x1 - 1) y = idxR r s.x0 y + (s.x1 - 1 - s.x0) := by unfold idxR; omega
    by_cases hx : s.x0 = s.x1
    · omega
    · have h3 : hasR r (s.x1 - 1) y = true := (hasR_iff _ _ _).2 (by omega)
      have := (idxR_bd h3).2.2
      omega
  have hidx : idxR r s.x0 y < len := by omega
  have hidx2 : idxR r s.x0 y ≤ 140737488355328 := by omega
  have hidx3 : idxR r s.x0 y < cap := by omega
  have hidx4 : idxR r s.x0 y + s.x1 - s.x0 ≤ cap := by omega
  have H := Lib.hid hr
  have hlen := Lib.hid hc
  clear hcn hc i0 i2 hr
  go_enter Tryd.func83, Tryd.ntmps83
  go_wp2_with ((first | (go_at_call 91; refine (raster_at _ _ _ _ _ _ _ H.out (by assumption) (by omega)).mono ?_; rintro e w' ⟨rfl, hgw⟩; first | (obtain ⟨gw, rfl⟩ := grows_of_grow hgw) | (obtain ⟨gw, rfl⟩ := hgw))))
  go_ret
  exact ⟨by rw [show (idxR r s.x0 y + s.x1 - s.x0).toNat - (idxR r s.x0 y).toNat = n from by omega]; rfl, (by repeat (first | exact Grows.refl _ | apply Grows.grow | apply Grows.alloc | apply Grows.drew))⟩

/-- A row's length and capacity. -/
theorem row_room {r s : R} {len cap : Nat} {y : Int} (hr : GoodR r) (hc : len = cntR r) (hle : len ≤ cap) (h0 : hasR r s.x0 y = true) (h1 : s.x0 ≤ s.x1) (h2 : s.x1 ≤ r.x1) :
    ∃ n c2 : Nat, s.x1 - s.x0 ≤ n ∧ n ≤ s.x1 - s.x0 ∧ n ≤ c2 ∧ c2 ≤ cap ∧ Hid (c2 + (idxR r s.x0 y).toNat = cap) := by
  have k := (hasR_iff r _ _).1 h0
  obtain ⟨i0, i1, i2⟩ := idxR_bd h0
  have hcn := hr.cnt
  have i3 : idxR r s.x0 y + (s.x1 - s.x0) ≤ len := by
    have e : idxR r (s.x1 - 1) y = idxR r s.x0 y + (s.x1 - 1 - s.x0) := by unfold idxR; omega
    by_cases hx : s.x0 = s.x1
    · omega
    · have h3 : hasR r (s.x1 - 1) y = true := (hasR_iff _ _ _).2 (by omega)
      have := (idxR_bd h3).2.2
      omega
  exact ⟨(s.x1 - s.x0).toNat, cap - (idxR r s.x0 y).toNat, by omega, by omega, by omega, by omega, show _ = _ by omega⟩
end Go.Proofs.YtklcmlbkhjcaiaaDoor
/- The walks of layer 5 (raster), the third part: a rectangle filled. -/

namespace Go.Proofs.YtklcmlbkhjcaiaaDoor
open Go.RowKit
set_option linter.unusedVariables false

theorem bounds_meet (r s : R) (h : GoodR r) : (r.x0 ≤ (meetR s r).x0 ∨ (meetR s r) = zeroR) := by
  unfold meetR someR
  split
  · exact .inr rfl
  · simp only [mxI_eq]; exact .inl (by omega)
/-- A row of the meeting lies within the box. -/
theorem meet_row {r s : R} {y : Int} (h1 : (meetR s r).y0 ≤ y) (h2 : y < (meetR s r).y1) (hg : GoodR (meetR s r)) : (meetR s r).x0 < (meetR s r).x1 ∧ hasR r (meetR s r).x0 y = true ∧ (meetR s r).x1 ≤ r.x1 ∧ ∀ x, (meetR s r).x0 ≤ x → x < (meetR s r).x1 → hasR r x y = true ∧ hasR (meetR s r) x y = true := by
  have hne : emptyR (meetR s r) = false := by
    cases he : emptyR (meetR s r)
    · rfl
    · have := hg.zero he
      rw [this] at h1 h2
      simp [zeroR] at h1 h2
      omega
  have k := (emptyR_not _).1 hne
  have hx : ∀ x, (meetR s r).x0 ≤ x → x < (meetR s r).x1 → hasR (meetR s r) x y = true := fun x a b => (hasR_iff _ _ _).2 ⟨a, b, h1, h2⟩
  have hr : ∀ x, (meetR s r).x0 ≤ x → x < (meetR s r).x1 → hasR r x y = true := fun x a b => by
    have := hx x a b
    rw [has_meet, Bool.and_eq_true] at this
    exact this.2
  refine ⟨k.1, hr _ (by omega) k.1, ?_, fun x a b => ⟨hr x a b, hx x a b⟩⟩
  have := (hasR_iff _ _ _).1 (hr ((meetR s r).x1 - 1) (by omega) (by omega))
  omega

end Go.Proofs.YtklcmlbkhjcaiaaDoor

/- The walks of layer 5 (raster), the fourth part: a rectangle copied. -/


namespace Go.Proofs.YtklcmlbkhjcaiaaDoor
open Go.RowKit
set_option linter.unusedVariables false

theorem zero_px (w : World) : (zeroValue 40).run Tryd.prog w = .ok (.agg #[.int .u8 0, .int .u8 0, .int .u8 0, .int .u8 0]) w := by kernel_rfl

/-- What holds while a buffer is being copied to. -/
structure CopySt (w wr : World) (o n0 n1 n2 : Nat) (r rf m t : R) (a : Option Addr) (len cap : Nat) (F : Img) (af : Option Addr) (lf cf : Nat) (G : Img) : Prop where
  ob : Blk wr o 35 #[.int .i64 r.x0, .int .i64 r.y0, .int .i64 r.x1, .int .i64 r.y1, .slice a len cap]
  fb : Blk wr n0 35 #[.int .i64 rf.x0, .int .i64 rf.y0, .int .i64 rf.x1, .int .i64 rf.y1, .slice af lf cf]
  mb : Blk wr n1 27 #[.int .i64 m.x0, .int .i64 m.y0, .int .i64 m.x1, .int .i64 m.y1]
  tb : Blk wr n2 27 #[.int .i64 t.x0, .int .i64 t.y0, .int .i64 t.x1, .int .i64 t.y1]
  by_ : w.grownBy wr (blkOf a)
  buf : BufAt wr r a len cap F
  open_ : Open wr a
  src : BufAt wr rf af lf cf G
section
variable {w wr w' : World} {o n0 n1 n2 : Nat} {r rf m t : R} {a af : Option Addr} {len cap lf cf : Nat} {F G : Img}
theorem CopySt.grows (h : CopySt w wr o n0 n1 n2 r rf m t a len cap F af lf cf G) (g : Grows wr w') : CopySt w w' o n0 n1 n2 r rf m t a len cap F af lf cf G :=
  ⟨h.ob.grows g, h.fb.grows g, h.mb.grows g, h.tb.grows g, grownBy_grows h.by_ g, h.buf.grows g, h.open_.grows g, h.src.grows g⟩
theorem CopySt.set {b off : Nat} (h : CopySt w wr o n0 n1 n2 r rf m t (some ⟨b, off, none⟩) len cap F af lf cf G) (ho : b ≠ o) (h0 : b ≠ n0) (h1 : b ≠ n1) (h2 : b ≠ n2) (hf : 0 < lf → ∀ x, af = some x → x.block ≠ b) (K : Img) {x y : Int} (d k : Nat) (hx : hasR r x y = true) (hk : ∀ i : Nat, i < k → hasR r (x + d + i) y = true) (hok : ∀ i : Nat, i < k → okP (K (x + d + i) y)) :
    CopySt w (wr.setCells b (off + (idxR r x y).toNat * 4 + d * 4) (cellsP (fun i => K (x + d + i) y) k)) o n0 n1 n2 r rf m t (some ⟨b, off, none⟩) len cap (rowF F K (x + d) y k) af lf cf G := by
  have g := grownBy_setCells wr b (off + (idxR r x y).toNat * 4 + d * 4) (cellsP (fun i => K (x + d + i) y) k)
  exact ⟨h.ob.grown g (by simpa using fun e => ho e.symm), h.fb.grown g (by simpa using fun e => h0 e.symm), h.mb.grown g (by simpa using fun e => h1 e.symm), h.tb.grown g (by simpa using fun e => h2 e.symm), h.by_.trans g, h.buf.setRowD hx d k hk hok, h.open_.setCells _ _ _, h.src.grown g (fun h0 x hx => by simpa using hf h0 x hx)⟩
end

/-- What two rectangles have in common lies in the first. -/
theorem meet_in (m q : R) (h : GoodR m) : (-4398046511104 ≤ (meetR m q).x0 ∧ (meetR m q).x0 ≤ 4398046511104) ∧ (-4398046511104 ≤ (meetR m q).y0 ∧ (meetR m q).y0 ≤ 4398046511104) ∧ (-4398046511104 ≤ (meetR m q).x1 ∧ (meetR m q).x1 ≤ 4398046511104) ∧ (-4398046511104 ≤ (meetR m q).y1 ∧ (meetR m q).y1 ≤ 4398046511104) := by
  have hb := h.bd
  unfold meetR someR
  split
  · simp [zeroR]
  · rename_i he
    have he' := (emptyR_not _).1 (by simpa using he)
    simp only [mxI_eq, mnI_eq] at he' ⊢
    omega
theorem meet_row_in {m q : R} {v : Int} (h1 : (meetR m q).y0 ≤ v) (h2 : v < (meetR m q).y1) : (meetR m q).x0 < (meetR m q).x1 ∧ m.x0 ≤ (meetR m q).x0 ∧ (meetR m q).x1 ≤ m.x1 ∧ ∀ u, (meetR m q).x0 ≤ u → u < (meetR m q).x1 → hasR (meetR m q) u v = true := by
  have hne : emptyR (meetR m q) = false := by
    cases he : emptyR (meetR m q)
    · rfl
    · unfold meetR at he h1 h2
      rw [emptyR_some] at he
      unfold someR at h1 h2
      rw [if_pos he] at h1 h2
      simp [zeroR] at h1 h2
      omega
  have k := (emptyR_not _).1 hne
  refine ⟨k.1, ?_, ?_, fun u a b => (hasR_iff _ _ _).2 ⟨a, b, h1, h2⟩⟩
  all_goals
    unfold meetR at hne ⊢
    rw [emptyR_some] at hne
    unfold someR
    rw [if_neg (by simp [hne])]
    simp only [mxI_eq, mnI_eq]
    omega
theorem hasR_shift (r : R) (dx dy x y : Int) : hasR ⟨r.x0 + dx, r.y0 + dy, r.x1 + dx, r.y1 + dy⟩ x y = hasR r (x - dx) (y - dy) := by
  rw [Bool.eq_iff_iff, hasR_iff, hasR_iff]
  simp only
  omega

set_option maxRecDepth 100000 in
set_option maxHeartbeats 6400000 in
theorem raster_Copy (o : Nat) (r s rf : R) (dx dy : Int) (a af : Option Addr) (len cap lf cf : Nat) (F G : Img) (w : World)
    (ho : Hid (Blk w o 35 #[.int .i64 r.x0, .int .i64 r.y0, .int .i64 r.x1, .int .i64 r.y1, .slice a len cap])) (h : Hid (BufAt w r a len cap F)) (hop : Hid (Open w a)) (hne : blkOf a ≠ some o)
    (hf : Hid (BufAt w rf af lf cf G)) (hna : 0 < lf → ∀ x y, af = some x → a = some y → x.block ≠ y.block) (hs : cntR r ≤ 140737488355328) (hsf : cntR rf ≤ 140737488355328) (hsr : rightR s = true) (hdx : -4398046511104 ≤ dx ∧ dx ≤ 4398046511104) (hdy : -4398046511104 ≤ dy ∧ dy ≤ 4398046511104) :
    Calls Tryd.prog 60 #[.pointer (some ⟨o, 0, none⟩), .agg #[.int .i64 rf.x0, .int .i64 rf.y0, .int .i64 rf.x1, .int .i64 rf.y1, .slice af lf cf], .agg #[.int .i64 s.x0, .int .i64 s.y0, .int .i64 s.x1, .int .i64 s.y1], .int .i64 dx, .int .i64 dy] w fun e w' => e = .returned (.tuple #[]) ∧ w.grownBy w' (blkOf a) ∧ BufAt w' r a len cap (copyF r s dx dy F G) ∧ Open w' a := by
  have hm := h.out.most
  have hmf := hf.out.most
  have hg := h.out.good
  have hcn := h.out.count
  have holt := ho.out.lt
  have hgm : GoodR (meetR s r) := good_meet hsr hg.near
  have hmb := hgm.bd
  have hle := hgm.le
  have hgf := hf.out.good
  have hfb := hgf.bd
  have hcf := hf.out.count
  obtain ⟨o0, o1, o2, o3, o4, of⟩ := ho.out.c5
  have HG := Lib.hid hg
  have HM := Lib.hid hgm
  have HC := Lib.hid hcn
  have HN := Lib.hid hne
  have HGf := Lib.hid hgf
  have HCf := Lib.hid hcf
  have HNA := Lib.hid hna
  obtain ⟨t, ht⟩ : ∃ t, t = meetR (meetR s r) ⟨rf.x0 + dx, rf.y0 + dy, rf.x1 + dx, rf.y1 + dy⟩ := ⟨_, rfl⟩
  have htb := meet_in (meetR s r) ⟨rf.x0 + dx, rf.y0 + dy, rf.x1 + dx, rf.y1 + dy⟩ hgm
  have HT : Hid (∀ v, t.y0 ≤ v → v < t.y1 → t.x0 < t.x1 ∧ (meetR s r).x0 ≤ t.x0 ∧ t.x1 ≤ (meetR s r).x1 ∧ ∀ u, t.x0 ≤ u → u < t.x1 → hasR t u v = true) := fun v a b => by rw [ht] at a b ⊢; exact meet_row_in a b
  have HH : Hid (∀ u v, hasR t u v = (hasR (meetR s r) u v && hasR rf (u - dx) (v - dy))) := fun u v => by rw [ht, has_meet, hasR_shift]
  have hmeet : Hid (∀ w, Calls Tryd.prog 82 #[.agg #[.int .i64 (meetR s r).x0, .int .i64 (meetR s r).y0, .int .i64 (meetR s r).x1, .int .i64 (meetR s r).y1], .agg #[.int .i64 (rf.x0 + dx), .int .i64 (rf.y0 + dy), .int .i64 (rf.x1 + dx), .int .i64 (rf.y1 + dy)]] w fun e w' => e = .returned (.agg #[.int .i64 t.x0, .int .i64 t.y0, .int .i64 t.x1, .int .i64 t.y1]) ∧ Grows w w') := fun w => by rw [ht]; exact rect_meetR (meetR s r) ⟨rf.x0 + dx, rf.y0 + dy, rf.x1 + dx, rf.y1 + dy⟩ w
  rw [← ht] at htb
  clear hgm hg hcn hsr hne hgf hcf hna ht
  go_enter Tryd.func60, Tryd.ntmps60
  go_wp2
  first | refine region_grow_tail2 6 (by kernel_rfl) (by kernel_rfl) ?_ | refine region_grow_tail 6 (by kernel_rfl) (by kernel_rfl) ?_
  simp only [List.take_succ_cons, List.take_zero, List.drop_succ_cons, List.drop_zero]
  repeat (go_big_quiet_step ((first | (go_at_call 82; exact grow_of (rect_meetR _ _ _)))))
  refine wpQuiet_nil ?_
  rintro _ ⟨gr, rfl⟩
  go_wp2_with ((go_at_call 82; refine (hmeet.out _).mono ?_; rintro e w' ⟨rfl, hgw⟩; first | (obtain ⟨gw, rfl⟩ := grows_of_grow hgw) | (obtain ⟨gw, rfl⟩ := hgw)))
  clear hgw
  obtain ⟨n2, hn2⟩ : ∃ n2 : Nat, n2 = w.heap.size + 1 + 1 + gw.news.size := ⟨_, rfl⟩
  have hn2' : w.heap.size + 1 < n2 := by omega
  rw [← hn2]
  go_loopw [11] (fun y wr => ∃ v : Int, (meetR s r).y0 ≤ v ∧ v ≤ (meetR s r).y1 ∧ y = .int .i64 v ∧ Hid (CopySt w wr o w.heap.size (w.heap.size + 1) n2 r rf (meetR s r) t a len cap (rowsF (meetR s r) (shiftF dx dy G) v F) af lf cf G)) (fun y _ => ((meetR s r).y1 - intOf y).toNat)
  case atStart =>
    refine ⟨_, by omega, by omega, rfl, ?_⟩
    subst hn2
    exact ⟨ho.out.grows (by repeat (first | exact Grows.refl _ | apply Grows.grow | apply Grows.alloc | apply Grows.drew)), (by unfold Blk; repeat (first | exact blk_at _ _ _ (by first | omega | (simp; done) | (simp; omega)) | refine (blk_past _ _ _ (by first | omega | (simp; done) | (simp; omega))).trans ?_ | refine (heap_grow _ _ _ (by first | omega | (simp; done) | (simp; omega))).trans ?_ | refine (blk_drew _ _).trans ?_)), (by unfold Blk; repeat (first | exact blk_at _ _ _ (by first | omega | (simp; done) | (simp; omega)) | refine (blk_past _ _ _ (by first | omega | (simp; done) | (simp; omega))).trans ?_ | refine (heap_grow _ _ _ (by first | omega | (simp; done) | (simp; omega))).trans ?_ | refine (blk_drew _ _).trans ?_)), (by unfold Blk; repeat (first | exact blk_at _ _ _ (by first | omega | (simp; done) | (simp; omega)) | refine (blk_past _ _ _ (by first | omega | (simp; done) | (simp; omega))).trans ?_ | refine (heap_grow _ _ _ (by first | omega | (simp; done) | (simp; omega))).trans ?_ | refine (blk_drew _ _).trans ?_)), grownBy_of_grows (by repeat (first | exact Grows.refl _ | apply Grows.grow | apply Grows.alloc | apply Grows.drew)) _, by rw [rowsF_first]; exact h.out.grows (by repeat (first | exact Grows.refl _ | apply Grows.grow | apply Grows.alloc | apply Grows.drew)), hop.out.grows (by repeat (first | exact Grows.refl _ | apply Grows.grow | apply Grows.alloc | apply Grows.drew)), hf.out.grows (by repeat (first | exact Grows.refl _ | apply Grows.grow | apply Grows.alloc | apply Grows.drew))⟩
  case round =>
    clear o0 o1 o2 o3 o4 of hn2
    obtain ⟨v, hv1, hv2, rfl, hh⟩ := hrel
    obtain ⟨m0, m1, m2, m3, mf⟩ := hh.out.mb.c4
    by_cases hlt : v < (meetR s r).y1
    · obtain ⟨hx01, hx0, hx1, hrow⟩ := meet_row hv1 hlt HM.out
      obtain ⟨b, off, rfl, hb, -, -, -, -, -⟩ := hh.out.buf.px hx0
      have hbw : b < w.heap.size := (hop.out _ rfl).1
      have hbo : b ≠ o := fun e => HN.out (by rw [e]; rfl)
      have hbf : 0 < lf → ∀ x, af = some x → x.block ≠ b := fun h0 x hx => HNA.out h0 x _ hx rfl
      obtain ⟨o0, o1, o2, o3, o4, of⟩ := hh.out.ob.c5
      obtain ⟨f0, f1, f2, f3, f4, ff⟩ := hh.out.fb.c5
      obtain ⟨t0, t1, t2, t3, tf⟩ := hh.out.tb.c4
      have lo := hh.out.ob.lt
      have lf' := hh.out.fb.lt
      have lm := hh.out.mb.lt
      have lt := hh.out.tb.lt
      obtain ⟨n, c2, hn1, hn2, hnc, hc2, HC2⟩ := row_room (s := meetR s r) HG.out HC.out hm.1 hx0 (by omega) hx1
      have HR := Lib.hid hrow
      have HBF := Lib.hid hbf
      clear hrow hbf
      by_cases hin : t.y0 ≤ v ∧ v < t.y1
      · obtain ⟨tx, tl, tr, tw⟩ := HT.out v hin.1 hin.2
        have hit := tw t.x0 (by omega) tx
        have hfe : emptyR rf = false := hasR_not_empty (x := t.x0 - dx) (y := v - dy) (by have := HH.out t.x0 v; rw [hit] at this; symm at this; rw [Bool.and_eq_true] at this; exact this.2)
        have hfr : ∀ u, t.x0 ≤ u → u < t.x1 → hasR rf (u - dx) (v - dy) = true := fun u a b => by have := HH.out u v; rw [tw u a b] at this; symm at this; rw [Bool.and_eq_true] at this; exact this.2
        have hfr0 := hfr t.x0 (by omega) tx
        have hfr1 := (hasR_iff _ _ _).1 (hfr (t.x1 - 1) (by omega) (by omega))
        obtain ⟨bf, offf, rfl, hbf, -, -, -, -, -⟩ := hh.out.src.px hfr0
        obtain ⟨n3, c3, q1, q2, q3, q4, HC3⟩ := row_room (s := ⟨t.x0 - dx, v - dy, t.x1 - dx, v - dy + 1⟩) HGf.out HCf.out hmf.1 hfr0 (by simp only; omega) (by simp only; omega)
        simp only at q1 q2 HC3
        have HFR := Lib.hid hfr
        clear tw hfr
        go_wp2
        first | refine region_grow2 (by kernel_rfl) (by kernel_rfl) ?_ | refine region_grow (by kernel_rfl) (by kernel_rfl) ?_
        repeat (go_big_quiet_step ((first | (go_at_call 83; exact grow_of (raster_row _ _ _ _ _ _ n c2 _ _ HG.out HC.out (by omega) (by omega) (by omega) (by assumption) (by omega) (by omega) (by omega) HC2.out)))))
        refine wpQuiet_nil ?_
        rintro _ ⟨gr, rfl⟩
        go_wp2_with ((first | (go_at_call 80; refine (rect_emptyR _ _).mono ?_; rintro e w' ⟨rfl, hgw⟩; first | (obtain ⟨gw, rfl⟩ := grows_of_grow hgw) | (obtain ⟨gw, rfl⟩ := hgw))))
        have k1 : ((t.x0 - (meetR s r).x0).toNat : Int) = t.x0 - (meetR s r).x0 := Int.toNat_of_nonneg (by omega)
        have k2 : ((t.x1 - (meetR s r).x0).toNat : Int) = t.x1 - (meetR s r).x0 := Int.toNat_of_nonneg (by omega)
        have st0 : CopySt w (grow wr gw) o w.heap.size (w.heap.size + 1) n2 r rf (meetR s r) t (some ⟨b, off, none⟩) len cap (rowsF (meetR s r) (shiftF dx dy G) v F) (some ⟨bf, offf, none⟩) lf cf G := hh.out.grows (by repeat (first | exact Grows.refl _ | apply Grows.grow | apply Grows.alloc | apply Grows.drew))
        have st1 := st0.set hbo (by omega) (by omega) (by omega) HBF.out noF (d := 0) (k := (t.x0 - (meetR s r).x0).toNat) hx0 (fun i hi => (HR.out _ (by omega) (by omega)).1) (fun i hi => okP_no)
        have th1 := st0.buf.thereD (d := 0) (k := (t.x0 - (meetR s r).x0).toNat) hx0 (fun i hi => (HR.out _ (by omega) (by omega)).1)
        simp only [Nat.zero_mul, Nat.add_zero, Int.natCast_zero, Int.add_zero] at st1 th1
        rw [run_clear_px (P := Tryd.prog) (grow wr gw) 33 40 0 Tryd.underlying33 zero_px (some ⟨b, off + (idxR r (meetR s r).x0 v).toNat * 4, none⟩) b (off + (idxR r (meetR s r).x0 v).toNat * 4) (t.x0 - (meetR s r).x0).toNat c2 (fun _ => rfl) th1 (fun j _ => (st0.open_ _ rfl).2 _)]
        change CopySt w ((grow wr gw).setCells b (off + (idxR r (meetR s r).x0 v).toNat * 4) (cellsP (fun _ => noP) (t.x0 - (meetR s r).x0).toNat)) o w.heap.size (w.heap.size + 1) n2 r rf (meetR s r) t (some ⟨b, off, none⟩) len cap (rowF (rowsF (meetR s r) (shiftF dx dy G) v F) noF (meetR s r).x0 v (t.x0 - (meetR s r).x0).toNat) (some ⟨bf, offf, none⟩) lf cf G at st1
        generalize (grow wr gw).setCells b (off + (idxR r (meetR s r).x0 v).toNat * 4) (cellsP (fun _ => noP) (t.x0 - (meetR s r).x0).toNat) = wa at st1 ⊢
        have K1 := Lib.hid k1
        have K2 := Lib.hid k2
        have ST1 := Lib.hid st1
        clear k1 k2 st1 st0 th1 hh o0 o1 o2 o3 o4 of f0 f1 f2 f3 f4 ff m0 m1 m2 m3 mf t0 t1 t2 t3 tf lo lf' lm lt
        obtain ⟨f0, f1, f2, f3, f4, ff⟩ := ST1.out.fb.c5
        obtain ⟨m0, m1, m2, m3, mf⟩ := ST1.out.mb.c4
        obtain ⟨t0, t1, t2, t3, tf⟩ := ST1.out.tb.c4
        have lf' := ST1.out.fb.lt
        have lm := ST1.out.mb.lt
        have lt := ST1.out.tb.lt
        go_wp2
        all_goals
          have k1 := K1.out
          have k2 := K2.out
          have st2 := ST1.out.set hbo (by omega) (by omega) (by omega) HBF.out noF (d := (t.x1 - (meetR s r).x0).toNat) (k := n - (t.x1 - (meetR s r).x0).toNat) hx0 (fun i hi => (HR.out _ (by omega) (by omega)).1) (fun i hi => okP_no)
          have th2 := ST1.out.buf.thereD (d := (t.x1 - (meetR s r).x0).toNat) (k := n - (t.x1 - (meetR s r).x0).toNat) hx0 (fun i hi => (HR.out _ (by omega) (by omega)).1)
          first
            | rw [run_clear_px (P := Tryd.prog) wa 33 40 0 Tryd.underlying33 zero_px (some ⟨b, off + (idxR r (meetR s r).x0 v).toNat * 4 + (t.x1 - (meetR s r).x0).toNat * 4, none⟩) b (off + (idxR r (meetR s r).x0 v).toNat * 4 + (t.x1 - (meetR s r).x0).toNat * 4) (n - (t.x1 - (meetR s r).x0).toNat) _ (fun _ => rfl) th2 (fun j _ => (ST1.out.open_ _ rfl).2 _)]
            | rw [run_clear_px (P := Tryd.prog) wa 33 40 0 Tryd.underlying33 zero_px (some ⟨b, off + (idxR r (meetR s r).x0 v).toNat * 4, none⟩) b (off + (idxR r (meetR s r).x0 v).toNat * 4 + (t.x1 - (meetR s r).x0).toNat * 4) (n - (t.x1 - (meetR s r).x0).toNat) _ (fun hp => by omega) th2 (fun j _ => (ST1.out.open_ _ rfl).2 _)]
          change CopySt w (wa.setCells b (off + (idxR r (meetR s r).x0 v).toNat * 4 + (t.x1 - (meetR s r).x0).toNat * 4) (cellsP (fun _ => noP) (n - (t.x1 - (meetR s r).x0).toNat))) _ _ _ _ _ _ _ _ _ _ _ _ _ _ _ _ at st2
          generalize wa.setCells b (off + (idxR r (meetR s r).x0 v).toNat * 4 + (t.x1 - (meetR s r).x0).toNat * 4) (cellsP (fun _ => noP) (n - (t.x1 - (meetR s r).x0).toNat)) = wb at st2 ⊢
          have ST2 := Lib.hid st2
          clear k1 k2 st2 th2 f0 f1 f2 f3 f4 ff m0 m1 m2 m3 mf t0 t1 t2 t3 tf lf' lm lt
          obtain ⟨f0, f1, f2, f3, f4, ff⟩ := ST2.out.fb.c5
          obtain ⟨m0, m1, m2, m3, mf⟩ := ST2.out.mb.c4
          obtain ⟨t0, t1, t2, t3, tf⟩ := ST2.out.tb.c4
          have lf' := ST2.out.fb.lt
          have lm := ST2.out.mb.lt
          have lt := ST2.out.tb.lt
          have nn1 : ¬ (t.x1 - (meetR s r).x0).toNat = (t.x0 - (meetR s r).x0).toNat := by have := K1.out; have := K2.out; omega
          have nn2 : ¬ c2 = (t.x0 - (meetR s r).x0).toNat := by have := K1.out; have := K2.out; omega
          go_wp2
          first | refine region_grow_tail2 33 (by kernel_rfl) (by kernel_rfl) ?_ | refine region_grow_tail 33 (by kernel_rfl) (by kernel_rfl) ?_
          simp only [List.take_succ_cons, List.take_zero, List.drop_succ_cons, List.drop_zero]
          repeat (go_big_quiet_step ((first | (go_at_call 83; exact grow_of (raster_row rf ⟨t.x0 - dx, v - dy, t.x1 - dx, v - dy + 1⟩ bf offf lf cf n3 c3 (v - dy) _ HGf.out HCf.out (by omega) (by omega) (by omega) hfr0 (by simp only; omega) (by simp only; omega) (by simp only; omega) HC3.out)))))
          refine wpQuiet_nil ?_
          rintro _ ⟨gr, rfl⟩
          go_wp2
          have k1 := K1.out
          have k2 := K2.out
          have st3 : CopySt w (grow wb gr) o w.heap.size (w.heap.size + 1) n2 r rf (meetR s r) t (some ⟨b, off, none⟩) len cap _ (some ⟨bf, offf, none⟩) lf cf G := ST2.out.grows (by repeat (first | exact Grows.refl _ | apply Grows.grow | apply Grows.alloc | apply Grows.drew))
          have st4 := st3.set hbo (by omega) (by omega) (by omega) HBF.out (shiftF dx dy G) (d := (t.x0 - (meetR s r).x0).toNat) (k := n3) hx0 (fun i hi => (HR.out _ (by omega) (by omega)).1) (fun i hi => st3.src.fits.ok _ _)
          have th3 := st3.buf.thereD (d := (t.x0 - (meetR s r).x0).toNat) (k := n3) hx0 (fun i hi => (HR.out _ (by omega) (by omega)).1)
          have sr3 := st3.src.there (x := t.x0 - dx) (y := v - dy) (k := n3) hfr0 (fun i hi => by have := HFR.out (t.x0 + i) (by omega) (by omega); rwa [show t.x0 + (i : Int) - dx = t.x0 - dx + i from by omega] at this)
          rw [run_copy_px (P := Tryd.prog) (grow wb gr) 33 33 3 40 b (off + (idxR r (meetR s r).x0 v).toNat * 4 + (t.x0 - (meetR s r).x0).toNat * 4) _ _ ⟨bf, offf + (idxR rf (t.x0 - dx) (v - dy)).toNat * 4, none⟩ _ _ n3 (cellsP (fun i => shiftF dx dy G ((meetR s r).x0 + ((t.x0 - (meetR s r).x0).toNat : Nat) + i) v) n3) Tryd.underlying33 px_info ?hlen (cellsP_length _ _)
            (fun j u hu => by
              obtain ⟨hj, rfl⟩ := cellsP_div hu
              rw [Go.Addr.add_mid, sr3 j hj]
              unfold shiftF
              rw [show (meetR s r).x0 + ((t.x0 - (meetR s r).x0).toNat : Int) + ((j / 4 : Nat) : Int) - dx = t.x0 - dx + ((j / 4 : Nat) : Int) from by omega])
            (fun j hj => th3 j (by rw [cellsP_length] at hj; exact hj)) (fun j _ => (st3.open_ _ rfl).2 _) (fun u hu => cellsP_one _ _ u hu)]
          case hlen => show n3 = min n3 _; omega
          have hz : ∀ u, (meetR s r).x0 ≤ u → u < (meetR s r).x0 + n → (u < t.x0 ∨ t.x1 ≤ u) → shiftF dx dy G u v = noP := fun u a1 a2 a3 => by
            have e1 := (HR.out u a1 (by omega)).2
            have e2 := HH.out u v
            have e3 : hasR t u v = false := by
              cases e4 : hasR t u v
              · rfl
              · have := (hasR_iff _ _ _).1 e4; omega
            rw [e1, e3] at e2
            exact st3.src.fits.out _ _ (by simpa using e2.symm)
          rw [rowF_three (H := shiftF dx dy G) (n := n) (by omega) (by omega) (fun u a1 a2 => hz u a1 (by omega) (by omega)) (fun u a1 a2 => hz u (by omega) (by omega) (by omega)), rowsF_next hv1 hlt (by omega)] at st4
          generalize (grow wb gr).setCells b (off + (idxR r (meetR s r).x0 v).toNat * 4 + (t.x0 - (meetR s r).x0).toNat * 4) (cellsP (fun i => shiftF dx dy G ((meetR s r).x0 + ((t.x0 - (meetR s r).x0).toNat : Nat) + i) v) n3) = wc at st4 ⊢
          have ST4 := Lib.hid st4
          clear k1 k2 st4 th3 sr3 f0 f1 f2 f3 f4 ff m0 m1 m2 m3 mf t0 t1 t2 t3 tf lf' lm lt
          go_wp2
          go_roundw
          case rel => exact ⟨v + 1, by omega, by omega, by go_num, ST4.out⟩
          case measure => simp [intOf]; omega
      · have hz : Hid (∀ u, (meetR s r).x0 ≤ u → u < (meetR s r).x0 + n → shiftF dx dy G u v = noP) := fun u a1 a2 => by
          have e1 := (HR.out u a1 (by omega)).2
          have e2 := HH.out u v
          have e3 : hasR t u v = false := by
            cases e4 : hasR t u v
            · rfl
            · exact absurd ⟨((hasR_iff _ _ _).1 e4).2.2.1, ((hasR_iff _ _ _).1 e4).2.2.2⟩ hin
          rw [e1, e3] at e2
          exact hh.out.src.fits.out _ _ (by simpa using e2.symm)
        rcases (by omega : v < t.y0 ∨ (t.y0 ≤ v ∧ t.y1 ≤ v)) with hA | hA
        all_goals
          clear hin
          go_wp2
          first | refine region_grow2 (by kernel_rfl) (by kernel_rfl) ?_ | refine region_grow (by kernel_rfl) (by kernel_rfl) ?_
          repeat (go_big_quiet_step ((first | (go_at_call 83; exact grow_of (raster_row _ _ _ _ _ _ n c2 _ _ HG.out HC.out (by omega) (by omega) (by omega) (by assumption) (by omega) (by omega) (by omega) HC2.out)))))
          refine wpQuiet_nil ?_
          rintro _ ⟨gr, rfl⟩
          go_wp2_with ((first | (go_at_call 80; refine (rect_emptyR _ _).mono ?_; rintro e w' ⟨rfl, hgw⟩; first | (obtain ⟨gw, rfl⟩ := grows_of_grow hgw) | (obtain ⟨gw, rfl⟩ := hgw))))
          have st0 : CopySt w (grow wr gr) o w.heap.size (w.heap.size + 1) n2 r rf (meetR s r) t (some ⟨b, off, none⟩) len cap (rowsF (meetR s r) (shiftF dx dy G) v F) af lf cf G := hh.out.grows (by repeat (first | exact Grows.refl _ | apply Grows.grow | apply Grows.alloc | apply Grows.drew))
          have st1 := st0.set hbo (by omega) (by omega) (by omega) HBF.out noF (d := 0) (k := n) hx0 (fun i hi => (HR.out _ (by omega) (by omega)).1) (fun i hi => okP_no)
          have th1 := st0.buf.thereD (d := 0) (k := n) hx0 (fun i hi => (HR.out _ (by omega) (by omega)).1)
          simp only [Nat.zero_mul, Nat.add_zero, Int.natCast_zero, Int.add_zero] at st1 th1
          rw [run_clear_px (P := Tryd.prog) (grow wr gr) 33 40 0 Tryd.underlying33 zero_px (some ⟨b, off + (idxR r (meetR s r).x0 v).toNat * 4, none⟩) b (off + (idxR r (meetR s r).x0 v).toNat * 4) n c2 (fun _ => rfl) th1 (fun j _ => (st0.open_ _ rfl).2 _)]
          rw [rowF_no (fun u a1 a2 => hz.out u a1 a2), rowsF_next hv1 hlt (by omega)] at st1
          change CopySt w ((grow wr gr).setCells b (off + (idxR r (meetR s r).x0 v).toNat * 4) (cellsP (fun _ => noP) n)) _ _ _ _ _ _ _ _ _ _ _ _ _ _ _ _ at st1
          generalize (grow wr gr).setCells b (off + (idxR r (meetR s r).x0 v).toNat * 4) (cellsP (fun _ => noP) n) = wa at st1 ⊢
          have ST1 := Lib.hid st1
          clear st1 st0 th1
          go_wp2
          go_roundw
          case rel => exact ⟨v + 1, by omega, by omega, by go_num, ST1.out⟩
          case measure => simp [intOf]; omega
    · obtain rfl : v = (meetR s r).y1 := by omega
      go_wp2
      go_end0
      have st := hh.out
      rw [rowsF_last] at st
      exact ⟨rfl, st.by_, st.buf, st.open_⟩
end Go.Proofs.YtklcmlbkhjcaiaaDoor
