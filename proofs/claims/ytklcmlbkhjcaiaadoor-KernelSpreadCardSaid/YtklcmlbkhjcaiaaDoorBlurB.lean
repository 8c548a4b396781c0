/- The walk of layer 8's Box: rows, then columns. -/
import Derived.Test.YtklcmlbkhjcaiaaDoorBlurR
import Derived.Test.YtklcmlbkhjcaiaaDoorK4
import Derived.Test.YtklcmlbkhjcaiaaDoorK5




namespace Go.Proofs.YtklcmlbkhjcaiaaDoor
open Go.RowKit
set_option linter.unusedVariables false

theorem GoodR.some_eq {r : R} (h : GoodR r) : someR r = r := by
  unfold someR
  split
  · rename_i he; exact (h.zero he).symm
  · rfl
theorem grow_nought {b : R} (h : rightR b = true) : growR b 0 0 0 0 = someR b := by
  obtain ⟨h0, h1, h2, h3⟩ := (rightR_iff b).1 h
  unfold growR
  split
  · rename_i he; simp [someR, he]
  · unfold wholeR
    rw [Int.sub_zero, Int.sub_zero, Int.add_zero, Int.add_zero, cutN_in _ h0, cutN_in _ h1, cutN_in _ h2, cutN_in _ h3]
theorem cut_cut (r : R) (F : Img) : cutF r (cutF r F) = cutF r F := by
  funext x y
  unfold cutF
  split <;> simp_all
theorem cutF_ok {F : Img} (h : ∀ x y, okP (F x y)) (r : R) (x y : Int) : okP (cutF r F x y) := by
  unfold cutF
  split
  · exact h x y
  · exact okP_no
/-- What Box makes: of a row's means the columns' means. -/
def midF (b : R) (rx ry : Int) (F : Img) : Img := cutF (growR b 0 ry 0 ry) (blurH F rx)
def boxF (b : R) (rx ry : Int) (F : Img) : Img := cutF (someR b) (blurV (midF b rx ry F) ry)
theorem boxF_nought {b : R} (h : rightR b = true) (rx : Int) (F : Img) : boxF b rx 0 F = cutF (someR b) (blurH F rx) := by
  unfold boxF midF
  rw [blurV_zero, grow_nought h, cut_cut]
theorem upToC_full {m : R} (h : GoodR m) (G : Img) : upToC m G m.x1 m.y0 noF = cutF m G := upToC_last m G

theorem rect_growR (b : R) (l u r d : Int) (w : World) (h : rightR b = true) (hl : 0 ≤ l ∧ l ≤ 1000000) (hu : 0 ≤ u ∧ u ≤ 1000000) (hr : 0 ≤ r ∧ r ≤ 1000000) (hd : 0 ≤ d ∧ d ≤ 1000000) :
    Calls Tryd.prog 61 #[.agg #[.int .i64 b.x0, .int .i64 b.y0, .int .i64 b.x1, .int .i64 b.y1], .int .i64 l, .int .i64 u, .int .i64 r, .int .i64 d] w fun e w' => e = .returned (.agg #[.int .i64 (growR b l u r d).x0, .int .i64 (growR b l u r d).y0, .int .i64 (growR b l u r d).x1, .int .i64 (growR b l u r d).y1]) ∧ Grows w w' := by
  obtain ⟨h0, h1, h2, h3⟩ := (rightR_iff b).1 h
  exact rect_grow b.x0 b.y0 b.x1 b.y1 l u r d w (by omega) (by omega) (by omega) (by omega) (by omega) (by omega) (by omega) (by omega)

/-- What holds while the rows are being blurred. -/
structure RowsSt (w wr : World) (n0 n1 n2 nm : Nat) (b rf : R) (af : Option Addr) (lf cf : Nat) (g : R) (a : Option Addr) (len cap : Nat) (G : Img) : Prop where
  fb : Blk wr n0 35 #[.int .i64 rf.x0, .int .i64 rf.y0, .int .i64 rf.x1, .int .i64 rf.y1, .slice af lf cf]
  bb : Blk wr n1 27 #[.int .i64 b.x0, .int .i64 b.y0, .int .i64 b.x1, .int .i64 b.y1]
  rb : Blk wr n2 35 #[.int .i64 0, .int .i64 0, .int .i64 0, .int .i64 0, .slice none 0 0]
  ob : Blk wr nm 35 #[.int .i64 g.x0, .int .i64 g.y0, .int .i64 g.x1, .int .i64 g.y1, .slice a len cap]
  gr : Grows w wr
  buf : BufAt wr g a len cap G
  open_ : Open wr a
/-- .. the columns. -/
structure ColsSt (w wr : World) (n2 nm no : Nat) (g : R) (a : Option Addr) (len cap : Nat) (M : Img) (s : R) (a2 : Option Addr) (len2 cap2 : Nat) (G : Img) : Prop where
  rb : Blk wr n2 35 #[.int .i64 0, .int .i64 0, .int .i64 0, .int .i64 0, .slice none 0 0]
  ob : Blk wr nm 35 #[.int .i64 g.x0, .int .i64 g.y0, .int .i64 g.x1, .int .i64 g.y1, .slice a len cap]
  o2b : Blk wr no 35 #[.int .i64 s.x0, .int .i64 s.y0, .int .i64 s.x1, .int .i64 s.y1, .slice a2 len2 cap2]
  gr : Grows w wr
  mid : BufAt wr g a len cap M
  buf : BufAt wr s a2 len2 cap2 G
  open_ : Open wr a2
section
variable {w wr w' : World} {n0 n1 n2 nm no : Nat} {b rf g s : R} {a af a2 : Option Addr} {len cap lf cf len2 cap2 : Nat} {F G G' M : Img}
theorem RowsSt.step (h : RowsSt w wr n0 n1 n2 nm b rf af lf cf g a len cap G) (ha : ∀ k, blkOf a = some k → w.heap.size ≤ k ∧ k ≠ n0 ∧ k ≠ n1 ∧ k ≠ n2 ∧ k ≠ nm) (g1 : wr.grownBy w' (blkOf a)) (b1 : BufAt w' g a len cap G') (o1 : Open w' a) : RowsSt w w' n0 n1 n2 nm b rf af lf cf g a len cap G' :=
  ⟨h.fb.grown g1 (fun e => (ha _ e.symm).2.1 rfl), h.bb.grown g1 (fun e => (ha _ e.symm).2.2.1 rfl), h.rb.grown g1 (fun e => (ha _ e.symm).2.2.2.1 rfl), h.ob.grown g1 (fun e => (ha _ e.symm).2.2.2.2 rfl), h.gr.grown g1 (fun k hk => (ha k hk).1), b1, o1⟩
theorem ColsSt.step (h : ColsSt w wr n2 nm no g a len cap M s a2 len2 cap2 G) (ha : ∀ k, blkOf a2 = some k → w.heap.size ≤ k ∧ k ≠ n2 ∧ k ≠ nm ∧ k ≠ no) (hd : 0 < len → ∀ x, a = some x → some x.block ≠ blkOf a2) (g1 : wr.grownBy w' (blkOf a2)) (b1 : BufAt w' s a2 len2 cap2 G') (o1 : Open w' a2) : ColsSt w w' n2 nm no g a len cap M s a2 len2 cap2 G' :=
  ⟨h.rb.grown g1 (fun e => (ha _ e.symm).2.1 rfl), h.ob.grown g1 (fun e => (ha _ e.symm).2.2.1 rfl), h.o2b.grown g1 (fun e => (ha _ e.symm).2.2.2 rfl), h.gr.grown g1 (fun k hk => (ha k hk).1), h.mid.grown g1 hd, b1, o1⟩
/-- A buffer's value is stored into the result's cell, and answered. -/
theorem ret_cell {w wr : World} {n : Nat} {s : R} {a : Option Addr} {len cap : Nat} {G : Img} (hb : BufAt wr s a len cap G) (ho : Open wr a) (gr : Grows w wr) (hn : w.heap.size ≤ n) (hne : ∀ k, blkOf a = some k → w.heap.size ≤ k ∧ k ≠ n) (v0 v1 v2 v3 v4 : Value) :
    Grows w (((((wr.setCell ⟨n, 0, none⟩ v0).setCell ⟨n, 1, none⟩ v1).setCell ⟨n, 2, none⟩ v2).setCell ⟨n, 3, none⟩ v3).setCell ⟨n, 4, none⟩ v4) ∧
    Hid (BufAt (((((wr.setCell ⟨n, 0, none⟩ v0).setCell ⟨n, 1, none⟩ v1).setCell ⟨n, 2, none⟩ v2).setCell ⟨n, 3, none⟩ v3).setCell ⟨n, 4, none⟩ v4) s a len cap G ∧
      Open (((((wr.setCell ⟨n, 0, none⟩ v0).setCell ⟨n, 1, none⟩ v1).setCell ⟨n, 2, none⟩ v2).setCell ⟨n, 3, none⟩ v3).setCell ⟨n, 4, none⟩ v4) a ∧ ∀ x, a = some x → w.heap.size ≤ x.block) := by
  have K : wr.grownBy (((((wr.setCell ⟨n, 0, none⟩ v0).setCell ⟨n, 1, none⟩ v1).setCell ⟨n, 2, none⟩ v2).setCell ⟨n, 3, none⟩ v3).setCell ⟨n, 4, none⟩ v4) (some n) := by
    iterate 4 (refine grownBy_setCell ?_ (.inl rfl) _)
    exact grownBy_setCell (World.grownBy.refl wr _) (.inl rfl) _
  have hx : ∀ x, a = some x → some x.block ≠ some n := fun x hx e => (hne x.block (by rw [hx]; rfl)).2 (by injection e)
  refine ⟨?_, hb.grown K (fun _ => hx), ho.grown K hx, fun x hx => (hne x.block (by rw [hx]; rfl)).1⟩
  iterate 4 (refine Grows.setCell ?_ hn _)
  exact gr.setCell hn _
end

set_option maxHeartbeats 3200000 in
theorem blur_Box (b rf : R) (af : Option Addr) (lf cf : Nat) (F : Img) (rx ry : Int) (w : World) (hf : Hid (BufAt w rf af lf cf F)) (hsf : cntR rf ≤ 140737488355328) (hb : rightR b = true) (hsg : cntR (growR b 0 ry 0 ry) ≤ 35184372088832) (hsb : cntR (someR b) ≤ 35184372088832)
    (hx0 : 0 ≤ rx) (hx1 : rx ≤ 255) (hy0 : 0 ≤ ry) (hy1 : ry ≤ 255) :
    Calls Tryd.prog 37 #[.agg #[.int .i64 rf.x0, .int .i64 rf.y0, .int .i64 rf.x1, .int .i64 rf.y1, .slice af lf cf], .agg #[.int .i64 b.x0, .int .i64 b.y0, .int .i64 b.x1, .int .i64 b.y1], .int .i64 rx, .int .i64 ry] w (RetBuf w (someR b) (boxF b rx ry F)) := by
  have HG : Hid (GoodR (growR b 0 ry 0 ry)) := good_grow _ _ _ _ _
  have HS : Hid (GoodR (someR b)) := good_some hb
  have hgb := HG.out.bd
  have hgl := HG.out.le
  have hsbd := HS.out.bd
  have hsl := HS.out.le
  have FOK : Hid (∀ u v, okP (F u v)) := hf.out.fits.ok
  have HZ : Hid (ry = 0 → growR b 0 ry 0 ry = someR b ∧ cutF (growR b 0 ry 0 ry) (blurH F rx) = boxF b rx ry F) := fun e => by
    subst e
    rw [boxF_nought hb, grow_nought hb]
    exact ⟨rfl, rfl⟩
  have HM : Hid (boxF b rx ry F = cutF (someR b) (blurV (cutF (growR b 0 ry 0 ry) (blurH F rx)) ry)) := rfl
  obtain ⟨B, hB⟩ : ∃ B, B = boxF b rx ry F := ⟨_, rfl⟩
  rw [← hB] at HZ HM ⊢
  have HGr : Hid (∀ w, Calls Tryd.prog 61 #[.agg #[.int .i64 b.x0, .int .i64 b.y0, .int .i64 b.x1, .int .i64 b.y1], .int .i64 0, .int .i64 ry, .int .i64 0, .int .i64 ry] w fun e w' => e = .returned (.agg #[.int .i64 (growR b 0 ry 0 ry).x0, .int .i64 (growR b 0 ry 0 ry).y0, .int .i64 (growR b 0 ry 0 ry).x1, .int .i64 (growR b 0 ry 0 ry).y1]) ∧ Grows w w') := fun w => rect_growR b 0 ry 0 ry w hb (by omega) (by omega) (by omega) (by omega)
  have HN1 : Hid (∀ w, Calls Tryd.prog 59 #[.agg #[.int .i64 (growR b 0 ry 0 ry).x0, .int .i64 (growR b 0 ry 0 ry).y0, .int .i64 (growR b 0 ry 0 ry).x1, .int .i64 (growR b 0 ry 0 ry).y1]] w (RetBuf w (growR b 0 ry 0 ry) noF)) := fun w => by
    have := raster_New (growR b 0 ry 0 ry) w HG.out.near (by rw [HG.out.some_eq]; exact hsg)
    rwa [HG.out.some_eq] at this
  have HN2 : Hid (∀ w, Calls Tryd.prog 59 #[.agg #[.int .i64 b.x0, .int .i64 b.y0, .int .i64 b.x1, .int .i64 b.y1]] w (RetBuf w (someR b) noF)) := fun w => raster_New b w hb hsb
  obtain ⟨g, hg⟩ : ∃ g, g = growR b 0 ry 0 ry := ⟨_, rfl⟩
  rw [← hg] at HGr HN1 HG HZ HM hgb hgl hsg
  obtain ⟨s, hs⟩ : ∃ s, s = someR b := ⟨_, rfl⟩
  rw [← hs] at HN2 HS HZ HM hsbd hsl hsb ⊢
  clear hB hg hs
  go_enter Tryd.func37, Tryd.ntmps37
  go_wp2_with (first
    | (go_at_call 61; refine (HGr.out _).mono ?_; rintro e w' ⟨rfl, hgw⟩; first | (obtain ⟨gw, rfl⟩ := grows_of_grow hgw) | (obtain ⟨gw, rfl⟩ := hgw))
    | (go_at_call 59
       refine (HN1.out _).mono ?_
       rintro e w1 ⟨a, len, cap, rfl, hg1, hb1⟩
       have C0 : Hid (Blk w1 w.heap.size 35 #[.int .i64 rf.x0, .int .i64 rf.y0, .int .i64 rf.x1, .int .i64 rf.y1, .slice af lf cf]) := by
         refine Blk.grows ?_ hg1
         exact (by unfold Blk; repeat (first | exact blk_at _ _ _ (by first | omega | (simp; done) | (simp; omega)) | refine (blk_past _ _ _ (by first | omega | (simp; done) | (simp; omega))).trans ?_ | refine (heap_grow _ _ _ (by first | omega | (simp; done) | (simp; omega))).trans ?_ | refine (blk_drew _ _).trans ?_))
       have C1 : Hid (Blk w1 (w.heap.size + 1) 27 #[.int .i64 b.x0, .int .i64 b.y0, .int .i64 b.x1, .int .i64 b.y1]) := by
         refine Blk.grows ?_ hg1
         exact (by unfold Blk; repeat (first | exact blk_at _ _ _ (by first | omega | (simp; done) | (simp; omega)) | refine (blk_past _ _ _ (by first | omega | (simp; done) | (simp; omega))).trans ?_ | refine (heap_grow _ _ _ (by first | omega | (simp; done) | (simp; omega))).trans ?_ | refine (blk_drew _ _).trans ?_))
       have C2 : Hid (Blk w1 (w.heap.size + 1 + 1) 35 #[.int .i64 0, .int .i64 0, .int .i64 0, .int .i64 0, .slice none 0 0]) := by
         refine Blk.grows ?_ hg1
         exact (by unfold Blk; repeat (first | exact blk_at _ _ _ (by first | omega | (simp; done) | (simp; omega)) | refine (blk_past _ _ _ (by first | omega | (simp; done) | (simp; omega))).trans ?_ | refine (heap_grow _ _ _ (by first | omega | (simp; done) | (simp; omega))).trans ?_ | refine (blk_drew _ _).trans ?_))
       have GR : Hid (Grows w w1) := by
         refine Grows.trans ?_ hg1
         exact (by repeat (first | exact Grows.refl _ | apply Grows.grow | apply Grows.alloc | apply Grows.drew))
       have hsz : w.heap.size + 3 ≤ w1.heap.size := by have := hg1.below.size; simp at this; omega
       have HA : Hid (∀ k, blkOf a = some k → w.heap.size + 3 ≤ k ∧ k < w1.heap.size) := fun k hk => by
         cases a with
         | none => cases hk
         | some x =>
           have h1 := hb1.out.2.2 x rfl
           have h2 := (hb1.out.2.1 x rfl).1
           simp at hk h1
           omega
       have BU := Lib.hid hb1.out.1
       have OP := Lib.hid hb1.out.2.1
       clear hg1 hb1))
  have HA2 : Hid (∀ k, blkOf a = some k → w.heap.size ≤ k ∧ k ≠ w.heap.size ∧ k ≠ w.heap.size + 1 ∧ k ≠ w.heap.size + 1 + 1 ∧ k ≠ w1.heap.size) := fun k hk => by have := HA.out k hk; omega
  have HNF : Hid (0 < lf → ∀ x, af = some x → some x.block ≠ blkOf a) := fun h0 x hx e => by
    obtain ⟨b', off', e', hb', -⟩ := hf.out.pix.cells h0
    have := HA.out x.block e.symm
    rw [hx] at e'; cases e'
    simp at this
    omega
  go_loopw [10] (fun z wr => ∃ v : Int, g.y0 ≤ v ∧ v ≤ g.y1 ∧ z = .int .i64 v ∧ Hid (RowsSt w wr w.heap.size (w.heap.size + 1) (w.heap.size + 1 + 1) w1.heap.size b rf af lf cf g a len cap (upTo g (blurH F rx) v g.x0 noF))) (fun z _ => (g.y1 - intOf z).toNat)
  case atStart => exact ⟨_, by omega, by omega, rfl, C0.out.grows (by repeat (first | exact Grows.refl _ | apply Grows.grow | apply Grows.alloc | apply Grows.drew)), C1.out.grows (by repeat (first | exact Grows.refl _ | apply Grows.grow | apply Grows.alloc | apply Grows.drew)), C2.out.grows (by repeat (first | exact Grows.refl _ | apply Grows.grow | apply Grows.alloc | apply Grows.drew)), (by unfold Blk; repeat (first | exact blk_at _ _ _ (by first | omega | (simp; done) | (simp; omega)) | refine (blk_past _ _ _ (by first | omega | (simp; done) | (simp; omega))).trans ?_ | refine (heap_grow _ _ _ (by first | omega | (simp; done) | (simp; omega))).trans ?_ | refine (blk_drew _ _).trans ?_)), GR.out.trans (by repeat (first | exact Grows.refl _ | apply Grows.grow | apply Grows.alloc | apply Grows.drew)), by rw [upTo_first]; exact BU.out.grows (by repeat (first | exact Grows.refl _ | apply Grows.grow | apply Grows.alloc | apply Grows.drew)), OP.out.grows (by repeat (first | exact Grows.refl _ | apply Grows.grow | apply Grows.alloc | apply Grows.drew))⟩
  case round =>
    clear C0 C1 C2 GR BU OP
    obtain ⟨v, hv1, hv2, rfl, hh⟩ := hrel
    obtain ⟨m0, m1, m2, m3, m4, mf⟩ := hh.out.ob.c5
    have lm := hh.out.ob.lt
    by_cases hlt : v < g.y1
    · obtain ⟨s0, s1, s2, s3, s4, sf⟩ := hh.out.fb.c5
      have ls := hh.out.fb.lt
      go_wp2_with (go_at_call 62; refine (blur_row _ g rf a af len cap lf cf F v rx _ (Lib.hid hh.out.ob) (Lib.hid hh.out.buf) (Lib.hid hh.out.open_) (Lib.hid (hf.out.grows hh.out.gr)) (fun e => (HA2.out _ e).2.2.2.2 rfl) HNF.out (by omega) hsf hx0 hx1 hv1 hlt).mono ?_; rintro e w2 ⟨rfl, hg1, hb1, ho1⟩; have ST1 := Lib.hid (hh.out.step HA2.out hg1 hb1 ho1); clear hg1 hb1 ho1)
      go_roundw
      case rel => exact ⟨v + 1, by omega, by omega, by go_num, ST1.out⟩
      case measure => simp [intOf]; omega
    · obtain rfl : v = g.y1 := by omega
      have MB : Hid (BufAt wr g a len cap (cutF g (blurH F rx))) := by have := hh.out.buf; rwa [upTo_last] at this
      by_cases hz : ry = 0
      · obtain ⟨e1, e2⟩ := HZ.out hz
        rw [e2] at MB
        subst hz
        subst e1
        obtain ⟨q0, q1, q2, q3, q4, qf⟩ := hh.out.rb.c5
        have lq := hh.out.rb.lt
        go_wp2
        obtain ⟨D1, D2⟩ := ret_cell MB.out hh.out.open_ hh.out.gr (n := w.heap.size + 1 + 1) (by omega) (fun k hk => by have := HA.out k hk; omega) (.int .i64 g.x0) (.int .i64 g.y0) (.int .i64 g.x1) (.int .i64 g.y1) (.slice a len cap)
        refine bodyPost_ret (results_cell_row rfl _ _ _ 35 #[.int .i64 g.x0, .int .i64 g.y0, .int .i64 g.x1, .int .i64 g.y1, .slice a len cap] (0, 0) _ rfl (hh.out.rb.set5 _ _ _ _ _) Tryd.underlying35 rfl buf_info) rfl ⟨_, _, _, rfl, D1, D2⟩
      · obtain ⟨s0, s1, s2, s3, sf⟩ := hh.out.bb.c4
        have ls := hh.out.bb.lt
        go_wp2_with (first
          | (go_at_call 59
             refine (HN2.out _).mono ?_
             rintro e w4 ⟨a2, len2, cap2, rfl, hg1, hb1⟩
             have C2 : Hid (Blk w4 (w.heap.size + 1 + 1) 35 #[.int .i64 0, .int .i64 0, .int .i64 0, .int .i64 0, .slice none 0 0]) := hh.out.rb.grows hg1
             have C3 : Hid (Blk w4 w1.heap.size 35 #[.int .i64 g.x0, .int .i64 g.y0, .int .i64 g.x1, .int .i64 g.y1, .slice a len cap]) := hh.out.ob.grows hg1
             have GR : Hid (Grows w w4) := hh.out.gr.trans hg1
             have MB4 : Hid (BufAt w4 g a len cap (cutF g (blurH F rx))) := MB.out.grows hg1
             have HB : Hid (∀ k, blkOf a2 = some k → wr.heap.size ≤ k ∧ k < w4.heap.size) := fun k hk => by
               cases a2 with
               | none => cases hk
               | some x =>
                 have h1 := hb1.out.2.2 x rfl
                 have h2 := (hb1.out.2.1 x rfl).1
                 simp at hk h1
                 omega
             have HD : Hid (0 < len → ∀ x, a = some x → some x.block ≠ blkOf a2) := fun h0 x hx e => by
               have h1 := HB.out x.block e.symm
               have h2 := (hh.out.open_ x hx).1
               omega
             have BU := Lib.hid hb1.out.1
             have OP := Lib.hid hb1.out.2.1
             have hsz4 : wr.heap.size ≤ w4.heap.size := hg1.below.size
             clear hg1 hb1 m0 m1 m2 m3 m4 mf s0 s1 s2 s3 sf ls))
        have HB2 : Hid (∀ k, blkOf a2 = some k → w.heap.size ≤ k ∧ k ≠ w.heap.size + 1 + 1 ∧ k ≠ w1.heap.size ∧ k ≠ w4.heap.size) := fun k hk => by have := HB.out k hk; omega
        clear hh MB
        obtain ⟨M, hM⟩ : ∃ M, M = cutF g (blurH F rx) := ⟨_, rfl⟩
        rw [← hM] at MB4 HM
        clear hM
        go_loopw [12] (fun z wr => ∃ v : Int, s.x0 ≤ v ∧ v ≤ s.x1 ∧ z = .int .i64 v ∧ Hid (ColsSt w wr (w.heap.size + 1 + 1) w1.heap.size w4.heap.size g a len cap M s a2 len2 cap2 (upToC s (blurV M ry) v s.y0 noF))) (fun z _ => (s.x1 - intOf z).toNat)
        case atStart => exact ⟨_, by omega, by omega, rfl, C2.out.grows (by repeat (first | exact Grows.refl _ | apply Grows.grow | apply Grows.alloc | apply Grows.drew)), C3.out.grows (by repeat (first | exact Grows.refl _ | apply Grows.grow | apply Grows.alloc | apply Grows.drew)), (by unfold Blk; repeat (first | exact blk_at _ _ _ (by first | omega | (simp; done) | (simp; omega)) | refine (blk_past _ _ _ (by first | omega | (simp; done) | (simp; omega))).trans ?_ | refine (heap_grow _ _ _ (by first | omega | (simp; done) | (simp; omega))).trans ?_ | refine (blk_drew _ _).trans ?_)), GR.out.trans (by repeat (first | exact Grows.refl _ | apply Grows.grow | apply Grows.alloc | apply Grows.drew)), MB4.out.grows (by repeat (first | exact Grows.refl _ | apply Grows.grow | apply Grows.alloc | apply Grows.drew)), by rw [upToC_first]; exact BU.out.grows (by repeat (first | exact Grows.refl _ | apply Grows.grow | apply Grows.alloc | apply Grows.drew)), OP.out.grows (by repeat (first | exact Grows.refl _ | apply Grows.grow | apply Grows.alloc | apply Grows.drew))⟩
        case round =>
          clear C2 C3 GR BU OP MB4
          obtain ⟨v, hv1, hv2, rfl, hh⟩ := hrel
          obtain ⟨m0, m1, m2, m3, m4, mf⟩ := hh.out.o2b.c5
          have lm := hh.out.o2b.lt
          by_cases hlt : v < s.x1
          · obtain ⟨s0, s1, s2, s3, s4, sf⟩ := hh.out.ob.c5
            have ls := hh.out.ob.lt
            go_wp2_with (go_at_call 63; refine (blur_column _ s g a2 a len2 cap2 len cap M v ry _ (Lib.hid hh.out.o2b) (Lib.hid hh.out.buf) (Lib.hid hh.out.open_) (Lib.hid hh.out.mid) (fun e => (HB2.out _ e).2.2.2 rfl) HD.out (by omega) (by omega) hy0 hy1 hv1 hlt).mono ?_; rintro e w2 ⟨rfl, hg1, hb1, ho1⟩; have ST1 := Lib.hid (hh.out.step HB2.out HD.out hg1 hb1 ho1); clear hg1 hb1 ho1)
            go_roundw
            case rel => exact ⟨v + 1, by omega, by omega, by go_num, ST1.out⟩
            case measure => simp [intOf]; omega
          · obtain rfl : v = s.x1 := by omega
            obtain ⟨q0, q1, q2, q3, q4, qf⟩ := hh.out.rb.c5
            have lq := hh.out.rb.lt
            have RB := hh.out.buf
            rw [upToC_last, ← HM.out] at RB
            go_wp2
            obtain ⟨D1, D2⟩ := ret_cell RB hh.out.open_ hh.out.gr (n := w.heap.size + 1 + 1) (by omega) (fun k hk => by have := HB2.out k hk; omega) (.int .i64 s.x0) (.int .i64 s.y0) (.int .i64 s.x1) (.int .i64 s.y1) (.slice a2 len2 cap2)
            refine bodyPost_ret (results_cell_row rfl _ _ _ 35 #[.int .i64 s.x0, .int .i64 s.y0, .int .i64 s.x1, .int .i64 s.y1, .slice a2 len2 cap2] (0, 0) _ rfl (hh.out.rb.set5 _ _ _ _ _) Tryd.underlying35 rfl buf_info) rfl ⟨_, _, _, rfl, D1, D2⟩
end Go.Proofs.YtklcmlbkhjcaiaaDoor
