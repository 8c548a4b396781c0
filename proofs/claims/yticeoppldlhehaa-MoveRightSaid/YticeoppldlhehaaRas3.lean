/- The walks of layer 5 (raster), the third part: a rectangle filled. -/
import Derived.Test.YticeoppldlhehaaRas2
namespace Go.Proofs.Yticeoppldlhehaa
open Go.RowKit
set_option linter.unusedVariables false

theorem bounds_meet (r s : R) (h : GoodR r) : (r.x0 ≤ (meetR s r).x0 ∨ (meetR s r) = zeroR) := by
  unfold meetR someR
  split
  · exact .inr rfl
  · simp only [mxI_eq]; exact .inl (by omega)
/-- A row of the meeting lies within the box. -/
theorem meet_row {r s : R} {y : Int} (h1 : (meetR s r).y0 ≤ y) (h2 : y < (meetR s r).y1) (hg : GoodR (meetR s r)) : (meetR s r).x0 < (meetR s r).x1 ∧ hasR r (meetR s r).x0 y = true ∧ (meetR s r).x1 ≤ r.x1 ∧ ∀ x, (meetR s r).x0 ≤ x → x < (meetR s r).x1 → hasR r x y = true ∧ hasR (meetR s r) x y = true := by
  have hne : emptyR (meetR s r) = false := by
    cases he : emptyR (meetR s r)
    · rfl
    · have := hg.zero he
      rw [this] at h1 h2
      simp [zeroR] at h1 h2
      omega
  have k := (emptyR_not _).1 hne
  have hx : ∀ x, (meetR s r).x0 ≤ x → x < (meetR s r).x1 → hasR (meetR s r) x y = true := fun x a b => (hasR_iff _ _ _).2 ⟨a, b, h1, h2⟩
  have hr : ∀ x, (meetR s r).x0 ≤ x → x < (meetR s r).x1 → hasR r x y = true := fun x a b => by
    have := hx x a b
    rw [has_meet, Bool.and_eq_true] at this
    exact this.2
  refine ⟨k.1, hr _ (by omega) k.1, ?_, fun x a b => ⟨hr x a b, hx x a b⟩⟩
  have := (hasR_iff _ _ _).1 (hr ((meetR s r).x1 - 1) (by omega) (by omega))
  omega

/-- What holds while a buffer is being written: its variable, the rectangle's, the pixel's, and the row of pixels. -/
structure FillSt (w wr : World) (o n0 n1 : Nat) (r m : R) (p : P4) (a : Option Addr) (len cap : Nat) (F : Img) : Prop where
  ob : Blk wr o 26 #[.int .i64 r.x0, .int .i64 r.y0, .int .i64 r.x1, .int .i64 r.y1, .slice a len cap]
  mb : Blk wr n0 23 #[.int .i64 m.x0, .int .i64 m.y0, .int .i64 m.x1, .int .i64 m.y1]
  pb : Blk wr n1 32 #[.int .u8 p.r, .int .u8 p.g, .int .u8 p.b, .int .u8 p.a]
  by_ : w.grownBy wr (blkOf a)
  buf : BufAt wr r a len cap F
  open_ : Open wr a
theorem FillSt.grows {w wr w' : World} {o n0 n1 : Nat} {r m : R} {p : P4} {a : Option Addr} {len cap : Nat} {F : Img} (h : FillSt w wr o n0 n1 r m p a len cap F) (g : Grows wr w') : FillSt w w' o n0 n1 r m p a len cap F :=
  ⟨h.ob.grows g, h.mb.grows g, h.pb.grows g, grownBy_grows h.by_ g, h.buf.grows g, h.open_.grows g⟩
theorem FillSt.set {w wr : World} {o n0 n1 : Nat} {r m : R} {p : P4} {b off len cap : Nat} {F : Img} (h : FillSt w wr o n0 n1 r m p (some ⟨b, off, none⟩) len cap F) (ho : b ≠ o) (h0 : b ≠ n0) (h1 : b ≠ n1) (k : Nat) {y : Int} (hx : hasR r m.x0 y = true) (hk : hasR r (m.x0 + k) y = true) (hp : okP p) :
    FillSt w (wr.setCells b (off + (idxR r m.x0 y).toNat * 4 + k * 4) (pxC p)) o n0 n1 r m p (some ⟨b, off, none⟩) len cap (putF r F (m.x0 + k) y p) := by
  have g := grownBy_setCells wr b (off + (idxR r m.x0 y).toNat * 4 + k * 4) (pxC p)
  exact ⟨h.ob.grown g (by simpa using fun e => ho e.symm), h.mb.grown g (by simpa using fun e => h0 e.symm), h.pb.grown g (by simpa using fun e => h1 e.symm), h.by_.trans g, h.buf.setk rfl hx hk hp, h.open_.setCells _ _ _⟩

set_option maxHeartbeats 3200000 in
theorem raster_Fill (o : Nat) (r s : R) (a : Option Addr) (len cap : Nat) (F : Img) (p : P4) (w : World) (ho : Hid (Blk w o 26 #[.int .i64 r.x0, .int .i64 r.y0, .int .i64 r.x1, .int .i64 r.y1, .slice a len cap])) (h : Hid (BufAt w r a len cap F)) (hop : Hid (Open w a)) (hne : blkOf a ≠ some o) (hs : cntR r ≤ 140737488355328) (hp : okP p) (hsr : rightR s = true) :
    Calls Try.prog 45 #[.pointer (some ⟨o, 0, none⟩), .agg #[.int .i64 s.x0, .int .i64 s.y0, .int .i64 s.x1, .int .i64 s.y1], .agg #[.int .u8 p.r, .int .u8 p.g, .int .u8 p.b, .int .u8 p.a]] w fun e w' => e = .returned (.tuple #[]) ∧ w.grownBy w' (blkOf a) ∧ BufAt w' r a len cap (fillF r s p F) ∧ Open w' a := by
  have hm := h.out.most
  have hg := h.out.good
  have hcn := h.out.count
  have holt := ho.out.lt
  have hgm : GoodR (meetR s r) := good_meet hsr hg.near
  have hmb := hgm.bd
  have hle := hgm.le
  obtain ⟨o0, o1, o2, o3, o4, of⟩ := ho.out.c5
  have HG := Lib.hid hg
  have HM := Lib.hid hgm
  have HC := Lib.hid hcn
  have HN := Lib.hid hne
  clear hgm hg hcn hsr hne
  go_enter Try.func45, Try.ntmps45
  go_wp2
  first | refine region_grow_tail2 6 (by kernel_rfl) (by kernel_rfl) ?_ | refine region_grow_tail 6 (by kernel_rfl) (by kernel_rfl) ?_
  simp only [List.take_succ_cons, List.take_zero, List.drop_succ_cons, List.drop_zero]
  repeat (go_big_quiet_step ((first | (go_at_call 47; exact grow_of (rect_meetR _ _ _)))))
  refine wpQuiet_nil ?_
  rintro _ ⟨gr, rfl⟩
  go_wp2
  go_loopw [6] (fun y wr => ∃ v : Int, (meetR s r).y0 ≤ v ∧ v ≤ (meetR s r).y1 ∧ y = .int .i64 v ∧ Hid (FillSt w wr o w.heap.size (w.heap.size + 1) r (meetR s r) p a len cap (fillTo (meetR s r) p v (meetR s r).x0 F))) (fun y _ => ((meetR s r).y1 - intOf y).toNat)
  case atStart =>
    exact ⟨_, by omega, by omega, rfl, ho.out.grows (by repeat (first | exact Grows.refl _ | apply Grows.grow | apply Grows.alloc | apply Grows.drew)), (by unfold Blk; repeat (first | exact blk_at _ _ _ (by first | omega | (simp; done) | (simp; omega)) | refine (blk_past _ _ _ (by first | omega | (simp; done) | (simp; omega))).trans ?_ | refine (heap_grow _ _ _ (by first | omega | (simp; done) | (simp; omega))).trans ?_ | refine (blk_drew _ _).trans ?_)), (by unfold Blk; repeat (first | exact blk_at _ _ _ (by first | omega | (simp; done) | (simp; omega)) | refine (blk_past _ _ _ (by first | omega | (simp; done) | (simp; omega))).trans ?_ | refine (heap_grow _ _ _ (by first | omega | (simp; done) | (simp; omega))).trans ?_ | refine (blk_drew _ _).trans ?_)), grownBy_of_grows (by repeat (first | exact Grows.refl _ | apply Grows.grow | apply Grows.alloc | apply Grows.drew)) _, by rw [fillTo_first]; exact h.out.grows (by repeat (first | exact Grows.refl _ | apply Grows.grow | apply Grows.alloc | apply Grows.drew)), hop.out.grows (by repeat (first | exact Grows.refl _ | apply Grows.grow | apply Grows.alloc | apply Grows.drew))⟩
  case round =>
    clear o0 o1 o2 o3 o4 of
    obtain ⟨v, hv1, hv2, rfl, hh⟩ := hrel
    obtain ⟨m0, m1, m2, m3, mf⟩ := hh.out.mb.c4
    by_cases hlt : v < (meetR s r).y1
    · obtain ⟨hx01, hx0, hx1, hrow⟩ := meet_row hv1 hlt HM.out
      obtain ⟨b, off, rfl, hb, -, -, -, -, -⟩ := hh.out.buf.px hx0
      have hbw : b < w.heap.size := (hop.out _ rfl).1
      obtain ⟨o0, o1, o2, o3, o4, of⟩ := hh.out.ob.c5
      obtain ⟨p0, p1, p2, p3, pf⟩ := hh.out.pb.c4
      have lo := hh.out.ob.lt
      have lm := hh.out.mb.lt
      have lp := hh.out.pb.lt
      obtain ⟨n, c2, hn1, hn2, hnc, hc2, HC2⟩ := row_room (s := meetR s r) HG.out HC.out hm.1 hx0 (by omega) hx1
      have HR := Lib.hid hrow
      clear hrow
      go_wp2
      first | refine region_grow2 (by kernel_rfl) (by kernel_rfl) ?_ | refine region_grow (by kernel_rfl) (by kernel_rfl) ?_
      repeat (go_big_quiet_step ((first | (go_at_call 60; exact grow_of (raster_row _ _ _ _ _ _ n c2 _ _ HG.out HC.out (by omega) (by omega) (by omega) (by assumption) (by omega) (by omega) (by omega) HC2.out)))))
      refine wpQuiet_nil ?_
      rintro _ ⟨gr, rfl⟩
      go_wp2
      clear o0 o1 o2 o3 o4 of m0 m1 m2 m3 mf p0 p1 p2 p3 pf lo lm lp
      have HH : Hid (FillSt w (grow wr gr) o w.heap.size (w.heap.size + 1) r (meetR s r) p (some ⟨b, off, none⟩) len cap (fillTo (meetR s r) p v (meetR s r).x0 F)) := hh.out.grows (by repeat (first | exact Grows.refl _ | apply Grows.grow | apply Grows.alloc | apply Grows.drew))
      clear hh
      obtain ⟨wo, hwo⟩ : ∃ wo : World, wo = wr := ⟨_, rfl⟩
      clear hwo
      go_loopw [31] (fun c wr => ∃ k : Nat, k ≤ n ∧ c = .int .i64 k ∧ Hid (FillSt w wr o w.heap.size (w.heap.size + 1) r (meetR s r) p (some ⟨b, off, none⟩) len cap (fillTo (meetR s r) p v ((meetR s r).x0 + k) F))) (fun c _ => n - (intOf c).toNat)
      case atStart => exact ⟨0, by omega, rfl, by rw [show (meetR s r).x0 + ((0 : Nat) : Int) = (meetR s r).x0 from by omega]; exact HH.out⟩
      case round =>
        clear HH
        obtain ⟨k, hk, rfl, hh⟩ := hrel
        by_cases hkn : k < n
        · have hxk := HR.out ((meetR s r).x0 + k) (by omega) (by omega)
          obtain ⟨b', off', e, hb', -, c0, c1, c2, c3⟩ := hh.out.buf.pxk hx0 hxk.1
          cases e
          have hf := (hh.out.open_ _ rfl).2
          obtain ⟨p0, p1, p2, p3, pf⟩ := hh.out.pb.c4
          have HX := Lib.hid hxk
          clear hxk
          go_wp2
          go_roundw
          case rel =>
            have e1 : (meetR s r).x0 + (k : Int) + 1 = (meetR s r).x0 + ((k + 1 : Nat) : Int) := by omega
            have st := hh.out.set (fun e => HN.out (by rw [e]; rfl)) (by omega) (by omega) k hx0 HX.out.1 hp
            rw [fillTo_next HX.out.2 HX.out.1, e1] at st
            exact ⟨k + 1, by omega, by go_num, st⟩
          case measure => simp [intOf]; omega
        · obtain rfl : k = n := by omega
          go_wp2
          go_roundw
          case rel =>
            have e1 : (meetR s r).x0 + (k : Int) = (meetR s r).x1 := by omega
            have st := hh.out
            rw [e1, fillTo_row] at st
            exact ⟨v + 1, by omega, by omega, by go_num, st⟩
          case measure => simp [intOf]; omega
    · obtain rfl : v = (meetR s r).y1 := by omega
      go_wp2
      go_end0
      have st := hh.out
      rw [fillTo_last] at st
      exact ⟨rfl, st.by_, st.buf, st.open_⟩
end Go.Proofs.Yticeoppldlhehaa
