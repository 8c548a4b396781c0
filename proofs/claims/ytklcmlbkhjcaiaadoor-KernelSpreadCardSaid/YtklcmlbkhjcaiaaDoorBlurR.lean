/- The walks of layer 8: a row, a column blurred. -/
import Derived.Test.YtklcmlbkhjcaiaaDoorBlurA
import Derived.WalkMore
import Derived.ScopeJumps




namespace Go.Proofs.YtklcmlbkhjcaiaaDoor
open Go.RowKit
set_option linter.unusedVariables false

theorem sumP_bdS {f : Int → P4} (h : ∀ x, okP (f x)) (s : Int) {n : Nat} (hn : n ≤ 600) : bdS (sumP f s n) := by
  have := sumP_bd h s n
  unfold bdS
  omega
/-- What comes into the window, and what leaves it. -/
theorem sumP_in (f : Int → P4) (v : Int) {r : Int} (hr : 0 ≤ r) : addP (sumP f (v - r) (2 * r).toNat) (f (v + r)) 1 = sumP f (v - r) (winN r) := by
  have e : winN r = (2 * r).toNat + 1 := by unfold winN; omega
  rw [e, sumP_succ, show v - r + ((2 * r).toNat : Int) = v + r from by omega]
theorem sumP_out (f : Int → P4) (v : Int) {r : Int} (hr : 0 ≤ r) : addP (sumP f (v - r) (winN r)) (f (v - r)) (-1) = sumP f (v + 1 - r) (2 * r).toNat := by
  have e : winN r = (2 * r).toNat + 1 := by unfold winN; omega
  rw [e, sumP_drop, show v - r + 1 = v + 1 - r from by omega]

/-- What holds while a row or a column is being blurred. -/
structure BlurSt (w wr : World) (o n0 n1 n2 : Nat) (m : R) (a : Option Addr) (len cap : Nat) (G : Img) (rf : R) (af : Option Addr) (lf cf : Nat) (F : Img) (S : P4) : Prop where
  ob : Blk wr o 35 #[.int .i64 m.x0, .int .i64 m.y0, .int .i64 m.x1, .int .i64 m.y1, .slice a len cap]
  fb : Blk wr n0 35 #[.int .i64 rf.x0, .int .i64 rf.y0, .int .i64 rf.x1, .int .i64 rf.y1, .slice af lf cf]
  mb : Blk wr n1 27 #[.int .i64 m.x0, .int .i64 m.y0, .int .i64 m.x1, .int .i64 m.y1]
  sb : Blk wr n2 100 #[.int .i64 S.r, .int .i64 S.g, .int .i64 S.b, .int .i64 S.a]
  by_ : w.grownBy wr (blkOf a)
  buf : BufAt wr m a len cap G
  open_ : Open wr a
  src : BufAt wr rf af lf cf F
/-- The blocks lie apart. -/
structure BlurAp (w : World) (o n0 n1 n2 : Nat) (a : Option Addr) (af : Option Addr) (lf : Nat) : Prop where
  ho : o < w.heap.size
  h0 : w.heap.size ≤ n0
  h1 : w.heap.size ≤ n1
  h2 : w.heap.size ≤ n2
  h02 : n0 ≠ n2
  h12 : n1 ≠ n2
  ha : ∀ x, a = some x → x.block < w.heap.size
  hao : blkOf a ≠ some o
  hf : 0 < lf → ∀ x, af = some x → x.block < w.heap.size ∧ some x.block ≠ blkOf a
section
variable {w wr w' : World} {o n0 n1 n2 : Nat} {m rf : R} {a af : Option Addr} {len cap lf cf : Nat} {F G G' : Img} {S S' : P4}
theorem BlurAp.off (k : BlurAp w o n0 n1 n2 a af lf) {n : Nat} (hn : w.heap.size ≤ n) : some n ≠ blkOf a := fun e => by
  cases a with
  | none => simp at e
  | some x =>
    have := k.ha x rfl
    simp at e
    omega
theorem BlurSt.grows (h : BlurSt w wr o n0 n1 n2 m a len cap G rf af lf cf F S) (g : Grows wr w') : BlurSt w w' o n0 n1 n2 m a len cap G rf af lf cf F S :=
  ⟨h.ob.grows g, h.fb.grows g, h.mb.grows g, h.sb.grows g, grownBy_grows h.by_ g, h.buf.grows g, h.open_.grows g, h.src.grows g⟩
theorem BlurSt.add (h : BlurSt w wr o n0 n1 n2 m a len cap G rf af lf cf F S) (k : BlurAp w o n0 n1 n2 a af lf) (g : wr.grownBy w' (some n2)) (b : Blk w' n2 100 #[.int .i64 S'.r, .int .i64 S'.g, .int .i64 S'.b, .int .i64 S'.a]) : BlurSt w w' o n0 n1 n2 m a len cap G rf af lf cf F S' := by
  have k0 := k.ho
  have k1 := k.h0
  have k2 := k.h1
  have k3 := k.h2
  have k4 := k.h02
  have k5 := k.h12
  exact ⟨h.ob.grown g (fun e => by injection e with e; omega), h.fb.grown g (fun e => by injection e with e; omega), h.mb.grown g (fun e => by injection e with e; omega), b,
    grownBy_then h.by_ g (fun j hj => .inl (by injection hj with hj; omega)), h.buf.grown g (fun _ x hx e => by have := k.ha x hx; injection e with e; omega), h.open_.grown g (fun x hx e => by have := k.ha x hx; injection e with e; omega),
    h.src.grown g (fun h0 x hx e => by have := (k.hf h0 x hx).1; injection e with e; omega)⟩
theorem BlurSt.put (h : BlurSt w wr o n0 n1 n2 m a len cap G rf af lf cf F S) (k : BlurAp w o n0 n1 n2 a af lf) (g : wr.grownBy w' (blkOf a)) (b : BufAt w' m a len cap G') (op : Open w' a) : BlurSt w w' o n0 n1 n2 m a len cap G' rf af lf cf F S :=
  ⟨h.ob.grown g (fun e => k.hao e.symm), h.fb.grown g (k.off k.h0), h.mb.grown g (k.off k.h1), h.sb.grown g (k.off k.h2), h.by_.trans g, b, op, h.src.grown g (fun h0 x hx => (k.hf h0 x hx).2)⟩
end

theorem Exit.jump_normal {l : Nat} {J : Act → World → Prop} {Q : Exit → Act → World → Prop} {a : Act} {w : World} : Exit.jump l J Q .normal a w = Q .normal a w := rfl

set_option maxHeartbeats 3200000 in
theorem blur_row (o : Nat) (m rf : R) (a af : Option Addr) (len cap lf cf : Nat) (F : Img) (y r : Int) (w : World) (ho : Hid (Blk w o 35 #[.int .i64 m.x0, .int .i64 m.y0, .int .i64 m.x1, .int .i64 m.y1, .slice a len cap]))
    (h : Hid (BufAt w m a len cap (upTo m (blurH F r) y m.x0 noF))) (hop : Hid (Open w a)) (hf : Hid (BufAt w rf af lf cf F)) (hne : blkOf a ≠ some o) (hnf : 0 < lf → ∀ x, af = some x → some x.block ≠ blkOf a) (hs : cntR m ≤ 140737488355328) (hsf : cntR rf ≤ 140737488355328)
    (hr0 : 0 ≤ r) (hr1 : r ≤ 255) (hy0 : m.y0 ≤ y) (hy1 : y < m.y1) :
    Calls Tryd.prog 62 #[.pointer (some ⟨o, 0, none⟩), .agg #[.int .i64 rf.x0, .int .i64 rf.y0, .int .i64 rf.x1, .int .i64 rf.y1, .slice af lf cf], .int .i64 y, .int .i64 r] w fun e w' => e = .returned (.tuple #[]) ∧ w.grownBy w' (blkOf a) ∧ BufAt w' m a len cap (upTo m (blurH F r) (y + 1) m.x0 noF) ∧ Open w' a := by
  have hm := h.out.most
  have hmf := hf.out.most
  have hg := h.out.good
  have hbd := hg.bd
  have hle := hg.le
  have hgf := hf.out.good
  have hbf := hgf.bd
  have holt := ho.out.lt
  obtain ⟨o0, o1, o2, o3, o4, of⟩ := ho.out.c5
  have AP : Hid (BlurAp w o w.heap.size (w.heap.size + 1) (w.heap.size + 1 + 1) a af lf) := ⟨holt, by omega, by omega, by omega, by omega, by omega, fun x hx => (hop.out x hx).1, hne, fun h0 x hx => ⟨by
    obtain ⟨b, off, e, hb, -⟩ := hf.out.pix.cells h0
    rw [hx] at e; cases e; exact hb, hnf h0 x hx⟩⟩
  have FOK : Hid (∀ u v, okP (F u v)) := hf.out.fits.ok
  have FOUT : Hid (∀ u v, hasR rf u v = false → F u v = noP) := hf.out.fits.out
  clear hne hnf hgf hg
  by_cases hin : rf.y0 ≤ y ∧ y < rf.y1
  · obtain ⟨hin0, hin1⟩ := hin
    go_enter Tryd.func62, Tryd.ntmps62
    go_wp2
    go_step3
    go_wp2
    refine wp_name ?_
    intro W0 hW0
    have GW : Hid (Grows w W0) := by rw [hW0]; exact (by repeat (first | exact Grows.refl _ | apply Grows.grow | apply Grows.alloc | apply Grows.drew))
    have ST : Hid (BlurSt w W0 o w.heap.size (w.heap.size + 1) (w.heap.size + 1 + 1) m a len cap (upTo m (blurH F r) y m.x0 noF) rf af lf cf F (sumP (fun u => F u y) (m.x0 - r) 0)) := by
      refine ⟨ho.out.grows GW.out, ?_, ?_, ?_, grownBy_of_grows GW.out _, h.out.grows GW.out, hop.out.grows GW.out, hf.out.grows GW.out⟩
      · rw [hW0]; exact (by unfold Blk; repeat (first | exact blk_at _ _ _ (by first | omega | (simp; done) | (simp; omega)) | refine (blk_past _ _ _ (by first | omega | (simp; done) | (simp; omega))).trans ?_ | refine (heap_grow _ _ _ (by first | omega | (simp; done) | (simp; omega))).trans ?_ | refine (blk_drew _ _).trans ?_))
      · rw [hW0]; exact (by unfold Blk; repeat (first | exact blk_at _ _ _ (by first | omega | (simp; done) | (simp; omega)) | refine (blk_past _ _ _ (by first | omega | (simp; done) | (simp; omega))).trans ?_ | refine (heap_grow _ _ _ (by first | omega | (simp; done) | (simp; omega))).trans ?_ | refine (blk_drew _ _).trans ?_))
      · rw [hW0]; exact (by unfold Blk; repeat (first | exact blk_at _ _ _ (by first | omega | (simp; done) | (simp; omega)) | refine (blk_past _ _ _ (by first | omega | (simp; done) | (simp; omega))).trans ?_ | refine (heap_grow _ _ _ (by first | omega | (simp; done) | (simp; omega))).trans ?_ | refine (blk_drew _ _).trans ?_))
    clear hW0 o0 o1 o2 o3 o4 of h hop hf ho
    go_loopw [10] (fun x wr => ∃ k : Nat, (k : Int) ≤ 2 * r ∧ x = .int .i64 (m.x0 - r + k) ∧ Hid (BlurSt w wr o w.heap.size (w.heap.size + 1) (w.heap.size + 1 + 1) m a len cap (upTo m (blurH F r) y m.x0 noF) rf af lf cf F (sumP (fun u => F u y) (m.x0 - r) k))) (fun x _ => (m.x0 + r - intOf x).toNat)
    case atStart => exact ⟨0, by omega, by go_num, ST.out⟩
    case round =>
      clear ST
      obtain ⟨k, hk, rfl, hh⟩ := hrel
      obtain ⟨m0, m1, m2, m3, mf⟩ := hh.out.mb.c4
      have lm := hh.out.mb.lt
      by_cases hlt : (k : Int) < 2 * r
      · obtain ⟨s0, s1, s2, s3, s4, sf⟩ := hh.out.fb.c5
        have ls := hh.out.fb.lt
        have HSRC := Lib.hid hh.out.src
        go_wp2_with (first | (first | (go_at_call 67; (with_reducible refine (raster_At _ _ _ _ _ _ _ _ (Lib.hid (BufAt.grows HSRC.out (by repeat (first | exact Grows.refl _ | apply Grows.grow | apply Grows.alloc | apply Grows.drew)))) (by omega)).mono ?_); rintro e w' ⟨rfl, hgw⟩; first | (obtain ⟨gw, rfl⟩ := grows_of_grow hgw) | (obtain ⟨gw, rfl⟩ := hgw))) | (go_at_call 85; refine (blur_add1 _ (sumP (fun u => F u y) (m.x0 - r) k) _ _ (Lib.hid (hh.out.sb.grows (by repeat (first | exact Grows.refl _ | apply Grows.grow | apply Grows.alloc | apply Grows.drew)))) (sumP_bdS (fun u => FOK.out u y) _ (by omega)) (FOK.out _ _)).mono ?_; rintro e w1 ⟨rfl, hg1, hb1⟩; have ST1 := Lib.hid ((hh.out.grows (by exact (by repeat (first | exact Grows.refl _ | apply Grows.grow | apply Grows.alloc | apply Grows.drew)))).add AP.out hg1 hb1); clear hg1 hb1))
        go_roundw
        case rel => exact ⟨k + 1, by omega, by go_num, ST1.out⟩
        case measure => simp [intOf]; omega
      · obtain rfl : k = (2 * r).toNat := by omega
        go_wp2
        obtain ⟨wo, hwo⟩ : ∃ wo : World, wo = wr := ⟨_, rfl⟩
        clear hwo
        go_loopw [10] (fun x wr => ∃ v : Int, m.x0 ≤ v ∧ v ≤ m.x1 ∧ x = .int .i64 v ∧ Hid (BlurSt w wr o w.heap.size (w.heap.size + 1) (w.heap.size + 1 + 1) m a len cap (upTo m (blurH F r) y v noF) rf af lf cf F (sumP (fun u => F u y) (v - r) (2 * r).toNat))) (fun x _ => (m.x1 - intOf x).toNat)
        case atStart => exact ⟨_, by omega, by omega, rfl, hh.out⟩
        case round =>
          clear hh m0 m1 m2 m3 mf lm
          obtain ⟨v, hv1, hv2, rfl, hh⟩ := hrel
          obtain ⟨m0, m1, m2, m3, mf⟩ := hh.out.mb.c4
          have lm := hh.out.mb.lt
          by_cases hlt : v < m.x1
          · have hhas : hasR m v y = true := (hasR_iff _ _ _).2 (by omega)
            obtain ⟨s0, s1, s2, s3, s4, sf⟩ := hh.out.fb.c5
            have ls := hh.out.fb.lt
            have HSRC := Lib.hid hh.out.src
            have hb0 := sumP_bd (fun u => FOK.out u y) (v - r) (winN r)
            rw [winN_eq hr0] at hb0
            go_wp2_with (first
              | (first | (go_at_call 67; (with_reducible refine (raster_At _ _ _ _ _ _ _ _ (Lib.hid (BufAt.grows HSRC.out (by repeat (first | exact Grows.refl _ | apply Grows.grow | apply Grows.alloc | apply Grows.drew)))) (by omega)).mono ?_); rintro e w' ⟨rfl, hgw⟩; first | (obtain ⟨gw, rfl⟩ := grows_of_grow hgw) | (obtain ⟨gw, rfl⟩ := hgw)))
              | (go_at_call 85
                 refine (blur_add1 _ (sumP (fun u => F u y) (v - r) (2 * r).toNat) _ _ (Lib.hid (hh.out.sb.grows (by repeat (first | exact Grows.refl _ | apply Grows.grow | apply Grows.alloc | apply Grows.drew)))) (sumP_bdS (fun u => FOK.out u y) _ (by omega)) (FOK.out _ _)).mono ?_
                 rintro e w1 ⟨rfl, hg1, hb1⟩
                 rw [sumP_in (fun u => F u y) v hr0] at hb1
                 have ST1 := Lib.hid ((hh.out.grows (by exact (by repeat (first | exact Grows.refl _ | apply Grows.grow | apply Grows.alloc | apply Grows.drew)))).add AP.out hg1 hb1)
                 clear hg1 hb1 hh HSRC m0 m1 m2 m3 mf lm s0 s1 s2 s3 s4 sf ls)
              | (first | (go_at_call 86; refine (blur_mean _ _ _ _ (Lib.hid (ST1.out.sb.grows (by repeat (first | exact Grows.refl _ | apply Grows.grow | apply Grows.alloc | apply Grows.drew)))) (by omega) (by omega) (by omega) hb0).mono ?_; rintro e w' ⟨rfl, hgw⟩; first | (obtain ⟨gw, rfl⟩ := grows_of_grow hgw) | (obtain ⟨gw, rfl⟩ := hgw)))
              | (go_at_call 66
                 refine (raster_Put _ _ _ _ _ _ _ _ (blurH F r v y) _ (Lib.hid (ST1.out.ob.grows (by repeat (first | exact Grows.refl _ | apply Grows.grow | apply Grows.alloc | apply Grows.drew)))) (Lib.hid (ST1.out.buf.grows (by repeat (first | exact Grows.refl _ | apply Grows.grow | apply Grows.alloc | apply Grows.drew)))) (Lib.hid (ST1.out.open_.grows (by repeat (first | exact Grows.refl _ | apply Grows.grow | apply Grows.alloc | apply Grows.drew)))) hs (blurH_ok FOK.out hr0 _ _)).mono ?_
                 rintro e w2 ⟨rfl, hg1, hb1, hp1⟩
                 rw [upTo_next hhas] at hb1
                 have ST2 := Lib.hid ((ST1.out.grows (by exact (by repeat (first | exact Grows.refl _ | apply Grows.grow | apply Grows.alloc | apply Grows.drew)))).put AP.out hg1 hb1 hp1)
                 clear hg1 hb1 hp1 ST1 hb0
                 obtain ⟨m0, m1, m2, m3, mf⟩ := ST2.out.mb.c4
                 have lm := ST2.out.mb.lt
                 obtain ⟨s0, s1, s2, s3, s4, sf⟩ := ST2.out.fb.c5
                 have ls := ST2.out.fb.lt
                 have HSRC := Lib.hid ST2.out.src)
              | (go_at_call 85
                 refine (blur_add2 _ (sumP (fun u => F u y) (v - r) (winN r)) _ _ (Lib.hid (ST2.out.sb.grows (by repeat (first | exact Grows.refl _ | apply Grows.grow | apply Grows.alloc | apply Grows.drew)))) (sumP_bdS (fun u => FOK.out u y) _ (by unfold winN; omega)) (FOK.out _ _)).mono ?_
                 rintro e w3 ⟨rfl, hg1, hb1⟩
                 rw [sumP_out (fun u => F u y) v hr0] at hb1
                 have ST3 := Lib.hid ((ST2.out.grows (by exact (by repeat (first | exact Grows.refl _ | apply Grows.grow | apply Grows.alloc | apply Grows.drew)))).add AP.out hg1 hb1)
                 clear hg1 hb1))
            go_roundw
            case rel => exact ⟨v + 1, by omega, by omega, by go_num, ST3.out⟩
            case measure => simp [intOf]; omega
          · obtain rfl : v = m.x1 := by omega
            go_wp2
            go_step3
            go_wp2
            rw [Exit.noGoto_normal]
            go_end0
            have st := hh.out
            rw [upTo_row] at st
            exact ⟨rfl, st.by_, st.buf, st.open_⟩
  · have hno : ∀ x, blurH F r x y = noP := fun x => blurH_out hr0 (fun u => FOUT.out u y (by rw [Bool.eq_false_iff, ne_eq, hasR_iff]; omega)) x
    have HU : upTo m (blurH F r) (y + 1) m.x0 noF = upTo m (blurH F r) y m.x0 noF := (upTo_skip hno).symm
    rw [HU]
    clear HU hno
    go_enter Tryd.func62, Tryd.ntmps62
    go_wp2
    refine wp_scope_jumps 0 (fun a' w' => a'.defers = [] ∧ Grows w w') (fun _ _ => 0) rfl ?_ ?_
    · by_cases hc : y < rf.y0
      · go_wp2
        go_step3
        exact ⟨rfl, rfl, (by repeat (first | exact Grows.refl _ | apply Grows.grow | apply Grows.alloc | apply Grows.drew))⟩
      · have hc2 : rf.y1 ≤ y := by omega
        go_wp2
        go_step3
        exact ⟨rfl, rfl, (by repeat (first | exact Grows.refl _ | apply Grows.grow | apply Grows.alloc | apply Grows.drew))⟩
    · rintro a' w' ⟨hd, hJ⟩
      go_wp2
      rw [Exit.jump_normal]
      refine bodyPost_end (results_none rfl a'.tmps _ w') hd ?_
      exact ⟨rfl, grownBy_of_grows hJ _, h.out.grows hJ, hop.out.grows hJ⟩
set_option maxHeartbeats 3200000 in
theorem blur_column (o : Nat) (m rf : R) (a af : Option Addr) (len cap lf cf : Nat) (F : Img) (x r : Int) (w : World) (ho : Hid (Blk w o 35 #[.int .i64 m.x0, .int .i64 m.y0, .int .i64 m.x1, .int .i64 m.y1, .slice a len cap]))
    (h : Hid (BufAt w m a len cap (upToC m (blurV F r) x m.y0 noF))) (hop : Hid (Open w a)) (hf : Hid (BufAt w rf af lf cf F)) (hne : blkOf a ≠ some o) (hnf : 0 < lf → ∀ x, af = some x → some x.block ≠ blkOf a) (hs : cntR m ≤ 140737488355328) (hsf : cntR rf ≤ 140737488355328)
    (hr0 : 0 ≤ r) (hr1 : r ≤ 255) (hx0 : m.x0 ≤ x) (hx1 : x < m.x1) :
    Calls Tryd.prog 63 #[.pointer (some ⟨o, 0, none⟩), .agg #[.int .i64 rf.x0, .int .i64 rf.y0, .int .i64 rf.x1, .int .i64 rf.y1, .slice af lf cf], .int .i64 x, .int .i64 r] w fun e w' => e = .returned (.tuple #[]) ∧ w.grownBy w' (blkOf a) ∧ BufAt w' m a len cap (upToC m (blurV F r) (x + 1) m.y0 noF) ∧ Open w' a := by
  have hm := h.out.most
  have hmf := hf.out.most
  have hg := h.out.good
  have hbd := hg.bd
  have hle := hg.le
  have hgf := hf.out.good
  have hbf := hgf.bd
  have holt := ho.out.lt
  obtain ⟨o0, o1, o2, o3, o4, of⟩ := ho.out.c5
  have AP : Hid (BlurAp w o w.heap.size (w.heap.size + 1) (w.heap.size + 1 + 1) a af lf) := ⟨holt, by omega, by omega, by omega, by omega, by omega, fun x hx => (hop.out x hx).1, hne, fun h0 x hx => ⟨by
    obtain ⟨b, off, e, hb, -⟩ := hf.out.pix.cells h0
    rw [hx] at e; cases e; exact hb, hnf h0 x hx⟩⟩
  have FOK : Hid (∀ u v, okP (F u v)) := hf.out.fits.ok
  have FOUT : Hid (∀ u v, hasR rf u v = false → F u v = noP) := hf.out.fits.out
  clear hne hnf hgf hg
  go_enter Tryd.func63, Tryd.ntmps63
  go_wp2
  refine wp_name ?_
  intro W0 hW0
  have GW : Hid (Grows w W0) := by rw [hW0]; exact (by repeat (first | exact Grows.refl _ | apply Grows.grow | apply Grows.alloc | apply Grows.drew))
  have ST : Hid (BlurSt w W0 o w.heap.size (w.heap.size + 1) (w.heap.size + 1 + 1) m a len cap (upToC m (blurV F r) x m.y0 noF) rf af lf cf F (sumP (fun u => F x u) (m.y0 - r) 0)) := by
    refine ⟨ho.out.grows GW.out, ?_, ?_, ?_, grownBy_of_grows GW.out _, h.out.grows GW.out, hop.out.grows GW.out, hf.out.grows GW.out⟩
    · rw [hW0]; exact (by unfold Blk; repeat (first | exact blk_at _ _ _ (by first | omega | (simp; done) | (simp; omega)) | refine (blk_past _ _ _ (by first | omega | (simp; done) | (simp; omega))).trans ?_ | refine (heap_grow _ _ _ (by first | omega | (simp; done) | (simp; omega))).trans ?_ | refine (blk_drew _ _).trans ?_))
    · rw [hW0]; exact (by unfold Blk; repeat (first | exact blk_at _ _ _ (by first | omega | (simp; done) | (simp; omega)) | refine (blk_past _ _ _ (by first | omega | (simp; done) | (simp; omega))).trans ?_ | refine (heap_grow _ _ _ (by first | omega | (simp; done) | (simp; omega))).trans ?_ | refine (blk_drew _ _).trans ?_))
    · rw [hW0]; exact (by unfold Blk; repeat (first | exact blk_at _ _ _ (by first | omega | (simp; done) | (simp; omega)) | refine (blk_past _ _ _ (by first | omega | (simp; done) | (simp; omega))).trans ?_ | refine (heap_grow _ _ _ (by first | omega | (simp; done) | (simp; omega))).trans ?_ | refine (blk_drew _ _).trans ?_))
  clear hW0 o0 o1 o2 o3 o4 of h hop hf ho
  go_loopw [10] (fun z wr => ∃ k : Nat, (k : Int) ≤ 2 * r ∧ z = .int .i64 (m.y0 - r + k) ∧ Hid (BlurSt w wr o w.heap.size (w.heap.size + 1) (w.heap.size + 1 + 1) m a len cap (upToC m (blurV F r) x m.y0 noF) rf af lf cf F (sumP (fun u => F x u) (m.y0 - r) k))) (fun z _ => (m.y0 + r - intOf z).toNat)
  case atStart => exact ⟨0, by omega, by go_num, ST.out⟩
  case round =>
    clear ST
    obtain ⟨k, hk, rfl, hh⟩ := hrel
    obtain ⟨m0, m1, m2, m3, mf⟩ := hh.out.mb.c4
    have lm := hh.out.mb.lt
    by_cases hlt : (k : Int) < 2 * r
    · obtain ⟨s0, s1, s2, s3, s4, sf⟩ := hh.out.fb.c5
      have ls := hh.out.fb.lt
      have HSRC := Lib.hid hh.out.src
      go_wp2_with (first | (first | (go_at_call 67; (with_reducible refine (raster_At _ _ _ _ _ _ _ _ (Lib.hid (BufAt.grows HSRC.out (by repeat (first | exact Grows.refl _ | apply Grows.grow | apply Grows.alloc | apply Grows.drew)))) (by omega)).mono ?_); rintro e w' ⟨rfl, hgw⟩; first | (obtain ⟨gw, rfl⟩ := grows_of_grow hgw) | (obtain ⟨gw, rfl⟩ := hgw))) | (go_at_call 85; refine (blur_add1 _ (sumP (fun u => F x u) (m.y0 - r) k) _ _ (Lib.hid (hh.out.sb.grows (by repeat (first | exact Grows.refl _ | apply Grows.grow | apply Grows.alloc | apply Grows.drew)))) (sumP_bdS (fun u => FOK.out x u) _ (by omega)) (FOK.out _ _)).mono ?_; rintro e w1 ⟨rfl, hg1, hb1⟩; have ST1 := Lib.hid ((hh.out.grows (by exact (by repeat (first | exact Grows.refl _ | apply Grows.grow | apply Grows.alloc | apply Grows.drew)))).add AP.out hg1 hb1); clear hg1 hb1))
      go_roundw
      case rel => exact ⟨k + 1, by omega, by go_num, ST1.out⟩
      case measure => simp [intOf]; omega
    · obtain rfl : k = (2 * r).toNat := by omega
      go_wp2
      obtain ⟨wo, hwo⟩ : ∃ wo : World, wo = wr := ⟨_, rfl⟩
      clear hwo
      go_loopw [11] (fun z wr => ∃ v : Int, m.y0 ≤ v ∧ v ≤ m.y1 ∧ z = .int .i64 v ∧ Hid (BlurSt w wr o w.heap.size (w.heap.size + 1) (w.heap.size + 1 + 1) m a len cap (upToC m (blurV F r) x v noF) rf af lf cf F (sumP (fun u => F x u) (v - r) (2 * r).toNat))) (fun z _ => (m.y1 - intOf z).toNat)
      case atStart => exact ⟨_, by omega, by omega, rfl, hh.out⟩
      case round =>
        clear hh m0 m1 m2 m3 mf lm
        obtain ⟨v, hv1, hv2, rfl, hh⟩ := hrel
        obtain ⟨m0, m1, m2, m3, mf⟩ := hh.out.mb.c4
        have lm := hh.out.mb.lt
        by_cases hlt : v < m.y1
        · have hhas : hasR m x v = true := (hasR_iff _ _ _).2 (by omega)
          obtain ⟨s0, s1, s2, s3, s4, sf⟩ := hh.out.fb.c5
          have ls := hh.out.fb.lt
          have HSRC := Lib.hid hh.out.src
          have hb0 := sumP_bd (fun u => FOK.out x u) (v - r) (winN r)
          rw [winN_eq hr0] at hb0
          go_wp2_with (first
            | (first | (go_at_call 67; (with_reducible refine (raster_At _ _ _ _ _ _ _ _ (Lib.hid (BufAt.grows HSRC.out (by repeat (first | exact Grows.refl _ | apply Grows.grow | apply Grows.alloc | apply Grows.drew)))) (by omega)).mono ?_); rintro e w' ⟨rfl, hgw⟩; first | (obtain ⟨gw, rfl⟩ := grows_of_grow hgw) | (obtain ⟨gw, rfl⟩ := hgw)))
            | (go_at_call 85
               refine (blur_add1 _ (sumP (fun u => F x u) (v - r) (2 * r).toNat) _ _ (Lib.hid (hh.out.sb.grows (by repeat (first | exact Grows.refl _ | apply Grows.grow | apply Grows.alloc | apply Grows.drew)))) (sumP_bdS (fun u => FOK.out x u) _ (by omega)) (FOK.out _ _)).mono ?_
               rintro e w1 ⟨rfl, hg1, hb1⟩
               rw [sumP_in (fun u => F x u) v hr0] at hb1
               have ST1 := Lib.hid ((hh.out.grows (by exact (by repeat (first | exact Grows.refl _ | apply Grows.grow | apply Grows.alloc | apply Grows.drew)))).add AP.out hg1 hb1)
               clear hg1 hb1 hh HSRC m0 m1 m2 m3 mf lm s0 s1 s2 s3 s4 sf ls)
            | (first | (go_at_call 86; refine (blur_mean _ _ _ _ (Lib.hid (ST1.out.sb.grows (by repeat (first | exact Grows.refl _ | apply Grows.grow | apply Grows.alloc | apply Grows.drew)))) (by omega) (by omega) (by omega) hb0).mono ?_; rintro e w' ⟨rfl, hgw⟩; first | (obtain ⟨gw, rfl⟩ := grows_of_grow hgw) | (obtain ⟨gw, rfl⟩ := hgw)))
            | (go_at_call 66
               refine (raster_Put _ _ _ _ _ _ _ _ (blurV F r x v) _ (Lib.hid (ST1.out.ob.grows (by repeat (first | exact Grows.refl _ | apply Grows.grow | apply Grows.alloc | apply Grows.drew)))) (Lib.hid (ST1.out.buf.grows (by repeat (first | exact Grows.refl _ | apply Grows.grow | apply Grows.alloc | apply Grows.drew)))) (Lib.hid (ST1.out.open_.grows (by repeat (first | exact Grows.refl _ | apply Grows.grow | apply Grows.alloc | apply Grows.drew)))) hs (blurV_ok FOK.out hr0 _ _)).mono ?_
               rintro e w2 ⟨rfl, hg1, hb1, hp1⟩
               rw [upToC_next hhas] at hb1
               have ST2 := Lib.hid ((ST1.out.grows (by exact (by repeat (first | exact Grows.refl _ | apply Grows.grow | apply Grows.alloc | apply Grows.drew)))).put AP.out hg1 hb1 hp1)
               clear hg1 hb1 hp1 ST1 hb0
               obtain ⟨m0, m1, m2, m3, mf⟩ := ST2.out.mb.c4
               have lm := ST2.out.mb.lt
               obtain ⟨s0, s1, s2, s3, s4, sf⟩ := ST2.out.fb.c5
               have ls := ST2.out.fb.lt
               have HSRC := Lib.hid ST2.out.src)
            | (go_at_call 85
               refine (blur_add2 _ (sumP (fun u => F x u) (v - r) (winN r)) _ _ (Lib.hid (ST2.out.sb.grows (by repeat (first | exact Grows.refl _ | apply Grows.grow | apply Grows.alloc | apply Grows.drew)))) (sumP_bdS (fun u => FOK.out x u) _ (by unfold winN; omega)) (FOK.out _ _)).mono ?_
               rintro e w3 ⟨rfl, hg1, hb1⟩
               rw [sumP_out (fun u => F x u) v hr0] at hb1
               have ST3 := Lib.hid ((ST2.out.grows (by exact (by repeat (first | exact Grows.refl _ | apply Grows.grow | apply Grows.alloc | apply Grows.drew)))).add AP.out hg1 hb1)
               clear hg1 hb1))
          go_roundw
          case rel => exact ⟨v + 1, by omega, by omega, by go_num, ST3.out⟩
          case measure => simp [intOf]; omega
        · obtain rfl : v = m.y1 := by omega
          go_wp2
          go_end0
          have st := hh.out
          rw [upToC_col] at st
          exact ⟨rfl, st.by_, st.buf, st.open_⟩
end Go.Proofs.YtklcmlbkhjcaiaaDoor
