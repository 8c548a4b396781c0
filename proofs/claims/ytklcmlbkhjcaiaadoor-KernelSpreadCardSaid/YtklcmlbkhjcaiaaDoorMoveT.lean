/- The walks of layer 10: a tile repeated; the reference's. -/
import Derived.Test.YtklcmlbkhjcaiaaDoorMove
import Derived.Test.YtklcmlbkhjcaiaaDoorK16



namespace Go.Proofs.YtklcmlbkhjcaiaaDoor
open Go.RowKit
set_option linter.unusedVariables false

def tileP (t : R) (F : Img) : Img := fun x y => F (t.x0 + (x - t.x0) % (t.x1 - t.x0)) (t.y0 + (y - t.y0) % (t.y1 - t.y0))
theorem tileF_eq (b t : R) (F : Img) : tileF b t F = cutF (someR b) (tileP t F) := rfl
theorem ref05_AtIs (r : R) (a : Option Addr) (len cap : Nat) (F : Img) (x y : Int) (w : World) (q : P4) (h : Hid (BufAt w r a len cap F)) (hs : cntR r ≤ 140737488355328) (hq : Hid (F x y = q)) :
    Calls Tryd.prog 20 #[.agg #[.int .i64 r.x0, .int .i64 r.y0, .int .i64 r.x1, .int .i64 r.y1, .slice a len cap], .int .i64 x, .int .i64 y] w fun e w' => e = .returned (.agg #[.int .u8 q.r, .int .u8 q.g, .int .u8 q.b, .int .u8 q.a]) ∧ Grows w w' := by
  have := ref05_At r a len cap F x y w h hs
  rwa [hq.out] at this
theorem raster_AtIs (r : R) (a : Option Addr) (len cap : Nat) (F : Img) (x y : Int) (w : World) (q : P4) (h : Hid (BufAt w r a len cap F)) (hs : cntR r ≤ 140737488355328) (hq : Hid (F x y = q)) :
    Calls Tryd.prog 67 #[.agg #[.int .i64 r.x0, .int .i64 r.y0, .int .i64 r.x1, .int .i64 r.y1, .slice a len cap], .int .i64 x, .int .i64 y] w fun e w' => e = .returned (.agg #[.int .u8 q.r, .int .u8 q.g, .int .u8 q.b, .int .u8 q.a]) ∧ Grows w w' := by
  have := raster_At r a len cap F x y w h hs
  rwa [hq.out] at this
theorem move_wrappedIs (n s m : Int) (w : World) (hm : Hid (n % s = m)) (hs : 0 < s) (hs2 : s ≤ 10000000000000) (h0 : -10000000000000 ≤ n) (h1 : n ≤ 10000000000000) : Calls Tryd.prog 65 #[.int .i64 n, .int .i64 s] w fun e w' => e = .returned (.int .i64 m) ∧ w = w' := by
  have := move_wrapped n s w hs hs2 h0 h1
  rwa [hm.out] at this
/-- What holds while a buffer is written, pixel by pixel: fb: the source; tb: a rectangle; rb: the result; ob: the buffer's variable. -/
structure TileSt (w wr : World) (n0 n2 nr no : Nat) (rf t : R) (af : Option Addr) (lf cf : Nat) (g : R) (a : Option Addr) (len cap : Nat) (G : Img) : Prop where
  fb : Blk wr n0 35 #[.int .i64 rf.x0, .int .i64 rf.y0, .int .i64 rf.x1, .int .i64 rf.y1, .slice af lf cf]
  tb : Blk wr n2 27 #[.int .i64 t.x0, .int .i64 t.y0, .int .i64 t.x1, .int .i64 t.y1]
  rb : Blk wr nr 35 #[.int .i64 0, .int .i64 0, .int .i64 0, .int .i64 0, .slice none 0 0]
  ob : Blk wr no 35 #[.int .i64 g.x0, .int .i64 g.y0, .int .i64 g.x1, .int .i64 g.y1, .slice a len cap]
  gr : Grows w wr
  buf : BufAt wr g a len cap G
  open_ : Open wr a
theorem TileSt.grows {w wr w' : World} {n0 n2 nr no : Nat} {rf t : R} {af : Option Addr} {lf cf : Nat} {g : R} {a : Option Addr} {len cap : Nat} {G : Img} (h : TileSt w wr n0 n2 nr no rf t af lf cf g a len cap G) (k : Grows wr w') : TileSt w w' n0 n2 nr no rf t af lf cf g a len cap G :=
  ⟨h.fb.grows k, h.tb.grows k, h.rb.grows k, h.ob.grows k, h.gr.trans k, h.buf.grows k, h.open_.grows k⟩
theorem TileSt.step {w wr w' : World} {n0 n2 nr no : Nat} {rf t : R} {af : Option Addr} {lf cf : Nat} {g : R} {a : Option Addr} {len cap : Nat} {G G' : Img} (h : TileSt w wr n0 n2 nr no rf t af lf cf g a len cap G) (ha : ∀ k, blkOf a = some k → w.heap.size ≤ k ∧ k ≠ n0 ∧ k ≠ n2 ∧ k ≠ nr ∧ k ≠ no) (g1 : wr.grownBy w' (blkOf a)) (b1 : BufAt w' g a len cap G') (o1 : Open w' a) : TileSt w w' n0 n2 nr no rf t af lf cf g a len cap G' :=
  ⟨h.fb.grown g1 (fun e => (ha _ e.symm).2.1 rfl), h.tb.grown g1 (fun e => (ha _ e.symm).2.2.1 rfl), h.rb.grown g1 (fun e => (ha _ e.symm).2.2.2.1 rfl), h.ob.grown g1 (fun e => (ha _ e.symm).2.2.2.2 rfl), h.gr.grown g1 (fun k hk => (ha k hk).1), b1, o1⟩

set_option maxHeartbeats 6400000 in
theorem move_Tile (b rf t : R) (af : Option Addr) (lf cf : Nat) (F : Img) (w : World) (hf : Hid (BufAt w rf af lf cf F)) (hsf : cntR rf ≤ 30000000000000) (hb : rightR b = true) (hs : cntR (someR b) ≤ 30000000000000) (htn : emptyR t = false) (htr : rightR t = true) :
    Calls Tryd.prog 40 #[.agg #[.int .i64 rf.x0, .int .i64 rf.y0, .int .i64 rf.x1, .int .i64 rf.y1, .slice af lf cf], .agg #[.int .i64 b.x0, .int .i64 b.y0, .int .i64 b.x1, .int .i64 b.y1], .agg #[.int .i64 t.x0, .int .i64 t.y0, .int .i64 t.x1, .int .i64 t.y1]] w (RetBuf w (someR b) (tileF b t F)) := by
  rw [tileF_eq]
  have HG : Hid (GoodR (someR b)) := good_some hb
  have hgb := HG.out.bd
  have hgl := HG.out.le
  have hte := (emptyR_not t).1 htn
  have htb := (rightR_iff t).1 htr
  have FOK : Hid (∀ u v, okP (F u v)) := hf.out.fits.ok
  have HN : Hid (∀ w, Calls Tryd.prog 59 #[.agg #[.int .i64 b.x0, .int .i64 b.y0, .int .i64 b.x1, .int .i64 b.y1]] w (RetBuf w (someR b) noF)) := fun w => raster_New b w hb (by omega)
  obtain ⟨g, hg⟩ : ∃ g, g = someR b := ⟨_, rfl⟩
  rw [← hg] at HN HG hgb hgl hs ⊢
  clear hg htn htr
  go_enter Tryd.func40, Tryd.ntmps40
  go_wp2_with (first
    | (go_at_call 59
       refine (HN.out _).mono ?_
       rintro e w1 ⟨a, len, cap, rfl, hg1, hb1⟩
       have C0 : Hid (Blk w1 w.heap.size 35 #[.int .i64 rf.x0, .int .i64 rf.y0, .int .i64 rf.x1, .int .i64 rf.y1, .slice af lf cf]) := by
         refine Blk.grows ?_ hg1
         exact (by unfold Blk; repeat (first | exact blk_at _ _ _ (by first | omega | (simp; done) | (simp; omega)) | refine (blk_past _ _ _ (by first | omega | (simp; done) | (simp; omega))).trans ?_ | refine (heap_grow _ _ _ (by first | omega | (simp; done) | (simp; omega))).trans ?_ | refine (blk_drew _ _).trans ?_))
       have C1 : Hid (Blk w1 (w.heap.size + 1 + 1) 27 #[.int .i64 t.x0, .int .i64 t.y0, .int .i64 t.x1, .int .i64 t.y1]) := by
         refine Blk.grows ?_ hg1
         exact (by unfold Blk; repeat (first | exact blk_at _ _ _ (by first | omega | (simp; done) | (simp; omega)) | refine (blk_past _ _ _ (by first | omega | (simp; done) | (simp; omega))).trans ?_ | refine (heap_grow _ _ _ (by first | omega | (simp; done) | (simp; omega))).trans ?_ | refine (blk_drew _ _).trans ?_))
       have C2 : Hid (Blk w1 (w.heap.size + 1 + 1 + 1) 35 #[.int .i64 0, .int .i64 0, .int .i64 0, .int .i64 0, .slice none 0 0]) := by
         refine Blk.grows ?_ hg1
         exact (by unfold Blk; repeat (first | exact blk_at _ _ _ (by first | omega | (simp; done) | (simp; omega)) | refine (blk_past _ _ _ (by first | omega | (simp; done) | (simp; omega))).trans ?_ | refine (heap_grow _ _ _ (by first | omega | (simp; done) | (simp; omega))).trans ?_ | refine (blk_drew _ _).trans ?_))
       have GR : Hid (Grows w w1) := by
         refine Grows.trans ?_ hg1
         exact (by repeat (first | exact Grows.refl _ | apply Grows.grow | apply Grows.alloc | apply Grows.drew))
       have hsz : w.heap.size + 4 ≤ w1.heap.size := by have := hg1.below.size; simp at this; omega
       have HA : Hid (∀ k, blkOf a = some k → w.heap.size + 4 ≤ k ∧ k < w1.heap.size) := fun k hk => by
         cases a with
         | none => cases hk
         | some x =>
           have h1 := hb1.out.2.2 x rfl
           have h2 := (hb1.out.2.1 x rfl).1
           simp at hk h1
           omega
       have BU := Lib.hid hb1.out.1
       have OP := Lib.hid hb1.out.2.1
       obtain ⟨t0, t1, t2, t3, tf⟩ := C1.out.c4
       have lt := C1.out.lt
       clear hg1 hb1))
  first | refine region_grow2 (by kernel_rfl) (by kernel_rfl) ?_ | refine region_grow (by kernel_rfl) (by kernel_rfl) ?_
  repeat (go_big_quiet_step (fail))
  refine wpQuiet_nil ?_
  rintro _ ⟨ga, rfl⟩
  go_wp2
  have HA2 : Hid (∀ k, blkOf a = some k → w.heap.size ≤ k ∧ k ≠ w.heap.size ∧ k ≠ w.heap.size + 1 + 1 ∧ k ≠ w.heap.size + 1 + 1 + 1 ∧ k ≠ w1.heap.size) := fun k hk => by have := HA.out k hk; omega
  clear t0 t1 t2 t3 tf lt
  go_loopw [10] (fun z wr => ∃ v : Int, g.y0 ≤ v ∧ v ≤ g.y1 ∧ z = .int .i64 v ∧ Hid (TileSt w wr w.heap.size (w.heap.size + 1 + 1) (w.heap.size + 1 + 1 + 1) w1.heap.size rf t af lf cf g a len cap (upTo g (tileP t F) v g.x0 noF))) (fun z _ => (g.y1 - intOf z).toNat)
  case atStart => exact ⟨_, by omega, by omega, rfl, C0.out.grows (by repeat (first | exact Grows.refl _ | apply Grows.grow | apply Grows.alloc | apply Grows.drew)), C1.out.grows (by repeat (first | exact Grows.refl _ | apply Grows.grow | apply Grows.alloc | apply Grows.drew)), C2.out.grows (by repeat (first | exact Grows.refl _ | apply Grows.grow | apply Grows.alloc | apply Grows.drew)), (by unfold Blk; repeat (first | exact blk_at _ _ _ (by first | omega | (simp; done) | (simp; omega)) | refine (blk_past _ _ _ (by first | omega | (simp; done) | (simp; omega))).trans ?_ | refine (heap_grow _ _ _ (by first | omega | (simp; done) | (simp; omega))).trans ?_ | refine (blk_drew _ _).trans ?_)), GR.out.trans (by repeat (first | exact Grows.refl _ | apply Grows.grow | apply Grows.alloc | apply Grows.drew)), by rw [upTo_first]; exact BU.out.grows (by repeat (first | exact Grows.refl _ | apply Grows.grow | apply Grows.alloc | apply Grows.drew)), OP.out.grows (by repeat (first | exact Grows.refl _ | apply Grows.grow | apply Grows.alloc | apply Grows.drew))⟩
  case round =>
    clear C0 C1 C2 GR BU OP
    obtain ⟨v, hv1, hv2, rfl, hh⟩ := hrel
    obtain ⟨m0, m1, m2, m3, m4, mf⟩ := hh.out.ob.c5
    have lm := hh.out.ob.lt
    by_cases hlt : v < g.y1
    · obtain ⟨my, hmy⟩ : ∃ m, m = (v - t.y0) % (t.y1 - t.y0) := ⟨_, rfl⟩
      have hy0 : 0 ≤ my := by rw [hmy]; exact Int.emod_nonneg _ (by omega)
      have hy1 : my < t.y1 - t.y0 := by rw [hmy]; exact Int.emod_lt_of_pos _ (by omega)
      have HMY : Hid ((v - t.y0) % (t.y1 - t.y0) = my) := hmy.symm
      obtain ⟨t0, t1, t2, t3, tf⟩ := hh.out.tb.c4
      have lt := hh.out.tb.lt
      clear hmy
      go_wp2
      first | refine region_grow2 (by kernel_rfl) (by kernel_rfl) ?_ | refine region_grow (by kernel_rfl) (by kernel_rfl) ?_
      repeat (go_big_quiet_step ((first | (go_at_call 65; exact grow_same (move_wrappedIs _ _ _ _ HMY (by omega) (by omega) (by omega) (by omega))))))
      refine wpQuiet_nil ?_
      rintro _ ⟨gb, rfl⟩
      go_wp2
      clear t0 t1 t2 t3 tf lt m0 m1 m2 m3 m4 mf lm
      obtain ⟨wo, hwo⟩ : ∃ wo : World, wo = wr := ⟨_, rfl⟩
      clear hwo
      go_loopw [12] (fun z wr => ∃ u : Int, g.x0 ≤ u ∧ u ≤ g.x1 ∧ z = .int .i64 u ∧ Hid (TileSt w wr w.heap.size (w.heap.size + 1 + 1) (w.heap.size + 1 + 1 + 1) w1.heap.size rf t af lf cf g a len cap (upTo g (tileP t F) v u noF))) (fun z _ => (g.x1 - intOf z).toNat)
      case atStart => exact ⟨_, by omega, by omega, rfl, hh.out.grows (by repeat (first | exact Grows.refl _ | apply Grows.grow | apply Grows.alloc | apply Grows.drew))⟩
      case round =>
        clear hh
        obtain ⟨u, hu1, hu2, rfl, hh⟩ := hrel
        obtain ⟨m0, m1, m2, m3, m4, mf⟩ := hh.out.ob.c5
        have lm := hh.out.ob.lt
        by_cases hltx : u < g.x1
        · have hhas : hasR g u v = true := (hasR_iff _ _ _).2 (by omega)
          obtain ⟨mx, hmx⟩ : ∃ m, m = (u - t.x0) % (t.x1 - t.x0) := ⟨_, rfl⟩
          have hx0 : 0 ≤ mx := by rw [hmx]; exact Int.emod_nonneg _ (by omega)
          have hx1 : mx < t.x1 - t.x0 := by rw [hmx]; exact Int.emod_lt_of_pos _ (by omega)
          have HMX : Hid ((u - t.x0) % (t.x1 - t.x0) = mx) := hmx.symm
          obtain ⟨q, hq⟩ : ∃ q, q = tileP t F u v := ⟨_, rfl⟩
          have HQ0 : Hid (F (t.x0 + mx) (t.y0 + my) = q) := by rw [hq, hmx, ← HMY.out]; rfl
          have QOK : okP q := by rw [hq]; exact FOK.out _ _
          have NX : Hid (putF g (upTo g (tileP t F) v u noF) u v q = upTo g (tileP t F) v (u + 1) noF) := by rw [hq]; exact upTo_next hhas
          obtain ⟨s0, s1, s2, s3, s4, sf⟩ := hh.out.fb.c5
          have ls := hh.out.fb.lt
          obtain ⟨t0, t1, t2, t3, tf⟩ := hh.out.tb.c4
          have lt := hh.out.tb.lt
          have HSRC := Lib.hid (hf.out.grows hh.out.gr)
          clear hmx hq
          go_wp2
          first | refine region_grow_tail2 14 (by kernel_rfl) (by kernel_rfl) ?_ | refine region_grow_tail 14 (by kernel_rfl) (by kernel_rfl) ?_
          simp only [List.take_succ_cons, List.take_zero, List.drop_succ_cons, List.drop_zero]
          repeat (go_big_quiet_step ((first | (go_at_call 65; exact grow_same (move_wrappedIs _ _ _ _ HMX (by omega) (by omega) (by omega) (by omega))) | (go_at_call 67; exact grow_of (raster_AtIs _ _ _ _ _ _ _ _ _ (Lib.hid (BufAt.grows HSRC.out (by repeat (first | exact Grows.refl _ | apply Grows.grow | apply Grows.alloc | apply Grows.drew)))) (by omega) HQ0)))))
          refine wpQuiet_nil ?_
          rintro _ ⟨gc, rfl⟩
          go_wp2_with (go_at_call 66; refine (raster_Put w1.heap.size g a len cap _ _ _ q _ (Lib.hid (hh.out.ob.grows (by repeat (first | exact Grows.refl _ | apply Grows.grow | apply Grows.alloc | apply Grows.drew)))) (Lib.hid (hh.out.buf.grows (by repeat (first | exact Grows.refl _ | apply Grows.grow | apply Grows.alloc | apply Grows.drew)))) (Lib.hid (hh.out.open_.grows (by repeat (first | exact Grows.refl _ | apply Grows.grow | apply Grows.alloc | apply Grows.drew)))) (by omega) QOK).mono ?_; rintro e w2 ⟨rfl, hg1, hb1, hp1⟩; rw [NX.out] at hb1; have ST2 := Lib.hid ((hh.out.grows (by exact (by repeat (first | exact Grows.refl _ | apply Grows.grow | apply Grows.alloc | apply Grows.drew)))).step HA2.out hg1 hb1 hp1); clear hg1 hb1 hp1)
          go_roundw
          case rel => exact ⟨u + 1, by omega, by omega, by go_num, ST2.out.grows (by repeat (first | exact Grows.refl _ | apply Grows.grow | apply Grows.alloc | apply Grows.drew))⟩
          case measure => simp [intOf]; omega
        · obtain rfl : u = g.x1 := by omega
          go_wp2
          go_roundw
          case rel =>
            have st := hh.out
            rw [upTo_row] at st
            exact ⟨v + 1, by omega, by omega, by go_num, st⟩
          case measure => simp [intOf]; omega
    · obtain rfl : v = g.y1 := by omega
      have MB : Hid (BufAt wr g a len cap (cutF g (tileP t F))) := by have := hh.out.buf; rwa [upTo_last] at this
      obtain ⟨q0, q1, q2, q3, q4, qf⟩ := hh.out.rb.c5
      have lq := hh.out.rb.lt
      go_wp2
      obtain ⟨D1, D2⟩ := ret_cell MB.out hh.out.open_ hh.out.gr (n := w.heap.size + 1 + 1 + 1) (by omega) (fun k hk => ⟨(HA2.out k hk).1, (HA2.out k hk).2.2.2.1⟩) (.int .i64 g.x0) (.int .i64 g.y0) (.int .i64 g.x1) (.int .i64 g.y1) (.slice a len cap)
      refine bodyPost_ret (results_cell_row rfl _ _ _ 35 #[.int .i64 g.x0, .int .i64 g.y0, .int .i64 g.x1, .int .i64 g.y1, .slice a len cap] (0, 0) _ rfl (hh.out.rb.set5 _ _ _ _ _) Tryd.underlying35 rfl buf_info) rfl ⟨_, _, _, rfl, D1, D2⟩
end Go.Proofs.YtklcmlbkhjcaiaaDoor
