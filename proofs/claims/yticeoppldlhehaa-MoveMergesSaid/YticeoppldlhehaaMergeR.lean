/- The walk of layer 10's Merge by the reference. -/
import Derived.Test.YticeoppldlhehaaMergeL
import Derived.Test.YticeoppldlhehaaMove
import Derived.Deep.RegionHeld3
namespace Go.Proofs.Yticeoppldlhehaa
open Go.RowKit
set_option linter.unusedVariables false

theorem store5_grown (wr : World) (n : Nat) (v0 v1 v2 v3 v4 : Value) : wr.grownBy (((((wr.setCell ⟨n, 0, none⟩ v0).setCell ⟨n, 1, none⟩ v1).setCell ⟨n, 2, none⟩ v2).setCell ⟨n, 3, none⟩ v3).setCell ⟨n, 4, none⟩ v4) (some n) := by
  iterate 4 (refine grownBy_setCell ?_ (.inl rfl) _)
  exact grownBy_setCell (World.grownBy.refl wr _) (.inl rfl) _
set_option maxRecDepth 100000 in
set_option maxHeartbeats 12800000 in
theorem ref10_Merge (b : R) (al : Option Addr) (ll cl : Nat) (g5 : Nat → Bf) (F : Nat → Img) (w : World) (hl : Hid (IsBufs w al ll cl g5)) (hbs : Hid (∀ i, i < ll → BufAt w (g5 i).r (g5 i).a (g5 i).len (g5 i).cap (F i) ∧ cntR (g5 i).r ≤ 30000000000000)) (hb : rightR b = true) (hs : cntR (someR b) ≤ 30000000000000) :
    Calls Try.prog 29 #[.slice al ll cl, .agg #[.int .i64 b.x0, .int .i64 b.y0, .int .i64 b.x1, .int .i64 b.y1]] w (RetBuf w (someR b) (mergeF (someR b) F ll)) := by
  have HN : Hid (∀ w, Calls Try.prog 44 #[.agg #[.int .i64 b.x0, .int .i64 b.y0, .int .i64 b.x1, .int .i64 b.y1]] w (RetBuf w (someR b) noF)) := fun w => ref05_New b w hb (by omega)
  have HO : Hid (∀ (W : World) (rf : R) (af : Option Addr) (lf cf : Nat) (ag : Option Addr) (lg cg : Nat) (F G : Img), Hid (BufAt W rf af lf cf F) → cntR rf ≤ 30000000000000 → Hid (BufAt W (someR b) ag lg cg G) → Calls Try.prog 49 #[.agg #[.int .i64 rf.x0, .int .i64 rf.y0, .int .i64 rf.x1, .int .i64 rf.y1, .slice af lf cf], .agg #[.int .i64 (someR b).x0, .int .i64 (someR b).y0, .int .i64 (someR b).x1, .int .i64 (someR b).y1, .slice ag lg cg], .agg #[.int .i64 b.x0, .int .i64 b.y0, .int .i64 b.x1, .int .i64 b.y1]] W (RetBuf W (someR b) (cutF (someR b) (overF F G)))) :=
    fun W rf af lf cf ag lg cg F G h1 h2 h3 => ref10_Over b rf (someR b) af lf cf ag lg cg F G W h1 h2 h3 hs hb hs
  obtain ⟨g, hg⟩ : ∃ g, g = someR b := ⟨_, rfl⟩
  rw [← hg] at HN HO hs ⊢
  have m1 := hl.out.le
  have m1' := hl.out.most
  clear hg hb
  go_enter Try.func29, Try.ntmps29
  go_wp2_with (first
    | (go_at_call 44
       refine (HN.out _).mono ?_
       rintro e w1 ⟨a, len, cap, rfl, hg1, hb1⟩
       have C0 : Hid (Blk w1 w.heap.size 23 #[.int .i64 b.x0, .int .i64 b.y0, .int .i64 b.x1, .int .i64 b.y1]) := by
         refine Blk.grows ?_ hg1
         exact (by unfold Blk; repeat (first | exact blk_at _ _ _ (by first | omega | (simp; done) | (simp; omega)) | refine (blk_past _ _ _ (by first | omega | (simp; done) | (simp; omega))).trans ?_ | refine (heap_grow _ _ _ (by first | omega | (simp; done) | (simp; omega))).trans ?_ | refine (blk_drew _ _).trans ?_))
       have C2 : Hid (Blk w1 (w.heap.size + 1) 26 #[.int .i64 0, .int .i64 0, .int .i64 0, .int .i64 0, .slice none 0 0]) := by
         refine Blk.grows ?_ hg1
         exact (by unfold Blk; repeat (first | exact blk_at _ _ _ (by first | omega | (simp; done) | (simp; omega)) | refine (blk_past _ _ _ (by first | omega | (simp; done) | (simp; omega))).trans ?_ | refine (heap_grow _ _ _ (by first | omega | (simp; done) | (simp; omega))).trans ?_ | refine (blk_drew _ _).trans ?_))
       have GR : Hid (Grows w w1) := by
         refine Grows.trans ?_ hg1
         exact (by repeat (first | exact Grows.refl _ | apply Grows.grow | apply Grows.alloc | apply Grows.drew))
       have hsz : w.heap.size + 2 ≤ w1.heap.size := by have := hg1.below.size; simp at this; omega
       have HA : Hid (∀ k, blkOf a = some k → w.heap.size + 2 ≤ k ∧ k ≠ w1.heap.size) := fun k hk => by
         cases a with
         | none => cases hk
         | some x =>
           have h1 := hb1.out.2.2 x rfl
           have h2 := (hb1.out.2.1 x rfl).1
           simp at hk h1
           omega
       have BU := Lib.hid hb1.out.1
       have OP := Lib.hid hb1.out.2.1
       clear hg1 hb1))
  go_loopw [6] (fun z wr => ∃ (k : Nat) (a : Option Addr) (len cap : Nat), k ≤ ll ∧ z = .int .i64 k ∧ Hid (Blk wr w.heap.size 23 #[.int .i64 b.x0, .int .i64 b.y0, .int .i64 b.x1, .int .i64 b.y1] ∧ MgSt w wr (w.heap.size + 1) w1.heap.size g a len cap (mergeF g F k) ∧ ∀ k, blkOf a = some k → w.heap.size + 2 ≤ k ∧ k ≠ w1.heap.size)) (fun z _ => ll - (intOf z).toNat)
  case atStart => exact ⟨0, a, len, cap, by omega, rfl, C0.out.grows (by repeat (first | exact Grows.refl _ | apply Grows.grow | apply Grows.alloc | apply Grows.drew)), ⟨C2.out.grows (by repeat (first | exact Grows.refl _ | apply Grows.grow | apply Grows.alloc | apply Grows.drew)), (by unfold Blk; repeat (first | exact blk_at _ _ _ (by first | omega | (simp; done) | (simp; omega)) | refine (blk_past _ _ _ (by first | omega | (simp; done) | (simp; omega))).trans ?_ | refine (heap_grow _ _ _ (by first | omega | (simp; done) | (simp; omega))).trans ?_ | refine (blk_drew _ _).trans ?_)), GR.out.trans (by repeat (first | exact Grows.refl _ | apply Grows.grow | apply Grows.alloc | apply Grows.drew)), BU.out.grows (by repeat (first | exact Grows.refl _ | apply Grows.grow | apply Grows.alloc | apply Grows.drew)), OP.out.grows (by repeat (first | exact Grows.refl _ | apply Grows.grow | apply Grows.alloc | apply Grows.drew))⟩, HA.out⟩
  case round =>
    clear C0 C2 GR BU OP HN HA
    obtain ⟨k, a', len', cap', hk, rfl, hh⟩ := hrel
    by_cases hlt : k < ll
    · obtain ⟨b', off', rfl, hb', e0, e1, e2, e3, e4⟩ := (hl.out.grows hh.out.2.1.gr).at hlt
      have hbk := hbs.out k hlt
      obtain ⟨rk, hrk⟩ : ∃ z, z = (g5 k).r := ⟨_, rfl⟩
      obtain ⟨ak, hak⟩ : ∃ z, z = (g5 k).a := ⟨_, rfl⟩
      obtain ⟨lk, hlk⟩ : ∃ z, z = (g5 k).len := ⟨_, rfl⟩
      obtain ⟨ck, hck⟩ : ∃ z, z = (g5 k).cap := ⟨_, rfl⟩
      rw [← hrk, ← hak, ← hlk, ← hck] at hbk
      rw [← hrk] at e0 e1 e2 e3
      rw [← hak, ← hlk, ← hck] at e4
      obtain ⟨hbk1, hck1⟩ := hbk
      have BK := Lib.hid (hbk1.grows hh.out.2.1.gr)
      have MEQ : Hid (mergeF g F (k + 1) = cutF g (overF (F k) (mergeF g F k))) := rfl
      obtain ⟨o0, o1, o2, o3, o4, of⟩ := hh.out.2.1.ob.c5
      have lo := hh.out.2.1.ob.lt
      obtain ⟨d0, d1, d2, d3, df⟩ := hh.out.1.c4
      have ld := hh.out.1.lt
      clear hrk hak hlk hck hbk1
      go_wp2
      first | refine region_grow_tail2 6 (by kernel_rfl) (by kernel_rfl) ?_ | refine region_grow_tail 6 (by kernel_rfl) (by kernel_rfl) ?_
      simp only [List.take_succ_cons, List.take_zero, List.drop_succ_cons, List.drop_zero]
      repeat (go_big_quiet_step (fail))
      refine wpQuiet_nil ?_
      rintro _ ⟨gc, rfl⟩
      go_wp2_with (go_at_call 49
                   with_reducible refine Calls.mono (HO.out _ rk ak lk ck a' len' cap' (F k) (mergeF g F k) ?_ hck1 ?_) ?_
                   · exact Lib.hid (BK.out.grows (by repeat (first | exact Grows.refl _ | apply Grows.grow | apply Grows.alloc | apply Grows.drew)))
                   · exact Lib.hid (hh.out.2.1.buf.grows (by repeat (first | exact Grows.refl _ | apply Grows.grow | apply Grows.alloc | apply Grows.drew)))
                   rintro e w7 ⟨ax, lx, px, rfl, hg7, HX⟩
                   have hg8 : Hid (Grows wr w7) := by refine Grows.trans ?_ hg7; exact (by repeat (first | exact Grows.refl _ | apply Grows.grow | apply Grows.alloc | apply Grows.drew))
                   have R7 := Lib.hid (hh.out.1.grows hg8.out)
                   have S7 := Lib.hid (hh.out.2.1.rb.grows hg8.out)
                   have O7 := Lib.hid (hh.out.2.1.ob.grows hg8.out)
                   have GR7 := Lib.hid (hh.out.2.1.gr.trans hg8.out)
                   obtain ⟨v0, v1, v2, v3, v4, vf⟩ := O7.out.c5
                   have lv := O7.out.lt
                   have HX7 : Hid (∀ k, blkOf ax = some k → w.heap.size + 2 ≤ k ∧ k ≠ w1.heap.size) := fun k hk => by
                     obtain ⟨x, hx, hx2⟩ := blkOf_some_iff hk
                     have h1 := HX.out.2.2 x hx
                     simp at h1
                     omega
                   clear hg7 hg8 hh d0 d1 d2 d3 df ld o0 o1 o2 o3 o4 of lo BK)
      have K := store5_grown w7 w1.heap.size (.int .i64 g.x0) (.int .i64 g.y0) (.int .i64 g.x1) (.int .i64 g.y1) (.slice ax lx px)
      obtain ⟨D1, D2⟩ := ret_cell HX.out.1 HX.out.2.1 GR7.out (n := w1.heap.size) (by omega) (fun k hk => by have := HX7.out k hk; omega) (.int .i64 g.x0) (.int .i64 g.y0) (.int .i64 g.x1) (.int .i64 g.y1) (.slice ax lx px)
      go_roundw
      case rel =>
        refine ⟨k + 1, ax, lx, px, by omega, by go_num, R7.out.grown K (by simp; omega), ⟨S7.out.grown K (by simp; omega), O7.out.set5 _ _ _ _ _, D1, ?_, D2.out.2.1⟩, HX7.out⟩
        rw [MEQ.out]
        exact D2.out.1
      case measure => simp [intOf]; omega
    · obtain rfl : ll = k := by omega
      obtain ⟨q0, q1, q2, q3, q4, qf⟩ := hh.out.2.1.rb.c5
      have lq := hh.out.2.1.rb.lt
      obtain ⟨o0, o1, o2, o3, o4, of⟩ := hh.out.2.1.ob.c5
      have lo := hh.out.2.1.ob.lt
      go_wp2
      obtain ⟨D1, D2⟩ := ret_cell hh.out.2.1.buf hh.out.2.1.open_ hh.out.2.1.gr (n := w.heap.size + 1) (by omega) (fun k hk => by have := hh.out.2.2 k hk; omega) (.int .i64 g.x0) (.int .i64 g.y0) (.int .i64 g.x1) (.int .i64 g.y1) (.slice a' len' cap')
      refine bodyPost_ret (results_cell_row rfl _ _ _ 26 #[.int .i64 g.x0, .int .i64 g.y0, .int .i64 g.x1, .int .i64 g.y1, .slice a' len' cap'] (0, 0) _ rfl (hh.out.2.1.rb.set5 _ _ _ _ _) Try.underlying26 rfl buf_info) rfl ⟨_, _, _, rfl, D1, D2⟩
end Go.Proofs.Yticeoppldlhehaa
