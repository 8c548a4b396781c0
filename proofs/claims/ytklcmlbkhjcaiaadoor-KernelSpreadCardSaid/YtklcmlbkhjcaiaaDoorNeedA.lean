/- The walk of the reference's Of (layer 14): what it needs of nothing, and point by point. -/
import Derived.Test.YtklcmlbkhjcaiaaDoorRef3J
import Derived.Test.YtklcmlbkhjcaiaaDoorK12



namespace Go.Proofs.YtklcmlbkhjcaiaaDoor
open Go.RowKit
set_option linter.unusedVariables false

theorem Blk.c3' {w : World} {n : Nat} {t : TypeId} {v0 v1 v2 : Value} (h : Blk w n t #[v0, v1, v2]) : w.cell? ⟨n, 0, none⟩ = some v0 ∧ w.cell? ⟨n, 1, none⟩ = some v1 ∧ w.cell? ⟨n, 2, none⟩ = some v2 ∧ ∀ i, w.frozen? ⟨n, i, none⟩ = false := ⟨h.cell 0, h.cell 1, h.cell 2, h.frozen⟩
theorem moveR_right {r : R} {dx dy : Int} (h : rightR r = true) : rightR (moveR r dx dy) = true := by
  unfold moveR
  split
  · decide
  · unfold wholeR
    refine (rightR_iff _).2 (someR_fits _ ?_)
    simp only [cutN, mxI_eq, mnI_eq]
    omega
set_option maxRecDepth 100000 in
set_option maxHeartbeats 25600000 in
theorem ref14_Of_empty (op : Int) (ia : Option Addr) (il ic : Nat) (pa : Option Addr) (pl pc : Nat) (p : Nat → Int) (s : R) (w : World) (hic : il ≤ ic ∧ ic ≤ 9223372036854775807) (hp : Hid (IsInts w pa pl pc p)) (hlp : (pl : Int) = prmN op) (hk : NodeOk op p il) (hs : smallR s) (he : emptyR s = true) :
    Calls Tryd.prog 9 #[.agg #[.int .i64 op, .slice ia il ic, .slice pa pl pc], .agg #[.int .i64 s.x0, .int .i64 s.y0, .int .i64 s.x1, .int .i64 s.y1]] w fun e w' => ∃ a cap, e = .returned (.slice a il cap) ∧ Grows w w' ∧ Hid (IsRects w' a il cap (fun _ => needR op p s)) := by
  have m1 := hp.out.le
  have m2 := hp.out.most
  have hf := hk.few
  have hop := hk.op_
  have hsr := hs.right
  obtain ⟨N, hN⟩ : ∃ z, z = needR op p s := ⟨_, rfl⟩
  have HN := Lib.hid hN
  rw [← hN]
  clear hN
  go_enter Tryd.func9, Tryd.ntmps9
  go_wp2
  refine wp_name ?_
  intro W0 hW0
  have B0 : Hid (Blk W0 w.heap.size 24 #[.int .i64 op, .slice ia il ic, .slice pa pl pc]) := by rw [hW0]; exact (by unfold Blk; repeat (first | exact blk_at _ _ _ (by first | omega | (simp; done) | (simp; omega)) | refine (blk_past _ _ _ (by first | omega | (simp; done) | (simp; omega))).trans ?_ | refine (heap_grow _ _ _ (by first | omega | (simp; done) | (simp; omega))).trans ?_ | refine (blk_drew _ _).trans ?_))
  have B1 : Hid (Blk W0 (w.heap.size + 1) 27 #[.int .i64 s.x0, .int .i64 s.y0, .int .i64 s.x1, .int .i64 s.y1]) := by rw [hW0]; exact (by unfold Blk; repeat (first | exact blk_at _ _ _ (by first | omega | (simp; done) | (simp; omega)) | refine (blk_past _ _ _ (by first | omega | (simp; done) | (simp; omega))).trans ?_ | refine (heap_grow _ _ _ (by first | omega | (simp; done) | (simp; omega))).trans ?_ | refine (blk_drew _ _).trans ?_))
  have G0 : Hid (Grows w W0) := by rw [hW0]; exact (by repeat (first | exact Grows.refl _ | apply Grows.grow | apply Grows.alloc | apply Grows.drew))
  clear hW0
  go_loopw [5, 6] (fun v i wr => ∃ (k : Nat) (a : Option Addr) (cap : Nat), k ≤ il ∧ i = .int .i64 k ∧ v = .slice a k cap ∧ Grows W0 wr ∧ wr.ownsRow W0.heap.size 27 4 (.slice a k cap) k (cellsL (fun _ => rcC N) k)) (fun _ i _ => il - (intOf i).toNat)
  case atStart => exact ⟨0, none, 0, by omega, rfl, rfl, Grows.refl _, rfl, .inl ⟨rfl, rfl⟩⟩
  case round =>
    obtain ⟨k, a, cap, hk1, rfl, rfl, hgr, hown⟩ := hrel
    have GR := Lib.hid hgr
    have OWN := Lib.hid hown
    have d0 := B0.out.grows hgr
    have d1 := B1.out.grows hgr
    obtain ⟨c0, c1, c2, cf⟩ := d0.c3'
    obtain ⟨s0, s1, s2, s3, sf⟩ := d1.c4
    have l0 := d0.lt
    have l1 := d1.lt
    have SZB : W0.heap.size ≤ wr.heap.size := hgr.below.size
    have PR := Lib.hid (hp.out.grows (G0.out.trans hgr))
    clear d0 d1 hgr hown
    by_cases hlt : k < il
    · have HEM : Hid (∀ W, Grows wr W → Calls Tryd.prog 28 #[.agg #[.int .i64 s.x0, .int .i64 s.y0, .int .i64 s.x1, .int .i64 s.y1]] W fun e w' => e = .returned (.bool true) ∧ Grows W w') := fun W g => by have := ref03_emptyR s W; rw [he] at this; exact this
      obtain ⟨b, hb⟩ : ∃ z : R, z = ⟨0, 0, 0, 0⟩ := ⟨_, rfl⟩
      have HNB : Hid (N = ⟨0, 0, 0, 0⟩) := Lib.hid (by rw [HN.out]; simp [needR, he, zeroR])
      clear hb he hk HN hsr hs
      go_wp2_with (first
        | (at_builtin; refine wpList_append_rect rfl (.tmp 104) (.tmp 106) rfl W0.heap.size a k cap (fun _ => N) ⟨0, 0, 0, 0⟩ rfl (ownsRow_grows OWN.out (by repeat (first | exact Grows.refl _ | apply Grows.grow | apply Grows.alloc | apply Grows.drew))) _ _ rfl (by unfold Blk; repeat (first | exact blk_at _ _ _ (by first | omega | (simp; done) | (simp; omega)) | refine (blk_past _ _ _ (by first | omega | (simp; done) | (simp; omega))).trans ?_ | refine (heap_grow _ _ _ (by first | omega | (simp; done) | (simp; omega))).trans ?_ | refine (blk_drew _ _).trans ?_)) HNB.out (by omega) (by simp <;> omega) ?_; intro p' cap' w1 h1 h2 h3 h4; replace h1 := Lib.hid h1; replace h2 := Lib.hid h2)
        | (first | (go_at_call 28; (with_reducible refine (HEM.out _ (by repeat (first | exact Grows.refl _ | apply Grows.grow | apply Grows.alloc | apply Grows.drew))).mono ?_); rintro e w' ⟨rfl, hgw⟩; first | (obtain ⟨gw, rfl⟩ := grows_of_grow hgw) | (obtain ⟨gw, rfl⟩ := hgw))))
      go_roundw
      case rel =>
        refine ⟨k + 1, some ⟨p', 0, none⟩, cap', by omega, by go_num, rfl, ?_, h1.out⟩
        exact (GR.out.trans (by repeat (first | exact Grows.refl _ | apply Grows.grow | apply Grows.alloc | apply Grows.drew))).grown h2.out (fun j hj => (own_lt OWN.out j hj).1)
      case measure => simp [intOf]; omega
    · obtain rfl : il = k := by omega
      clear he
      go_wp2
      go_ret
      exact ⟨a, cap, rfl, G0.out.trans (GR.out.trans (by repeat (first | exact Grows.refl _ | apply Grows.grow | apply Grows.alloc | apply Grows.drew))), Lib.hid ((rects_own (f := fun _ => N) OWN.out).grows (by repeat (first | exact Grows.refl _ | apply Grows.grow | apply Grows.alloc | apply Grows.drew)))⟩
set_option maxRecDepth 100000 in
set_option maxHeartbeats 25600000 in
theorem ref14_Of_5 (op : Int) (ia : Option Addr) (il ic : Nat) (pa : Option Addr) (pl pc : Nat) (p : Nat → Int) (s : R) (w : World) (hic : il ≤ ic ∧ ic ≤ 9223372036854775807) (hp : Hid (IsInts w pa pl pc p)) (hlp : (pl : Int) = prmN op) (hk : NodeOk op p il) (hs : smallR s) (he : emptyR s = false) (hop1 : op = 5) :
    Calls Tryd.prog 9 #[.agg #[.int .i64 op, .slice ia il ic, .slice pa pl pc], .agg #[.int .i64 s.x0, .int .i64 s.y0, .int .i64 s.x1, .int .i64 s.y1]] w fun e w' => ∃ a cap, e = .returned (.slice a il cap) ∧ Grows w w' ∧ Hid (IsRects w' a il cap (fun _ => needR op p s)) := by
  have m1 := hp.out.le
  have m2 := hp.out.most
  have hf := hk.few
  have hop := hk.op_
  have hsr := hs.right
  subst hop1
  obtain ⟨N, hN⟩ : ∃ z, z = needR 5 p s := ⟨_, rfl⟩
  have HN := Lib.hid hN
  rw [← hN]
  clear hN
  go_enter Tryd.func9, Tryd.ntmps9
  go_wp2
  refine wp_name ?_
  intro W0 hW0
  have B0 : Hid (Blk W0 w.heap.size 24 #[.int .i64 5, .slice ia il ic, .slice pa pl pc]) := by rw [hW0]; exact (by unfold Blk; repeat (first | exact blk_at _ _ _ (by first | omega | (simp; done) | (simp; omega)) | refine (blk_past _ _ _ (by first | omega | (simp; done) | (simp; omega))).trans ?_ | refine (heap_grow _ _ _ (by first | omega | (simp; done) | (simp; omega))).trans ?_ | refine (blk_drew _ _).trans ?_))
  have B1 : Hid (Blk W0 (w.heap.size + 1) 27 #[.int .i64 s.x0, .int .i64 s.y0, .int .i64 s.x1, .int .i64 s.y1]) := by rw [hW0]; exact (by unfold Blk; repeat (first | exact blk_at _ _ _ (by first | omega | (simp; done) | (simp; omega)) | refine (blk_past _ _ _ (by first | omega | (simp; done) | (simp; omega))).trans ?_ | refine (heap_grow _ _ _ (by first | omega | (simp; done) | (simp; omega))).trans ?_ | refine (blk_drew _ _).trans ?_))
  have G0 : Hid (Grows w W0) := by rw [hW0]; exact (by repeat (first | exact Grows.refl _ | apply Grows.grow | apply Grows.alloc | apply Grows.drew))
  clear hW0
  go_loopw [5, 6] (fun v i wr => ∃ (k : Nat) (a : Option Addr) (cap : Nat), k ≤ il ∧ i = .int .i64 k ∧ v = .slice a k cap ∧ Grows W0 wr ∧ wr.ownsRow W0.heap.size 27 4 (.slice a k cap) k (cellsL (fun _ => rcC N) k)) (fun _ i _ => il - (intOf i).toNat)
  case atStart => exact ⟨0, none, 0, by omega, rfl, rfl, Grows.refl _, rfl, .inl ⟨rfl, rfl⟩⟩
  case round =>
    obtain ⟨k, a, cap, hk1, rfl, rfl, hgr, hown⟩ := hrel
    have GR := Lib.hid hgr
    have OWN := Lib.hid hown
    have d0 := B0.out.grows hgr
    have d1 := B1.out.grows hgr
    obtain ⟨c0, c1, c2, cf⟩ := d0.c3'
    obtain ⟨s0, s1, s2, s3, sf⟩ := d1.c4
    have l0 := d0.lt
    have l1 := d1.lt
    have SZB : W0.heap.size ≤ wr.heap.size := hgr.below.size
    have PR := Lib.hid (hp.out.grows (G0.out.trans hgr))
    clear d0 d1 hgr hown
    by_cases hlt : k < il
    · have HEM : Hid (∀ W, Grows wr W → Calls Tryd.prog 28 #[.agg #[.int .i64 s.x0, .int .i64 s.y0, .int .i64 s.x1, .int .i64 s.y1]] W fun e w' => e = .returned (.bool false) ∧ Grows W w') := fun W g => by have := ref03_emptyR s W; rw [he] at this; exact this
      have e0 : needR 5 p s = s := by simp [needR, he]
      obtain ⟨b, hb⟩ : ∃ z : R, z = s := ⟨_, rfl⟩
      subst hb
      have HNB : Hid (N = b) := Lib.hid (by rw [HN.out, e0])
      clear e0 he hk HN hsr hs
      go_wp2_with (first
        | (at_builtin; refine wpList_append_rect rfl (.tmp 104) (.tmp 106) rfl W0.heap.size a k cap (fun _ => N) b rfl (ownsRow_grows OWN.out (by repeat (first | exact Grows.refl _ | apply Grows.grow | apply Grows.alloc | apply Grows.drew))) _ _ rfl (by unfold Blk; repeat (first | exact blk_at _ _ _ (by first | omega | (simp; done) | (simp; omega)) | refine (blk_past _ _ _ (by first | omega | (simp; done) | (simp; omega))).trans ?_ | refine (heap_grow _ _ _ (by first | omega | (simp; done) | (simp; omega))).trans ?_ | refine (blk_drew _ _).trans ?_)) HNB.out (by omega) (by simp <;> omega) ?_; intro p' cap' w1 h1 h2 h3 h4; replace h1 := Lib.hid h1; replace h2 := Lib.hid h2)
        | (first | (go_at_call 28; (with_reducible refine (HEM.out _ (by repeat (first | exact Grows.refl _ | apply Grows.grow | apply Grows.alloc | apply Grows.drew))).mono ?_); rintro e w' ⟨rfl, hgw⟩; first | (obtain ⟨gw, rfl⟩ := grows_of_grow hgw) | (obtain ⟨gw, rfl⟩ := hgw))))
      first | refine region_grow2 (by kernel_rfl) (by kernel_rfl) ?_ | refine region_grow (by kernel_rfl) (by kernel_rfl) ?_
      repeat (go_big_quiet_step (fail))
      refine wpQuiet_nil ?_
      rintro _ ⟨gd, rfl⟩
      go_wp2_with (first
        | (at_builtin; refine wpList_append_rect rfl (.tmp 104) (.tmp 106) rfl W0.heap.size a k cap (fun _ => N) b rfl (ownsRow_grows OWN.out (by repeat (first | exact Grows.refl _ | apply Grows.grow | apply Grows.alloc | apply Grows.drew))) _ _ rfl (by unfold Blk; repeat (first | exact blk_at _ _ _ (by first | omega | (simp; done) | (simp; omega)) | refine (blk_past _ _ _ (by first | omega | (simp; done) | (simp; omega))).trans ?_ | refine (heap_grow _ _ _ (by first | omega | (simp; done) | (simp; omega))).trans ?_ | refine (blk_drew _ _).trans ?_)) HNB.out (by omega) (by simp <;> omega) ?_; intro p' cap' w1 h1 h2 h3 h4; replace h1 := Lib.hid h1; replace h2 := Lib.hid h2))
      go_roundw
      case rel =>
        refine ⟨k + 1, some ⟨p', 0, none⟩, cap', by omega, by go_num, rfl, ?_, h1.out⟩
        exact (GR.out.trans (by repeat (first | exact Grows.refl _ | apply Grows.grow | apply Grows.alloc | apply Grows.drew))).grown h2.out (fun j hj => (own_lt OWN.out j hj).1)
      case measure => simp [intOf]; omega
    · obtain rfl : il = k := by omega
      clear he
      go_wp2
      go_ret
      exact ⟨a, cap, rfl, G0.out.trans (GR.out.trans (by repeat (first | exact Grows.refl _ | apply Grows.grow | apply Grows.alloc | apply Grows.drew))), Lib.hid ((rects_own (f := fun _ => N) OWN.out).grows (by repeat (first | exact Grows.refl _ | apply Grows.grow | apply Grows.alloc | apply Grows.drew)))⟩
set_option maxRecDepth 100000 in
set_option maxHeartbeats 25600000 in
theorem ref14_Of_6 (op : Int) (ia : Option Addr) (il ic : Nat) (pa : Option Addr) (pl pc : Nat) (p : Nat → Int) (s : R) (w : World) (hic : il ≤ ic ∧ ic ≤ 9223372036854775807) (hp : Hid (IsInts w pa pl pc p)) (hlp : (pl : Int) = prmN op) (hk : NodeOk op p il) (hs : smallR s) (he : emptyR s = false) (hop1 : op = 6) :
    Calls Tryd.prog 9 #[.agg #[.int .i64 op, .slice ia il ic, .slice pa pl pc], .agg #[.int .i64 s.x0, .int .i64 s.y0, .int .i64 s.x1, .int .i64 s.y1]] w fun e w' => ∃ a cap, e = .returned (.slice a il cap) ∧ Grows w w' ∧ Hid (IsRects w' a il cap (fun _ => needR op p s)) := by
  have m1 := hp.out.le
  have m2 := hp.out.most
  have hf := hk.few
  have hop := hk.op_
  have hsr := hs.right
  subst hop1
  obtain ⟨N, hN⟩ : ∃ z, z = needR 6 p s := ⟨_, rfl⟩
  have HN := Lib.hid hN
  rw [← hN]
  clear hN
  go_enter Tryd.func9, Tryd.ntmps9
  go_wp2
  refine wp_name ?_
  intro W0 hW0
  have B0 : Hid (Blk W0 w.heap.size 24 #[.int .i64 6, .slice ia il ic, .slice pa pl pc]) := by rw [hW0]; exact (by unfold Blk; repeat (first | exact blk_at _ _ _ (by first | omega | (simp; done) | (simp; omega)) | refine (blk_past _ _ _ (by first | omega | (simp; done) | (simp; omega))).trans ?_ | refine (heap_grow _ _ _ (by first | omega | (simp; done) | (simp; omega))).trans ?_ | refine (blk_drew _ _).trans ?_))
  have B1 : Hid (Blk W0 (w.heap.size + 1) 27 #[.int .i64 s.x0, .int .i64 s.y0, .int .i64 s.x1, .int .i64 s.y1]) := by rw [hW0]; exact (by unfold Blk; repeat (first | exact blk_at _ _ _ (by first | omega | (simp; done) | (simp; omega)) | refine (blk_past _ _ _ (by first | omega | (simp; done) | (simp; omega))).trans ?_ | refine (heap_grow _ _ _ (by first | omega | (simp; done) | (simp; omega))).trans ?_ | refine (blk_drew _ _).trans ?_))
  have G0 : Hid (Grows w W0) := by rw [hW0]; exact (by repeat (first | exact Grows.refl _ | apply Grows.grow | apply Grows.alloc | apply Grows.drew))
  clear hW0
  go_loopw [5, 6] (fun v i wr => ∃ (k : Nat) (a : Option Addr) (cap : Nat), k ≤ il ∧ i = .int .i64 k ∧ v = .slice a k cap ∧ Grows W0 wr ∧ wr.ownsRow W0.heap.size 27 4 (.slice a k cap) k (cellsL (fun _ => rcC N) k)) (fun _ i _ => il - (intOf i).toNat)
  case atStart => exact ⟨0, none, 0, by omega, rfl, rfl, Grows.refl _, rfl, .inl ⟨rfl, rfl⟩⟩
  case round =>
    obtain ⟨k, a, cap, hk1, rfl, rfl, hgr, hown⟩ := hrel
    have GR := Lib.hid hgr
    have OWN := Lib.hid hown
    have d0 := B0.out.grows hgr
    have d1 := B1.out.grows hgr
    obtain ⟨c0, c1, c2, cf⟩ := d0.c3'
    obtain ⟨s0, s1, s2, s3, sf⟩ := d1.c4
    have l0 := d0.lt
    have l1 := d1.lt
    have SZB : W0.heap.size ≤ wr.heap.size := hgr.below.size
    have PR := Lib.hid (hp.out.grows (G0.out.trans hgr))
    clear d0 d1 hgr hown
    by_cases hlt : k < il
    · have HEM : Hid (∀ W, Grows wr W → Calls Tryd.prog 28 #[.agg #[.int .i64 s.x0, .int .i64 s.y0, .int .i64 s.x1, .int .i64 s.y1]] W fun e w' => e = .returned (.bool false) ∧ Grows W w') := fun W g => by have := ref03_emptyR s W; rw [he] at this; exact this
      have e0 : needR 6 p s = s := by simp [needR, he]
      obtain ⟨b, hb⟩ : ∃ z : R, z = s := ⟨_, rfl⟩
      subst hb
      have HNB : Hid (N = b) := Lib.hid (by rw [HN.out, e0])
      clear e0 he hk HN hsr hs
      go_wp2_with (first
        | (at_builtin; refine wpList_append_rect rfl (.tmp 104) (.tmp 106) rfl W0.heap.size a k cap (fun _ => N) b rfl (ownsRow_grows OWN.out (by repeat (first | exact Grows.refl _ | apply Grows.grow | apply Grows.alloc | apply Grows.drew))) _ _ rfl (by unfold Blk; repeat (first | exact blk_at _ _ _ (by first | omega | (simp; done) | (simp; omega)) | refine (blk_past _ _ _ (by first | omega | (simp; done) | (simp; omega))).trans ?_ | refine (heap_grow _ _ _ (by first | omega | (simp; done) | (simp; omega))).trans ?_ | refine (blk_drew _ _).trans ?_)) HNB.out (by omega) (by simp <;> omega) ?_; intro p' cap' w1 h1 h2 h3 h4; replace h1 := Lib.hid h1; replace h2 := Lib.hid h2)
        | (first | (go_at_call 28; (with_reducible refine (HEM.out _ (by repeat (first | exact Grows.refl _ | apply Grows.grow | apply Grows.alloc | apply Grows.drew))).mono ?_); rintro e w' ⟨rfl, hgw⟩; first | (obtain ⟨gw, rfl⟩ := grows_of_grow hgw) | (obtain ⟨gw, rfl⟩ := hgw))))
      first | refine region_grow2 (by kernel_rfl) (by kernel_rfl) ?_ | refine region_grow (by kernel_rfl) (by kernel_rfl) ?_
      repeat (go_big_quiet_step (fail))
      refine wpQuiet_nil ?_
      rintro _ ⟨gd, rfl⟩
      go_wp2_with (first
        | (at_builtin; refine wpList_append_rect rfl (.tmp 104) (.tmp 106) rfl W0.heap.size a k cap (fun _ => N) b rfl (ownsRow_grows OWN.out (by repeat (first | exact Grows.refl _ | apply Grows.grow | apply Grows.alloc | apply Grows.drew))) _ _ rfl (by unfold Blk; repeat (first | exact blk_at _ _ _ (by first | omega | (simp; done) | (simp; omega)) | refine (blk_past _ _ _ (by first | omega | (simp; done) | (simp; omega))).trans ?_ | refine (heap_grow _ _ _ (by first | omega | (simp; done) | (simp; omega))).trans ?_ | refine (blk_drew _ _).trans ?_)) HNB.out (by omega) (by simp <;> omega) ?_; intro p' cap' w1 h1 h2 h3 h4; replace h1 := Lib.hid h1; replace h2 := Lib.hid h2))
      go_roundw
      case rel =>
        refine ⟨k + 1, some ⟨p', 0, none⟩, cap', by omega, by go_num, rfl, ?_, h1.out⟩
        exact (GR.out.trans (by repeat (first | exact Grows.refl _ | apply Grows.grow | apply Grows.alloc | apply Grows.drew))).grown h2.out (fun j hj => (own_lt OWN.out j hj).1)
      case measure => simp [intOf]; omega
    · obtain rfl : il = k := by omega
      clear he
      go_wp2
      go_ret
      exact ⟨a, cap, rfl, G0.out.trans (GR.out.trans (by repeat (first | exact Grows.refl _ | apply Grows.grow | apply Grows.alloc | apply Grows.drew))), Lib.hid ((rects_own (f := fun _ => N) OWN.out).grows (by repeat (first | exact Grows.refl _ | apply Grows.grow | apply Grows.alloc | apply Grows.drew)))⟩
set_option maxRecDepth 100000 in
set_option maxHeartbeats 25600000 in
theorem ref14_Of_7 (op : Int) (ia : Option Addr) (il ic : Nat) (pa : Option Addr) (pl pc : Nat) (p : Nat → Int) (s : R) (w : World) (hic : il ≤ ic ∧ ic ≤ 9223372036854775807) (hp : Hid (IsInts w pa pl pc p)) (hlp : (pl : Int) = prmN op) (hk : NodeOk op p il) (hs : smallR s) (he : emptyR s = false) (hop1 : op = 7) :
    Calls Tryd.prog 9 #[.agg #[.int .i64 op, .slice ia il ic, .slice pa pl pc], .agg #[.int .i64 s.x0, .int .i64 s.y0, .int .i64 s.x1, .int .i64 s.y1]] w fun e w' => ∃ a cap, e = .returned (.slice a il cap) ∧ Grows w w' ∧ Hid (IsRects w' a il cap (fun _ => needR op p s)) := by
  have m1 := hp.out.le
  have m2 := hp.out.most
  have hf := hk.few
  have hop := hk.op_
  have hsr := hs.right
  subst hop1
  obtain ⟨N, hN⟩ : ∃ z, z = needR 7 p s := ⟨_, rfl⟩
  have HN := Lib.hid hN
  rw [← hN]
  clear hN
  go_enter Tryd.func9, Tryd.ntmps9
  go_wp2
  refine wp_name ?_
  intro W0 hW0
  have B0 : Hid (Blk W0 w.heap.size 24 #[.int .i64 7, .slice ia il ic, .slice pa pl pc]) := by rw [hW0]; exact (by unfold Blk; repeat (first | exact blk_at _ _ _ (by first | omega | (simp; done) | (simp; omega)) | refine (blk_past _ _ _ (by first | omega | (simp; done) | (simp; omega))).trans ?_ | refine (heap_grow _ _ _ (by first | omega | (simp; done) | (simp; omega))).trans ?_ | refine (blk_drew _ _).trans ?_))
  have B1 : Hid (Blk W0 (w.heap.size + 1) 27 #[.int .i64 s.x0, .int .i64 s.y0, .int .i64 s.x1, .int .i64 s.y1]) := by rw [hW0]; exact (by unfold Blk; repeat (first | exact blk_at _ _ _ (by first | omega | (simp; done) | (simp; omega)) | refine (blk_past _ _ _ (by first | omega | (simp; done) | (simp; omega))).trans ?_ | refine (heap_grow _ _ _ (by first | omega | (simp; done) | (simp; omega))).trans ?_ | refine (blk_drew _ _).trans ?_))
  have G0 : Hid (Grows w W0) := by rw [hW0]; exact (by repeat (first | exact Grows.refl _ | apply Grows.grow | apply Grows.alloc | apply Grows.drew))
  clear hW0
  go_loopw [5, 6] (fun v i wr => ∃ (k : Nat) (a : Option Addr) (cap : Nat), k ≤ il ∧ i = .int .i64 k ∧ v = .slice a k cap ∧ Grows W0 wr ∧ wr.ownsRow W0.heap.size 27 4 (.slice a k cap) k (cellsL (fun _ => rcC N) k)) (fun _ i _ => il - (intOf i).toNat)
  case atStart => exact ⟨0, none, 0, by omega, rfl, rfl, Grows.refl _, rfl, .inl ⟨rfl, rfl⟩⟩
  case round =>
    obtain ⟨k, a, cap, hk1, rfl, rfl, hgr, hown⟩ := hrel
    have GR := Lib.hid hgr
    have OWN := Lib.hid hown
    have d0 := B0.out.grows hgr
    have d1 := B1.out.grows hgr
    obtain ⟨c0, c1, c2, cf⟩ := d0.c3'
    obtain ⟨s0, s1, s2, s3, sf⟩ := d1.c4
    have l0 := d0.lt
    have l1 := d1.lt
    have SZB : W0.heap.size ≤ wr.heap.size := hgr.below.size
    have PR := Lib.hid (hp.out.grows (G0.out.trans hgr))
    clear d0 d1 hgr hown
    by_cases hlt : k < il
    · have HEM : Hid (∀ W, Grows wr W → Calls Tryd.prog 28 #[.agg #[.int .i64 s.x0, .int .i64 s.y0, .int .i64 s.x1, .int .i64 s.y1]] W fun e w' => e = .returned (.bool false) ∧ Grows W w') := fun W g => by have := ref03_emptyR s W; rw [he] at this; exact this
      have e0 : needR 7 p s = s := by simp [needR, he]
      obtain ⟨b, hb⟩ : ∃ z : R, z = s := ⟨_, rfl⟩
      subst hb
      have HNB : Hid (N = b) := Lib.hid (by rw [HN.out, e0])
      clear e0 he hk HN hsr hs
      go_wp2_with (first
        | (at_builtin; refine wpList_append_rect rfl (.tmp 104) (.tmp 106) rfl W0.heap.size a k cap (fun _ => N) b rfl (ownsRow_grows OWN.out (by repeat (first | exact Grows.refl _ | apply Grows.grow | apply Grows.alloc | apply Grows.drew))) _ _ rfl (by unfold Blk; repeat (first | exact blk_at _ _ _ (by first | omega | (simp; done) | (simp; omega)) | refine (blk_past _ _ _ (by first | omega | (simp; done) | (simp; omega))).trans ?_ | refine (heap_grow _ _ _ (by first | omega | (simp; done) | (simp; omega))).trans ?_ | refine (blk_drew _ _).trans ?_)) HNB.out (by omega) (by simp <;> omega) ?_; intro p' cap' w1 h1 h2 h3 h4; replace h1 := Lib.hid h1; replace h2 := Lib.hid h2)
        | (first | (go_at_call 28; (with_reducible refine (HEM.out _ (by repeat (first | exact Grows.refl _ | apply Grows.grow | apply Grows.alloc | apply Grows.drew))).mono ?_); rintro e w' ⟨rfl, hgw⟩; first | (obtain ⟨gw, rfl⟩ := grows_of_grow hgw) | (obtain ⟨gw, rfl⟩ := hgw))))
      first | refine region_grow2 (by kernel_rfl) (by kernel_rfl) ?_ | refine region_grow (by kernel_rfl) (by kernel_rfl) ?_
      repeat (go_big_quiet_step (fail))
      refine wpQuiet_nil ?_
      rintro _ ⟨gd, rfl⟩
      go_wp2_with (first
        | (at_builtin; refine wpList_append_rect rfl (.tmp 104) (.tmp 106) rfl W0.heap.size a k cap (fun _ => N) b rfl (ownsRow_grows OWN.out (by repeat (first | exact Grows.refl _ | apply Grows.grow | apply Grows.alloc | apply Grows.drew))) _ _ rfl (by unfold Blk; repeat (first | exact blk_at _ _ _ (by first | omega | (simp; done) | (simp; omega)) | refine (blk_past _ _ _ (by first | omega | (simp; done) | (simp; omega))).trans ?_ | refine (heap_grow _ _ _ (by first | omega | (simp; done) | (simp; omega))).trans ?_ | refine (blk_drew _ _).trans ?_)) HNB.out (by omega) (by simp <;> omega) ?_; intro p' cap' w1 h1 h2 h3 h4; replace h1 := Lib.hid h1; replace h2 := Lib.hid h2))
      go_roundw
      case rel =>
        refine ⟨k + 1, some ⟨p', 0, none⟩, cap', by omega, by go_num, rfl, ?_, h1.out⟩
        exact (GR.out.trans (by repeat (first | exact Grows.refl _ | apply Grows.grow | apply Grows.alloc | apply Grows.drew))).grown h2.out (fun j hj => (own_lt OWN.out j hj).1)
      case measure => simp [intOf]; omega
    · obtain rfl : il = k := by omega
      clear he
      go_wp2
      go_ret
      exact ⟨a, cap, rfl, G0.out.trans (GR.out.trans (by repeat (first | exact Grows.refl _ | apply Grows.grow | apply Grows.alloc | apply Grows.drew))), Lib.hid ((rects_own (f := fun _ => N) OWN.out).grows (by repeat (first | exact Grows.refl _ | apply Grows.grow | apply Grows.alloc | apply Grows.drew)))⟩
set_option maxRecDepth 100000 in
set_option maxHeartbeats 25600000 in
theorem ref14_Of_8 (op : Int) (ia : Option Addr) (il ic : Nat) (pa : Option Addr) (pl pc : Nat) (p : Nat → Int) (s : R) (w : World) (hic : il ≤ ic ∧ ic ≤ 9223372036854775807) (hp : Hid (IsInts w pa pl pc p)) (hlp : (pl : Int) = prmN op) (hk : NodeOk op p il) (hs : smallR s) (he : emptyR s = false) (hop1 : op = 8) :
    Calls Tryd.prog 9 #[.agg #[.int .i64 op, .slice ia il ic, .slice pa pl pc], .agg #[.int .i64 s.x0, .int .i64 s.y0, .int .i64 s.x1, .int .i64 s.y1]] w fun e w' => ∃ a cap, e = .returned (.slice a il cap) ∧ Grows w w' ∧ Hid (IsRects w' a il cap (fun _ => needR op p s)) := by
  have m1 := hp.out.le
  have m2 := hp.out.most
  have hf := hk.few
  have hop := hk.op_
  have hsr := hs.right
  subst hop1
  obtain ⟨N, hN⟩ : ∃ z, z = needR 8 p s := ⟨_, rfl⟩
  have HN := Lib.hid hN
  rw [← hN]
  clear hN
  go_enter Tryd.func9, Tryd.ntmps9
  go_wp2
  refine wp_name ?_
  intro W0 hW0
  have B0 : Hid (Blk W0 w.heap.size 24 #[.int .i64 8, .slice ia il ic, .slice pa pl pc]) := by rw [hW0]; exact (by unfold Blk; repeat (first | exact blk_at _ _ _ (by first | omega | (simp; done) | (simp; omega)) | refine (blk_past _ _ _ (by first | omega | (simp; done) | (simp; omega))).trans ?_ | refine (heap_grow _ _ _ (by first | omega | (simp; done) | (simp; omega))).trans ?_ | refine (blk_drew _ _).trans ?_))
  have B1 : Hid (Blk W0 (w.heap.size + 1) 27 #[.int .i64 s.x0, .int .i64 s.y0, .int .i64 s.x1, .int .i64 s.y1]) := by rw [hW0]; exact (by unfold Blk; repeat (first | exact blk_at _ _ _ (by first | omega | (simp; done) | (simp; omega)) | refine (blk_past _ _ _ (by first | omega | (simp; done) | (simp; omega))).trans ?_ | refine (heap_grow _ _ _ (by first | omega | (simp; done) | (simp; omega))).trans ?_ | refine (blk_drew _ _).trans ?_))
  have G0 : Hid (Grows w W0) := by rw [hW0]; exact (by repeat (first | exact Grows.refl _ | apply Grows.grow | apply Grows.alloc | apply Grows.drew))
  clear hW0
  go_loopw [5, 6] (fun v i wr => ∃ (k : Nat) (a : Option Addr) (cap : Nat), k ≤ il ∧ i = .int .i64 k ∧ v = .slice a k cap ∧ Grows W0 wr ∧ wr.ownsRow W0.heap.size 27 4 (.slice a k cap) k (cellsL (fun _ => rcC N) k)) (fun _ i _ => il - (intOf i).toNat)
  case atStart => exact ⟨0, none, 0, by omega, rfl, rfl, Grows.refl _, rfl, .inl ⟨rfl, rfl⟩⟩
  case round =>
    obtain ⟨k, a, cap, hk1, rfl, rfl, hgr, hown⟩ := hrel
    have GR := Lib.hid hgr
    have OWN := Lib.hid hown
    have d0 := B0.out.grows hgr
    have d1 := B1.out.grows hgr
    obtain ⟨c0, c1, c2, cf⟩ := d0.c3'
    obtain ⟨s0, s1, s2, s3, sf⟩ := d1.c4
    have l0 := d0.lt
    have l1 := d1.lt
    have SZB : W0.heap.size ≤ wr.heap.size := hgr.below.size
    have PR := Lib.hid (hp.out.grows (G0.out.trans hgr))
    clear d0 d1 hgr hown
    by_cases hlt : k < il
    · have HEM : Hid (∀ W, Grows wr W → Calls Tryd.prog 28 #[.agg #[.int .i64 s.x0, .int .i64 s.y0, .int .i64 s.x1, .int .i64 s.y1]] W fun e w' => e = .returned (.bool false) ∧ Grows W w') := fun W g => by have := ref03_emptyR s W; rw [he] at this; exact this
      have e0 : needR 8 p s = s := by simp [needR, he]
      obtain ⟨b, hb⟩ : ∃ z : R, z = s := ⟨_, rfl⟩
      subst hb
      have HNB : Hid (N = b) := Lib.hid (by rw [HN.out, e0])
      clear e0 he hk HN hsr hs
      go_wp2_with (first
        | (at_builtin; refine wpList_append_rect rfl (.tmp 104) (.tmp 106) rfl W0.heap.size a k cap (fun _ => N) b rfl (ownsRow_grows OWN.out (by repeat (first | exact Grows.refl _ | apply Grows.grow | apply Grows.alloc | apply Grows.drew))) _ _ rfl (by unfold Blk; repeat (first | exact blk_at _ _ _ (by first | omega | (simp; done) | (simp; omega)) | refine (blk_past _ _ _ (by first | omega | (simp; done) | (simp; omega))).trans ?_ | refine (heap_grow _ _ _ (by first | omega | (simp; done) | (simp; omega))).trans ?_ | refine (blk_drew _ _).trans ?_)) HNB.out (by omega) (by simp <;> omega) ?_; intro p' cap' w1 h1 h2 h3 h4; replace h1 := Lib.hid h1; replace h2 := Lib.hid h2)
        | (first | (go_at_call 28; (with_reducible refine (HEM.out _ (by repeat (first | exact Grows.refl _ | apply Grows.grow | apply Grows.alloc | apply Grows.drew))).mono ?_); rintro e w' ⟨rfl, hgw⟩; first | (obtain ⟨gw, rfl⟩ := grows_of_grow hgw) | (obtain ⟨gw, rfl⟩ := hgw))))
      first | refine region_grow2 (by kernel_rfl) (by kernel_rfl) ?_ | refine region_grow (by kernel_rfl) (by kernel_rfl) ?_
      repeat (go_big_quiet_step (fail))
      refine wpQuiet_nil ?_
      rintro _ ⟨gd, rfl⟩
      go_wp2_with (first
        | (at_builtin; refine wpList_append_rect rfl (.tmp 104) (.tmp 106) rfl W0.heap.size a k cap (fun _ => N) b rfl (ownsRow_grows OWN.out (by repeat (first | exact Grows.refl _ | apply Grows.grow | apply Grows.alloc | apply Grows.drew))) _ _ rfl (by unfold Blk; repeat (first | exact blk_at _ _ _ (by first | omega | (simp; done) | (simp; omega)) | refine (blk_past _ _ _ (by first | omega | (simp; done) | (simp; omega))).trans ?_ | refine (heap_grow _ _ _ (by first | omega | (simp; done) | (simp; omega))).trans ?_ | refine (blk_drew _ _).trans ?_)) HNB.out (by omega) (by simp <;> omega) ?_; intro p' cap' w1 h1 h2 h3 h4; replace h1 := Lib.hid h1; replace h2 := Lib.hid h2))
      go_roundw
      case rel =>
        refine ⟨k + 1, some ⟨p', 0, none⟩, cap', by omega, by go_num, rfl, ?_, h1.out⟩
        exact (GR.out.trans (by repeat (first | exact Grows.refl _ | apply Grows.grow | apply Grows.alloc | apply Grows.drew))).grown h2.out (fun j hj => (own_lt OWN.out j hj).1)
      case measure => simp [intOf]; omega
    · obtain rfl : il = k := by omega
      clear he
      go_wp2
      go_ret
      exact ⟨a, cap, rfl, G0.out.trans (GR.out.trans (by repeat (first | exact Grows.refl _ | apply Grows.grow | apply Grows.alloc | apply Grows.drew))), Lib.hid ((rects_own (f := fun _ => N) OWN.out).grows (by repeat (first | exact Grows.refl _ | apply Grows.grow | apply Grows.alloc | apply Grows.drew)))⟩
set_option maxRecDepth 100000 in
set_option maxHeartbeats 25600000 in
theorem ref14_Of_9 (op : Int) (ia : Option Addr) (il ic : Nat) (pa : Option Addr) (pl pc : Nat) (p : Nat → Int) (s : R) (w : World) (hic : il ≤ ic ∧ ic ≤ 9223372036854775807) (hp : Hid (IsInts w pa pl pc p)) (hlp : (pl : Int) = prmN op) (hk : NodeOk op p il) (hs : smallR s) (he : emptyR s = false) (hop1 : op = 9) :
    Calls Tryd.prog 9 #[.agg #[.int .i64 op, .slice ia il ic, .slice pa pl pc], .agg #[.int .i64 s.x0, .int .i64 s.y0, .int .i64 s.x1, .int .i64 s.y1]] w fun e w' => ∃ a cap, e = .returned (.slice a il cap) ∧ Grows w w' ∧ Hid (IsRects w' a il cap (fun _ => needR op p s)) := by
  have m1 := hp.out.le
  have m2 := hp.out.most
  have hf := hk.few
  have hop := hk.op_
  have hsr := hs.right
  subst hop1
  obtain ⟨N, hN⟩ : ∃ z, z = needR 9 p s := ⟨_, rfl⟩
  have HN := Lib.hid hN
  rw [← hN]
  clear hN
  go_enter Tryd.func9, Tryd.ntmps9
  go_wp2
  refine wp_name ?_
  intro W0 hW0
  have B0 : Hid (Blk W0 w.heap.size 24 #[.int .i64 9, .slice ia il ic, .slice pa pl pc]) := by rw [hW0]; exact (by unfold Blk; repeat (first | exact blk_at _ _ _ (by first | omega | (simp; done) | (simp; omega)) | refine (blk_past _ _ _ (by first | omega | (simp; done) | (simp; omega))).trans ?_ | refine (heap_grow _ _ _ (by first | omega | (simp; done) | (simp; omega))).trans ?_ | refine (blk_drew _ _).trans ?_))
  have B1 : Hid (Blk W0 (w.heap.size + 1) 27 #[.int .i64 s.x0, .int .i64 s.y0, .int .i64 s.x1, .int .i64 s.y1]) := by rw [hW0]; exact (by unfold Blk; repeat (first | exact blk_at _ _ _ (by first | omega | (simp; done) | (simp; omega)) | refine (blk_past _ _ _ (by first | omega | (simp; done) | (simp; omega))).trans ?_ | refine (heap_grow _ _ _ (by first | omega | (simp; done) | (simp; omega))).trans ?_ | refine (blk_drew _ _).trans ?_))
  have G0 : Hid (Grows w W0) := by rw [hW0]; exact (by repeat (first | exact Grows.refl _ | apply Grows.grow | apply Grows.alloc | apply Grows.drew))
  clear hW0
  go_loopw [5, 6] (fun v i wr => ∃ (k : Nat) (a : Option Addr) (cap : Nat), k ≤ il ∧ i = .int .i64 k ∧ v = .slice a k cap ∧ Grows W0 wr ∧ wr.ownsRow W0.heap.size 27 4 (.slice a k cap) k (cellsL (fun _ => rcC N) k)) (fun _ i _ => il - (intOf i).toNat)
  case atStart => exact ⟨0, none, 0, by omega, rfl, rfl, Grows.refl _, rfl, .inl ⟨rfl, rfl⟩⟩
  case round =>
    obtain ⟨k, a, cap, hk1, rfl, rfl, hgr, hown⟩ := hrel
    have GR := Lib.hid hgr
    have OWN := Lib.hid hown
    have d0 := B0.out.grows hgr
    have d1 := B1.out.grows hgr
    obtain ⟨c0, c1, c2, cf⟩ := d0.c3'
    obtain ⟨s0, s1, s2, s3, sf⟩ := d1.c4
    have l0 := d0.lt
    have l1 := d1.lt
    have SZB : W0.heap.size ≤ wr.heap.size := hgr.below.size
    have PR := Lib.hid (hp.out.grows (G0.out.trans hgr))
    clear d0 d1 hgr hown
    by_cases hlt : k < il
    · have HEM : Hid (∀ W, Grows wr W → Calls Tryd.prog 28 #[.agg #[.int .i64 s.x0, .int .i64 s.y0, .int .i64 s.x1, .int .i64 s.y1]] W fun e w' => e = .returned (.bool false) ∧ Grows W w') := fun W g => by have := ref03_emptyR s W; rw [he] at this; exact this
      have e0 : needR 9 p s = s := by simp [needR, he]
      obtain ⟨b, hb⟩ : ∃ z : R, z = s := ⟨_, rfl⟩
      subst hb
      have HNB : Hid (N = b) := Lib.hid (by rw [HN.out, e0])
      clear e0 he hk HN hsr hs
      go_wp2_with (first
        | (at_builtin; refine wpList_append_rect rfl (.tmp 104) (.tmp 106) rfl W0.heap.size a k cap (fun _ => N) b rfl (ownsRow_grows OWN.out (by repeat (first | exact Grows.refl _ | apply Grows.grow | apply Grows.alloc | apply Grows.drew))) _ _ rfl (by unfold Blk; repeat (first | exact blk_at _ _ _ (by first | omega | (simp; done) | (simp; omega)) | refine (blk_past _ _ _ (by first | omega | (simp; done) | (simp; omega))).trans ?_ | refine (heap_grow _ _ _ (by first | omega | (simp; done) | (simp; omega))).trans ?_ | refine (blk_drew _ _).trans ?_)) HNB.out (by omega) (by simp <;> omega) ?_; intro p' cap' w1 h1 h2 h3 h4; replace h1 := Lib.hid h1; replace h2 := Lib.hid h2)
        | (first | (go_at_call 28; (with_reducible refine (HEM.out _ (by repeat (first | exact Grows.refl _ | apply Grows.grow | apply Grows.alloc | apply Grows.drew))).mono ?_); rintro e w' ⟨rfl, hgw⟩; first | (obtain ⟨gw, rfl⟩ := grows_of_grow hgw) | (obtain ⟨gw, rfl⟩ := hgw))))
      first | refine region_grow2 (by kernel_rfl) (by kernel_rfl) ?_ | refine region_grow (by kernel_rfl) (by kernel_rfl) ?_
      repeat (go_big_quiet_step (fail))
      refine wpQuiet_nil ?_
      rintro _ ⟨gd, rfl⟩
      go_wp2_with (first
        | (at_builtin; refine wpList_append_rect rfl (.tmp 104) (.tmp 106) rfl W0.heap.size a k cap (fun _ => N) b rfl (ownsRow_grows OWN.out (by repeat (first | exact Grows.refl _ | apply Grows.grow | apply Grows.alloc | apply Grows.drew))) _ _ rfl (by unfold Blk; repeat (first | exact blk_at _ _ _ (by first | omega | (simp; done) | (simp; omega)) | refine (blk_past _ _ _ (by first | omega | (simp; done) | (simp; omega))).trans ?_ | refine (heap_grow _ _ _ (by first | omega | (simp; done) | (simp; omega))).trans ?_ | refine (blk_drew _ _).trans ?_)) HNB.out (by omega) (by simp <;> omega) ?_; intro p' cap' w1 h1 h2 h3 h4; replace h1 := Lib.hid h1; replace h2 := Lib.hid h2))
      go_roundw
      case rel =>
        refine ⟨k + 1, some ⟨p', 0, none⟩, cap', by omega, by go_num, rfl, ?_, h1.out⟩
        exact (GR.out.trans (by repeat (first | exact Grows.refl _ | apply Grows.grow | apply Grows.alloc | apply Grows.drew))).grown h2.out (fun j hj => (own_lt OWN.out j hj).1)
      case measure => simp [intOf]; omega
    · obtain rfl : il = k := by omega
      clear he
      go_wp2
      go_ret
      exact ⟨a, cap, rfl, G0.out.trans (GR.out.trans (by repeat (first | exact Grows.refl _ | apply Grows.grow | apply Grows.alloc | apply Grows.drew))), Lib.hid ((rects_own (f := fun _ => N) OWN.out).grows (by repeat (first | exact Grows.refl _ | apply Grows.grow | apply Grows.alloc | apply Grows.drew)))⟩
end Go.Proofs.YtklcmlbkhjcaiaaDoor
