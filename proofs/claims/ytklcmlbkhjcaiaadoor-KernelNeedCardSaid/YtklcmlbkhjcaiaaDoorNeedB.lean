/- The walk of the reference's Of (layer 14): moved, grown. -/
import Derived.Test.YtklcmlbkhjcaiaaDoorNeedA


namespace Go.Proofs.YtklcmlbkhjcaiaaDoor
open Go.RowKit
set_option linter.unusedVariables false

set_option maxRecDepth 100000 in
set_option maxHeartbeats 25600000 in
theorem ref14_Of_1 (op : Int) (ia : Option Addr) (il ic : Nat) (pa : Option Addr) (pl pc : Nat) (p : Nat → Int) (s : R) (w : World) (hic : il ≤ ic ∧ ic ≤ 9223372036854775807) (hp : Hid (IsInts w pa pl pc p)) (hlp : (pl : Int) = prmN op) (hk : NodeOk op p il) (hs : smallR s) (he : emptyR s = false) (hop1 : op = 1) :
    Calls Tryd.prog 9 #[.agg #[.int .i64 op, .slice ia il ic, .slice pa pl pc], .agg #[.int .i64 s.x0, .int .i64 s.y0, .int .i64 s.x1, .int .i64 s.y1]] w fun e w' => ∃ a cap, e = .returned (.slice a il cap) ∧ Grows w w' ∧ Hid (IsRects w' a il cap (fun _ => needR op p s)) := by
  have m1 := hp.out.le
  have m2 := hp.out.most
  have hf := hk.few
  have hop := hk.op_
  have hsr := hs.right
  subst hop1
  obtain ⟨N, hN⟩ : ∃ z, z = needR 1 p s := ⟨_, rfl⟩
  have HN := Lib.hid hN
  rw [← hN]
  clear hN
  go_enter Tryd.func9, Tryd.ntmps9
  go_wp2
  refine wp_name ?_
  intro W0 hW0
  have B0 : Hid (Blk W0 w.heap.size 24 #[.int .i64 1, .slice ia il ic, .slice pa pl pc]) := by rw [hW0]; exact (by unfold Blk; repeat (first | exact blk_at _ _ _ (by first | omega | (simp; done) | (simp; omega)) | refine (blk_past _ _ _ (by first | omega | (simp; done) | (simp; omega))).trans ?_ | refine (heap_grow _ _ _ (by first | omega | (simp; done) | (simp; omega))).trans ?_ | refine (blk_drew _ _).trans ?_))
  have B1 : Hid (Blk W0 (w.heap.size + 1) 27 #[.int .i64 s.x0, .int .i64 s.y0, .int .i64 s.x1, .int .i64 s.y1]) := by rw [hW0]; exact (by unfold Blk; repeat (first | exact blk_at _ _ _ (by first | omega | (simp; done) | (simp; omega)) | refine (blk_past _ _ _ (by first | omega | (simp; done) | (simp; omega))).trans ?_ | refine (heap_grow _ _ _ (by first | omega | (simp; done) | (simp; omega))).trans ?_ | refine (blk_drew _ _).trans ?_))
  have G0 : Hid (Grows w W0) := by rw [hW0]; exact (by repeat (first | exact Grows.refl _ | apply Grows.grow | apply Grows.alloc | apply Grows.drew))
  clear hW0
  go_loopw [5, 6] (fun v i wr => ∃ (k : Nat) (a : Option Addr) (cap : Nat), k ≤ il ∧ i = .int .i64 k ∧ v = .slice a k cap ∧ Grows W0 wr ∧ wr.ownsRow W0.heap.size 27 4 (.slice a k cap) k (cellsL (fun _ => rcC N) k)) (fun _ i _ => il - (intOf i).toNat)
  case atStart => exact ⟨0, none, 0, by omega, rfl, rfl, Grows.refl _, rfl, .inl ⟨rfl, rfl⟩⟩
  case round =>
    obtain ⟨k, a, cap, hk1, rfl, rfl, hgr, hown⟩ := hrel
    have GR := Lib.hid hgr
    have OWN := Lib.hid hown
    have d0 := B0.out.grows hgr
    have d1 := B1.out.grows hgr
    obtain ⟨c0, c1, c2, cf⟩ := d0.c3'
    obtain ⟨s0, s1, s2, s3, sf⟩ := d1.c4
    have l0 := d0.lt
    have l1 := d1.lt
    have SZB : W0.heap.size ≤ wr.heap.size := hgr.below.size
    have PR := Lib.hid (hp.out.grows (G0.out.trans hgr))
    clear d0 d1 hgr hown
    by_cases hlt : k < il
    · have HEM : Hid (∀ W, Grows wr W → Calls Tryd.prog 28 #[.agg #[.int .i64 s.x0, .int .i64 s.y0, .int .i64 s.x1, .int .i64 s.y1]] W fun e w' => e = .returned (.bool false) ∧ Grows W w') := fun W g => by have := ref03_emptyR s W; rw [he] at this; exact this
      obtain rfl : pl = 2 := by have : prmN 1 = 2 := (by decide); omega
      obtain ⟨bp, offp, rfl, hbp, f0⟩ := PR.out.at (k := 0) (by omega)
      obtain ⟨b2, off2, e, -, f1⟩ := PR.out.at (k := 1) (by omega)
      cases e
      simp only [Nat.add_zero] at f0
      have ho := hk.off rfl
      have e0 : needR 1 p s = moveR s (-p 0) (-p 1) := by simp [needR, he]
      obtain ⟨v0, hv0⟩ : ∃ z, z = p 0 := ⟨_, rfl⟩
      obtain ⟨v1, hv1⟩ : ∃ z, z = p 1 := ⟨_, rfl⟩
      rw [← hv0, ← hv1] at e0 ho
      rw [← hv0] at f0
      rw [← hv1] at f1
      have HMV : Hid (∀ W, Grows wr W → Calls Tryd.prog 29 #[.agg #[.int .i64 s.x0, .int .i64 s.y0, .int .i64 s.x1, .int .i64 s.y1], .int .i64 (-v0), .int .i64 (-v1)] W fun e w' => e = .returned (.agg #[.int .i64 (moveR s (-v0) (-v1)).x0, .int .i64 (moveR s (-v0) (-v1)).y0, .int .i64 (moveR s (-v0) (-v1)).x1, .int .i64 (moveR s (-v0) (-v1)).y1]) ∧ Grows W w') := fun W g => ref03_moveR s (-v0) (-v1) W hsr (by omega) (by omega)
      obtain ⟨b, hb⟩ : ∃ z, z = moveR s (-v0) (-v1) := ⟨_, rfl⟩
      rw [← hb] at HMV
      have HNB : Hid (N = b) := Lib.hid (by rw [HN.out, hb, e0])
      have hw1 : IntKind.i64.wrap (-v0) = -v0 := IntWalk.i64_in _ (by omega)
      have hw2 : IntKind.i64.wrap (-v1) = -v1 := IntWalk.i64_in _ (by omega)
      clear hb he e0 hv0 hv1 hk HN hsr hs
      go_wp2_with (first
        | (at_builtin; refine wpList_append_rect rfl (.tmp 104) (.tmp 106) rfl W0.heap.size a k cap (fun _ => N) b rfl (ownsRow_grows OWN.out (by repeat (first | exact Grows.refl _ | apply Grows.grow | apply Grows.alloc | apply Grows.drew))) _ _ rfl (by unfold Blk; repeat (first | exact blk_at _ _ _ (by first | omega | (simp; done) | (simp; omega)) | refine (blk_past _ _ _ (by first | omega | (simp; done) | (simp; omega))).trans ?_ | refine (heap_grow _ _ _ (by first | omega | (simp; done) | (simp; omega))).trans ?_ | refine (blk_drew _ _).trans ?_)) HNB.out (by omega) (by simp <;> omega) ?_; intro p' cap' w1 h1 h2 h3 h4; replace h1 := Lib.hid h1; replace h2 := Lib.hid h2)
        | (first | (go_at_call 28; (with_reducible refine (HEM.out _ (by repeat (first | exact Grows.refl _ | apply Grows.grow | apply Grows.alloc | apply Grows.drew))).mono ?_); rintro e w' ⟨rfl, hgw⟩; first | (obtain ⟨gw, rfl⟩ := grows_of_grow hgw) | (obtain ⟨gw, rfl⟩ := hgw))))
      first | refine region_grow_tail2 10 (by kernel_rfl) (by kernel_rfl) ?_ | refine region_grow_tail 10 (by kernel_rfl) (by kernel_rfl) ?_
      simp only [List.take_succ_cons, List.take_zero, List.drop_succ_cons, List.drop_zero]
      repeat (go_big_quiet_step ((first | (go_at_call 29; exact grow_of (HMV.out _ (by repeat (first | exact Grows.refl _ | apply Grows.grow | apply Grows.alloc | apply Grows.drew)))))))
      refine wpQuiet_nil ?_
      rintro _ ⟨gd, rfl⟩
      go_wp2_with (first
        | (at_builtin; refine wpList_append_rect rfl (.tmp 104) (.tmp 106) rfl W0.heap.size a k cap (fun _ => N) b rfl (ownsRow_grows OWN.out (by repeat (first | exact Grows.refl _ | apply Grows.grow | apply Grows.alloc | apply Grows.drew))) _ _ rfl (by unfold Blk; repeat (first | exact blk_at _ _ _ (by first | omega | (simp; done) | (simp; omega)) | refine (blk_past _ _ _ (by first | omega | (simp; done) | (simp; omega))).trans ?_ | refine (heap_grow _ _ _ (by first | omega | (simp; done) | (simp; omega))).trans ?_ | refine (blk_drew _ _).trans ?_)) HNB.out (by omega) (by simp <;> omega) ?_; intro p' cap' w1 h1 h2 h3 h4; replace h1 := Lib.hid h1; replace h2 := Lib.hid h2))
      go_roundw
      case rel =>
        refine ⟨k + 1, some ⟨p', 0, none⟩, cap', by omega, by go_num, rfl, ?_, h1.out⟩
        exact (GR.out.trans (by repeat (first | exact Grows.refl _ | apply Grows.grow | apply Grows.alloc | apply Grows.drew))).grown h2.out (fun j hj => (own_lt OWN.out j hj).1)
      case measure => simp [intOf]; omega
    · obtain rfl : il = k := by omega
      clear he
      go_wp2
      go_ret
      exact ⟨a, cap, rfl, G0.out.trans (GR.out.trans (by repeat (first | exact Grows.refl _ | apply Grows.grow | apply Grows.alloc | apply Grows.drew))), Lib.hid ((rects_own (f := fun _ => N) OWN.out).grows (by repeat (first | exact Grows.refl _ | apply Grows.grow | apply Grows.alloc | apply Grows.drew)))⟩
set_option maxRecDepth 100000 in
set_option maxHeartbeats 25600000 in
theorem ref14_Of_2 (op : Int) (ia : Option Addr) (il ic : Nat) (pa : Option Addr) (pl pc : Nat) (p : Nat → Int) (s : R) (w : World) (hic : il ≤ ic ∧ ic ≤ 9223372036854775807) (hp : Hid (IsInts w pa pl pc p)) (hlp : (pl : Int) = prmN op) (hk : NodeOk op p il) (hs : smallR s) (he : emptyR s = false) (hop1 : op = 2) :
    Calls Tryd.prog 9 #[.agg #[.int .i64 op, .slice ia il ic, .slice pa pl pc], .agg #[.int .i64 s.x0, .int .i64 s.y0, .int .i64 s.x1, .int .i64 s.y1]] w fun e w' => ∃ a cap, e = .returned (.slice a il cap) ∧ Grows w w' ∧ Hid (IsRects w' a il cap (fun _ => needR op p s)) := by
  have m1 := hp.out.le
  have m2 := hp.out.most
  have hf := hk.few
  have hop := hk.op_
  have hsr := hs.right
  subst hop1
  obtain ⟨N, hN⟩ : ∃ z, z = needR 2 p s := ⟨_, rfl⟩
  have HN := Lib.hid hN
  rw [← hN]
  clear hN
  go_enter Tryd.func9, Tryd.ntmps9
  go_wp2
  refine wp_name ?_
  intro W0 hW0
  have B0 : Hid (Blk W0 w.heap.size 24 #[.int .i64 2, .slice ia il ic, .slice pa pl pc]) := by rw [hW0]; exact (by unfold Blk; repeat (first | exact blk_at _ _ _ (by first | omega | (simp; done) | (simp; omega)) | refine (blk_past _ _ _ (by first | omega | (simp; done) | (simp; omega))).trans ?_ | refine (heap_grow _ _ _ (by first | omega | (simp; done) | (simp; omega))).trans ?_ | refine (blk_drew _ _).trans ?_))
  have B1 : Hid (Blk W0 (w.heap.size + 1) 27 #[.int .i64 s.x0, .int .i64 s.y0, .int .i64 s.x1, .int .i64 s.y1]) := by rw [hW0]; exact (by unfold Blk; repeat (first | exact blk_at _ _ _ (by first | omega | (simp; done) | (simp; omega)) | refine (blk_past _ _ _ (by first | omega | (simp; done) | (simp; omega))).trans ?_ | refine (heap_grow _ _ _ (by first | omega | (simp; done) | (simp; omega))).trans ?_ | refine (blk_drew _ _).trans ?_))
  have G0 : Hid (Grows w W0) := by rw [hW0]; exact (by repeat (first | exact Grows.refl _ | apply Grows.grow | apply Grows.alloc | apply Grows.drew))
  clear hW0
  go_loopw [5, 6] (fun v i wr => ∃ (k : Nat) (a : Option Addr) (cap : Nat), k ≤ il ∧ i = .int .i64 k ∧ v = .slice a k cap ∧ Grows W0 wr ∧ wr.ownsRow W0.heap.size 27 4 (.slice a k cap) k (cellsL (fun _ => rcC N) k)) (fun _ i _ => il - (intOf i).toNat)
  case atStart => exact ⟨0, none, 0, by omega, rfl, rfl, Grows.refl _, rfl, .inl ⟨rfl, rfl⟩⟩
  case round =>
    obtain ⟨k, a, cap, hk1, rfl, rfl, hgr, hown⟩ := hrel
    have GR := Lib.hid hgr
    have OWN := Lib.hid hown
    have d0 := B0.out.grows hgr
    have d1 := B1.out.grows hgr
    obtain ⟨c0, c1, c2, cf⟩ := d0.c3'
    obtain ⟨s0, s1, s2, s3, sf⟩ := d1.c4
    have l0 := d0.lt
    have l1 := d1.lt
    have SZB : W0.heap.size ≤ wr.heap.size := hgr.below.size
    have PR := Lib.hid (hp.out.grows (G0.out.trans hgr))
    clear d0 d1 hgr hown
    by_cases hlt : k < il
    · have HEM : Hid (∀ W, Grows wr W → Calls Tryd.prog 28 #[.agg #[.int .i64 s.x0, .int .i64 s.y0, .int .i64 s.x1, .int .i64 s.y1]] W fun e w' => e = .returned (.bool false) ∧ Grows W w') := fun W g => by have := ref03_emptyR s W; rw [he] at this; exact this
      obtain rfl : pl = 2 := by have : prmN 2 = 2 := (by decide); omega
      obtain ⟨bp, offp, rfl, hbp, f0⟩ := PR.out.at (k := 0) (by omega)
      obtain ⟨b2, off2, e, -, f1⟩ := PR.out.at (k := 1) (by omega)
      cases e
      simp only [Nat.add_zero] at f0
      have ho := hk.rad (by omega)
      have e0 : needR 2 p s = growR s (p 0) (p 1) (p 0) (p 1) := by simp [needR, he]
      obtain ⟨v0, hv0⟩ : ∃ z, z = p 0 := ⟨_, rfl⟩
      obtain ⟨v1, hv1⟩ : ∃ z, z = p 1 := ⟨_, rfl⟩
      rw [← hv0, ← hv1] at e0 ho
      rw [← hv0] at f0
      rw [← hv1] at f1
      have HGW : Hid (∀ W, Grows wr W → Calls Tryd.prog 30 #[.agg #[.int .i64 s.x0, .int .i64 s.y0, .int .i64 s.x1, .int .i64 s.y1], .int .i64 v0, .int .i64 v1, .int .i64 v0, .int .i64 v1] W fun e w' => e = .returned (.agg #[.int .i64 (growR s v0 v1 v0 v1).x0, .int .i64 (growR s v0 v1 v0 v1).y0, .int .i64 (growR s v0 v1 v0 v1).x1, .int .i64 (growR s v0 v1 v0 v1).y1]) ∧ Grows W w') := fun W g => ref03_growR s v0 v1 v0 v1 W hsr (by omega) (by omega) (by omega) (by omega)
      obtain ⟨b, hb⟩ : ∃ z, z = growR s v0 v1 v0 v1 := ⟨_, rfl⟩
      rw [← hb] at HGW
      have HNB : Hid (N = b) := Lib.hid (by rw [HN.out, hb, e0])
      clear hb he e0 hv0 hv1 hk HN hsr hs
      go_wp2_with (first
        | (at_builtin; refine wpList_append_rect rfl (.tmp 104) (.tmp 106) rfl W0.heap.size a k cap (fun _ => N) b rfl (ownsRow_grows OWN.out (by repeat (first | exact Grows.refl _ | apply Grows.grow | apply Grows.alloc | apply Grows.drew))) _ _ rfl (by unfold Blk; repeat (first | exact blk_at _ _ _ (by first | omega | (simp; done) | (simp; omega)) | refine (blk_past _ _ _ (by first | omega | (simp; done) | (simp; omega))).trans ?_ | refine (heap_grow _ _ _ (by first | omega | (simp; done) | (simp; omega))).trans ?_ | refine (blk_drew _ _).trans ?_)) HNB.out (by omega) (by simp <;> omega) ?_; intro p' cap' w1 h1 h2 h3 h4; replace h1 := Lib.hid h1; replace h2 := Lib.hid h2)
        | (first | (go_at_call 28; (with_reducible refine (HEM.out _ (by repeat (first | exact Grows.refl _ | apply Grows.grow | apply Grows.alloc | apply Grows.drew))).mono ?_); rintro e w' ⟨rfl, hgw⟩; first | (obtain ⟨gw, rfl⟩ := grows_of_grow hgw) | (obtain ⟨gw, rfl⟩ := hgw))))
      first | refine region_grow_tail2 14 (by kernel_rfl) (by kernel_rfl) ?_ | refine region_grow_tail 14 (by kernel_rfl) (by kernel_rfl) ?_
      simp only [List.take_succ_cons, List.take_zero, List.drop_succ_cons, List.drop_zero]
      repeat (go_big_quiet_step ((first | (go_at_call 30; exact grow_of (HGW.out _ (by repeat (first | exact Grows.refl _ | apply Grows.grow | apply Grows.alloc | apply Grows.drew)))))))
      refine wpQuiet_nil ?_
      rintro _ ⟨gd, rfl⟩
      go_wp2_with (first
        | (at_builtin; refine wpList_append_rect rfl (.tmp 104) (.tmp 106) rfl W0.heap.size a k cap (fun _ => N) b rfl (ownsRow_grows OWN.out (by repeat (first | exact Grows.refl _ | apply Grows.grow | apply Grows.alloc | apply Grows.drew))) _ _ rfl (by unfold Blk; repeat (first | exact blk_at _ _ _ (by first | omega | (simp; done) | (simp; omega)) | refine (blk_past _ _ _ (by first | omega | (simp; done) | (simp; omega))).trans ?_ | refine (heap_grow _ _ _ (by first | omega | (simp; done) | (simp; omega))).trans ?_ | refine (blk_drew _ _).trans ?_)) HNB.out (by omega) (by simp <;> omega) ?_; intro p' cap' w1 h1 h2 h3 h4; replace h1 := Lib.hid h1; replace h2 := Lib.hid h2))
      go_roundw
      case rel =>
        refine ⟨k + 1, some ⟨p', 0, none⟩, cap', by omega, by go_num, rfl, ?_, h1.out⟩
        exact (GR.out.trans (by repeat (first | exact Grows.refl _ | apply Grows.grow | apply Grows.alloc | apply Grows.drew))).grown h2.out (fun j hj => (own_lt OWN.out j hj).1)
      case measure => simp [intOf]; omega
    · obtain rfl : il = k := by omega
      clear he
      go_wp2
      go_ret
      exact ⟨a, cap, rfl, G0.out.trans (GR.out.trans (by repeat (first | exact Grows.refl _ | apply Grows.grow | apply Grows.alloc | apply Grows.drew))), Lib.hid ((rects_own (f := fun _ => N) OWN.out).grows (by repeat (first | exact Grows.refl _ | apply Grows.grow | apply Grows.alloc | apply Grows.drew)))⟩
set_option maxRecDepth 100000 in
set_option maxHeartbeats 25600000 in
theorem ref14_Of_3 (op : Int) (ia : Option Addr) (il ic : Nat) (pa : Option Addr) (pl pc : Nat) (p : Nat → Int) (s : R) (w : World) (hic : il ≤ ic ∧ ic ≤ 9223372036854775807) (hp : Hid (IsInts w pa pl pc p)) (hlp : (pl : Int) = prmN op) (hk : NodeOk op p il) (hs : smallR s) (he : emptyR s = false) (hop1 : op = 3) :
    Calls Tryd.prog 9 #[.agg #[.int .i64 op, .slice ia il ic, .slice pa pl pc], .agg #[.int .i64 s.x0, .int .i64 s.y0, .int .i64 s.x1, .int .i64 s.y1]] w fun e w' => ∃ a cap, e = .returned (.slice a il cap) ∧ Grows w w' ∧ Hid (IsRects w' a il cap (fun _ => needR op p s)) := by
  have m1 := hp.out.le
  have m2 := hp.out.most
  have hf := hk.few
  have hop := hk.op_
  have hsr := hs.right
  subst hop1
  obtain ⟨N, hN⟩ : ∃ z, z = needR 3 p s := ⟨_, rfl⟩
  have HN := Lib.hid hN
  rw [← hN]
  clear hN
  go_enter Tryd.func9, Tryd.ntmps9
  go_wp2
  refine wp_name ?_
  intro W0 hW0
  have B0 : Hid (Blk W0 w.heap.size 24 #[.int .i64 3, .slice ia il ic, .slice pa pl pc]) := by rw [hW0]; exact (by unfold Blk; repeat (first | exact blk_at _ _ _ (by first | omega | (simp; done) | (simp; omega)) | refine (blk_past _ _ _ (by first | omega | (simp; done) | (simp; omega))).trans ?_ | refine (heap_grow _ _ _ (by first | omega | (simp; done) | (simp; omega))).trans ?_ | refine (blk_drew _ _).trans ?_))
  have B1 : Hid (Blk W0 (w.heap.size + 1) 27 #[.int .i64 s.x0, .int .i64 s.y0, .int .i64 s.x1, .int .i64 s.y1]) := by rw [hW0]; exact (by unfold Blk; repeat (first | exact blk_at _ _ _ (by first | omega | (simp; done) | (simp; omega)) | refine (blk_past _ _ _ (by first | omega | (simp; done) | (simp; omega))).trans ?_ | refine (heap_grow _ _ _ (by first | omega | (simp; done) | (simp; omega))).trans ?_ | refine (blk_drew _ _).trans ?_))
  have G0 : Hid (Grows w W0) := by rw [hW0]; exact (by repeat (first | exact Grows.refl _ | apply Grows.grow | apply Grows.alloc | apply Grows.drew))
  clear hW0
  go_loopw [5, 6] (fun v i wr => ∃ (k : Nat) (a : Option Addr) (cap : Nat), k ≤ il ∧ i = .int .i64 k ∧ v = .slice a k cap ∧ Grows W0 wr ∧ wr.ownsRow W0.heap.size 27 4 (.slice a k cap) k (cellsL (fun _ => rcC N) k)) (fun _ i _ => il - (intOf i).toNat)
  case atStart => exact ⟨0, none, 0, by omega, rfl, rfl, Grows.refl _, rfl, .inl ⟨rfl, rfl⟩⟩
  case round =>
    obtain ⟨k, a, cap, hk1, rfl, rfl, hgr, hown⟩ := hrel
    have GR := Lib.hid hgr
    have OWN := Lib.hid hown
    have d0 := B0.out.grows hgr
    have d1 := B1.out.grows hgr
    obtain ⟨c0, c1, c2, cf⟩ := d0.c3'
    obtain ⟨s0, s1, s2, s3, sf⟩ := d1.c4
    have l0 := d0.lt
    have l1 := d1.lt
    have SZB : W0.heap.size ≤ wr.heap.size := hgr.below.size
    have PR := Lib.hid (hp.out.grows (G0.out.trans hgr))
    clear d0 d1 hgr hown
    by_cases hlt : k < il
    · have HEM : Hid (∀ W, Grows wr W → Calls Tryd.prog 28 #[.agg #[.int .i64 s.x0, .int .i64 s.y0, .int .i64 s.x1, .int .i64 s.y1]] W fun e w' => e = .returned (.bool false) ∧ Grows W w') := fun W g => by have := ref03_emptyR s W; rw [he] at this; exact this
      obtain rfl : pl = 2 := by have : prmN 3 = 2 := (by decide); omega
      obtain ⟨bp, offp, rfl, hbp, f0⟩ := PR.out.at (k := 0) (by omega)
      obtain ⟨b2, off2, e, -, f1⟩ := PR.out.at (k := 1) (by omega)
      cases e
      simp only [Nat.add_zero] at f0
      have ho := hk.rad (by omega)
      have e0 : needR 3 p s = growR s (p 0) (p 1) (p 0) (p 1) := by simp [needR, he]
      obtain ⟨v0, hv0⟩ : ∃ z, z = p 0 := ⟨_, rfl⟩
      obtain ⟨v1, hv1⟩ : ∃ z, z = p 1 := ⟨_, rfl⟩
      rw [← hv0, ← hv1] at e0 ho
      rw [← hv0] at f0
      rw [← hv1] at f1
      have HGW : Hid (∀ W, Grows wr W → Calls Tryd.prog 30 #[.agg #[.int .i64 s.x0, .int .i64 s.y0, .int .i64 s.x1, .int .i64 s.y1], .int .i64 v0, .int .i64 v1, .int .i64 v0, .int .i64 v1] W fun e w' => e = .returned (.agg #[.int .i64 (growR s v0 v1 v0 v1).x0, .int .i64 (growR s v0 v1 v0 v1).y0, .int .i64 (growR s v0 v1 v0 v1).x1, .int .i64 (growR s v0 v1 v0 v1).y1]) ∧ Grows W w') := fun W g => ref03_growR s v0 v1 v0 v1 W hsr (by omega) (by omega) (by omega) (by omega)
      obtain ⟨b, hb⟩ : ∃ z, z = growR s v0 v1 v0 v1 := ⟨_, rfl⟩
      rw [← hb] at HGW
      have HNB : Hid (N = b) := Lib.hid (by rw [HN.out, hb, e0])
      clear hb he e0 hv0 hv1 hk HN hsr hs
      go_wp2_with (first
        | (at_builtin; refine wpList_append_rect rfl (.tmp 104) (.tmp 106) rfl W0.heap.size a k cap (fun _ => N) b rfl (ownsRow_grows OWN.out (by repeat (first | exact Grows.refl _ | apply Grows.grow | apply Grows.alloc | apply Grows.drew))) _ _ rfl (by unfold Blk; repeat (first | exact blk_at _ _ _ (by first | omega | (simp; done) | (simp; omega)) | refine (blk_past _ _ _ (by first | omega | (simp; done) | (simp; omega))).trans ?_ | refine (heap_grow _ _ _ (by first | omega | (simp; done) | (simp; omega))).trans ?_ | refine (blk_drew _ _).trans ?_)) HNB.out (by omega) (by simp <;> omega) ?_; intro p' cap' w1 h1 h2 h3 h4; replace h1 := Lib.hid h1; replace h2 := Lib.hid h2)
        | (first | (go_at_call 28; (with_reducible refine (HEM.out _ (by repeat (first | exact Grows.refl _ | apply Grows.grow | apply Grows.alloc | apply Grows.drew))).mono ?_); rintro e w' ⟨rfl, hgw⟩; first | (obtain ⟨gw, rfl⟩ := grows_of_grow hgw) | (obtain ⟨gw, rfl⟩ := hgw))))
      first | refine region_grow_tail2 14 (by kernel_rfl) (by kernel_rfl) ?_ | refine region_grow_tail 14 (by kernel_rfl) (by kernel_rfl) ?_
      simp only [List.take_succ_cons, List.take_zero, List.drop_succ_cons, List.drop_zero]
      repeat (go_big_quiet_step ((first | (go_at_call 30; exact grow_of (HGW.out _ (by repeat (first | exact Grows.refl _ | apply Grows.grow | apply Grows.alloc | apply Grows.drew)))))))
      refine wpQuiet_nil ?_
      rintro _ ⟨gd, rfl⟩
      go_wp2_with (first
        | (at_builtin; refine wpList_append_rect rfl (.tmp 104) (.tmp 106) rfl W0.heap.size a k cap (fun _ => N) b rfl (ownsRow_grows OWN.out (by repeat (first | exact Grows.refl _ | apply Grows.grow | apply Grows.alloc | apply Grows.drew))) _ _ rfl (by unfold Blk; repeat (first | exact blk_at _ _ _ (by first | omega | (simp; done) | (simp; omega)) | refine (blk_past _ _ _ (by first | omega | (simp; done) | (simp; omega))).trans ?_ | refine (heap_grow _ _ _ (by first | omega | (simp; done) | (simp; omega))).trans ?_ | refine (blk_drew _ _).trans ?_)) HNB.out (by omega) (by simp <;> omega) ?_; intro p' cap' w1 h1 h2 h3 h4; replace h1 := Lib.hid h1; replace h2 := Lib.hid h2))
      go_roundw
      case rel =>
        refine ⟨k + 1, some ⟨p', 0, none⟩, cap', by omega, by go_num, rfl, ?_, h1.out⟩
        exact (GR.out.trans (by repeat (first | exact Grows.refl _ | apply Grows.grow | apply Grows.alloc | apply Grows.drew))).grown h2.out (fun j hj => (own_lt OWN.out j hj).1)
      case measure => simp [intOf]; omega
    · obtain rfl : il = k := by omega
      clear he
      go_wp2
      go_ret
      exact ⟨a, cap, rfl, G0.out.trans (GR.out.trans (by repeat (first | exact Grows.refl _ | apply Grows.grow | apply Grows.alloc | apply Grows.drew))), Lib.hid ((rects_own (f := fun _ => N) OWN.out).grows (by repeat (first | exact Grows.refl _ | apply Grows.grow | apply Grows.alloc | apply Grows.drew)))⟩
set_option maxRecDepth 100000 in
set_option maxHeartbeats 25600000 in
theorem ref14_Of_4 (op : Int) (ia : Option Addr) (il ic : Nat) (pa : Option Addr) (pl pc : Nat) (p : Nat → Int) (s : R) (w : World) (hic : il ≤ ic ∧ ic ≤ 9223372036854775807) (hp : Hid (IsInts w pa pl pc p)) (hlp : (pl : Int) = prmN op) (hk : NodeOk op p il) (hs : smallR s) (he : emptyR s = false) (hop1 : op = 4) :
    Calls Tryd.prog 9 #[.agg #[.int .i64 op, .slice ia il ic, .slice pa pl pc], .agg #[.int .i64 s.x0, .int .i64 s.y0, .int .i64 s.x1, .int .i64 s.y1]] w fun e w' => ∃ a cap, e = .returned (.slice a il cap) ∧ Grows w w' ∧ Hid (IsRects w' a il cap (fun _ => needR op p s)) := by
  have m1 := hp.out.le
  have m2 := hp.out.most
  have hf := hk.few
  have hop := hk.op_
  have hsr := hs.right
  subst hop1
  obtain ⟨N, hN⟩ : ∃ z, z = needR 4 p s := ⟨_, rfl⟩
  have HN := Lib.hid hN
  rw [← hN]
  clear hN
  go_enter Tryd.func9, Tryd.ntmps9
  go_wp2
  refine wp_name ?_
  intro W0 hW0
  have B0 : Hid (Blk W0 w.heap.size 24 #[.int .i64 4, .slice ia il ic, .slice pa pl pc]) := by rw [hW0]; exact (by unfold Blk; repeat (first | exact blk_at _ _ _ (by first | omega | (simp; done) | (simp; omega)) | refine (blk_past _ _ _ (by first | omega | (simp; done) | (simp; omega))).trans ?_ | refine (heap_grow _ _ _ (by first | omega | (simp; done) | (simp; omega))).trans ?_ | refine (blk_drew _ _).trans ?_))
  have B1 : Hid (Blk W0 (w.heap.size + 1) 27 #[.int .i64 s.x0, .int .i64 s.y0, .int .i64 s.x1, .int .i64 s.y1]) := by rw [hW0]; exact (by unfold Blk; repeat (first | exact blk_at _ _ _ (by first | omega | (simp; done) | (simp; omega)) | refine (blk_past _ _ _ (by first | omega | (simp; done) | (simp; omega))).trans ?_ | refine (heap_grow _ _ _ (by first | omega | (simp; done) | (simp; omega))).trans ?_ | refine (blk_drew _ _).trans ?_))
  have G0 : Hid (Grows w W0) := by rw [hW0]; exact (by repeat (first | exact Grows.refl _ | apply Grows.grow | apply Grows.alloc | apply Grows.drew))
  clear hW0
  go_loopw [5, 6] (fun v i wr => ∃ (k : Nat) (a : Option Addr) (cap : Nat), k ≤ il ∧ i = .int .i64 k ∧ v = .slice a k cap ∧ Grows W0 wr ∧ wr.ownsRow W0.heap.size 27 4 (.slice a k cap) k (cellsL (fun _ => rcC N) k)) (fun _ i _ => il - (intOf i).toNat)
  case atStart => exact ⟨0, none, 0, by omega, rfl, rfl, Grows.refl _, rfl, .inl ⟨rfl, rfl⟩⟩
  case round =>
    obtain ⟨k, a, cap, hk1, rfl, rfl, hgr, hown⟩ := hrel
    have GR := Lib.hid hgr
    have OWN := Lib.hid hown
    have d0 := B0.out.grows hgr
    have d1 := B1.out.grows hgr
    obtain ⟨c0, c1, c2, cf⟩ := d0.c3'
    obtain ⟨s0, s1, s2, s3, sf⟩ := d1.c4
    have l0 := d0.lt
    have l1 := d1.lt
    have SZB : W0.heap.size ≤ wr.heap.size := hgr.below.size
    have PR := Lib.hid (hp.out.grows (G0.out.trans hgr))
    clear d0 d1 hgr hown
    by_cases hlt : k < il
    · have HEM : Hid (∀ W, Grows wr W → Calls Tryd.prog 28 #[.agg #[.int .i64 s.x0, .int .i64 s.y0, .int .i64 s.x1, .int .i64 s.y1]] W fun e w' => e = .returned (.bool false) ∧ Grows W w') := fun W g => by have := ref03_emptyR s W; rw [he] at this; exact this
      obtain rfl : pl = 2 := by have : prmN 4 = 2 := (by decide); omega
      obtain ⟨bp, offp, rfl, hbp, f0⟩ := PR.out.at (k := 0) (by omega)
      obtain ⟨b2, off2, e, -, f1⟩ := PR.out.at (k := 1) (by omega)
      cases e
      simp only [Nat.add_zero] at f0
      have ho := hk.rad (by omega)
      have e0 : needR 4 p s = growR s (p 0) (p 1) (p 0) (p 1) := by simp [needR, he]
      obtain ⟨v0, hv0⟩ : ∃ z, z = p 0 := ⟨_, rfl⟩
      obtain ⟨v1, hv1⟩ : ∃ z, z = p 1 := ⟨_, rfl⟩
      rw [← hv0, ← hv1] at e0 ho
      rw [← hv0] at f0
      rw [← hv1] at f1
      have HGW : Hid (∀ W, Grows wr W → Calls Tryd.prog 30 #[.agg #[.int .i64 s.x0, .int .i64 s.y0, .int .i64 s.x1, .int .i64 s.y1], .int .i64 v0, .int .i64 v1, .int .i64 v0, .int .i64 v1] W fun e w' => e = .returned (.agg #[.int .i64 (growR s v0 v1 v0 v1).x0, .int .i64 (growR s v0 v1 v0 v1).y0, .int .i64 (growR s v0 v1 v0 v1).x1, .int .i64 (growR s v0 v1 v0 v1).y1]) ∧ Grows W w') := fun W g => ref03_growR s v0 v1 v0 v1 W hsr (by omega) (by omega) (by omega) (by omega)
      obtain ⟨b, hb⟩ : ∃ z, z = growR s v0 v1 v0 v1 := ⟨_, rfl⟩
      rw [← hb] at HGW
      have HNB : Hid (N = b) := Lib.hid (by rw [HN.out, hb, e0])
      clear hb he e0 hv0 hv1 hk HN hsr hs
      go_wp2_with (first
        | (at_builtin; refine wpList_append_rect rfl (.tmp 104) (.tmp 106) rfl W0.heap.size a k cap (fun _ => N) b rfl (ownsRow_grows OWN.out (by repeat (first | exact Grows.refl _ | apply Grows.grow | apply Grows.alloc | apply Grows.drew))) _ _ rfl (by unfold Blk; repeat (first | exact blk_at _ _ _ (by first | omega | (simp; done) | (simp; omega)) | refine (blk_past _ _ _ (by first | omega | (simp; done) | (simp; omega))).trans ?_ | refine (heap_grow _ _ _ (by first | omega | (simp; done) | (simp; omega))).trans ?_ | refine (blk_drew _ _).trans ?_)) HNB.out (by omega) (by simp <;> omega) ?_; intro p' cap' w1 h1 h2 h3 h4; replace h1 := Lib.hid h1; replace h2 := Lib.hid h2)
        | (first | (go_at_call 28; (with_reducible refine (HEM.out _ (by repeat (first | exact Grows.refl _ | apply Grows.grow | apply Grows.alloc | apply Grows.drew))).mono ?_); rintro e w' ⟨rfl, hgw⟩; first | (obtain ⟨gw, rfl⟩ := grows_of_grow hgw) | (obtain ⟨gw, rfl⟩ := hgw))))
      first | refine region_grow_tail2 14 (by kernel_rfl) (by kernel_rfl) ?_ | refine region_grow_tail 14 (by kernel_rfl) (by kernel_rfl) ?_
      simp only [List.take_succ_cons, List.take_zero, List.drop_succ_cons, List.drop_zero]
      repeat (go_big_quiet_step ((first | (go_at_call 30; exact grow_of (HGW.out _ (by repeat (first | exact Grows.refl _ | apply Grows.grow | apply Grows.alloc | apply Grows.drew)))))))
      refine wpQuiet_nil ?_
      rintro _ ⟨gd, rfl⟩
      go_wp2_with (first
        | (at_builtin; refine wpList_append_rect rfl (.tmp 104) (.tmp 106) rfl W0.heap.size a k cap (fun _ => N) b rfl (ownsRow_grows OWN.out (by repeat (first | exact Grows.refl _ | apply Grows.grow | apply Grows.alloc | apply Grows.drew))) _ _ rfl (by unfold Blk; repeat (first | exact blk_at _ _ _ (by first | omega | (simp; done) | (simp; omega)) | refine (blk_past _ _ _ (by first | omega | (simp; done) | (simp; omega))).trans ?_ | refine (heap_grow _ _ _ (by first | omega | (simp; done) | (simp; omega))).trans ?_ | refine (blk_drew _ _).trans ?_)) HNB.out (by omega) (by simp <;> omega) ?_; intro p' cap' w1 h1 h2 h3 h4; replace h1 := Lib.hid h1; replace h2 := Lib.hid h2))
      go_roundw
      case rel =>
        refine ⟨k + 1, some ⟨p', 0, none⟩, cap', by omega, by go_num, rfl, ?_, h1.out⟩
        exact (GR.out.trans (by repeat (first | exact Grows.refl _ | apply Grows.grow | apply Grows.alloc | apply Grows.drew))).grown h2.out (fun j hj => (own_lt OWN.out j hj).1)
      case measure => simp [intOf]; omega
    · obtain rfl : il = k := by omega
      clear he
      go_wp2
      go_ret
      exact ⟨a, cap, rfl, G0.out.trans (GR.out.trans (by repeat (first | exact Grows.refl _ | apply Grows.grow | apply Grows.alloc | apply Grows.drew))), Lib.hid ((rects_own (f := fun _ => N) OWN.out).grows (by repeat (first | exact Grows.refl _ | apply Grows.grow | apply Grows.alloc | apply Grows.drew)))⟩
end Go.Proofs.YtklcmlbkhjcaiaaDoor
