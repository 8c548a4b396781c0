/- The walk of the reference's Of (layer 14): clipped. -/
import Derived.Test.YtklcmlbkhjcaiaaDoorNeedA


namespace Go.Proofs.YtklcmlbkhjcaiaaDoor
open Go.RowKit
set_option linter.unusedVariables false

set_option maxRecDepth 100000 in
set_option maxHeartbeats 25600000 in
theorem ref14_Of_12 (op : Int) (ia : Option Addr) (il ic : Nat) (pa : Option Addr) (pl pc : Nat) (p : Nat → Int) (s : R) (w : World) (hic : il ≤ ic ∧ ic ≤ 9223372036854775807) (hp : Hid (IsInts w pa pl pc p)) (hlp : (pl : Int) = prmN op) (hk : NodeOk op p il) (hs : smallR s) (he : emptyR s = false) (hop1 : op = 12) :
    Calls Tryd.prog 9 #[.agg #[.int .i64 op, .slice ia il ic, .slice pa pl pc], .agg #[.int .i64 s.x0, .int .i64 s.y0, .int .i64 s.x1, .int .i64 s.y1]] w fun e w' => ∃ a cap, e = .returned (.slice a il cap) ∧ Grows w w' ∧ Hid (IsRects w' a il cap (fun _ => needR op p s)) := by
  have m1 := hp.out.le
  have m2 := hp.out.most
  have hf := hk.few
  have hop := hk.op_
  have hsr := hs.right
  subst hop1
  obtain ⟨N, hN⟩ : ∃ z, z = needR 12 p s := ⟨_, rfl⟩
  have HN := Lib.hid hN
  rw [← hN]
  clear hN
  go_enter Tryd.func9, Tryd.ntmps9
  go_wp2
  refine wp_name ?_
  intro W0 hW0
  have B0 : Hid (Blk W0 w.heap.size 24 #[.int .i64 12, .slice ia il ic, .slice pa pl pc]) := by rw [hW0]; exact (by unfold Blk; repeat (first | exact blk_at _ _ _ (by first | omega | (simp; done) | (simp; omega)) | refine (blk_past _ _ _ (by first | omega | (simp; done) | (simp; omega))).trans ?_ | refine (heap_grow _ _ _ (by first | omega | (simp; done) | (simp; omega))).trans ?_ | refine (blk_drew _ _).trans ?_))
  have B1 : Hid (Blk W0 (w.heap.size + 1) 27 #[.int .i64 s.x0, .int .i64 s.y0, .int .i64 s.x1, .int .i64 s.y1]) := by rw [hW0]; exact (by unfold Blk; repeat (first | exact blk_at _ _ _ (by first | omega | (simp; done) | (simp; omega)) | refine (blk_past _ _ _ (by first | omega | (simp; done) | (simp; omega))).trans ?_ | refine (heap_grow _ _ _ (by first | omega | (simp; done) | (simp; omega))).trans ?_ | refine (blk_drew _ _).trans ?_))
  have G0 : Hid (Grows w W0) := by rw [hW0]; exact (by repeat (first | exact Grows.refl _ | apply Grows.grow | apply Grows.alloc | apply Grows.drew))
  clear hW0
  go_loopw [5, 6] (fun v i wr => ∃ (k : Nat) (a : Option Addr) (cap : Nat), k ≤ il ∧ i = .int .i64 k ∧ v = .slice a k cap ∧ Grows W0 wr ∧ wr.ownsRow W0.heap.size 27 4 (.slice a k cap) k (cellsL (fun _ => rcC N) k)) (fun _ i _ => il - (intOf i).toNat)
  case atStart => exact ⟨0, none, 0, by omega, rfl, rfl, Grows.refl _, rfl, .inl ⟨rfl, rfl⟩⟩
  case round =>
    obtain ⟨k, a, cap, hk1, rfl, rfl, hgr, hown⟩ := hrel
    have GR := Lib.hid hgr
    have OWN := Lib.hid hown
    have d0 := B0.out.grows hgr
    have d1 := B1.out.grows hgr
    obtain ⟨c0, c1, c2, cf⟩ := d0.c3'
    obtain ⟨s0, s1, s2, s3, sf⟩ := d1.c4
    have l0 := d0.lt
    have l1 := d1.lt
    have SZB : W0.heap.size ≤ wr.heap.size := hgr.below.size
    have PR := Lib.hid (hp.out.grows (G0.out.trans hgr))
    clear d0 d1 hgr hown
    by_cases hlt : k < il
    · have HEM : Hid (∀ W, Grows wr W → Calls Tryd.prog 28 #[.agg #[.int .i64 s.x0, .int .i64 s.y0, .int .i64 s.x1, .int .i64 s.y1]] W fun e w' => e = .returned (.bool false) ∧ Grows W w') := fun W g => by have := ref03_emptyR s W; rw [he] at this; exact this
      obtain rfl : pl = 4 := by have : prmN 12 = 4 := (by decide); omega
      obtain ⟨x, hx⟩ : ∃ z, z = boxO p 0 := ⟨_, rfl⟩
      have HBX : Hid (∀ W, Grows wr W → Calls Tryd.prog 32 #[.slice pa 4 pc, .int .i64 0] W fun e w' => e = .returned (.agg #[.int .i64 x.x0, .int .i64 x.y0, .int .i64 x.x1, .int .i64 x.y1]) ∧ Grows W w') := fun W g => ref13_Box pa 4 pc p 0 0 x W (Lib.hid (PR.out.grows g)) rfl (by omega) (by omega) (Lib.hid hx.symm)
      have HMT : Hid (∀ W, Grows wr W → Calls Tryd.prog 31 #[.agg #[.int .i64 s.x0, .int .i64 s.y0, .int .i64 s.x1, .int .i64 s.y1], .agg #[.int .i64 x.x0, .int .i64 x.y0, .int .i64 x.x1, .int .i64 x.y1]] W fun e w' => e = .returned (.agg #[.int .i64 (meetR s x).x0, .int .i64 (meetR s x).y0, .int .i64 (meetR s x).x1, .int .i64 (meetR s x).y1]) ∧ Grows W w') := fun W g => ref03_meetR s x W
      have e0 : needR 12 p s = meetR s x := by rw [hx]; simp [needR, he]
      obtain ⟨b, hb⟩ : ∃ z, z = meetR s x := ⟨_, rfl⟩
      rw [← hb] at HMT
      have HNB : Hid (N = b) := Lib.hid (by rw [HN.out, hb, e0])
      clear hb he e0 hx hk HN hsr hs
      go_wp2_with (first
        | (at_builtin; refine wpList_append_rect rfl (.tmp 104) (.tmp 106) rfl W0.heap.size a k cap (fun _ => N) b rfl (ownsRow_grows OWN.out (by repeat (first | exact Grows.refl _ | apply Grows.grow | apply Grows.alloc | apply Grows.drew))) _ _ rfl (by unfold Blk; repeat (first | exact blk_at _ _ _ (by first | omega | (simp; done) | (simp; omega)) | refine (blk_past _ _ _ (by first | omega | (simp; done) | (simp; omega))).trans ?_ | refine (heap_grow _ _ _ (by first | omega | (simp; done) | (simp; omega))).trans ?_ | refine (blk_drew _ _).trans ?_)) HNB.out (by omega) (by simp <;> omega) ?_; intro p' cap' w1 h1 h2 h3 h4; replace h1 := Lib.hid h1; replace h2 := Lib.hid h2)
        | (first | (go_at_call 28; (with_reducible refine (HEM.out _ (by repeat (first | exact Grows.refl _ | apply Grows.grow | apply Grows.alloc | apply Grows.drew))).mono ?_); rintro e w' ⟨rfl, hgw⟩; first | (obtain ⟨gw, rfl⟩ := grows_of_grow hgw) | (obtain ⟨gw, rfl⟩ := hgw))))
      first | refine region_grow_tail2 4 (by kernel_rfl) (by kernel_rfl) ?_ | refine region_grow_tail 4 (by kernel_rfl) (by kernel_rfl) ?_
      simp only [List.take_succ_cons, List.take_zero, List.drop_succ_cons, List.drop_zero]
      repeat (go_big_quiet_step ((first | (go_at_call 32; exact grow_of (HBX.out _ (by repeat (first | exact Grows.refl _ | apply Grows.grow | apply Grows.alloc | apply Grows.drew)))) | (go_at_call 31; exact grow_of (HMT.out _ (by repeat (first | exact Grows.refl _ | apply Grows.grow | apply Grows.alloc | apply Grows.drew)))))))
      refine wpQuiet_nil ?_
      rintro _ ⟨gd, rfl⟩
      go_wp2_with (first
        | (at_builtin; refine wpList_append_rect rfl (.tmp 104) (.tmp 106) rfl W0.heap.size a k cap (fun _ => N) b rfl (ownsRow_grows OWN.out (by repeat (first | exact Grows.refl _ | apply Grows.grow | apply Grows.alloc | apply Grows.drew))) _ _ rfl (by unfold Blk; repeat (first | exact blk_at _ _ _ (by first | omega | (simp; done) | (simp; omega)) | refine (blk_past _ _ _ (by first | omega | (simp; done) | (simp; omega))).trans ?_ | refine (heap_grow _ _ _ (by first | omega | (simp; done) | (simp; omega))).trans ?_ | refine (blk_drew _ _).trans ?_)) HNB.out (by omega) (by simp <;> omega) ?_; intro p' cap' w1 h1 h2 h3 h4; replace h1 := Lib.hid h1; replace h2 := Lib.hid h2))
      go_roundw
      case rel =>
        refine ⟨k + 1, some ⟨p', 0, none⟩, cap', by omega, by go_num, rfl, ?_, h1.out⟩
        exact (GR.out.trans (by repeat (first | exact Grows.refl _ | apply Grows.grow | apply Grows.alloc | apply Grows.drew))).grown h2.out (fun j hj => (own_lt OWN.out j hj).1)
      case measure => simp [intOf]; omega
    · obtain rfl : il = k := by omega
      clear he
      go_wp2
      go_ret
      exact ⟨a, cap, rfl, G0.out.trans (GR.out.trans (by repeat (first | exact Grows.refl _ | apply Grows.grow | apply Grows.alloc | apply Grows.drew))), Lib.hid ((rects_own (f := fun _ => N) OWN.out).grows (by repeat (first | exact Grows.refl _ | apply Grows.grow | apply Grows.alloc | apply Grows.drew)))⟩
end Go.Proofs.YtklcmlbkhjcaiaaDoor
