/- The walk of the reference's Reach (layer 13): joined. -/
import Derived.Test.YtklcmlbkhjcaiaaDoorNeedA
import Derived.Test.YtklcmlbkhjcaiaaDoorK9



namespace Go.Proofs.YtklcmlbkhjcaiaaDoor
open Go.RowKit
set_option linter.unusedVariables false

set_option maxRecDepth 100000 in
set_option maxHeartbeats 25600000 in
theorem ref13_Reach_3 (ia : Option Addr) (il ic : Nat) (pa : Option Addr) (pl pc : Nat) (p : Nat → Int) (a : Option Addr) (len cap : Nat) (r : Nat → R) (w : World) (hp : Hid (IsInts w pa pl pc p)) (hlp : (pl : Int) = prmN 3) (hl : Hid (IsRects w a len cap r)) (hk : NodeOk 3 p len) (hr : ∀ i, i < len → rightR (r i) = true) :
    Calls Tryd.prog 22 #[.agg #[.int .i64 3, .slice ia il ic, .slice pa pl pc], .slice a len cap] w fun e w' => e = .returned (.agg #[.int .i64 (reachR 3 p len r).x0, .int .i64 (reachR 3 p len r).y0, .int .i64 (reachR 3 p len r).x1, .int .i64 (reachR 3 p len r).y1]) ∧ Grows w w' := by
  have m1 := hp.out.le
  have m2 := hp.out.most
  have m3 := hl.out.le
  have m4 := hl.out.most
  have hf := hk.few
  have EQ0 : reachR 3 p len r = joinsR r len := by simp [reachR]
  rw [EQ0]
  clear EQ0 hp hlp hr hk
  go_enter Tryd.func22, Tryd.ntmps22
  go_wp2
  refine wp_name ?_
  intro W0 hW0
  have B4 : Hid (Blk W0 (w.heap.size + 1) 27 #[.int .i64 0, .int .i64 0, .int .i64 0, .int .i64 0]) := by rw [hW0]; exact (by unfold Blk; repeat (first | exact blk_at _ _ _ (by first | omega | (simp; done) | (simp; omega)) | refine (blk_past _ _ _ (by first | omega | (simp; done) | (simp; omega))).trans ?_ | refine (heap_grow _ _ _ (by first | omega | (simp; done) | (simp; omega))).trans ?_ | refine (blk_drew _ _).trans ?_))
  have B7 : Hid (Blk W0 (w.heap.size + 1 + 1 + 1) 27 #[.int .i64 0, .int .i64 0, .int .i64 0, .int .i64 0]) := by rw [hW0]; exact (by unfold Blk; repeat (first | exact blk_at _ _ _ (by first | omega | (simp; done) | (simp; omega)) | refine (blk_past _ _ _ (by first | omega | (simp; done) | (simp; omega))).trans ?_ | refine (heap_grow _ _ _ (by first | omega | (simp; done) | (simp; omega))).trans ?_ | refine (blk_drew _ _).trans ?_))
  have G0 : Hid (Grows w W0) := by rw [hW0]; exact (by repeat (first | exact Grows.refl _ | apply Grows.grow | apply Grows.alloc | apply Grows.drew))
  have hn7 : w.heap.size + 1 < (w.heap.size + 1 + 1 + 1) := by first | omega | (simp; done) | (simp; omega)
  obtain ⟨n7, hn⟩ : ∃ z, z = (w.heap.size + 1 + 1 + 1) := ⟨_, rfl⟩
  rw [← hn] at B7 hn7 ⊢
  clear hW0 hn
  go_loopw [8] (fun i wr => ∃ (k : Nat) (c : R), k ≤ len ∧ i = .int .i64 k ∧ joinsR r k = c ∧ Grows w wr ∧ W0.grownBy wr (some n7) ∧ Blk wr n7 27 #[.int .i64 c.x0, .int .i64 c.y0, .int .i64 c.x1, .int .i64 c.y1]) (fun i _ => len - (intOf i).toNat)
  case atStart => exact ⟨0, zeroR, by omega, rfl, rfl, G0.out, World.grownBy.refl W0 _, B7.out⟩
  case round =>
    obtain ⟨k, c, hk1, rfl, hc, hgw0, hby, hbk⟩ := hrel
    have GR := Lib.hid hgw0
    have BY := Lib.hid hby
    have BC := Lib.hid hbk
    obtain ⟨c0, c1, c2, c3, cf⟩ := hbk.c4
    have lc := hbk.lt
    clear hgw0 hby hbk
    by_cases hlt : k < len
    · obtain ⟨b', off', rfl, hb', e0, e1, e2, e3⟩ := (hl.out.grows GR.out).at hlt
      obtain ⟨rk, hrk⟩ : ∃ z, z = r k := ⟨_, rfl⟩
      rw [← hrk] at e0 e1 e2 e3
      have HJO : Hid (∀ W, Grows wr W → Calls Tryd.prog 17 #[.agg #[.int .i64 c.x0, .int .i64 c.y0, .int .i64 c.x1, .int .i64 c.y1], .agg #[.int .i64 rk.x0, .int .i64 rk.y0, .int .i64 rk.x1, .int .i64 rk.y1]] W fun e w' => e = .returned (.agg #[.int .i64 (joinR c rk).x0, .int .i64 (joinR c rk).y0, .int .i64 (joinR c rk).x1, .int .i64 (joinR c rk).y1]) ∧ Grows W w') := fun W g => ref03_joinR c rk W
      obtain ⟨d, hd⟩ : ∃ z, z = joinR c rk := ⟨_, rfl⟩
      rw [← hd] at HJO
      have HD : Hid (joinsR r (k + 1) = d) := Lib.hid (by rw [hd, hrk, ← hc]; rfl)
      clear hd hrk hc
      go_wp2
      first | refine region_grow_tail2 6 (by kernel_rfl) (by kernel_rfl) ?_ | refine region_grow_tail 6 (by kernel_rfl) (by kernel_rfl) ?_
      simp only [List.take_succ_cons, List.take_zero, List.drop_succ_cons, List.drop_zero]
      repeat (go_big_quiet_step ((first | (go_at_call 17; exact grow_of (HJO.out _ (by repeat (first | exact Grows.refl _ | apply Grows.grow | apply Grows.alloc | apply Grows.drew)))))))
      refine wpQuiet_nil ?_
      rintro _ ⟨gd, rfl⟩
      go_wp2
      go_roundw
      case rel =>
        refine ⟨k + 1, d, by omega, by go_num, HD.out, ?_, ?_, ?_⟩
        · exact (GR.out.four (n := n7) (by omega) _ _ _ _).trans (by repeat (first | exact Grows.refl _ | apply Grows.grow | apply Grows.alloc | apply Grows.drew))
        · exact grownBy_grows (BY.out.trans (store4_grown wr n7 _ _ _ _)) (by repeat (first | exact Grows.refl _ | apply Grows.grow | apply Grows.alloc | apply Grows.drew))
        · exact (BC.out.set4 _ _ _ _).grows (by repeat (first | exact Grows.refl _ | apply Grows.grow | apply Grows.alloc | apply Grows.drew))
      case measure => simp [intOf]; omega
    · obtain rfl : len = k := by omega
      have d4 := B4.out.grown BY.out (fun e => by injection e with e; omega)
      obtain ⟨q0, q1, q2, q3, qf⟩ := d4.c4
      have lq := d4.lt
      have D4 := Lib.hid d4
      clear d4
      replace hc := Lib.hid hc
      go_wp2
      refine bodyPost_ret (results_cell_row rfl _ _ _ 27 #[.int .i64 c.x0, .int .i64 c.y0, .int .i64 c.x1, .int .i64 c.y1] (0, 0) _ rfl (D4.out.set4 _ _ _ _) Tryd.underlying27 rfl rect_info) rfl ⟨by rw [hc.out], GR.out.four (by omega) _ _ _ _⟩
set_option maxRecDepth 100000 in
set_option maxHeartbeats 25600000 in
theorem ref13_Reach_7 (ia : Option Addr) (il ic : Nat) (pa : Option Addr) (pl pc : Nat) (p : Nat → Int) (a : Option Addr) (len cap : Nat) (r : Nat → R) (w : World) (hp : Hid (IsInts w pa pl pc p)) (hlp : (pl : Int) = prmN 7) (hl : Hid (IsRects w a len cap r)) (hk : NodeOk 7 p len) (hr : ∀ i, i < len → rightR (r i) = true) :
    Calls Tryd.prog 22 #[.agg #[.int .i64 7, .slice ia il ic, .slice pa pl pc], .slice a len cap] w fun e w' => e = .returned (.agg #[.int .i64 (reachR 7 p len r).x0, .int .i64 (reachR 7 p len r).y0, .int .i64 (reachR 7 p len r).x1, .int .i64 (reachR 7 p len r).y1]) ∧ Grows w w' := by
  have m1 := hp.out.le
  have m2 := hp.out.most
  have m3 := hl.out.le
  have m4 := hl.out.most
  have hf := hk.few
  have EQ0 : reachR 7 p len r = joinsR r len := by simp [reachR]
  rw [EQ0]
  clear EQ0 hp hlp hr hk
  go_enter Tryd.func22, Tryd.ntmps22
  go_wp2
  refine wp_name ?_
  intro W0 hW0
  have B4 : Hid (Blk W0 (w.heap.size + 1) 27 #[.int .i64 0, .int .i64 0, .int .i64 0, .int .i64 0]) := by rw [hW0]; exact (by unfold Blk; repeat (first | exact blk_at _ _ _ (by first | omega | (simp; done) | (simp; omega)) | refine (blk_past _ _ _ (by first | omega | (simp; done) | (simp; omega))).trans ?_ | refine (heap_grow _ _ _ (by first | omega | (simp; done) | (simp; omega))).trans ?_ | refine (blk_drew _ _).trans ?_))
  have B7 : Hid (Blk W0 (w.heap.size + 1 + 1 + 1) 27 #[.int .i64 0, .int .i64 0, .int .i64 0, .int .i64 0]) := by rw [hW0]; exact (by unfold Blk; repeat (first | exact blk_at _ _ _ (by first | omega | (simp; done) | (simp; omega)) | refine (blk_past _ _ _ (by first | omega | (simp; done) | (simp; omega))).trans ?_ | refine (heap_grow _ _ _ (by first | omega | (simp; done) | (simp; omega))).trans ?_ | refine (blk_drew _ _).trans ?_))
  have G0 : Hid (Grows w W0) := by rw [hW0]; exact (by repeat (first | exact Grows.refl _ | apply Grows.grow | apply Grows.alloc | apply Grows.drew))
  have hn7 : w.heap.size + 1 < (w.heap.size + 1 + 1 + 1) := by first | omega | (simp; done) | (simp; omega)
  obtain ⟨n7, hn⟩ : ∃ z, z = (w.heap.size + 1 + 1 + 1) := ⟨_, rfl⟩
  rw [← hn] at B7 hn7 ⊢
  clear hW0 hn
  go_loopw [8] (fun i wr => ∃ (k : Nat) (c : R), k ≤ len ∧ i = .int .i64 k ∧ joinsR r k = c ∧ Grows w wr ∧ W0.grownBy wr (some n7) ∧ Blk wr n7 27 #[.int .i64 c.x0, .int .i64 c.y0, .int .i64 c.x1, .int .i64 c.y1]) (fun i _ => len - (intOf i).toNat)
  case atStart => exact ⟨0, zeroR, by omega, rfl, rfl, G0.out, World.grownBy.refl W0 _, B7.out⟩
  case round =>
    obtain ⟨k, c, hk1, rfl, hc, hgw0, hby, hbk⟩ := hrel
    have GR := Lib.hid hgw0
    have BY := Lib.hid hby
    have BC := Lib.hid hbk
    obtain ⟨c0, c1, c2, c3, cf⟩ := hbk.c4
    have lc := hbk.lt
    clear hgw0 hby hbk
    by_cases hlt : k < len
    · obtain ⟨b', off', rfl, hb', e0, e1, e2, e3⟩ := (hl.out.grows GR.out).at hlt
      obtain ⟨rk, hrk⟩ : ∃ z, z = r k := ⟨_, rfl⟩
      rw [← hrk] at e0 e1 e2 e3
      have HJO : Hid (∀ W, Grows wr W → Calls Tryd.prog 17 #[.agg #[.int .i64 c.x0, .int .i64 c.y0, .int .i64 c.x1, .int .i64 c.y1], .agg #[.int .i64 rk.x0, .int .i64 rk.y0, .int .i64 rk.x1, .int .i64 rk.y1]] W fun e w' => e = .returned (.agg #[.int .i64 (joinR c rk).x0, .int .i64 (joinR c rk).y0, .int .i64 (joinR c rk).x1, .int .i64 (joinR c rk).y1]) ∧ Grows W w') := fun W g => ref03_joinR c rk W
      obtain ⟨d, hd⟩ : ∃ z, z = joinR c rk := ⟨_, rfl⟩
      rw [← hd] at HJO
      have HD : Hid (joinsR r (k + 1) = d) := Lib.hid (by rw [hd, hrk, ← hc]; rfl)
      clear hd hrk hc
      go_wp2
      first | refine region_grow_tail2 6 (by kernel_rfl) (by kernel_rfl) ?_ | refine region_grow_tail 6 (by kernel_rfl) (by kernel_rfl) ?_
      simp only [List.take_succ_cons, List.take_zero, List.drop_succ_cons, List.drop_zero]
      repeat (go_big_quiet_step ((first | (go_at_call 17; exact grow_of (HJO.out _ (by repeat (first | exact Grows.refl _ | apply Grows.grow | apply Grows.alloc | apply Grows.drew)))))))
      refine wpQuiet_nil ?_
      rintro _ ⟨gd, rfl⟩
      go_wp2
      go_roundw
      case rel =>
        refine ⟨k + 1, d, by omega, by go_num, HD.out, ?_, ?_, ?_⟩
        · exact (GR.out.four (n := n7) (by omega) _ _ _ _).trans (by repeat (first | exact Grows.refl _ | apply Grows.grow | apply Grows.alloc | apply Grows.drew))
        · exact grownBy_grows (BY.out.trans (store4_grown wr n7 _ _ _ _)) (by repeat (first | exact Grows.refl _ | apply Grows.grow | apply Grows.alloc | apply Grows.drew))
        · exact (BC.out.set4 _ _ _ _).grows (by repeat (first | exact Grows.refl _ | apply Grows.grow | apply Grows.alloc | apply Grows.drew))
      case measure => simp [intOf]; omega
    · obtain rfl : len = k := by omega
      have d4 := B4.out.grown BY.out (fun e => by injection e with e; omega)
      obtain ⟨q0, q1, q2, q3, qf⟩ := d4.c4
      have lq := d4.lt
      have D4 := Lib.hid d4
      clear d4
      replace hc := Lib.hid hc
      go_wp2
      refine bodyPost_ret (results_cell_row rfl _ _ _ 27 #[.int .i64 c.x0, .int .i64 c.y0, .int .i64 c.x1, .int .i64 c.y1] (0, 0) _ rfl (D4.out.set4 _ _ _ _) Tryd.underlying27 rfl rect_info) rfl ⟨by rw [hc.out], GR.out.four (by omega) _ _ _ _⟩
set_option maxRecDepth 100000 in
set_option maxHeartbeats 25600000 in
theorem ref13_Reach_8 (ia : Option Addr) (il ic : Nat) (pa : Option Addr) (pl pc : Nat) (p : Nat → Int) (a : Option Addr) (len cap : Nat) (r : Nat → R) (w : World) (hp : Hid (IsInts w pa pl pc p)) (hlp : (pl : Int) = prmN 8) (hl : Hid (IsRects w a len cap r)) (hk : NodeOk 8 p len) (hr : ∀ i, i < len → rightR (r i) = true) :
    Calls Tryd.prog 22 #[.agg #[.int .i64 8, .slice ia il ic, .slice pa pl pc], .slice a len cap] w fun e w' => e = .returned (.agg #[.int .i64 (reachR 8 p len r).x0, .int .i64 (reachR 8 p len r).y0, .int .i64 (reachR 8 p len r).x1, .int .i64 (reachR 8 p len r).y1]) ∧ Grows w w' := by
  have m1 := hp.out.le
  have m2 := hp.out.most
  have m3 := hl.out.le
  have m4 := hl.out.most
  have hf := hk.few
  have EQ0 : reachR 8 p len r = joinsR r len := by simp [reachR]
  rw [EQ0]
  clear EQ0 hp hlp hr hk
  go_enter Tryd.func22, Tryd.ntmps22
  go_wp2
  refine wp_name ?_
  intro W0 hW0
  have B4 : Hid (Blk W0 (w.heap.size + 1) 27 #[.int .i64 0, .int .i64 0, .int .i64 0, .int .i64 0]) := by rw [hW0]; exact (by unfold Blk; repeat (first | exact blk_at _ _ _ (by first | omega | (simp; done) | (simp; omega)) | refine (blk_past _ _ _ (by first | omega | (simp; done) | (simp; omega))).trans ?_ | refine (heap_grow _ _ _ (by first | omega | (simp; done) | (simp; omega))).trans ?_ | refine (blk_drew _ _).trans ?_))
  have B7 : Hid (Blk W0 (w.heap.size + 1 + 1 + 1) 27 #[.int .i64 0, .int .i64 0, .int .i64 0, .int .i64 0]) := by rw [hW0]; exact (by unfold Blk; repeat (first | exact blk_at _ _ _ (by first | omega | (simp; done) | (simp; omega)) | refine (blk_past _ _ _ (by first | omega | (simp; done) | (simp; omega))).trans ?_ | refine (heap_grow _ _ _ (by first | omega | (simp; done) | (simp; omega))).trans ?_ | refine (blk_drew _ _).trans ?_))
  have G0 : Hid (Grows w W0) := by rw [hW0]; exact (by repeat (first | exact Grows.refl _ | apply Grows.grow | apply Grows.alloc | apply Grows.drew))
  have hn7 : w.heap.size + 1 < (w.heap.size + 1 + 1 + 1) := by first | omega | (simp; done) | (simp; omega)
  obtain ⟨n7, hn⟩ : ∃ z, z = (w.heap.size + 1 + 1 + 1) := ⟨_, rfl⟩
  rw [← hn] at B7 hn7 ⊢
  clear hW0 hn
  go_loopw [8] (fun i wr => ∃ (k : Nat) (c : R), k ≤ len ∧ i = .int .i64 k ∧ joinsR r k = c ∧ Grows w wr ∧ W0.grownBy wr (some n7) ∧ Blk wr n7 27 #[.int .i64 c.x0, .int .i64 c.y0, .int .i64 c.x1, .int .i64 c.y1]) (fun i _ => len - (intOf i).toNat)
  case atStart => exact ⟨0, zeroR, by omega, rfl, rfl, G0.out, World.grownBy.refl W0 _, B7.out⟩
  case round =>
    obtain ⟨k, c, hk1, rfl, hc, hgw0, hby, hbk⟩ := hrel
    have GR := Lib.hid hgw0
    have BY := Lib.hid hby
    have BC := Lib.hid hbk
    obtain ⟨c0, c1, c2, c3, cf⟩ := hbk.c4
    have lc := hbk.lt
    clear hgw0 hby hbk
    by_cases hlt : k < len
    · obtain ⟨b', off', rfl, hb', e0, e1, e2, e3⟩ := (hl.out.grows GR.out).at hlt
      obtain ⟨rk, hrk⟩ : ∃ z, z = r k := ⟨_, rfl⟩
      rw [← hrk] at e0 e1 e2 e3
      have HJO : Hid (∀ W, Grows wr W → Calls Tryd.prog 17 #[.agg #[.int .i64 c.x0, .int .i64 c.y0, .int .i64 c.x1, .int .i64 c.y1], .agg #[.int .i64 rk.x0, .int .i64 rk.y0, .int .i64 rk.x1, .int .i64 rk.y1]] W fun e w' => e = .returned (.agg #[.int .i64 (joinR c rk).x0, .int .i64 (joinR c rk).y0, .int .i64 (joinR c rk).x1, .int .i64 (joinR c rk).y1]) ∧ Grows W w') := fun W g => ref03_joinR c rk W
      obtain ⟨d, hd⟩ : ∃ z, z = joinR c rk := ⟨_, rfl⟩
      rw [← hd] at HJO
      have HD : Hid (joinsR r (k + 1) = d) := Lib.hid (by rw [hd, hrk, ← hc]; rfl)
      clear hd hrk hc
      go_wp2
      first | refine region_grow_tail2 6 (by kernel_rfl) (by kernel_rfl) ?_ | refine region_grow_tail 6 (by kernel_rfl) (by kernel_rfl) ?_
      simp only [List.take_succ_cons, List.take_zero, List.drop_succ_cons, List.drop_zero]
      repeat (go_big_quiet_step ((first | (go_at_call 17; exact grow_of (HJO.out _ (by repeat (first | exact Grows.refl _ | apply Grows.grow | apply Grows.alloc | apply Grows.drew)))))))
      refine wpQuiet_nil ?_
      rintro _ ⟨gd, rfl⟩
      go_wp2
      go_roundw
      case rel =>
        refine ⟨k + 1, d, by omega, by go_num, HD.out, ?_, ?_, ?_⟩
        · exact (GR.out.four (n := n7) (by omega) _ _ _ _).trans (by repeat (first | exact Grows.refl _ | apply Grows.grow | apply Grows.alloc | apply Grows.drew))
        · exact grownBy_grows (BY.out.trans (store4_grown wr n7 _ _ _ _)) (by repeat (first | exact Grows.refl _ | apply Grows.grow | apply Grows.alloc | apply Grows.drew))
        · exact (BC.out.set4 _ _ _ _).grows (by repeat (first | exact Grows.refl _ | apply Grows.grow | apply Grows.alloc | apply Grows.drew))
      case measure => simp [intOf]; omega
    · obtain rfl : len = k := by omega
      have d4 := B4.out.grown BY.out (fun e => by injection e with e; omega)
      obtain ⟨q0, q1, q2, q3, qf⟩ := d4.c4
      have lq := d4.lt
      have D4 := Lib.hid d4
      clear d4
      replace hc := Lib.hid hc
      go_wp2
      refine bodyPost_ret (results_cell_row rfl _ _ _ 27 #[.int .i64 c.x0, .int .i64 c.y0, .int .i64 c.x1, .int .i64 c.y1] (0, 0) _ rfl (D4.out.set4 _ _ _ _) Tryd.underlying27 rfl rect_info) rfl ⟨by rw [hc.out], GR.out.four (by omega) _ _ _ _⟩
set_option maxRecDepth 100000 in
set_option maxHeartbeats 25600000 in
theorem ref13_Reach_9 (ia : Option Addr) (il ic : Nat) (pa : Option Addr) (pl pc : Nat) (p : Nat → Int) (a : Option Addr) (len cap : Nat) (r : Nat → R) (w : World) (hp : Hid (IsInts w pa pl pc p)) (hlp : (pl : Int) = prmN 9) (hl : Hid (IsRects w a len cap r)) (hk : NodeOk 9 p len) (hr : ∀ i, i < len → rightR (r i) = true) :
    Calls Tryd.prog 22 #[.agg #[.int .i64 9, .slice ia il ic, .slice pa pl pc], .slice a len cap] w fun e w' => e = .returned (.agg #[.int .i64 (reachR 9 p len r).x0, .int .i64 (reachR 9 p len r).y0, .int .i64 (reachR 9 p len r).x1, .int .i64 (reachR 9 p len r).y1]) ∧ Grows w w' := by
  have m1 := hp.out.le
  have m2 := hp.out.most
  have m3 := hl.out.le
  have m4 := hl.out.most
  have hf := hk.few
  have EQ0 : reachR 9 p len r = joinsR r len := by simp [reachR]
  rw [EQ0]
  clear EQ0 hp hlp hr hk
  go_enter Tryd.func22, Tryd.ntmps22
  go_wp2
  refine wp_name ?_
  intro W0 hW0
  have B4 : Hid (Blk W0 (w.heap.size + 1) 27 #[.int .i64 0, .int .i64 0, .int .i64 0, .int .i64 0]) := by rw [hW0]; exact (by unfold Blk; repeat (first | exact blk_at _ _ _ (by first | omega | (simp; done) | (simp; omega)) | refine (blk_past _ _ _ (by first | omega | (simp; done) | (simp; omega))).trans ?_ | refine (heap_grow _ _ _ (by first | omega | (simp; done) | (simp; omega))).trans ?_ | refine (blk_drew _ _).trans ?_))
  have B7 : Hid (Blk W0 (w.heap.size + 1 + 1 + 1) 27 #[.int .i64 0, .int .i64 0, .int .i64 0, .int .i64 0]) := by rw [hW0]; exact (by unfold Blk; repeat (first | exact blk_at _ _ _ (by first | omega | (simp; done) | (simp; omega)) | refine (blk_past _ _ _ (by first | omega | (simp; done) | (simp; omega))).trans ?_ | refine (heap_grow _ _ _ (by first | omega | (simp; done) | (simp; omega))).trans ?_ | refine (blk_drew _ _).trans ?_))
  have G0 : Hid (Grows w W0) := by rw [hW0]; exact (by repeat (first | exact Grows.refl _ | apply Grows.grow | apply Grows.alloc | apply Grows.drew))
  have hn7 : w.heap.size + 1 < (w.heap.size + 1 + 1 + 1) := by first | omega | (simp; done) | (simp; omega)
  obtain ⟨n7, hn⟩ : ∃ z, z = (w.heap.size + 1 + 1 + 1) := ⟨_, rfl⟩
  rw [← hn] at B7 hn7 ⊢
  clear hW0 hn
  go_loopw [8] (fun i wr => ∃ (k : Nat) (c : R), k ≤ len ∧ i = .int .i64 k ∧ joinsR r k = c ∧ Grows w wr ∧ W0.grownBy wr (some n7) ∧ Blk wr n7 27 #[.int .i64 c.x0, .int .i64 c.y0, .int .i64 c.x1, .int .i64 c.y1]) (fun i _ => len - (intOf i).toNat)
  case atStart => exact ⟨0, zeroR, by omega, rfl, rfl, G0.out, World.grownBy.refl W0 _, B7.out⟩
  case round =>
    obtain ⟨k, c, hk1, rfl, hc, hgw0, hby, hbk⟩ := hrel
    have GR := Lib.hid hgw0
    have BY := Lib.hid hby
    have BC := Lib.hid hbk
    obtain ⟨c0, c1, c2, c3, cf⟩ := hbk.c4
    have lc := hbk.lt
    clear hgw0 hby hbk
    by_cases hlt : k < len
    · obtain ⟨b', off', rfl, hb', e0, e1, e2, e3⟩ := (hl.out.grows GR.out).at hlt
      obtain ⟨rk, hrk⟩ : ∃ z, z = r k := ⟨_, rfl⟩
      rw [← hrk] at e0 e1 e2 e3
      have HJO : Hid (∀ W, Grows wr W → Calls Tryd.prog 17 #[.agg #[.int .i64 c.x0, .int .i64 c.y0, .int .i64 c.x1, .int .i64 c.y1], .agg #[.int .i64 rk.x0, .int .i64 rk.y0, .int .i64 rk.x1, .int .i64 rk.y1]] W fun e w' => e = .returned (.agg #[.int .i64 (joinR c rk).x0, .int .i64 (joinR c rk).y0, .int .i64 (joinR c rk).x1, .int .i64 (joinR c rk).y1]) ∧ Grows W w') := fun W g => ref03_joinR c rk W
      obtain ⟨d, hd⟩ : ∃ z, z = joinR c rk := ⟨_, rfl⟩
      rw [← hd] at HJO
      have HD : Hid (joinsR r (k + 1) = d) := Lib.hid (by rw [hd, hrk, ← hc]; rfl)
      clear hd hrk hc
      go_wp2
      first | refine region_grow_tail2 6 (by kernel_rfl) (by kernel_rfl) ?_ | refine region_grow_tail 6 (by kernel_rfl) (by kernel_rfl) ?_
      simp only [List.take_succ_cons, List.take_zero, List.drop_succ_cons, List.drop_zero]
      repeat (go_big_quiet_step ((first | (go_at_call 17; exact grow_of (HJO.out _ (by repeat (first | exact Grows.refl _ | apply Grows.grow | apply Grows.alloc | apply Grows.drew)))))))
      refine wpQuiet_nil ?_
      rintro _ ⟨gd, rfl⟩
      go_wp2
      go_roundw
      case rel =>
        refine ⟨k + 1, d, by omega, by go_num, HD.out, ?_, ?_, ?_⟩
        · exact (GR.out.four (n := n7) (by omega) _ _ _ _).trans (by repeat (first | exact Grows.refl _ | apply Grows.grow | apply Grows.alloc | apply Grows.drew))
        · exact grownBy_grows (BY.out.trans (store4_grown wr n7 _ _ _ _)) (by repeat (first | exact Grows.refl _ | apply Grows.grow | apply Grows.alloc | apply Grows.drew))
        · exact (BC.out.set4 _ _ _ _).grows (by repeat (first | exact Grows.refl _ | apply Grows.grow | apply Grows.alloc | apply Grows.drew))
      case measure => simp [intOf]; omega
    · obtain rfl : len = k := by omega
      have d4 := B4.out.grown BY.out (fun e => by injection e with e; omega)
      obtain ⟨q0, q1, q2, q3, qf⟩ := d4.c4
      have lq := d4.lt
      have D4 := Lib.hid d4
      clear d4
      replace hc := Lib.hid hc
      go_wp2
      refine bodyPost_ret (results_cell_row rfl _ _ _ 27 #[.int .i64 c.x0, .int .i64 c.y0, .int .i64 c.x1, .int .i64 c.y1] (0, 0) _ rfl (D4.out.set4 _ _ _ _) Tryd.underlying27 rfl rect_info) rfl ⟨by rw [hc.out], GR.out.four (by omega) _ _ _ _⟩
set_option maxRecDepth 100000 in
set_option maxHeartbeats 25600000 in
theorem ref13_Reach_5 (ia : Option Addr) (il ic : Nat) (pa : Option Addr) (pl pc : Nat) (p : Nat → Int) (a : Option Addr) (len cap : Nat) (r : Nat → R) (w : World) (hp : Hid (IsInts w pa pl pc p)) (hlp : (pl : Int) = prmN 5) (hl : Hid (IsRects w a len cap r)) (hk : NodeOk 5 p len) (hr : ∀ i, i < len → rightR (r i) = true) :
    Calls Tryd.prog 22 #[.agg #[.int .i64 5, .slice ia il ic, .slice pa pl pc], .slice a len cap] w fun e w' => e = .returned (.agg #[.int .i64 (reachR 5 p len r).x0, .int .i64 (reachR 5 p len r).y0, .int .i64 (reachR 5 p len r).x1, .int .i64 (reachR 5 p len r).y1]) ∧ Grows w w' := by
  have m1 := hp.out.le
  have m2 := hp.out.most
  have m3 := hl.out.le
  have m4 := hl.out.most
  have hf := hk.few
  obtain rfl : pl = 20 := by have : prmN 5 = 20 := (by decide); omega
  obtain ⟨bp, offp, rfl, hbp, f0⟩ := hp.out.at (k := 0) (by omega)
  have HTP : Hid (∀ W, Grows w W → Calls Tryd.prog 52 #[.slice (some ⟨bp, offp, none⟩) 20 pc, .agg #[.int .u8 0, .int .u8 0, .int .u8 0, .int .u8 0]] W fun e w' => e = .returned (.agg #[.int .u8 (tintP p noP).r, .int .u8 (tintP p noP).g, .int .u8 (tintP p noP).b, .int .u8 (tintP p noP).a]) ∧ Grows W w') := fun W g => ref07_pixel p bp offp pc 0 0 0 0 W (mat_of (hp.out.grows g) (hk.mat rfl)) (by omega) (by omega) (by omega) (by omega)
  cases c : eqP (tintP p noP) noP
  case false =>
    have e0 : reachR 5 p len r = allR := by simp [reachR, c]
    rw [e0]
    obtain ⟨q, hq⟩ : ∃ z, z = tintP p noP := ⟨_, rfl⟩
    rw [← hq] at HTP c
    have hc : (q.r == 0 && (q.g == 0 && (q.b == 0 && q.a == 0))) = false := c
    have HAL : Hid (∀ W, Grows w W → Calls Tryd.prog 51 #[] W fun e w' => e = .returned (.agg #[.int .i64 allR.x0, .int .i64 allR.y0, .int .i64 allR.x1, .int .i64 allR.y1]) ∧ Grows W w') := fun W g => ref13_all W
    clear e0 hq c hk hr hp hl hlp f0
    go_enter Tryd.func22, Tryd.ntmps22
    go_wp2_with ((first | (go_at_call 52; (with_reducible refine (HTP.out _ (by repeat (first | exact Grows.refl _ | apply Grows.grow | apply Grows.alloc | apply Grows.drew))).mono ?_); rintro e w' ⟨rfl, hgw⟩; first | (obtain ⟨gw, rfl⟩ := grows_of_grow hgw) | (obtain ⟨gw, rfl⟩ := hgw)) | (go_at_call 51; (with_reducible refine (HAL.out _ (by repeat (first | exact Grows.refl _ | apply Grows.grow | apply Grows.alloc | apply Grows.drew))).mono ?_); rintro e w' ⟨rfl, hgw⟩; first | (obtain ⟨gw, rfl⟩ := grows_of_grow hgw) | (obtain ⟨gw, rfl⟩ := hgw))))
    refine bodyPost_ret (results_cell_row rfl _ _ _ 27 #[.int .i64 allR.x0, .int .i64 allR.y0, .int .i64 allR.x1, .int .i64 allR.y1] (0, 0) _ rfl ?_ Tryd.underlying27 rfl rect_info) rfl ⟨rfl, (by repeat (first | exact Grows.refl _ | apply Grows.grow | apply Grows.alloc | apply Grows.drew))⟩
    exact (by repeat (first | exact blk_at _ _ _ (by first | omega | (simp; done) | (simp; omega)) | refine (blk_past _ _ _ (by first | omega | (simp; done) | (simp; omega))).trans ?_ | refine (heap_grow _ _ _ (by first | omega | (simp; done) | (simp; omega))).trans ?_ | refine (blk_drew _ _).trans ?_))
  case true =>
    have EQ0 : reachR 5 p len r = joinsR r len := by simp [reachR, c]
    rw [EQ0]
    rw [(eqP_iff _ _).1 c] at HTP
    clear EQ0 c hk hr hp hlp f0
    go_enter Tryd.func22, Tryd.ntmps22
    go_wp2_with ((first | (go_at_call 52; (with_reducible refine (HTP.out _ (by repeat (first | exact Grows.refl _ | apply Grows.grow | apply Grows.alloc | apply Grows.drew))).mono ?_); rintro e w' ⟨rfl, hgw⟩; first | (obtain ⟨gw, rfl⟩ := grows_of_grow hgw) | (obtain ⟨gw, rfl⟩ := hgw))))
    refine wp_name ?_
    intro W0 hW0
    have B4 : Hid (Blk W0 (w.heap.size + 1) 27 #[.int .i64 0, .int .i64 0, .int .i64 0, .int .i64 0]) := by rw [hW0]; exact (by unfold Blk; repeat (first | exact blk_at _ _ _ (by first | omega | (simp; done) | (simp; omega)) | refine (blk_past _ _ _ (by first | omega | (simp; done) | (simp; omega))).trans ?_ | refine (heap_grow _ _ _ (by first | omega | (simp; done) | (simp; omega))).trans ?_ | refine (blk_drew _ _).trans ?_))
    have B7 : Hid (Blk W0 (w.heap.size + 1 + 1 + 1 + gw.news.size) 27 #[.int .i64 0, .int .i64 0, .int .i64 0, .int .i64 0]) := by rw [hW0]; exact (by unfold Blk; repeat (first | exact blk_at _ _ _ (by first | omega | (simp; done) | (simp; omega)) | refine (blk_past _ _ _ (by first | omega | (simp; done) | (simp; omega))).trans ?_ | refine (heap_grow _ _ _ (by first | omega | (simp; done) | (simp; omega))).trans ?_ | refine (blk_drew _ _).trans ?_))
    have G0 : Hid (Grows w W0) := by rw [hW0]; exact (by repeat (first | exact Grows.refl _ | apply Grows.grow | apply Grows.alloc | apply Grows.drew))
    have hn7 : w.heap.size + 1 < (w.heap.size + 1 + 1 + 1 + gw.news.size) := by first | omega | (simp; done) | (simp; omega)
    obtain ⟨n7, hn⟩ : ∃ z, z = (w.heap.size + 1 + 1 + 1 + gw.news.size) := ⟨_, rfl⟩
    rw [← hn] at B7 hn7 ⊢
    clear hW0 hn
    go_loopw [8] (fun i wr => ∃ (k : Nat) (c : R), k ≤ len ∧ i = .int .i64 k ∧ joinsR r k = c ∧ Grows w wr ∧ W0.grownBy wr (some n7) ∧ Blk wr n7 27 #[.int .i64 c.x0, .int .i64 c.y0, .int .i64 c.x1, .int .i64 c.y1]) (fun i _ => len - (intOf i).toNat)
    case atStart => exact ⟨0, zeroR, by omega, rfl, rfl, G0.out, World.grownBy.refl W0 _, B7.out⟩
    case round =>
      obtain ⟨k, c, hk1, rfl, hc, hgw0, hby, hbk⟩ := hrel
      have GR := Lib.hid hgw0
      have BY := Lib.hid hby
      have BC := Lib.hid hbk
      obtain ⟨c0, c1, c2, c3, cf⟩ := hbk.c4
      have lc := hbk.lt
      clear hgw0 hby hbk
      by_cases hlt : k < len
      · obtain ⟨b', off', rfl, hb', e0, e1, e2, e3⟩ := (hl.out.grows GR.out).at hlt
        obtain ⟨rk, hrk⟩ : ∃ z, z = r k := ⟨_, rfl⟩
        rw [← hrk] at e0 e1 e2 e3
        have HJO : Hid (∀ W, Grows wr W → Calls Tryd.prog 17 #[.agg #[.int .i64 c.x0, .int .i64 c.y0, .int .i64 c.x1, .int .i64 c.y1], .agg #[.int .i64 rk.x0, .int .i64 rk.y0, .int .i64 rk.x1, .int .i64 rk.y1]] W fun e w' => e = .returned (.agg #[.int .i64 (joinR c rk).x0, .int .i64 (joinR c rk).y0, .int .i64 (joinR c rk).x1, .int .i64 (joinR c rk).y1]) ∧ Grows W w') := fun W g => ref03_joinR c rk W
        obtain ⟨d, hd⟩ : ∃ z, z = joinR c rk := ⟨_, rfl⟩
        rw [← hd] at HJO
        have HD : Hid (joinsR r (k + 1) = d) := Lib.hid (by rw [hd, hrk, ← hc]; rfl)
        clear hd hrk hc
        go_wp2
        first | refine region_grow_tail2 6 (by kernel_rfl) (by kernel_rfl) ?_ | refine region_grow_tail 6 (by kernel_rfl) (by kernel_rfl) ?_
        simp only [List.take_succ_cons, List.take_zero, List.drop_succ_cons, List.drop_zero]
        repeat (go_big_quiet_step ((first | (go_at_call 17; exact grow_of (HJO.out _ (by repeat (first | exact Grows.refl _ | apply Grows.grow | apply Grows.alloc | apply Grows.drew)))))))
        refine wpQuiet_nil ?_
        rintro _ ⟨gd, rfl⟩
        go_wp2
        go_roundw
        case rel =>
          refine ⟨k + 1, d, by omega, by go_num, HD.out, ?_, ?_, ?_⟩
          · exact (GR.out.four (n := n7) (by omega) _ _ _ _).trans (by repeat (first | exact Grows.refl _ | apply Grows.grow | apply Grows.alloc | apply Grows.drew))
          · exact grownBy_grows (BY.out.trans (store4_grown wr n7 _ _ _ _)) (by repeat (first | exact Grows.refl _ | apply Grows.grow | apply Grows.alloc | apply Grows.drew))
          · exact (BC.out.set4 _ _ _ _).grows (by repeat (first | exact Grows.refl _ | apply Grows.grow | apply Grows.alloc | apply Grows.drew))
        case measure => simp [intOf]; omega
      · obtain rfl : len = k := by omega
        have d4 := B4.out.grown BY.out (fun e => by injection e with e; omega)
        obtain ⟨q0, q1, q2, q3, qf⟩ := d4.c4
        have lq := d4.lt
        have D4 := Lib.hid d4
        clear d4
        replace hc := Lib.hid hc
        go_wp2
        refine bodyPost_ret (results_cell_row rfl _ _ _ 27 #[.int .i64 c.x0, .int .i64 c.y0, .int .i64 c.x1, .int .i64 c.y1] (0, 0) _ rfl (D4.out.set4 _ _ _ _) Tryd.underlying27 rfl rect_info) rfl ⟨by rw [hc.out], GR.out.four (by omega) _ _ _ _⟩
end Go.Proofs.YtklcmlbkhjcaiaaDoor
