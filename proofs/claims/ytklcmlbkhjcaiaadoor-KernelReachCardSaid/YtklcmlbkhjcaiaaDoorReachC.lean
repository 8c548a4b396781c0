/- The walk of the reference's Reach (layer 13): clipped, tiled, with a shadow. -/
import Derived.Test.YtklcmlbkhjcaiaaDoorNeedA


namespace Go.Proofs.YtklcmlbkhjcaiaaDoor
open Go.RowKit
set_option linter.unusedVariables false

set_option maxRecDepth 100000 in
set_option maxHeartbeats 25600000 in
theorem ref13_Reach_12 (ia : Option Addr) (il ic : Nat) (pa : Option Addr) (pl pc : Nat) (p : Nat → Int) (a : Option Addr) (len cap : Nat) (r : Nat → R) (w : World) (hp : Hid (IsInts w pa pl pc p)) (hlp : (pl : Int) = prmN 12) (hl : Hid (IsRects w a len cap r)) (hk : NodeOk 12 p len) (hr : ∀ i, i < len → rightR (r i) = true) :
    Calls Tryd.prog 22 #[.agg #[.int .i64 12, .slice ia il ic, .slice pa pl pc], .slice a len cap] w fun e w' => e = .returned (.agg #[.int .i64 (reachR 12 p len r).x0, .int .i64 (reachR 12 p len r).y0, .int .i64 (reachR 12 p len r).x1, .int .i64 (reachR 12 p len r).y1]) ∧ Grows w w' := by
  have m1 := hp.out.le
  have m2 := hp.out.most
  have m3 := hl.out.le
  have m4 := hl.out.most
  have hf := hk.few
  obtain rfl : pl = 4 := by have : prmN 12 = 4 := (by decide); omega
  have n1 := hk.one (by omega)
  obtain ⟨br, offr, rfl, hbr, r0, r1, r2, r3⟩ := hl.out.at (k := 0) (by omega)
  simp only [Nat.zero_mul, Nat.add_zero] at r0 r1 r2 r3
  have hrr := hr 0 (by omega)
  obtain ⟨x, hx⟩ : ∃ z, z = r 0 := ⟨_, rfl⟩
  rw [← hx] at r0 r1 r2 r3 hrr
  obtain ⟨y, hy⟩ : ∃ z, z = boxO p 0 := ⟨_, rfl⟩
  have HBX : Hid (∀ W, Grows w W → Calls Tryd.prog 32 #[.slice pa 4 pc, .int .i64 0] W fun e w' => e = .returned (.agg #[.int .i64 y.x0, .int .i64 y.y0, .int .i64 y.x1, .int .i64 y.y1]) ∧ Grows W w') := fun W g => ref13_Box pa 4 pc p 0 0 y W (Lib.hid (hp.out.grows g)) rfl (by omega) (by omega) (Lib.hid hy.symm)
  have HMT : Hid (∀ W, Grows w W → Calls Tryd.prog 31 #[.agg #[.int .i64 x.x0, .int .i64 x.y0, .int .i64 x.x1, .int .i64 x.y1], .agg #[.int .i64 y.x0, .int .i64 y.y0, .int .i64 y.x1, .int .i64 y.y1]] W fun e w' => e = .returned (.agg #[.int .i64 (meetR x y).x0, .int .i64 (meetR x y).y0, .int .i64 (meetR x y).x1, .int .i64 (meetR x y).y1]) ∧ Grows W w') := fun W g => ref03_meetR x y W
  have e0 : reachR 12 p len r = meetR x y := by rw [hx, hy]; simp [reachR]
  obtain ⟨b, hb⟩ : ∃ qq, qq = meetR x y := ⟨_, rfl⟩
  rw [← hb] at HMT e0
  rw [e0]
  clear hb e0 hx hy hk hr hp hl hlp
  go_enter Tryd.func22, Tryd.ntmps22
  go_wp2
  first | refine region_grow_tail2 6 (by kernel_rfl) (by kernel_rfl) ?_ | refine region_grow_tail 6 (by kernel_rfl) (by kernel_rfl) ?_
  simp only [List.take_succ_cons, List.take_zero, List.drop_succ_cons, List.drop_zero]
  repeat (go_big_quiet_step ((first | (go_at_call 32; exact grow_of (HBX.out _ (by repeat (first | exact Grows.refl _ | apply Grows.grow | apply Grows.alloc | apply Grows.drew)))) | (go_at_call 31; exact grow_of (HMT.out _ (by repeat (first | exact Grows.refl _ | apply Grows.grow | apply Grows.alloc | apply Grows.drew)))))))
  refine wpQuiet_nil ?_
  rintro _ ⟨gd, rfl⟩
  go_wp2
  refine bodyPost_ret (results_cell_row rfl _ _ _ 27 #[.int .i64 b.x0, .int .i64 b.y0, .int .i64 b.x1, .int .i64 b.y1] (0, 0) _ rfl ?_ Tryd.underlying27 rfl rect_info) rfl ⟨rfl, (by repeat (first | exact Grows.refl _ | apply Grows.grow | apply Grows.alloc | apply Grows.drew))⟩
  exact (by repeat (first | exact blk_at _ _ _ (by first | omega | (simp; done) | (simp; omega)) | refine (blk_past _ _ _ (by first | omega | (simp; done) | (simp; omega))).trans ?_ | refine (heap_grow _ _ _ (by first | omega | (simp; done) | (simp; omega))).trans ?_ | refine (blk_drew _ _).trans ?_))
set_option maxRecDepth 100000 in
set_option maxHeartbeats 25600000 in
theorem ref13_Reach_10 (ia : Option Addr) (il ic : Nat) (pa : Option Addr) (pl pc : Nat) (p : Nat → Int) (a : Option Addr) (len cap : Nat) (r : Nat → R) (w : World) (hp : Hid (IsInts w pa pl pc p)) (hlp : (pl : Int) = prmN 10) (hl : Hid (IsRects w a len cap r)) (hk : NodeOk 10 p len) (hr : ∀ i, i < len → rightR (r i) = true) :
    Calls Tryd.prog 22 #[.agg #[.int .i64 10, .slice ia il ic, .slice pa pl pc], .slice a len cap] w fun e w' => e = .returned (.agg #[.int .i64 (reachR 10 p len r).x0, .int .i64 (reachR 10 p len r).y0, .int .i64 (reachR 10 p len r).x1, .int .i64 (reachR 10 p len r).y1]) ∧ Grows w w' := by
  have m1 := hp.out.le
  have m2 := hp.out.most
  have m3 := hl.out.le
  have m4 := hl.out.most
  have hf := hk.few
  obtain rfl : pl = 4 := by have : prmN 10 = 4 := (by decide); omega
  have n1 := hk.one (by omega)
  obtain ⟨br, offr, rfl, hbr, r0, r1, r2, r3⟩ := hl.out.at (k := 0) (by omega)
  simp only [Nat.zero_mul, Nat.add_zero] at r0 r1 r2 r3
  have hrr := hr 0 (by omega)
  obtain ⟨x, hx⟩ : ∃ z, z = r 0 := ⟨_, rfl⟩
  rw [← hx] at r0 r1 r2 r3 hrr
  obtain ⟨y, hy⟩ : ∃ z, z = boxO p 0 := ⟨_, rfl⟩
  have HBX : Hid (∀ W, Grows w W → Calls Tryd.prog 32 #[.slice pa 4 pc, .int .i64 0] W fun e w' => e = .returned (.agg #[.int .i64 y.x0, .int .i64 y.y0, .int .i64 y.x1, .int .i64 y.y1]) ∧ Grows W w') := fun W g => ref13_Box pa 4 pc p 0 0 y W (Lib.hid (hp.out.grows g)) rfl (by omega) (by omega) (Lib.hid hy.symm)
  have HMT : Hid (∀ W, Grows w W → Calls Tryd.prog 31 #[.agg #[.int .i64 x.x0, .int .i64 x.y0, .int .i64 x.x1, .int .i64 x.y1], .agg #[.int .i64 y.x0, .int .i64 y.y0, .int .i64 y.x1, .int .i64 y.y1]] W fun e w' => e = .returned (.agg #[.int .i64 (meetR x y).x0, .int .i64 (meetR x y).y0, .int .i64 (meetR x y).x1, .int .i64 (meetR x y).y1]) ∧ Grows W w') := fun W g => ref03_meetR x y W
  obtain ⟨z, hz⟩ : ∃ q, q = meetR x y := ⟨_, rfl⟩
  rw [← hz] at HMT
  cases c : emptyR z
  case true =>
    have e0 : reachR 10 p len r = ⟨0, 0, 0, 0⟩ := by rw [hz, hx, hy] at c; simp [reachR, c, zeroR]
    rw [e0]
    have HEM : Hid (∀ W, Grows w W → Calls Tryd.prog 28 #[.agg #[.int .i64 z.x0, .int .i64 z.y0, .int .i64 z.x1, .int .i64 z.y1]] W fun e w' => e = .returned (.bool true) ∧ Grows W w') := fun W g => by have := ref03_emptyR z W; rw [c] at this; exact this
    clear e0 c hz hx hy hk hr hp hl hlp
    go_enter Tryd.func22, Tryd.ntmps22
    go_wp2
    first | refine region_grow2 (by kernel_rfl) (by kernel_rfl) ?_ | refine region_grow (by kernel_rfl) (by kernel_rfl) ?_
    repeat (go_big_quiet_step ((first | (go_at_call 32; exact grow_of (HBX.out _ (by repeat (first | exact Grows.refl _ | apply Grows.grow | apply Grows.alloc | apply Grows.drew)))) | (go_at_call 31; exact grow_of (HMT.out _ (by repeat (first | exact Grows.refl _ | apply Grows.grow | apply Grows.alloc | apply Grows.drew)))) | (go_at_call 28; exact grow_of (HEM.out _ (by repeat (first | exact Grows.refl _ | apply Grows.grow | apply Grows.alloc | apply Grows.drew)))))))
    refine wpQuiet_nil ?_
    rintro _ ⟨gd, rfl⟩
    go_wp2
    refine bodyPost_ret (results_cell_row rfl _ _ _ 27 #[.int .i64 0, .int .i64 0, .int .i64 0, .int .i64 0] (0, 0) _ rfl ?_ Tryd.underlying27 rfl rect_info) rfl ⟨rfl, (by repeat (first | exact Grows.refl _ | apply Grows.grow | apply Grows.alloc | apply Grows.drew))⟩
    exact (by repeat (first | exact blk_at _ _ _ (by first | omega | (simp; done) | (simp; omega)) | refine (blk_past _ _ _ (by first | omega | (simp; done) | (simp; omega))).trans ?_ | refine (heap_grow _ _ _ (by first | omega | (simp; done) | (simp; omega))).trans ?_ | refine (blk_drew _ _).trans ?_))
  case false =>
    have e0 : reachR 10 p len r = allR := by rw [hz, hx, hy] at c; simp [reachR, c]
    rw [e0]
    have HEM : Hid (∀ W, Grows w W → Calls Tryd.prog 28 #[.agg #[.int .i64 z.x0, .int .i64 z.y0, .int .i64 z.x1, .int .i64 z.y1]] W fun e w' => e = .returned (.bool false) ∧ Grows W w') := fun W g => by have := ref03_emptyR z W; rw [c] at this; exact this
    have HAL : Hid (∀ W, Grows w W → Calls Tryd.prog 51 #[] W fun e w' => e = .returned (.agg #[.int .i64 allR.x0, .int .i64 allR.y0, .int .i64 allR.x1, .int .i64 allR.y1]) ∧ Grows W w') := fun W g => ref13_all W
    clear e0 c hz hx hy hk hr hp hl hlp
    go_enter Tryd.func22, Tryd.ntmps22
    go_wp2
    first | refine region_grow2 (by kernel_rfl) (by kernel_rfl) ?_ | refine region_grow (by kernel_rfl) (by kernel_rfl) ?_
    repeat (go_big_quiet_step ((first | (go_at_call 32; exact grow_of (HBX.out _ (by repeat (first | exact Grows.refl _ | apply Grows.grow | apply Grows.alloc | apply Grows.drew)))) | (go_at_call 31; exact grow_of (HMT.out _ (by repeat (first | exact Grows.refl _ | apply Grows.grow | apply Grows.alloc | apply Grows.drew)))) | (go_at_call 28; exact grow_of (HEM.out _ (by repeat (first | exact Grows.refl _ | apply Grows.grow | apply Grows.alloc | apply Grows.drew)))))))
    refine wpQuiet_nil ?_
    rintro _ ⟨gd, rfl⟩
    go_wp2_with ((first | (go_at_call 51; (with_reducible refine (HAL.out _ (by repeat (first | exact Grows.refl _ | apply Grows.grow | apply Grows.alloc | apply Grows.drew))).mono ?_); rintro e w' ⟨rfl, hgw⟩; first | (obtain ⟨gw, rfl⟩ := grows_of_grow hgw) | (obtain ⟨gw, rfl⟩ := hgw))))
    refine bodyPost_ret (results_cell_row rfl _ _ _ 27 #[.int .i64 allR.x0, .int .i64 allR.y0, .int .i64 allR.x1, .int .i64 allR.y1] (0, 0) _ rfl ?_ Tryd.underlying27 rfl rect_info) rfl ⟨rfl, (by repeat (first | exact Grows.refl _ | apply Grows.grow | apply Grows.alloc | apply Grows.drew))⟩
    exact (by repeat (first | exact blk_at _ _ _ (by first | omega | (simp; done) | (simp; omega)) | refine (blk_past _ _ _ (by first | omega | (simp; done) | (simp; omega))).trans ?_ | refine (heap_grow _ _ _ (by first | omega | (simp; done) | (simp; omega))).trans ?_ | refine (blk_drew _ _).trans ?_))
set_option maxRecDepth 100000 in
set_option maxHeartbeats 25600000 in
theorem ref13_Reach_11 (ia : Option Addr) (il ic : Nat) (pa : Option Addr) (pl pc : Nat) (p : Nat → Int) (a : Option Addr) (len cap : Nat) (r : Nat → R) (w : World) (hp : Hid (IsInts w pa pl pc p)) (hlp : (pl : Int) = prmN 11) (hl : Hid (IsRects w a len cap r)) (hk : NodeOk 11 p len) (hr : ∀ i, i < len → rightR (r i) = true) :
    Calls Tryd.prog 22 #[.agg #[.int .i64 11, .slice ia il ic, .slice pa pl pc], .slice a len cap] w fun e w' => e = .returned (.agg #[.int .i64 (reachR 11 p len r).x0, .int .i64 (reachR 11 p len r).y0, .int .i64 (reachR 11 p len r).x1, .int .i64 (reachR 11 p len r).y1]) ∧ Grows w w' := by
  have m1 := hp.out.le
  have m2 := hp.out.most
  have m3 := hl.out.le
  have m4 := hl.out.most
  have hf := hk.few
  obtain rfl : pl = 8 := by have : prmN 11 = 8 := (by decide); omega
  obtain ⟨bp, offp, rfl, hbp, f0⟩ := hp.out.at (k := 0) (by omega)
  obtain ⟨b2, off2, e, -, f1⟩ := hp.out.at (k := 1) (by omega)
  cases e
  obtain ⟨b2, off2, e, -, f2⟩ := hp.out.at (k := 2) (by omega)
  cases e
  obtain ⟨b2, off2, e, -, f3⟩ := hp.out.at (k := 3) (by omega)
  cases e
  simp only [Nat.add_zero] at f0
  have n1 := hk.one (by omega)
  have ho := hk.off11 rfl
  obtain ⟨br, offr, rfl, hbr, r0, r1, r2, r3⟩ := hl.out.at (k := 0) (by omega)
  simp only [Nat.zero_mul, Nat.add_zero] at r0 r1 r2 r3
  have hrr := hr 0 (by omega)
  obtain ⟨x, hx⟩ : ∃ z, z = r 0 := ⟨_, rfl⟩
  rw [← hx] at r0 r1 r2 r3 hrr
  have e0 : reachR 11 p len r = joinR x (growR (moveR x (p 0) (p 1)) (p 2) (p 3) (p 2) (p 3)) := by rw [hx]; simp [reachR]
  obtain ⟨v0, hv0⟩ : ∃ z, z = p 0 := ⟨_, rfl⟩
  obtain ⟨v1, hv1⟩ : ∃ z, z = p 1 := ⟨_, rfl⟩
  obtain ⟨v2, hv2⟩ : ∃ z, z = p 2 := ⟨_, rfl⟩
  obtain ⟨v3, hv3⟩ : ∃ z, z = p 3 := ⟨_, rfl⟩
  rw [← hv0, ← hv1, ← hv2, ← hv3] at e0 ho
  rw [← hv0] at f0
  rw [← hv1] at f1
  rw [← hv2] at f2
  rw [← hv3] at f3
  have mr : rightR (moveR x v0 v1) = true := moveR_right hrr
  have HMV : Hid (∀ W, Grows w W → Calls Tryd.prog 29 #[.agg #[.int .i64 x.x0, .int .i64 x.y0, .int .i64 x.x1, .int .i64 x.y1], .int .i64 v0, .int .i64 v1] W fun e w' => e = .returned (.agg #[.int .i64 (moveR x v0 v1).x0, .int .i64 (moveR x v0 v1).y0, .int .i64 (moveR x v0 v1).x1, .int .i64 (moveR x v0 v1).y1]) ∧ Grows W w') := fun W g => ref03_moveR x v0 v1 W hrr (by omega) (by omega)
  obtain ⟨y, hy⟩ : ∃ z, z = moveR x v0 v1 := ⟨_, rfl⟩
  rw [← hy] at HMV mr e0
  have HGW : Hid (∀ W, Grows w W → Calls Tryd.prog 30 #[.agg #[.int .i64 y.x0, .int .i64 y.y0, .int .i64 y.x1, .int .i64 y.y1], .int .i64 v2, .int .i64 v3, .int .i64 v2, .int .i64 v3] W fun e w' => e = .returned (.agg #[.int .i64 (growR y v2 v3 v2 v3).x0, .int .i64 (growR y v2 v3 v2 v3).y0, .int .i64 (growR y v2 v3 v2 v3).x1, .int .i64 (growR y v2 v3 v2 v3).y1]) ∧ Grows W w') := fun W g => ref03_growR y v2 v3 v2 v3 W mr (by omega) (by omega) (by omega) (by omega)
  obtain ⟨z, hz⟩ : ∃ q, q = growR y v2 v3 v2 v3 := ⟨_, rfl⟩
  rw [← hz] at HGW e0
  have HJN : Hid (∀ W, Grows w W → Calls Tryd.prog 17 #[.agg #[.int .i64 x.x0, .int .i64 x.y0, .int .i64 x.x1, .int .i64 x.y1], .agg #[.int .i64 z.x0, .int .i64 z.y0, .int .i64 z.x1, .int .i64 z.y1]] W fun e w' => e = .returned (.agg #[.int .i64 (joinR x z).x0, .int .i64 (joinR x z).y0, .int .i64 (joinR x z).x1, .int .i64 (joinR x z).y1]) ∧ Grows W w') := fun W g => ref03_joinR x z W
  obtain ⟨b, hb⟩ : ∃ qq, qq = joinR x z := ⟨_, rfl⟩
  rw [← hb] at HJN e0
  rw [e0]
  clear hb e0 hx hy hz mr hv0 hv1 hv2 hv3 hk hr hp hl hlp
  go_enter Tryd.func22, Tryd.ntmps22
  go_wp2
  first | refine region_grow_tail2 27 (by kernel_rfl) (by kernel_rfl) ?_ | refine region_grow_tail 27 (by kernel_rfl) (by kernel_rfl) ?_
  simp only [List.take_succ_cons, List.take_zero, List.drop_succ_cons, List.drop_zero]
  repeat (go_big_quiet_step ((first | (go_at_call 29; exact grow_of (HMV.out _ (by repeat (first | exact Grows.refl _ | apply Grows.grow | apply Grows.alloc | apply Grows.drew)))) | (go_at_call 30; exact grow_of (HGW.out _ (by repeat (first | exact Grows.refl _ | apply Grows.grow | apply Grows.alloc | apply Grows.drew)))) | (go_at_call 17; exact grow_of (HJN.out _ (by repeat (first | exact Grows.refl _ | apply Grows.grow | apply Grows.alloc | apply Grows.drew)))))))
  refine wpQuiet_nil ?_
  rintro _ ⟨gd, rfl⟩
  go_wp2
  refine bodyPost_ret (results_cell_row rfl _ _ _ 27 #[.int .i64 b.x0, .int .i64 b.y0, .int .i64 b.x1, .int .i64 b.y1] (0, 0) _ rfl ?_ Tryd.underlying27 rfl rect_info) rfl ⟨rfl, (by repeat (first | exact Grows.refl _ | apply Grows.grow | apply Grows.alloc | apply Grows.drew))⟩
  exact (by repeat (first | exact blk_at _ _ _ (by first | omega | (simp; done) | (simp; omega)) | refine (blk_past _ _ _ (by first | omega | (simp; done) | (simp; omega))).trans ?_ | refine (heap_grow _ _ _ (by first | omega | (simp; done) | (simp; omega))).trans ?_ | refine (blk_drew _ _).trans ?_))
end Go.Proofs.YtklcmlbkhjcaiaaDoor
