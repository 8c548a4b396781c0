/- The walk of the reference's Reach (layer 13): moved, grown, filled. -/
import Derived.Test.YtklcmlbkhjcaiaaDoorNeedA


namespace Go.Proofs.YtklcmlbkhjcaiaaDoor
open Go.RowKit
set_option linter.unusedVariables false

set_option maxRecDepth 100000 in
set_option maxHeartbeats 25600000 in
theorem ref13_Reach_1 (ia : Option Addr) (il ic : Nat) (pa : Option Addr) (pl pc : Nat) (p : Nat → Int) (a : Option Addr) (len cap : Nat) (r : Nat → R) (w : World) (hp : Hid (IsInts w pa pl pc p)) (hlp : (pl : Int) = prmN 1) (hl : Hid (IsRects w a len cap r)) (hk : NodeOk 1 p len) (hr : ∀ i, i < len → rightR (r i) = true) :
    Calls Tryd.prog 22 #[.agg #[.int .i64 1, .slice ia il ic, .slice pa pl pc], .slice a len cap] w fun e w' => e = .returned (.agg #[.int .i64 (reachR 1 p len r).x0, .int .i64 (reachR 1 p len r).y0, .int .i64 (reachR 1 p len r).x1, .int .i64 (reachR 1 p len r).y1]) ∧ Grows w w' := by
  have m1 := hp.out.le
  have m2 := hp.out.most
  have m3 := hl.out.le
  have m4 := hl.out.most
  have hf := hk.few
  obtain rfl : pl = 2 := by have : prmN 1 = 2 := (by decide); omega
  obtain ⟨bp, offp, rfl, hbp, f0⟩ := hp.out.at (k := 0) (by omega)
  obtain ⟨b2, off2, e, -, f1⟩ := hp.out.at (k := 1) (by omega)
  cases e
  simp only [Nat.add_zero] at f0
  have n1 := hk.one (by omega)
  have ho := hk.off rfl
  obtain ⟨br, offr, rfl, hbr, r0, r1, r2, r3⟩ := hl.out.at (k := 0) (by omega)
  simp only [Nat.zero_mul, Nat.add_zero] at r0 r1 r2 r3
  have hrr := hr 0 (by omega)
  obtain ⟨x, hx⟩ : ∃ z, z = r 0 := ⟨_, rfl⟩
  rw [← hx] at r0 r1 r2 r3 hrr
  have e0 : reachR 1 p len r = moveR x (p 0) (p 1) := by rw [hx]; simp [reachR]
  obtain ⟨v0, hv0⟩ : ∃ z, z = p 0 := ⟨_, rfl⟩
  obtain ⟨v1, hv1⟩ : ∃ z, z = p 1 := ⟨_, rfl⟩
  rw [← hv0, ← hv1] at e0 ho
  rw [← hv0] at f0
  rw [← hv1] at f1
  have HMV : Hid (∀ W, Grows w W → Calls Tryd.prog 29 #[.agg #[.int .i64 x.x0, .int .i64 x.y0, .int .i64 x.x1, .int .i64 x.y1], .int .i64 v0, .int .i64 v1] W fun e w' => e = .returned (.agg #[.int .i64 (moveR x v0 v1).x0, .int .i64 (moveR x v0 v1).y0, .int .i64 (moveR x v0 v1).x1, .int .i64 (moveR x v0 v1).y1]) ∧ Grows W w') := fun W g => ref03_moveR x v0 v1 W hrr (by omega) (by omega)
  obtain ⟨b, hb⟩ : ∃ qq, qq = moveR x v0 v1 := ⟨_, rfl⟩
  rw [← hb] at HMV e0
  rw [e0]
  clear hb e0 hx hv0 hv1 hk hr hp hl hlp
  go_enter Tryd.func22, Tryd.ntmps22
  go_wp2
  first | refine region_grow_tail2 10 (by kernel_rfl) (by kernel_rfl) ?_ | refine region_grow_tail 10 (by kernel_rfl) (by kernel_rfl) ?_
  simp only [List.take_succ_cons, List.take_zero, List.drop_succ_cons, List.drop_zero]
  repeat (go_big_quiet_step ((first | (go_at_call 29; exact grow_of (HMV.out _ (by repeat (first | exact Grows.refl _ | apply Grows.grow | apply Grows.alloc | apply Grows.drew)))))))
  refine wpQuiet_nil ?_
  rintro _ ⟨gd, rfl⟩
  go_wp2
  refine bodyPost_ret (results_cell_row rfl _ _ _ 27 #[.int .i64 b.x0, .int .i64 b.y0, .int .i64 b.x1, .int .i64 b.y1] (0, 0) _ rfl ?_ Tryd.underlying27 rfl rect_info) rfl ⟨rfl, (by repeat (first | exact Grows.refl _ | apply Grows.grow | apply Grows.alloc | apply Grows.drew))⟩
  exact (by repeat (first | exact blk_at _ _ _ (by first | omega | (simp; done) | (simp; omega)) | refine (blk_past _ _ _ (by first | omega | (simp; done) | (simp; omega))).trans ?_ | refine (heap_grow _ _ _ (by first | omega | (simp; done) | (simp; omega))).trans ?_ | refine (blk_drew _ _).trans ?_))
set_option maxRecDepth 100000 in
set_option maxHeartbeats 25600000 in
theorem ref13_Reach_2 (ia : Option Addr) (il ic : Nat) (pa : Option Addr) (pl pc : Nat) (p : Nat → Int) (a : Option Addr) (len cap : Nat) (r : Nat → R) (w : World) (hp : Hid (IsInts w pa pl pc p)) (hlp : (pl : Int) = prmN 2) (hl : Hid (IsRects w a len cap r)) (hk : NodeOk 2 p len) (hr : ∀ i, i < len → rightR (r i) = true) :
    Calls Tryd.prog 22 #[.agg #[.int .i64 2, .slice ia il ic, .slice pa pl pc], .slice a len cap] w fun e w' => e = .returned (.agg #[.int .i64 (reachR 2 p len r).x0, .int .i64 (reachR 2 p len r).y0, .int .i64 (reachR 2 p len r).x1, .int .i64 (reachR 2 p len r).y1]) ∧ Grows w w' := by
  have m1 := hp.out.le
  have m2 := hp.out.most
  have m3 := hl.out.le
  have m4 := hl.out.most
  have hf := hk.few
  obtain rfl : pl = 2 := by have : prmN 2 = 2 := (by decide); omega
  obtain ⟨bp, offp, rfl, hbp, f0⟩ := hp.out.at (k := 0) (by omega)
  obtain ⟨b2, off2, e, -, f1⟩ := hp.out.at (k := 1) (by omega)
  cases e
  simp only [Nat.add_zero] at f0
  have n1 := hk.one (by omega)
  have ho := hk.rad (by omega)
  obtain ⟨br, offr, rfl, hbr, r0, r1, r2, r3⟩ := hl.out.at (k := 0) (by omega)
  simp only [Nat.zero_mul, Nat.add_zero] at r0 r1 r2 r3
  have hrr := hr 0 (by omega)
  obtain ⟨x, hx⟩ : ∃ z, z = r 0 := ⟨_, rfl⟩
  rw [← hx] at r0 r1 r2 r3 hrr
  have e0 : reachR 2 p len r = growR x (p 0) (p 1) (p 0) (p 1) := by rw [hx]; simp [reachR]
  obtain ⟨v0, hv0⟩ : ∃ z, z = p 0 := ⟨_, rfl⟩
  obtain ⟨v1, hv1⟩ : ∃ z, z = p 1 := ⟨_, rfl⟩
  rw [← hv0, ← hv1] at e0 ho
  rw [← hv0] at f0
  rw [← hv1] at f1
  have HGW : Hid (∀ W, Grows w W → Calls Tryd.prog 30 #[.agg #[.int .i64 x.x0, .int .i64 x.y0, .int .i64 x.x1, .int .i64 x.y1], .int .i64 v0, .int .i64 v1, .int .i64 v0, .int .i64 v1] W fun e w' => e = .returned (.agg #[.int .i64 (growR x v0 v1 v0 v1).x0, .int .i64 (growR x v0 v1 v0 v1).y0, .int .i64 (growR x v0 v1 v0 v1).x1, .int .i64 (growR x v0 v1 v0 v1).y1]) ∧ Grows W w') := fun W g => ref03_growR x v0 v1 v0 v1 W hrr (by omega) (by omega) (by omega) (by omega)
  obtain ⟨b, hb⟩ : ∃ qq, qq = growR x v0 v1 v0 v1 := ⟨_, rfl⟩
  rw [← hb] at HGW e0
  rw [e0]
  clear hb e0 hx hv0 hv1 hk hr hp hl hlp
  go_enter Tryd.func22, Tryd.ntmps22
  go_wp2
  first | refine region_grow_tail2 16 (by kernel_rfl) (by kernel_rfl) ?_ | refine region_grow_tail 16 (by kernel_rfl) (by kernel_rfl) ?_
  simp only [List.take_succ_cons, List.take_zero, List.drop_succ_cons, List.drop_zero]
  repeat (go_big_quiet_step ((first | (go_at_call 30; exact grow_of (HGW.out _ (by repeat (first | exact Grows.refl _ | apply Grows.grow | apply Grows.alloc | apply Grows.drew)))))))
  refine wpQuiet_nil ?_
  rintro _ ⟨gd, rfl⟩
  go_wp2
  refine bodyPost_ret (results_cell_row rfl _ _ _ 27 #[.int .i64 b.x0, .int .i64 b.y0, .int .i64 b.x1, .int .i64 b.y1] (0, 0) _ rfl ?_ Tryd.underlying27 rfl rect_info) rfl ⟨rfl, (by repeat (first | exact Grows.refl _ | apply Grows.grow | apply Grows.alloc | apply Grows.drew))⟩
  exact (by repeat (first | exact blk_at _ _ _ (by first | omega | (simp; done) | (simp; omega)) | refine (blk_past _ _ _ (by first | omega | (simp; done) | (simp; omega))).trans ?_ | refine (heap_grow _ _ _ (by first | omega | (simp; done) | (simp; omega))).trans ?_ | refine (blk_drew _ _).trans ?_))
set_option maxRecDepth 100000 in
set_option maxHeartbeats 25600000 in
theorem ref13_Reach_4 (ia : Option Addr) (il ic : Nat) (pa : Option Addr) (pl pc : Nat) (p : Nat → Int) (a : Option Addr) (len cap : Nat) (r : Nat → R) (w : World) (hp : Hid (IsInts w pa pl pc p)) (hlp : (pl : Int) = prmN 4) (hl : Hid (IsRects w a len cap r)) (hk : NodeOk 4 p len) (hr : ∀ i, i < len → rightR (r i) = true) :
    Calls Tryd.prog 22 #[.agg #[.int .i64 4, .slice ia il ic, .slice pa pl pc], .slice a len cap] w fun e w' => e = .returned (.agg #[.int .i64 (reachR 4 p len r).x0, .int .i64 (reachR 4 p len r).y0, .int .i64 (reachR 4 p len r).x1, .int .i64 (reachR 4 p len r).y1]) ∧ Grows w w' := by
  have m1 := hp.out.le
  have m2 := hp.out.most
  have m3 := hl.out.le
  have m4 := hl.out.most
  have hf := hk.few
  obtain rfl : pl = 2 := by have : prmN 4 = 2 := (by decide); omega
  obtain ⟨bp, offp, rfl, hbp, f0⟩ := hp.out.at (k := 0) (by omega)
  obtain ⟨b2, off2, e, -, f1⟩ := hp.out.at (k := 1) (by omega)
  cases e
  simp only [Nat.add_zero] at f0
  have n1 := hk.one (by omega)
  have ho := hk.rad (by omega)
  obtain ⟨br, offr, rfl, hbr, r0, r1, r2, r3⟩ := hl.out.at (k := 0) (by omega)
  simp only [Nat.zero_mul, Nat.add_zero] at r0 r1 r2 r3
  have hrr := hr 0 (by omega)
  obtain ⟨x, hx⟩ : ∃ z, z = r 0 := ⟨_, rfl⟩
  rw [← hx] at r0 r1 r2 r3 hrr
  have e0 : reachR 4 p len r = growR x (p 0) (p 1) (p 0) (p 1) := by rw [hx]; simp [reachR]
  obtain ⟨v0, hv0⟩ : ∃ z, z = p 0 := ⟨_, rfl⟩
  obtain ⟨v1, hv1⟩ : ∃ z, z = p 1 := ⟨_, rfl⟩
  rw [← hv0, ← hv1] at e0 ho
  rw [← hv0] at f0
  rw [← hv1] at f1
  have HGW : Hid (∀ W, Grows w W → Calls Tryd.prog 30 #[.agg #[.int .i64 x.x0, .int .i64 x.y0, .int .i64 x.x1, .int .i64 x.y1], .int .i64 v0, .int .i64 v1, .int .i64 v0, .int .i64 v1] W fun e w' => e = .returned (.agg #[.int .i64 (growR x v0 v1 v0 v1).x0, .int .i64 (growR x v0 v1 v0 v1).y0, .int .i64 (growR x v0 v1 v0 v1).x1, .int .i64 (growR x v0 v1 v0 v1).y1]) ∧ Grows W w') := fun W g => ref03_growR x v0 v1 v0 v1 W hrr (by omega) (by omega) (by omega) (by omega)
  obtain ⟨b, hb⟩ : ∃ qq, qq = growR x v0 v1 v0 v1 := ⟨_, rfl⟩
  rw [← hb] at HGW e0
  rw [e0]
  clear hb e0 hx hv0 hv1 hk hr hp hl hlp
  go_enter Tryd.func22, Tryd.ntmps22
  go_wp2
  first | refine region_grow_tail2 16 (by kernel_rfl) (by kernel_rfl) ?_ | refine region_grow_tail 16 (by kernel_rfl) (by kernel_rfl) ?_
  simp only [List.take_succ_cons, List.take_zero, List.drop_succ_cons, List.drop_zero]
  repeat (go_big_quiet_step ((first | (go_at_call 30; exact grow_of (HGW.out _ (by repeat (first | exact Grows.refl _ | apply Grows.grow | apply Grows.alloc | apply Grows.drew)))))))
  refine wpQuiet_nil ?_
  rintro _ ⟨gd, rfl⟩
  go_wp2
  refine bodyPost_ret (results_cell_row rfl _ _ _ 27 #[.int .i64 b.x0, .int .i64 b.y0, .int .i64 b.x1, .int .i64 b.y1] (0, 0) _ rfl ?_ Tryd.underlying27 rfl rect_info) rfl ⟨rfl, (by repeat (first | exact Grows.refl _ | apply Grows.grow | apply Grows.alloc | apply Grows.drew))⟩
  exact (by repeat (first | exact blk_at _ _ _ (by first | omega | (simp; done) | (simp; omega)) | refine (blk_past _ _ _ (by first | omega | (simp; done) | (simp; omega))).trans ?_ | refine (heap_grow _ _ _ (by first | omega | (simp; done) | (simp; omega))).trans ?_ | refine (blk_drew _ _).trans ?_))
set_option maxRecDepth 100000 in
set_option maxHeartbeats 25600000 in
theorem ref13_Reach_6 (ia : Option Addr) (il ic : Nat) (pa : Option Addr) (pl pc : Nat) (p : Nat → Int) (a : Option Addr) (len cap : Nat) (r : Nat → R) (w : World) (hp : Hid (IsInts w pa pl pc p)) (hlp : (pl : Int) = prmN 6) (hl : Hid (IsRects w a len cap r)) (hk : NodeOk 6 p len) (hr : ∀ i, i < len → rightR (r i) = true) :
    Calls Tryd.prog 22 #[.agg #[.int .i64 6, .slice ia il ic, .slice pa pl pc], .slice a len cap] w fun e w' => e = .returned (.agg #[.int .i64 (reachR 6 p len r).x0, .int .i64 (reachR 6 p len r).y0, .int .i64 (reachR 6 p len r).x1, .int .i64 (reachR 6 p len r).y1]) ∧ Grows w w' := by
  have m1 := hp.out.le
  have m2 := hp.out.most
  have m3 := hl.out.le
  have m4 := hl.out.most
  have hf := hk.few
  obtain rfl : pl = 8 := by have : prmN 6 = 8 := (by decide); omega
  obtain ⟨x, hx⟩ : ∃ z, z = boxO p 4 := ⟨_, rfl⟩
  have HBX : Hid (∀ W, Grows w W → Calls Tryd.prog 32 #[.slice pa 8 pc, .int .i64 4] W fun e w' => e = .returned (.agg #[.int .i64 x.x0, .int .i64 x.y0, .int .i64 x.x1, .int .i64 x.y1]) ∧ Grows W w') := fun W g => ref13_Box pa 8 pc p 4 4 x W (Lib.hid (hp.out.grows g)) rfl (by omega) (by omega) (Lib.hid hx.symm)
  obtain ⟨bp, offp, rfl, hbp, f0⟩ := hp.out.at (k := 0) (by omega)
  obtain ⟨b2, off2, e, -, f1⟩ := hp.out.at (k := 1) (by omega)
  cases e
  obtain ⟨b2, off2, e, -, f2⟩ := hp.out.at (k := 2) (by omega)
  cases e
  obtain ⟨b2, off2, e, -, f3⟩ := hp.out.at (k := 3) (by omega)
  cases e
  simp only [Nat.add_zero] at f0
  have HJN : Hid (∀ W, Grows w W → Calls Tryd.prog 17 #[.agg #[.int .i64 x.x0, .int .i64 x.y0, .int .i64 x.x1, .int .i64 x.y1], .agg #[.int .i64 0, .int .i64 0, .int .i64 0, .int .i64 0]] W fun e w' => e = .returned (.agg #[.int .i64 (joinR x zeroR).x0, .int .i64 (joinR x zeroR).y0, .int .i64 (joinR x zeroR).x1, .int .i64 (joinR x zeroR).y1]) ∧ Grows W w') := fun W g => ref03_joinR x zeroR W
  obtain ⟨v0, hv0⟩ : ∃ z, z = p 0 := ⟨_, rfl⟩
  obtain ⟨v1, hv1⟩ : ∃ z, z = p 1 := ⟨_, rfl⟩
  obtain ⟨v2, hv2⟩ : ∃ z, z = p 2 := ⟨_, rfl⟩
  obtain ⟨v3, hv3⟩ : ∃ z, z = p 3 := ⟨_, rfl⟩
  rw [← hv0] at f0
  rw [← hv1] at f1
  rw [← hv2] at f2
  rw [← hv3] at f3
  by_cases z0 : v0 = 0
  case neg =>
    have y0 : (v0 == 0) = false := by simpa using z0
    have e0 : reachR 6 p len r = joinR x zeroR := by
      rw [hx]
      unfold reachR
      rw [if_neg (show ¬ ((6 : Int) = 1) by omega), if_neg (show ¬ ((6 : Int) = 2 ∨ (6 : Int) = 4) by omega), if_neg (show ¬ ((6 : Int) = 5 ∧ eqP (tintP p noP) noP = false) by omega), if_pos rfl, if_neg (show ¬ (p 0 = 0 ∧ p 1 = 0 ∧ p 2 = 0 ∧ p 3 = 0) from by rw [← hv0, ← hv1, ← hv2, ← hv3]; omega)]
    obtain ⟨b, hb⟩ : ∃ z, z = joinR x zeroR := ⟨_, rfl⟩
    rw [← hb] at HJN e0
    rw [e0]
    clear hb e0 hx hv0 hv1 hv2 hv3 hk hr hp hl hlp
    go_enter Tryd.func22, Tryd.ntmps22
    go_wp2
    first | refine region_grow_tail2 4 (by kernel_rfl) (by kernel_rfl) ?_ | refine region_grow_tail 4 (by kernel_rfl) (by kernel_rfl) ?_
    simp only [List.take_succ_cons, List.take_zero, List.drop_succ_cons, List.drop_zero]
    repeat (go_big_quiet_step ((first | (go_at_call 32; exact grow_of (HBX.out _ (by repeat (first | exact Grows.refl _ | apply Grows.grow | apply Grows.alloc | apply Grows.drew)))) | (go_at_call 17; exact grow_of (HJN.out _ (by repeat (first | exact Grows.refl _ | apply Grows.grow | apply Grows.alloc | apply Grows.drew)))))))
    refine wpQuiet_nil ?_
    rintro _ ⟨gd, rfl⟩
    go_wp2
    refine bodyPost_ret (results_cell_row rfl _ _ _ 27 #[.int .i64 b.x0, .int .i64 b.y0, .int .i64 b.x1, .int .i64 b.y1] (0, 0) _ rfl ?_ Tryd.underlying27 rfl rect_info) rfl ⟨rfl, (by repeat (first | exact Grows.refl _ | apply Grows.grow | apply Grows.alloc | apply Grows.drew))⟩
    exact (by repeat (first | exact blk_at _ _ _ (by first | omega | (simp; done) | (simp; omega)) | refine (blk_past _ _ _ (by first | omega | (simp; done) | (simp; omega))).trans ?_ | refine (heap_grow _ _ _ (by first | omega | (simp; done) | (simp; omega))).trans ?_ | refine (blk_drew _ _).trans ?_))
  by_cases z1 : v1 = 0
  case neg =>
    have y1 : (v1 == 0) = false := by simpa using z1
    have y0 : (v0 == 0) = true := by simpa using z0
    have e0 : reachR 6 p len r = joinR x zeroR := by
      rw [hx]
      unfold reachR
      rw [if_neg (show ¬ ((6 : Int) = 1) by omega), if_neg (show ¬ ((6 : Int) = 2 ∨ (6 : Int) = 4) by omega), if_neg (show ¬ ((6 : Int) = 5 ∧ eqP (tintP p noP) noP = false) by omega), if_pos rfl, if_neg (show ¬ (p 0 = 0 ∧ p 1 = 0 ∧ p 2 = 0 ∧ p 3 = 0) from by rw [← hv0, ← hv1, ← hv2, ← hv3]; omega)]
    obtain ⟨b, hb⟩ : ∃ z, z = joinR x zeroR := ⟨_, rfl⟩
    rw [← hb] at HJN e0
    rw [e0]
    clear hb e0 hx hv0 hv1 hv2 hv3 hk hr hp hl hlp
    go_enter Tryd.func22, Tryd.ntmps22
    go_wp2
    first | refine region_grow_tail2 4 (by kernel_rfl) (by kernel_rfl) ?_ | refine region_grow_tail 4 (by kernel_rfl) (by kernel_rfl) ?_
    simp only [List.take_succ_cons, List.take_zero, List.drop_succ_cons, List.drop_zero]
    repeat (go_big_quiet_step ((first | (go_at_call 32; exact grow_of (HBX.out _ (by repeat (first | exact Grows.refl _ | apply Grows.grow | apply Grows.alloc | apply Grows.drew)))) | (go_at_call 17; exact grow_of (HJN.out _ (by repeat (first | exact Grows.refl _ | apply Grows.grow | apply Grows.alloc | apply Grows.drew)))))))
    refine wpQuiet_nil ?_
    rintro _ ⟨gd, rfl⟩
    go_wp2
    refine bodyPost_ret (results_cell_row rfl _ _ _ 27 #[.int .i64 b.x0, .int .i64 b.y0, .int .i64 b.x1, .int .i64 b.y1] (0, 0) _ rfl ?_ Tryd.underlying27 rfl rect_info) rfl ⟨rfl, (by repeat (first | exact Grows.refl _ | apply Grows.grow | apply Grows.alloc | apply Grows.drew))⟩
    exact (by repeat (first | exact blk_at _ _ _ (by first | omega | (simp; done) | (simp; omega)) | refine (blk_past _ _ _ (by first | omega | (simp; done) | (simp; omega))).trans ?_ | refine (heap_grow _ _ _ (by first | omega | (simp; done) | (simp; omega))).trans ?_ | refine (blk_drew _ _).trans ?_))
  by_cases z2 : v2 = 0
  case neg =>
    have y2 : (v2 == 0) = false := by simpa using z2
    have y0 : (v0 == 0) = true := by simpa using z0
    have y1 : (v1 == 0) = true := by simpa using z1
    have e0 : reachR 6 p len r = joinR x zeroR := by
      rw [hx]
      unfold reachR
      rw [if_neg (show ¬ ((6 : Int) = 1) by omega), if_neg (show ¬ ((6 : Int) = 2 ∨ (6 : Int) = 4) by omega), if_neg (show ¬ ((6 : Int) = 5 ∧ eqP (tintP p noP) noP = false) by omega), if_pos rfl, if_neg (show ¬ (p 0 = 0 ∧ p 1 = 0 ∧ p 2 = 0 ∧ p 3 = 0) from by rw [← hv0, ← hv1, ← hv2, ← hv3]; omega)]
    obtain ⟨b, hb⟩ : ∃ z, z = joinR x zeroR := ⟨_, rfl⟩
    rw [← hb] at HJN e0
    rw [e0]
    clear hb e0 hx hv0 hv1 hv2 hv3 hk hr hp hl hlp
    go_enter Tryd.func22, Tryd.ntmps22
    go_wp2
    first | refine region_grow_tail2 4 (by kernel_rfl) (by kernel_rfl) ?_ | refine region_grow_tail 4 (by kernel_rfl) (by kernel_rfl) ?_
    simp only [List.take_succ_cons, List.take_zero, List.drop_succ_cons, List.drop_zero]
    repeat (go_big_quiet_step ((first | (go_at_call 32; exact grow_of (HBX.out _ (by repeat (first | exact Grows.refl _ | apply Grows.grow | apply Grows.alloc | apply Grows.drew)))) | (go_at_call 17; exact grow_of (HJN.out _ (by repeat (first | exact Grows.refl _ | apply Grows.grow | apply Grows.alloc | apply Grows.drew)))))))
    refine wpQuiet_nil ?_
    rintro _ ⟨gd, rfl⟩
    go_wp2
    refine bodyPost_ret (results_cell_row rfl _ _ _ 27 #[.int .i64 b.x0, .int .i64 b.y0, .int .i64 b.x1, .int .i64 b.y1] (0, 0) _ rfl ?_ Tryd.underlying27 rfl rect_info) rfl ⟨rfl, (by repeat (first | exact Grows.refl _ | apply Grows.grow | apply Grows.alloc | apply Grows.drew))⟩
    exact (by repeat (first | exact blk_at _ _ _ (by first | omega | (simp; done) | (simp; omega)) | refine (blk_past _ _ _ (by first | omega | (simp; done) | (simp; omega))).trans ?_ | refine (heap_grow _ _ _ (by first | omega | (simp; done) | (simp; omega))).trans ?_ | refine (blk_drew _ _).trans ?_))
  by_cases z3 : v3 = 0
  case neg =>
    have y3 : (v3 == 0) = false := by simpa using z3
    have y0 : (v0 == 0) = true := by simpa using z0
    have y1 : (v1 == 0) = true := by simpa using z1
    have y2 : (v2 == 0) = true := by simpa using z2
    have e0 : reachR 6 p len r = joinR x zeroR := by
      rw [hx]
      unfold reachR
      rw [if_neg (show ¬ ((6 : Int) = 1) by omega), if_neg (show ¬ ((6 : Int) = 2 ∨ (6 : Int) = 4) by omega), if_neg (show ¬ ((6 : Int) = 5 ∧ eqP (tintP p noP) noP = false) by omega), if_pos rfl, if_neg (show ¬ (p 0 = 0 ∧ p 1 = 0 ∧ p 2 = 0 ∧ p 3 = 0) from by rw [← hv0, ← hv1, ← hv2, ← hv3]; omega)]
    obtain ⟨b, hb⟩ : ∃ z, z = joinR x zeroR := ⟨_, rfl⟩
    rw [← hb] at HJN e0
    rw [e0]
    clear hb e0 hx hv0 hv1 hv2 hv3 hk hr hp hl hlp
    go_enter Tryd.func22, Tryd.ntmps22
    go_wp2
    first | refine region_grow_tail2 4 (by kernel_rfl) (by kernel_rfl) ?_ | refine region_grow_tail 4 (by kernel_rfl) (by kernel_rfl) ?_
    simp only [List.take_succ_cons, List.take_zero, List.drop_succ_cons, List.drop_zero]
    repeat (go_big_quiet_step ((first | (go_at_call 32; exact grow_of (HBX.out _ (by repeat (first | exact Grows.refl _ | apply Grows.grow | apply Grows.alloc | apply Grows.drew)))) | (go_at_call 17; exact grow_of (HJN.out _ (by repeat (first | exact Grows.refl _ | apply Grows.grow | apply Grows.alloc | apply Grows.drew)))))))
    refine wpQuiet_nil ?_
    rintro _ ⟨gd, rfl⟩
    go_wp2
    refine bodyPost_ret (results_cell_row rfl _ _ _ 27 #[.int .i64 b.x0, .int .i64 b.y0, .int .i64 b.x1, .int .i64 b.y1] (0, 0) _ rfl ?_ Tryd.underlying27 rfl rect_info) rfl ⟨rfl, (by repeat (first | exact Grows.refl _ | apply Grows.grow | apply Grows.alloc | apply Grows.drew))⟩
    exact (by repeat (first | exact blk_at _ _ _ (by first | omega | (simp; done) | (simp; omega)) | refine (blk_past _ _ _ (by first | omega | (simp; done) | (simp; omega))).trans ?_ | refine (heap_grow _ _ _ (by first | omega | (simp; done) | (simp; omega))).trans ?_ | refine (blk_drew _ _).trans ?_))
  have e0 : reachR 6 p len r = ⟨0, 0, 0, 0⟩ := by
    unfold reachR
    rw [if_neg (show ¬ ((6 : Int) = 1) by omega), if_neg (show ¬ ((6 : Int) = 2 ∨ (6 : Int) = 4) by omega), if_neg (show ¬ ((6 : Int) = 5 ∧ eqP (tintP p noP) noP = false) by omega), if_pos rfl, if_pos (show (p 0 = 0 ∧ p 1 = 0 ∧ p 2 = 0 ∧ p 3 = 0) from by rw [← hv0, ← hv1, ← hv2, ← hv3]; exact ⟨z0, z1, z2, z3⟩)]
    rfl
  rw [e0]
  rw [z0] at f0
  rw [z1] at f1
  rw [z2] at f2
  rw [z3] at f3
  clear e0 hx hv0 hv1 hv2 hv3 z0 z1 z2 z3 hk hr hp hl hlp HBX HJN
  go_enter Tryd.func22, Tryd.ntmps22
  go_wp2
  refine bodyPost_ret (results_cell_row rfl _ _ _ 27 #[.int .i64 0, .int .i64 0, .int .i64 0, .int .i64 0] (0, 0) _ rfl ?_ Tryd.underlying27 rfl rect_info) rfl ⟨rfl, (by repeat (first | exact Grows.refl _ | apply Grows.grow | apply Grows.alloc | apply Grows.drew))⟩
  exact (by repeat (first | exact blk_at _ _ _ (by first | omega | (simp; done) | (simp; omega)) | refine (blk_past _ _ _ (by first | omega | (simp; done) | (simp; omega))).trans ?_ | refine (heap_grow _ _ _ (by first | omega | (simp; done) | (simp; omega))).trans ?_ | refine (blk_drew _ _).trans ?_))
end Go.Proofs.YtklcmlbkhjcaiaaDoor
