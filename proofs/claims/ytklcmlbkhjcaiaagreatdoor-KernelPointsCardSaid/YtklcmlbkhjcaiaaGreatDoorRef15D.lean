/- The walk of the document's Do (layer 15). -/
import Derived.Test.YtklcmlbkhjcaiaaGreatDoorRef15M
import Derived.Test.YtklcmlbkhjcaiaaGreatDoorK9
import Derived.Test.YtklcmlbkhjcaiaaGreatDoorK20





namespace Go.Proofs.YtklcmlbkhjcaiaaGreatDoor
open Go.RowKit
set_option linter.unusedVariables false

set_option maxRecDepth 100000 in
set_option maxHeartbeats 1600000 in
theorem ref15_pixel (a : Option Addr) (len cap : Nat) (f : Nat → Int) (o : Int) (k : Nat) (r : P4) (w : World) (h : Hid (IsInts w a len cap f)) (ho : o = k) (h4 : k + 4 ≤ len) (hk : k ≤ 1000) (hr : Hid (pxO f k = r)) (ok : okP r) :
    Calls Tryz.prog 31 #[.slice a len cap, .int .i64 o] w fun e w' => e = .returned (.agg #[.int .u8 r.r, .int .u8 r.g, .int .u8 r.b, .int .u8 r.a]) ∧ Grows w w' := by
  have m1 := h.out.le
  have m2 := h.out.most
  obtain ⟨b', off', rfl, hb', e0⟩ := h.out.at (k := k) (by omega)
  obtain ⟨b2, off2, e, -, e1⟩ := h.out.at (k := k + 1) (by omega)
  cases e
  obtain ⟨b2, off2, e, -, e2⟩ := h.out.at (k := k + 2) (by omega)
  cases e
  obtain ⟨b2, off2, e, -, e3⟩ := h.out.at (k := k + 3) (by omega)
  cases e
  obtain ⟨v0, v1, v2, v3⟩ := r
  have q : pxO f k = ⟨v0, v1, v2, v3⟩ := hr.out
  injection q with q0 q1 q2 q3
  rw [q0] at e0
  rw [q1] at e1
  rw [q2] at e2
  rw [q3] at e3
  obtain ⟨⟨o0, o0'⟩, ⟨o1, o1'⟩, ⟨o2, o2'⟩, ⟨o3, o3'⟩⟩ := ok
  simp only at o0 o0' o1 o1' o2 o2' o3 o3'
  subst ho
  clear q0 q1 q2 q3 hr h
  go_enter Tryz.func31, Tryz.ntmps31
  go_wp2
  first | refine region_grow_tail2 24 (by kernel_rfl) (by kernel_rfl) ?_ | refine region_grow_tail 24 (by kernel_rfl) (by kernel_rfl) ?_
  simp only [List.take_succ_cons, List.take_zero, List.drop_succ_cons, List.drop_zero]
  repeat (go_big_quiet_step (fail))
  refine wpQuiet_nil ?_
  rintro _ ⟨gr, rfl⟩
  go_wp2
  refine bodyPost_ret (results_cell_row rfl _ _ _ 37 #[.int .u8 v0, .int .u8 v1, .int .u8 v2, .int .u8 v3] (0, 0) _ rfl ?_ Tryz.underlying37 rfl px_info) rfl ⟨rfl, (by repeat (first | exact Grows.refl _ | apply Grows.grow | apply Grows.alloc | apply Grows.drew))⟩
  exact (by repeat (first | exact blk_at _ _ _ (by first | omega | (simp; done) | (simp; omega)) | refine (blk_past _ _ _ (by first | omega | (simp; done) | (simp; omega))).trans ?_ | refine (heap_grow _ _ _ (by first | omega | (simp; done) | (simp; omega))).trans ?_ | refine (blk_drew _ _).trans ?_))
theorem ref13_BoxIs (a : Option Addr) (len cap : Nat) (f : Nat → Int) (k : Nat) (r : R) (w : World) (h : Hid (IsInts w a len cap f)) (h4 : k + 4 ≤ len) (hk : k ≤ 1000) (hr : boxO f k = r) :
    Calls Tryz.prog 32 #[.slice a len cap, .int .i64 k] w fun e w' => e = .returned (.agg #[.int .i64 r.x0, .int .i64 r.y0, .int .i64 r.x1, .int .i64 r.y1]) ∧ Grows w w' := ref13_Box a len cap f k k r w h rfl h4 hk (Lib.hid hr)
set_option maxRecDepth 100000 in
set_option maxHeartbeats 6400000 in
theorem ref15_Do_1 (ia : Option Addr) (il ic : Nat) (pa : Option Addr) (pl pc : Nat) (p : Nat → Int) (al : Option Addr) (ll cl : Nat) (g5 : Nat → Bf) (F : Nat → Img) (b : R) (w : World) (hp : Hid (IsInts w pa pl pc p)) (hlp : (pl : Int) = prmN 1) (hl : Hid (IsBufs w al ll cl g5)) (hbs : Hid (∀ i, i < ll → BufAt w (g5 i).r (g5 i).a (g5 i).len (g5 i).cap (F i) ∧ cntR (g5 i).r ≤ 30000000000000)) (hk : NodeOk 1 p ll) (hsm : smallR b) (hs : cntR (someR b) ≤ 300) (hrad : (1 : Int) = 2 ∨ (1 : Int) = 3 ∨ (1 : Int) = 4 → p 0 ≤ 6 ∧ p 1 ≤ 6) (hrad11 : (1 : Int) = 11 → p 2 ≤ 6 ∧ p 3 ≤ 6) :
    Calls Tryz.prog 9 #[.agg #[.int .i64 1, .slice ia il ic, .slice pa pl pc], .slice al ll cl, .agg #[.int .i64 b.x0, .int .i64 b.y0, .int .i64 b.x1, .int .i64 b.y1]] w (RetBuf w (someR b) (moveF b (p 0) (p 1) (F 0))) := by
  have n1 := hk.one (by omega)
  have hb := hsm.right
  have m1 := hp.out.le
  have m2 := hp.out.most
  have m3 := hl.out.le
  have m4 := hl.out.most
  obtain rfl : pl = 2 := by have : prmN 1 = 2 := (by decide); omega
  obtain ⟨b', off', rfl, hb', e0, e1, e2, e3, e4⟩ := hl.out.at (k := 0) (by omega)
  have hbk := hbs.out 0 (by omega)
  simp only [Nat.zero_mul, Nat.add_zero] at e0 e1 e2 e3 e4
  obtain ⟨rk, hrk⟩ : ∃ z, z = (g5 0).r := ⟨_, rfl⟩
  obtain ⟨ak, hak⟩ : ∃ z, z = (g5 0).a := ⟨_, rfl⟩
  obtain ⟨lk, hlk⟩ : ∃ z, z = (g5 0).len := ⟨_, rfl⟩
  obtain ⟨ck, hck⟩ : ∃ z, z = (g5 0).cap := ⟨_, rfl⟩
  obtain ⟨Fk, hFk⟩ : ∃ z, z = F 0 := ⟨_, rfl⟩
  rw [← hrk, ← hak, ← hlk, ← hck, ← hFk] at hbk
  rw [← hrk] at e0 e1 e2 e3
  rw [← hak, ← hlk, ← hck] at e4
  rw [← hFk]
  obtain ⟨hbk1, hck1⟩ := hbk
  have BK := Lib.hid hbk1
  obtain ⟨bp, offp, rfl, hbp, f0⟩ := hp.out.at (k := 0) (by omega)
  obtain ⟨b2, off2, e, -, f1⟩ := hp.out.at (k := 1) (by omega)
  cases e
  simp only [Nat.add_zero] at f0
  have hof := hk.off rfl
  obtain ⟨v0, hv0⟩ : ∃ z, z = p 0 := ⟨_, rfl⟩
  obtain ⟨v1, hv1⟩ : ∃ z, z = p 1 := ⟨_, rfl⟩
  rw [← hv0] at f0 hof ⊢
  rw [← hv1] at f1 hof ⊢
  have HB : Hid (∀ W, Grows w W → Calls Tryz.prog 27 #[.agg #[.int .i64 rk.x0, .int .i64 rk.y0, .int .i64 rk.x1, .int .i64 rk.y1, .slice ak lk ck], .agg #[.int .i64 b.x0, .int .i64 b.y0, .int .i64 b.x1, .int .i64 b.y1], .int .i64 v0, .int .i64 v1] W (RetBuf W (someR b) (moveF b v0 v1 Fk))) := fun W g => ref10_Offset b rk ak lk ck Fk v0 v1 W (Lib.hid (BK.out.grows g)) hb (by omega) (by omega) (by omega) (by omega)
  obtain ⟨B, hB⟩ : ∃ B, B = moveF b v0 v1 Fk := ⟨_, rfl⟩
  obtain ⟨t, ht⟩ : ∃ t, t = someR b := ⟨_, rfl⟩
  rw [← hB] at HB ⊢
  rw [← ht] at HB ⊢
  clear hB ht hp hl hbs hrad hrad11 hs hsm hlp hb hk hrk hak hlk hck hFk hbk1 hv0 hv1
  go_enter Tryz.func9, Tryz.ntmps9
  go_wp2
  first | refine region_grow_tail2 10 (by kernel_rfl) (by kernel_rfl) ?_ | refine region_grow_tail 10 (by kernel_rfl) (by kernel_rfl) ?_
  simp only [List.take_succ_cons, List.take_zero, List.drop_succ_cons, List.drop_zero]
  repeat (go_big_quiet_step (fail))
  refine wpQuiet_nil ?_
  rintro _ ⟨gd, rfl⟩
  go_wp2_with ((go_at_call 27; (with_reducible refine Calls.mono (HB.out _ ?_) ?_); (exact (by repeat (first | exact Grows.refl _ | apply Grows.grow | apply Grows.alloc | apply Grows.drew))); rintro e w' ⟨a2, l2, p2, rfl, hgw, HB2⟩; (first | (obtain ⟨gw, rfl⟩ := grows_of_grow hgw) | (obtain ⟨gw, rfl⟩ := hgw))))
  refine bodyPost_ret (results_cell_row rfl _ _ _ 32 #[.int .i64 t.x0, .int .i64 t.y0, .int .i64 t.x1, .int .i64 t.y1, .slice a2 l2 p2] (0, 0) _ rfl (by repeat (first | exact blk_at _ _ _ (by first | omega | (simp; done) | (simp; omega)) | refine (blk_past _ _ _ (by first | omega | (simp; done) | (simp; omega))).trans ?_ | refine (heap_grow _ _ _ (by first | omega | (simp; done) | (simp; omega))).trans ?_ | refine (blk_drew _ _).trans ?_)) Tryz.underlying32 rfl buf_info) rfl ⟨a2, l2, p2, rfl, (by repeat (first | exact Grows.refl _ | apply Grows.grow | apply Grows.alloc | apply Grows.drew)), (by first | exact swap_ret HB2.out (by first | omega | (simp; done) | (simp; omega)) (by first | omega | (simp; done) | (simp; omega)))⟩
set_option maxRecDepth 100000 in
set_option maxHeartbeats 6400000 in
theorem ref15_Do_2 (ia : Option Addr) (il ic : Nat) (pa : Option Addr) (pl pc : Nat) (p : Nat → Int) (al : Option Addr) (ll cl : Nat) (g5 : Nat → Bf) (F : Nat → Img) (b : R) (w : World) (hp : Hid (IsInts w pa pl pc p)) (hlp : (pl : Int) = prmN 2) (hl : Hid (IsBufs w al ll cl g5)) (hbs : Hid (∀ i, i < ll → BufAt w (g5 i).r (g5 i).a (g5 i).len (g5 i).cap (F i) ∧ cntR (g5 i).r ≤ 30000000000000)) (hk : NodeOk 2 p ll) (hsm : smallR b) (hs : cntR (someR b) ≤ 300) (hrad : (2 : Int) = 2 ∨ (2 : Int) = 3 ∨ (2 : Int) = 4 → p 0 ≤ 6 ∧ p 1 ≤ 6) (hrad11 : (2 : Int) = 11 → p 2 ≤ 6 ∧ p 3 ≤ 6) :
    Calls Tryz.prog 9 #[.agg #[.int .i64 2, .slice ia il ic, .slice pa pl pc], .slice al ll cl, .agg #[.int .i64 b.x0, .int .i64 b.y0, .int .i64 b.x1, .int .i64 b.y1]] w (RetBuf w (someR b) (boxF b (p 0) (p 1) (F 0))) := by
  have n1 := hk.one (by omega)
  have hb := hsm.right
  have m1 := hp.out.le
  have m2 := hp.out.most
  have m3 := hl.out.le
  have m4 := hl.out.most
  obtain rfl : pl = 2 := by have : prmN 2 = 2 := (by decide); omega
  obtain ⟨b', off', rfl, hb', e0, e1, e2, e3, e4⟩ := hl.out.at (k := 0) (by omega)
  have hbk := hbs.out 0 (by omega)
  simp only [Nat.zero_mul, Nat.add_zero] at e0 e1 e2 e3 e4
  obtain ⟨rk, hrk⟩ : ∃ z, z = (g5 0).r := ⟨_, rfl⟩
  obtain ⟨ak, hak⟩ : ∃ z, z = (g5 0).a := ⟨_, rfl⟩
  obtain ⟨lk, hlk⟩ : ∃ z, z = (g5 0).len := ⟨_, rfl⟩
  obtain ⟨ck, hck⟩ : ∃ z, z = (g5 0).cap := ⟨_, rfl⟩
  obtain ⟨Fk, hFk⟩ : ∃ z, z = F 0 := ⟨_, rfl⟩
  rw [← hrk, ← hak, ← hlk, ← hck, ← hFk] at hbk
  rw [← hrk] at e0 e1 e2 e3
  rw [← hak, ← hlk, ← hck] at e4
  rw [← hFk]
  obtain ⟨hbk1, hck1⟩ := hbk
  have BK := Lib.hid hbk1
  obtain ⟨bp, offp, rfl, hbp, f0⟩ := hp.out.at (k := 0) (by omega)
  obtain ⟨b2, off2, e, -, f1⟩ := hp.out.at (k := 1) (by omega)
  cases e
  simp only [Nat.add_zero] at f0
  have hof := hk.rad (by omega)
  have hra := hrad (by omega)
  have gc := grow_cnt (near_of_small hsm) hs (ry := p 1) (by omega)
  obtain ⟨v0, hv0⟩ : ∃ z, z = p 0 := ⟨_, rfl⟩
  obtain ⟨v1, hv1⟩ : ∃ z, z = p 1 := ⟨_, rfl⟩
  rw [← hv0] at f0 hof ⊢
  rw [← hv1] at f1 hof ⊢
  rw [← hv0, ← hv1] at hra
  rw [← hv1] at gc
  have HB : Hid (∀ W, Grows w W → Calls Tryz.prog 28 #[.agg #[.int .i64 rk.x0, .int .i64 rk.y0, .int .i64 rk.x1, .int .i64 rk.y1, .slice ak lk ck], .agg #[.int .i64 b.x0, .int .i64 b.y0, .int .i64 b.x1, .int .i64 b.y1], .int .i64 v0, .int .i64 v1] W (RetBuf W (someR b) (boxF b v0 v1 Fk))) := fun W g => ref08_Box b rk ak lk ck Fk v0 v1 W (Lib.hid (BK.out.grows g)) (by omega) hb (by omega) (by omega) (by omega) (by omega) (by omega) (by omega)
  obtain ⟨B, hB⟩ : ∃ B, B = boxF b v0 v1 Fk := ⟨_, rfl⟩
  obtain ⟨t, ht⟩ : ∃ t, t = someR b := ⟨_, rfl⟩
  rw [← hB] at HB ⊢
  rw [← ht] at HB ⊢
  clear hB ht hp hl hbs hrad hrad11 hs hsm hlp hb hk hrk hak hlk hck hFk hbk1 hv0 hv1 gc hra
  go_enter Tryz.func9, Tryz.ntmps9
  go_wp2
  first | refine region_grow_tail2 10 (by kernel_rfl) (by kernel_rfl) ?_ | refine region_grow_tail 10 (by kernel_rfl) (by kernel_rfl) ?_
  simp only [List.take_succ_cons, List.take_zero, List.drop_succ_cons, List.drop_zero]
  repeat (go_big_quiet_step (fail))
  refine wpQuiet_nil ?_
  rintro _ ⟨gd, rfl⟩
  go_wp2_with ((go_at_call 28; (with_reducible refine Calls.mono (HB.out _ ?_) ?_); (exact (by repeat (first | exact Grows.refl _ | apply Grows.grow | apply Grows.alloc | apply Grows.drew))); rintro e w' ⟨a2, l2, p2, rfl, hgw, HB2⟩; (first | (obtain ⟨gw, rfl⟩ := grows_of_grow hgw) | (obtain ⟨gw, rfl⟩ := hgw))))
  refine bodyPost_ret (results_cell_row rfl _ _ _ 32 #[.int .i64 t.x0, .int .i64 t.y0, .int .i64 t.x1, .int .i64 t.y1, .slice a2 l2 p2] (0, 0) _ rfl (by repeat (first | exact blk_at _ _ _ (by first | omega | (simp; done) | (simp; omega)) | refine (blk_past _ _ _ (by first | omega | (simp; done) | (simp; omega))).trans ?_ | refine (heap_grow _ _ _ (by first | omega | (simp; done) | (simp; omega))).trans ?_ | refine (blk_drew _ _).trans ?_)) Tryz.underlying32 rfl buf_info) rfl ⟨a2, l2, p2, rfl, (by repeat (first | exact Grows.refl _ | apply Grows.grow | apply Grows.alloc | apply Grows.drew)), (by first | exact swap_ret HB2.out (by first | omega | (simp; done) | (simp; omega)) (by first | omega | (simp; done) | (simp; omega)))⟩
set_option maxRecDepth 100000 in
set_option maxHeartbeats 6400000 in
theorem ref15_Do_3 (ia : Option Addr) (il ic : Nat) (pa : Option Addr) (pl pc : Nat) (p : Nat → Int) (al : Option Addr) (ll cl : Nat) (g5 : Nat → Bf) (F : Nat → Img) (b : R) (w : World) (hp : Hid (IsInts w pa pl pc p)) (hlp : (pl : Int) = prmN 3) (hl : Hid (IsBufs w al ll cl g5)) (hbs : Hid (∀ i, i < ll → BufAt w (g5 i).r (g5 i).a (g5 i).len (g5 i).cap (F i) ∧ cntR (g5 i).r ≤ 30000000000000)) (hk : NodeOk 3 p ll) (hsm : smallR b) (hs : cntR (someR b) ≤ 300) (hrad : (3 : Int) = 2 ∨ (3 : Int) = 3 ∨ (3 : Int) = 4 → p 0 ≤ 6 ∧ p 1 ≤ 6) (hrad11 : (3 : Int) = 11 → p 2 ≤ 6 ∧ p 3 ≤ 6) :
    Calls Tryz.prog 9 #[.agg #[.int .i64 3, .slice ia il ic, .slice pa pl pc], .slice al ll cl, .agg #[.int .i64 b.x0, .int .i64 b.y0, .int .i64 b.x1, .int .i64 b.y1]] w (RetBuf w (someR b) (boxM false b (p 0) (p 1) (F 0))) := by
  have n1 := hk.one (by omega)
  have hb := hsm.right
  have m1 := hp.out.le
  have m2 := hp.out.most
  have m3 := hl.out.le
  have m4 := hl.out.most
  obtain rfl : pl = 2 := by have : prmN 3 = 2 := (by decide); omega
  obtain ⟨b', off', rfl, hb', e0, e1, e2, e3, e4⟩ := hl.out.at (k := 0) (by omega)
  have hbk := hbs.out 0 (by omega)
  simp only [Nat.zero_mul, Nat.add_zero] at e0 e1 e2 e3 e4
  obtain ⟨rk, hrk⟩ : ∃ z, z = (g5 0).r := ⟨_, rfl⟩
  obtain ⟨ak, hak⟩ : ∃ z, z = (g5 0).a := ⟨_, rfl⟩
  obtain ⟨lk, hlk⟩ : ∃ z, z = (g5 0).len := ⟨_, rfl⟩
  obtain ⟨ck, hck⟩ : ∃ z, z = (g5 0).cap := ⟨_, rfl⟩
  obtain ⟨Fk, hFk⟩ : ∃ z, z = F 0 := ⟨_, rfl⟩
  rw [← hrk, ← hak, ← hlk, ← hck, ← hFk] at hbk
  rw [← hrk] at e0 e1 e2 e3
  rw [← hak, ← hlk, ← hck] at e4
  rw [← hFk]
  obtain ⟨hbk1, hck1⟩ := hbk
  have BK := Lib.hid hbk1
  obtain ⟨bp, offp, rfl, hbp, f0⟩ := hp.out.at (k := 0) (by omega)
  obtain ⟨b2, off2, e, -, f1⟩ := hp.out.at (k := 1) (by omega)
  cases e
  simp only [Nat.add_zero] at f0
  have hof := hk.rad (by omega)
  have hra := hrad (by omega)
  have gc := grow_cnt (near_of_small hsm) hs (ry := p 1) (by omega)
  obtain ⟨v0, hv0⟩ : ∃ z, z = p 0 := ⟨_, rfl⟩
  obtain ⟨v1, hv1⟩ : ∃ z, z = p 1 := ⟨_, rfl⟩
  rw [← hv0] at f0 hof ⊢
  rw [← hv1] at f1 hof ⊢
  rw [← hv0, ← hv1] at hra
  rw [← hv1] at gc
  have HB : Hid (∀ W, Grows w W → Calls Tryz.prog 29 #[.agg #[.int .i64 rk.x0, .int .i64 rk.y0, .int .i64 rk.x1, .int .i64 rk.y1, .slice ak lk ck], .agg #[.int .i64 b.x0, .int .i64 b.y0, .int .i64 b.x1, .int .i64 b.y1], .int .i64 v0, .int .i64 v1, .bool false] W (RetBuf W (someR b) (boxM false b v0 v1 Fk))) := fun W g => by have := ref09_Box b rk ak lk ck Fk v0 v1 false W (Lib.hid (BK.out.grows g)) (by omega) hb (by omega) (by omega) (by omega) (by omega) (by omega); rw [docM_box hsm (by omega)] at this; exact this
  obtain ⟨B, hB⟩ : ∃ B, B = boxM false b v0 v1 Fk := ⟨_, rfl⟩
  obtain ⟨t, ht⟩ : ∃ t, t = someR b := ⟨_, rfl⟩
  rw [← hB] at HB ⊢
  rw [← ht] at HB ⊢
  clear hB ht hp hl hbs hrad hrad11 hs hsm hlp hb hk hrk hak hlk hck hFk hbk1 hv0 hv1 gc hra
  go_enter Tryz.func9, Tryz.ntmps9
  go_wp2
  first | refine region_grow_tail2 10 (by kernel_rfl) (by kernel_rfl) ?_ | refine region_grow_tail 10 (by kernel_rfl) (by kernel_rfl) ?_
  simp only [List.take_succ_cons, List.take_zero, List.drop_succ_cons, List.drop_zero]
  repeat (go_big_quiet_step (fail))
  refine wpQuiet_nil ?_
  rintro _ ⟨gd, rfl⟩
  go_wp2_with ((go_at_call 29; (with_reducible refine Calls.mono (HB.out _ ?_) ?_); (exact (by repeat (first | exact Grows.refl _ | apply Grows.grow | apply Grows.alloc | apply Grows.drew))); rintro e w' ⟨a2, l2, p2, rfl, hgw, HB2⟩; (first | (obtain ⟨gw, rfl⟩ := grows_of_grow hgw) | (obtain ⟨gw, rfl⟩ := hgw))))
  refine bodyPost_ret (results_cell_row rfl _ _ _ 32 #[.int .i64 t.x0, .int .i64 t.y0, .int .i64 t.x1, .int .i64 t.y1, .slice a2 l2 p2] (0, 0) _ rfl (by repeat (first | exact blk_at _ _ _ (by first | omega | (simp; done) | (simp; omega)) | refine (blk_past _ _ _ (by first | omega | (simp; done) | (simp; omega))).trans ?_ | refine (heap_grow _ _ _ (by first | omega | (simp; done) | (simp; omega))).trans ?_ | refine (blk_drew _ _).trans ?_)) Tryz.underlying32 rfl buf_info) rfl ⟨a2, l2, p2, rfl, (by repeat (first | exact Grows.refl _ | apply Grows.grow | apply Grows.alloc | apply Grows.drew)), (by first | exact swap_ret HB2.out (by first | omega | (simp; done) | (simp; omega)) (by first | omega | (simp; done) | (simp; omega)))⟩
set_option maxRecDepth 100000 in
set_option maxHeartbeats 6400000 in
theorem ref15_Do_4 (ia : Option Addr) (il ic : Nat) (pa : Option Addr) (pl pc : Nat) (p : Nat → Int) (al : Option Addr) (ll cl : Nat) (g5 : Nat → Bf) (F : Nat → Img) (b : R) (w : World) (hp : Hid (IsInts w pa pl pc p)) (hlp : (pl : Int) = prmN 4) (hl : Hid (IsBufs w al ll cl g5)) (hbs : Hid (∀ i, i < ll → BufAt w (g5 i).r (g5 i).a (g5 i).len (g5 i).cap (F i) ∧ cntR (g5 i).r ≤ 30000000000000)) (hk : NodeOk 4 p ll) (hsm : smallR b) (hs : cntR (someR b) ≤ 300) (hrad : (4 : Int) = 2 ∨ (4 : Int) = 3 ∨ (4 : Int) = 4 → p 0 ≤ 6 ∧ p 1 ≤ 6) (hrad11 : (4 : Int) = 11 → p 2 ≤ 6 ∧ p 3 ≤ 6) :
    Calls Tryz.prog 9 #[.agg #[.int .i64 4, .slice ia il ic, .slice pa pl pc], .slice al ll cl, .agg #[.int .i64 b.x0, .int .i64 b.y0, .int .i64 b.x1, .int .i64 b.y1]] w (RetBuf w (someR b) (boxM true b (p 0) (p 1) (F 0))) := by
  have n1 := hk.one (by omega)
  have hb := hsm.right
  have m1 := hp.out.le
  have m2 := hp.out.most
  have m3 := hl.out.le
  have m4 := hl.out.most
  obtain rfl : pl = 2 := by have : prmN 4 = 2 := (by decide); omega
  obtain ⟨b', off', rfl, hb', e0, e1, e2, e3, e4⟩ := hl.out.at (k := 0) (by omega)
  have hbk := hbs.out 0 (by omega)
  simp only [Nat.zero_mul, Nat.add_zero] at e0 e1 e2 e3 e4
  obtain ⟨rk, hrk⟩ : ∃ z, z = (g5 0).r := ⟨_, rfl⟩
  obtain ⟨ak, hak⟩ : ∃ z, z = (g5 0).a := ⟨_, rfl⟩
  obtain ⟨lk, hlk⟩ : ∃ z, z = (g5 0).len := ⟨_, rfl⟩
  obtain ⟨ck, hck⟩ : ∃ z, z = (g5 0).cap := ⟨_, rfl⟩
  obtain ⟨Fk, hFk⟩ : ∃ z, z = F 0 := ⟨_, rfl⟩
  rw [← hrk, ← hak, ← hlk, ← hck, ← hFk] at hbk
  rw [← hrk] at e0 e1 e2 e3
  rw [← hak, ← hlk, ← hck] at e4
  rw [← hFk]
  obtain ⟨hbk1, hck1⟩ := hbk
  have BK := Lib.hid hbk1
  obtain ⟨bp, offp, rfl, hbp, f0⟩ := hp.out.at (k := 0) (by omega)
  obtain ⟨b2, off2, e, -, f1⟩ := hp.out.at (k := 1) (by omega)
  cases e
  simp only [Nat.add_zero] at f0
  have hof := hk.rad (by omega)
  have hra := hrad (by omega)
  have gc := grow_cnt (near_of_small hsm) hs (ry := p 1) (by omega)
  obtain ⟨v0, hv0⟩ : ∃ z, z = p 0 := ⟨_, rfl⟩
  obtain ⟨v1, hv1⟩ : ∃ z, z = p 1 := ⟨_, rfl⟩
  rw [← hv0] at f0 hof ⊢
  rw [← hv1] at f1 hof ⊢
  rw [← hv0, ← hv1] at hra
  rw [← hv1] at gc
  have HB : Hid (∀ W, Grows w W → Calls Tryz.prog 29 #[.agg #[.int .i64 rk.x0, .int .i64 rk.y0, .int .i64 rk.x1, .int .i64 rk.y1, .slice ak lk ck], .agg #[.int .i64 b.x0, .int .i64 b.y0, .int .i64 b.x1, .int .i64 b.y1], .int .i64 v0, .int .i64 v1, .bool true] W (RetBuf W (someR b) (boxM true b v0 v1 Fk))) := fun W g => by have := ref09_Box b rk ak lk ck Fk v0 v1 true W (Lib.hid (BK.out.grows g)) (by omega) hb (by omega) (by omega) (by omega) (by omega) (by omega); rw [docM_box hsm (by omega)] at this; exact this
  obtain ⟨B, hB⟩ : ∃ B, B = boxM true b v0 v1 Fk := ⟨_, rfl⟩
  obtain ⟨t, ht⟩ : ∃ t, t = someR b := ⟨_, rfl⟩
  rw [← hB] at HB ⊢
  rw [← ht] at HB ⊢
  clear hB ht hp hl hbs hrad hrad11 hs hsm hlp hb hk hrk hak hlk hck hFk hbk1 hv0 hv1 gc hra
  go_enter Tryz.func9, Tryz.ntmps9
  go_wp2
  first | refine region_grow_tail2 10 (by kernel_rfl) (by kernel_rfl) ?_ | refine region_grow_tail 10 (by kernel_rfl) (by kernel_rfl) ?_
  simp only [List.take_succ_cons, List.take_zero, List.drop_succ_cons, List.drop_zero]
  repeat (go_big_quiet_step (fail))
  refine wpQuiet_nil ?_
  rintro _ ⟨gd, rfl⟩
  go_wp2_with ((go_at_call 29; (with_reducible refine Calls.mono (HB.out _ ?_) ?_); (exact (by repeat (first | exact Grows.refl _ | apply Grows.grow | apply Grows.alloc | apply Grows.drew))); rintro e w' ⟨a2, l2, p2, rfl, hgw, HB2⟩; (first | (obtain ⟨gw, rfl⟩ := grows_of_grow hgw) | (obtain ⟨gw, rfl⟩ := hgw))))
  refine bodyPost_ret (results_cell_row rfl _ _ _ 32 #[.int .i64 t.x0, .int .i64 t.y0, .int .i64 t.x1, .int .i64 t.y1, .slice a2 l2 p2] (0, 0) _ rfl (by repeat (first | exact blk_at _ _ _ (by first | omega | (simp; done) | (simp; omega)) | refine (blk_past _ _ _ (by first | omega | (simp; done) | (simp; omega))).trans ?_ | refine (heap_grow _ _ _ (by first | omega | (simp; done) | (simp; omega))).trans ?_ | refine (blk_drew _ _).trans ?_)) Tryz.underlying32 rfl buf_info) rfl ⟨a2, l2, p2, rfl, (by repeat (first | exact Grows.refl _ | apply Grows.grow | apply Grows.alloc | apply Grows.drew)), (by first | exact swap_ret HB2.out (by first | omega | (simp; done) | (simp; omega)) (by first | omega | (simp; done) | (simp; omega)))⟩
set_option maxRecDepth 100000 in
set_option maxHeartbeats 6400000 in
theorem ref15_Do_10 (ia : Option Addr) (il ic : Nat) (pa : Option Addr) (pl pc : Nat) (p : Nat → Int) (al : Option Addr) (ll cl : Nat) (g5 : Nat → Bf) (F : Nat → Img) (b : R) (w : World) (hp : Hid (IsInts w pa pl pc p)) (hlp : (pl : Int) = prmN 10) (hl : Hid (IsBufs w al ll cl g5)) (hbs : Hid (∀ i, i < ll → BufAt w (g5 i).r (g5 i).a (g5 i).len (g5 i).cap (F i) ∧ cntR (g5 i).r ≤ 30000000000000)) (hk : NodeOk 10 p ll) (hsm : smallR b) (hs : cntR (someR b) ≤ 300) (hrad : (10 : Int) = 2 ∨ (10 : Int) = 3 ∨ (10 : Int) = 4 → p 0 ≤ 6 ∧ p 1 ≤ 6) (hrad11 : (10 : Int) = 11 → p 2 ≤ 6 ∧ p 3 ≤ 6) :
    Calls Tryz.prog 9 #[.agg #[.int .i64 10, .slice ia il ic, .slice pa pl pc], .slice al ll cl, .agg #[.int .i64 b.x0, .int .i64 b.y0, .int .i64 b.x1, .int .i64 b.y1]] w (RetBuf w (someR b) (tileF b (boxO p 0) (F 0))) := by
  have n1 := hk.one (by omega)
  have hb := hsm.right
  have m1 := hp.out.le
  have m2 := hp.out.most
  have m3 := hl.out.le
  have m4 := hl.out.most
  obtain rfl : pl = 4 := by have : prmN 10 = 4 := (by decide); omega
  obtain ⟨b', off', rfl, hb', e0, e1, e2, e3, e4⟩ := hl.out.at (k := 0) (by omega)
  have hbk := hbs.out 0 (by omega)
  simp only [Nat.zero_mul, Nat.add_zero] at e0 e1 e2 e3 e4
  obtain ⟨rk, hrk⟩ : ∃ z, z = (g5 0).r := ⟨_, rfl⟩
  obtain ⟨ak, hak⟩ : ∃ z, z = (g5 0).a := ⟨_, rfl⟩
  obtain ⟨lk, hlk⟩ : ∃ z, z = (g5 0).len := ⟨_, rfl⟩
  obtain ⟨ck, hck⟩ : ∃ z, z = (g5 0).cap := ⟨_, rfl⟩
  obtain ⟨Fk, hFk⟩ : ∃ z, z = F 0 := ⟨_, rfl⟩
  rw [← hrk, ← hak, ← hlk, ← hck, ← hFk] at hbk
  rw [← hrk] at e0 e1 e2 e3
  rw [← hak, ← hlk, ← hck] at e4
  rw [← hFk]
  obtain ⟨hbk1, hck1⟩ := hbk
  have BK := Lib.hid hbk1
  have hof := hk.box10 rfl
  obtain ⟨bp, offp, rfl, hbp, -⟩ := hp.out.at (k := 0) (by omega)
  have hbr := hof.1.right
  have hbe : emptyR (boxO p 0) = false := (emptyR_not _).2 (by simp only [boxO, Nat.zero_add]; omega)
  have HB : Hid (∀ W, Grows w W → Calls Tryz.prog 34 #[.agg #[.int .i64 rk.x0, .int .i64 rk.y0, .int .i64 rk.x1, .int .i64 rk.y1, .slice ak lk ck], .agg #[.int .i64 b.x0, .int .i64 b.y0, .int .i64 b.x1, .int .i64 b.y1], .agg #[.int .i64 (boxO p 0).x0, .int .i64 (boxO p 0).y0, .int .i64 (boxO p 0).x1, .int .i64 (boxO p 0).y1]] W (RetBuf W (someR b) (tileF b (boxO p 0) Fk))) := fun W g => ref10_Tile b rk (boxO p 0) ak lk ck Fk W (Lib.hid (BK.out.grows g)) (by omega) hb (by omega) hbe hbr
  obtain ⟨bx, hbx⟩ : ∃ z, z = boxO p 0 := ⟨_, rfl⟩
  have HBX : Hid (∀ W, Grows w W → Calls Tryz.prog 32 #[.slice (some ⟨bp, offp, none⟩) 4 pc, .int .i64 0] W fun e w' => e = .returned (.agg #[.int .i64 bx.x0, .int .i64 bx.y0, .int .i64 bx.x1, .int .i64 bx.y1]) ∧ Grows W w') := fun W g => ref13_BoxIs _ 4 pc p 0 bx W (Lib.hid (hp.out.grows g)) (by omega) (by omega) hbx.symm
  rw [← hbx] at HB ⊢
  obtain ⟨B, hB⟩ : ∃ B, B = tileF b bx Fk := ⟨_, rfl⟩
  obtain ⟨t, ht⟩ : ∃ t, t = someR b := ⟨_, rfl⟩
  rw [← hB] at HB ⊢
  rw [← ht] at HB ⊢
  clear hB ht hp hl hbs hrad hrad11 hs hsm hlp hb hk hrk hak hlk hck hFk hbk1 hbx hbe hbr hof
  go_enter Tryz.func9, Tryz.ntmps9
  go_wp2
  first | refine region_grow_tail2 6 (by kernel_rfl) (by kernel_rfl) ?_ | refine region_grow_tail 6 (by kernel_rfl) (by kernel_rfl) ?_
  simp only [List.take_succ_cons, List.take_zero, List.drop_succ_cons, List.drop_zero]
  repeat (go_big_quiet_step ((first | (go_at_call 32; exact grow_of (HBX.out _ (by repeat (first | exact Grows.refl _ | apply Grows.grow | apply Grows.alloc | apply Grows.drew)))))))
  refine wpQuiet_nil ?_
  rintro _ ⟨gd, rfl⟩
  go_wp2_with ((go_at_call 34; (with_reducible refine Calls.mono (HB.out _ ?_) ?_); (exact (by repeat (first | exact Grows.refl _ | apply Grows.grow | apply Grows.alloc | apply Grows.drew))); rintro e w' ⟨a2, l2, p2, rfl, hgw, HB2⟩; (first | (obtain ⟨gw, rfl⟩ := grows_of_grow hgw) | (obtain ⟨gw, rfl⟩ := hgw))))
  refine bodyPost_ret (results_cell_row rfl _ _ _ 32 #[.int .i64 t.x0, .int .i64 t.y0, .int .i64 t.x1, .int .i64 t.y1, .slice a2 l2 p2] (0, 0) _ rfl (by repeat (first | exact blk_at _ _ _ (by first | omega | (simp; done) | (simp; omega)) | refine (blk_past _ _ _ (by first | omega | (simp; done) | (simp; omega))).trans ?_ | refine (heap_grow _ _ _ (by first | omega | (simp; done) | (simp; omega))).trans ?_ | refine (blk_drew _ _).trans ?_)) Tryz.underlying32 rfl buf_info) rfl ⟨a2, l2, p2, rfl, (by repeat (first | exact Grows.refl _ | apply Grows.grow | apply Grows.alloc | apply Grows.drew)), (by first | exact swap_ret HB2.out (by first | omega | (simp; done) | (simp; omega)) (by first | omega | (simp; done) | (simp; omega)))⟩
set_option maxRecDepth 100000 in
set_option maxHeartbeats 6400000 in
theorem ref15_Do_11 (ia : Option Addr) (il ic : Nat) (pa : Option Addr) (pl pc : Nat) (p : Nat → Int) (al : Option Addr) (ll cl : Nat) (g5 : Nat → Bf) (F : Nat → Img) (b : R) (w : World) (hp : Hid (IsInts w pa pl pc p)) (hlp : (pl : Int) = prmN 11) (hl : Hid (IsBufs w al ll cl g5)) (hbs : Hid (∀ i, i < ll → BufAt w (g5 i).r (g5 i).a (g5 i).len (g5 i).cap (F i) ∧ cntR (g5 i).r ≤ 30000000000000)) (hk : NodeOk 11 p ll) (hsm : smallR b) (hs : cntR (someR b) ≤ 300) (hrad : (11 : Int) = 2 ∨ (11 : Int) = 3 ∨ (11 : Int) = 4 → p 0 ≤ 6 ∧ p 1 ≤ 6) (hrad11 : (11 : Int) = 11 → p 2 ≤ 6 ∧ p 3 ≤ 6) :
    Calls Tryz.prog 9 #[.agg #[.int .i64 11, .slice ia il ic, .slice pa pl pc], .slice al ll cl, .agg #[.int .i64 b.x0, .int .i64 b.y0, .int .i64 b.x1, .int .i64 b.y1]] w (RetBuf w (someR b) (shadowF b (p 0) (p 1) (p 2) (p 3) (pxO p 4) (F 0))) := by
  have n1 := hk.one (by omega)
  have hb := hsm.right
  have m1 := hp.out.le
  have m2 := hp.out.most
  have m3 := hl.out.le
  have m4 := hl.out.most
  obtain rfl : pl = 8 := by have : prmN 11 = 8 := (by decide); omega
  obtain ⟨b', off', rfl, hb', e0, e1, e2, e3, e4⟩ := hl.out.at (k := 0) (by omega)
  have hbk := hbs.out 0 (by omega)
  simp only [Nat.zero_mul, Nat.add_zero] at e0 e1 e2 e3 e4
  obtain ⟨rk, hrk⟩ : ∃ z, z = (g5 0).r := ⟨_, rfl⟩
  obtain ⟨ak, hak⟩ : ∃ z, z = (g5 0).a := ⟨_, rfl⟩
  obtain ⟨lk, hlk⟩ : ∃ z, z = (g5 0).len := ⟨_, rfl⟩
  obtain ⟨ck, hck⟩ : ∃ z, z = (g5 0).cap := ⟨_, rfl⟩
  obtain ⟨Fk, hFk⟩ : ∃ z, z = F 0 := ⟨_, rfl⟩
  rw [← hrk, ← hak, ← hlk, ← hck, ← hFk] at hbk
  rw [← hrk] at e0 e1 e2 e3
  rw [← hak, ← hlk, ← hck] at e4
  rw [← hFk]
  obtain ⟨hbk1, hck1⟩ := hbk
  have BK := Lib.hid hbk1
  obtain ⟨bp, offp, rfl, hbp, f0⟩ := hp.out.at (k := 0) (by omega)
  obtain ⟨b2, off2, e, -, f1⟩ := hp.out.at (k := 1) (by omega)
  cases e
  obtain ⟨b2, off2, e, -, f2⟩ := hp.out.at (k := 2) (by omega)
  cases e
  obtain ⟨b2, off2, e, -, f3⟩ := hp.out.at (k := 3) (by omega)
  cases e
  simp only [Nat.add_zero] at f0
  have hof := hk.off11 rfl
  have hra := hrad11 rfl
  have ok6 := (hk.px11 rfl).1
  obtain ⟨th1, th2, th3⟩ := there_facts hsm hs hof.1.1 hof.1.2 (ry := p 3) (by omega)
  obtain ⟨v0, hv0⟩ : ∃ z, z = p 0 := ⟨_, rfl⟩
  obtain ⟨v1, hv1⟩ : ∃ z, z = p 1 := ⟨_, rfl⟩
  obtain ⟨v2, hv2⟩ : ∃ z, z = p 2 := ⟨_, rfl⟩
  obtain ⟨v3, hv3⟩ : ∃ z, z = p 3 := ⟨_, rfl⟩
  obtain ⟨pr, hpr⟩ : ∃ z, z = pxO p 4 := ⟨_, rfl⟩
  rw [← hpr] at ok6
  have HPX : Hid (∀ W, Grows w W → Calls Tryz.prog 31 #[.slice (some ⟨bp, offp, none⟩) 8 pc, .int .i64 4] W fun e w' => e = .returned (.agg #[.int .u8 pr.r, .int .u8 pr.g, .int .u8 pr.b, .int .u8 pr.a]) ∧ Grows W w') := fun W g => ref15_pixel _ 8 pc p 4 4 pr W (Lib.hid (hp.out.grows g)) rfl (by omega) (by omega) (Lib.hid hpr.symm) ok6
  rw [← hv0, ← hv1, ← hv2, ← hv3] at hof
  rw [← hv2, ← hv3] at hra
  rw [← hv0, ← hv1] at th1 th3
  rw [← hv0, ← hv1, ← hv3] at th2
  rw [← hv0] at f0
  rw [← hv1] at f1
  rw [← hv2] at f2
  rw [← hv3] at f3
  rw [← hv0, ← hv1, ← hv2, ← hv3, ← hpr]
  have HB : Hid (∀ W, Grows w W → Calls Tryz.prog 35 #[.agg #[.int .i64 rk.x0, .int .i64 rk.y0, .int .i64 rk.x1, .int .i64 rk.y1, .slice ak lk ck], .agg #[.int .i64 b.x0, .int .i64 b.y0, .int .i64 b.x1, .int .i64 b.y1], .int .i64 v0, .int .i64 v1, .int .i64 v2, .int .i64 v3, .agg #[.int .u8 pr.r, .int .u8 pr.g, .int .u8 pr.b, .int .u8 pr.a]] W (RetBuf W (someR b) (shadowF b v0 v1 v2 v3 pr Fk))) := fun W g => ref10_Shadow b rk ak lk ck Fk v0 v1 v2 v3 pr W (Lib.hid (BK.out.grows g)) (by omega) hb (by omega) ok6 (by omega) (by omega) (by omega) (by omega) th1 (by omega) (by omega)
  obtain ⟨B, hB⟩ : ∃ B, B = shadowF b v0 v1 v2 v3 pr Fk := ⟨_, rfl⟩
  obtain ⟨t, ht⟩ : ∃ t, t = someR b := ⟨_, rfl⟩
  rw [← hB] at HB ⊢
  rw [← ht] at HB ⊢
  clear hB ht hp hl hbs hrad hrad11 hs hsm hlp hb hk hrk hak hlk hck hFk hbk1 hv0 hv1 hv2 hv3 hpr th1 th2 th3 hof hra
  go_enter Tryz.func9, Tryz.ntmps9
  go_wp2
  first | refine region_grow_tail2 18 (by kernel_rfl) (by kernel_rfl) ?_ | refine region_grow_tail 18 (by kernel_rfl) (by kernel_rfl) ?_
  simp only [List.take_succ_cons, List.take_zero, List.drop_succ_cons, List.drop_zero]
  repeat (go_big_quiet_step ((first | (go_at_call 31; exact grow_of (HPX.out _ (by repeat (first | exact Grows.refl _ | apply Grows.grow | apply Grows.alloc | apply Grows.drew)))))))
  refine wpQuiet_nil ?_
  rintro _ ⟨gd, rfl⟩
  go_wp2_with ((go_at_call 35; (with_reducible refine Calls.mono (HB.out _ ?_) ?_); (exact (by repeat (first | exact Grows.refl _ | apply Grows.grow | apply Grows.alloc | apply Grows.drew))); rintro e w' ⟨a2, l2, p2, rfl, hgw, HB2⟩; (first | (obtain ⟨gw, rfl⟩ := grows_of_grow hgw) | (obtain ⟨gw, rfl⟩ := hgw))))
  refine bodyPost_ret (results_cell_row rfl _ _ _ 32 #[.int .i64 t.x0, .int .i64 t.y0, .int .i64 t.x1, .int .i64 t.y1, .slice a2 l2 p2] (0, 0) _ rfl (by repeat (first | exact blk_at _ _ _ (by first | omega | (simp; done) | (simp; omega)) | refine (blk_past _ _ _ (by first | omega | (simp; done) | (simp; omega))).trans ?_ | refine (heap_grow _ _ _ (by first | omega | (simp; done) | (simp; omega))).trans ?_ | refine (blk_drew _ _).trans ?_)) Tryz.underlying32 rfl buf_info) rfl ⟨a2, l2, p2, rfl, (by repeat (first | exact Grows.refl _ | apply Grows.grow | apply Grows.alloc | apply Grows.drew)), (by first | exact swap_ret HB2.out (by first | omega | (simp; done) | (simp; omega)) (by first | omega | (simp; done) | (simp; omega)))⟩
set_option maxRecDepth 100000 in
set_option maxHeartbeats 6400000 in
theorem ref15_Do_6 (ia : Option Addr) (il ic : Nat) (pa : Option Addr) (pl pc : Nat) (p : Nat → Int) (al : Option Addr) (ll cl : Nat) (g5 : Nat → Bf) (F : Nat → Img) (b : R) (w : World) (hp : Hid (IsInts w pa pl pc p)) (hlp : (pl : Int) = prmN 6) (hl : Hid (IsBufs w al ll cl g5)) (hbs : Hid (∀ i, i < ll → BufAt w (g5 i).r (g5 i).a (g5 i).len (g5 i).cap (F i) ∧ cntR (g5 i).r ≤ 30000000000000)) (hk : NodeOk 6 p ll) (hsm : smallR b) (hs : cntR (someR b) ≤ 300) (hrad : (6 : Int) = 2 ∨ (6 : Int) = 3 ∨ (6 : Int) = 4 → p 0 ≤ 6 ∧ p 1 ≤ 6) (hrad11 : (6 : Int) = 11 → p 2 ≤ 6 ∧ p 3 ≤ 6) :
    Calls Tryz.prog 9 #[.agg #[.int .i64 6, .slice ia il ic, .slice pa pl pc], .slice al ll cl, .agg #[.int .i64 b.x0, .int .i64 b.y0, .int .i64 b.x1, .int .i64 b.y1]] w (RetBuf w (someR b) (cutF (someR b) (fun x y => if hasR (boxO p 4) x y = true then pxO p 0 else noP))) := by
  have hb := hsm.right
  have m1 := hp.out.le
  have m2 := hp.out.most
  have m3 := hl.out.le
  have m4 := hl.out.most
  obtain rfl : pl = 8 := by have : prmN 6 = 8 := (by decide); omega
  obtain ⟨ok6, -⟩ := hk.px6 rfl
  obtain ⟨bp, offp, rfl, hbp, -⟩ := hp.out.at (k := 0) (by omega)
  obtain ⟨pr, hpr⟩ : ∃ z, z = pxO p 0 := ⟨_, rfl⟩
  obtain ⟨bx, hbx⟩ : ∃ z, z = boxO p 4 := ⟨_, rfl⟩
  rw [← hpr] at ok6
  have HPX : Hid (∀ W, Grows w W → Calls Tryz.prog 31 #[.slice (some ⟨bp, offp, none⟩) 8 pc, .int .i64 0] W fun e w' => e = .returned (.agg #[.int .u8 pr.r, .int .u8 pr.g, .int .u8 pr.b, .int .u8 pr.a]) ∧ Grows W w') := fun W g => ref15_pixel _ 8 pc p 0 0 pr W (Lib.hid (hp.out.grows g)) rfl (by omega) (by omega) (Lib.hid hpr.symm) ok6
  have HBX : Hid (∀ W, Grows w W → Calls Tryz.prog 32 #[.slice (some ⟨bp, offp, none⟩) 8 pc, .int .i64 4] W fun e w' => e = .returned (.agg #[.int .i64 bx.x0, .int .i64 bx.y0, .int .i64 bx.x1, .int .i64 bx.y1]) ∧ Grows W w') := fun W g => ref13_BoxIs _ 8 pc p 4 bx W (Lib.hid (hp.out.grows g)) (by omega) (by omega) hbx.symm
  rw [← hpr, ← hbx, ← floodF_at]
  have HB : Hid (∀ W, Grows w W → Calls Tryz.prog 30 #[.agg #[.int .i64 b.x0, .int .i64 b.y0, .int .i64 b.x1, .int .i64 b.y1], .agg #[.int .u8 pr.r, .int .u8 pr.g, .int .u8 pr.b, .int .u8 pr.a], .agg #[.int .i64 bx.x0, .int .i64 bx.y0, .int .i64 bx.x1, .int .i64 bx.y1]] W (RetBuf W (someR b) (fillF (someR b) bx pr noF))) := fun W g => ref10_Flood b bx pr W ok6 hb (by omega)
  obtain ⟨B, hB⟩ : ∃ B, B = fillF (someR b) bx pr noF := ⟨_, rfl⟩
  obtain ⟨t, ht⟩ : ∃ t, t = someR b := ⟨_, rfl⟩
  rw [← hB] at HB ⊢
  rw [← ht] at HB ⊢
  clear hB ht hp hl hbs hrad hrad11 hs hsm hlp hb hk hpr hbx
  go_enter Tryz.func9, Tryz.ntmps9
  go_wp2
  first | refine region_grow_tail2 5 (by kernel_rfl) (by kernel_rfl) ?_ | refine region_grow_tail 5 (by kernel_rfl) (by kernel_rfl) ?_
  simp only [List.take_succ_cons, List.take_zero, List.drop_succ_cons, List.drop_zero]
  repeat (go_big_quiet_step ((first | (go_at_call 31; exact grow_of (HPX.out _ (by repeat (first | exact Grows.refl _ | apply Grows.grow | apply Grows.alloc | apply Grows.drew)))) | (go_at_call 32; exact grow_of (HBX.out _ (by repeat (first | exact Grows.refl _ | apply Grows.grow | apply Grows.alloc | apply Grows.drew)))))))
  refine wpQuiet_nil ?_
  rintro _ ⟨gd, rfl⟩
  go_wp2_with ((go_at_call 30; (with_reducible refine Calls.mono (HB.out _ ?_) ?_); (exact (by repeat (first | exact Grows.refl _ | apply Grows.grow | apply Grows.alloc | apply Grows.drew))); rintro e w' ⟨a2, l2, p2, rfl, hgw, HB2⟩; (first | (obtain ⟨gw, rfl⟩ := grows_of_grow hgw) | (obtain ⟨gw, rfl⟩ := hgw))))
  refine bodyPost_ret (results_cell_row rfl _ _ _ 32 #[.int .i64 t.x0, .int .i64 t.y0, .int .i64 t.x1, .int .i64 t.y1, .slice a2 l2 p2] (0, 0) _ rfl (by repeat (first | exact blk_at _ _ _ (by first | omega | (simp; done) | (simp; omega)) | refine (blk_past _ _ _ (by first | omega | (simp; done) | (simp; omega))).trans ?_ | refine (heap_grow _ _ _ (by first | omega | (simp; done) | (simp; omega))).trans ?_ | refine (blk_drew _ _).trans ?_)) Tryz.underlying32 rfl buf_info) rfl ⟨a2, l2, p2, rfl, (by repeat (first | exact Grows.refl _ | apply Grows.grow | apply Grows.alloc | apply Grows.drew)), (by first | exact swap_ret HB2.out (by first | omega | (simp; done) | (simp; omega)) (by first | omega | (simp; done) | (simp; omega)))⟩
set_option maxRecDepth 100000 in
set_option maxHeartbeats 6400000 in
theorem ref15_Do_9 (ia : Option Addr) (il ic : Nat) (pa : Option Addr) (pl pc : Nat) (p : Nat → Int) (al : Option Addr) (ll cl : Nat) (g5 : Nat → Bf) (F : Nat → Img) (b : R) (w : World) (hp : Hid (IsInts w pa pl pc p)) (hlp : (pl : Int) = prmN 9) (hl : Hid (IsBufs w al ll cl g5)) (hbs : Hid (∀ i, i < ll → BufAt w (g5 i).r (g5 i).a (g5 i).len (g5 i).cap (F i) ∧ cntR (g5 i).r ≤ 30000000000000)) (hk : NodeOk 9 p ll) (hsm : smallR b) (hs : cntR (someR b) ≤ 300) (hrad : (9 : Int) = 2 ∨ (9 : Int) = 3 ∨ (9 : Int) = 4 → p 0 ≤ 6 ∧ p 1 ≤ 6) (hrad11 : (9 : Int) = 11 → p 2 ≤ 6 ∧ p 3 ≤ 6) :
    Calls Tryz.prog 9 #[.agg #[.int .i64 9, .slice ia il ic, .slice pa pl pc], .slice al ll cl, .agg #[.int .i64 b.x0, .int .i64 b.y0, .int .i64 b.x1, .int .i64 b.y1]] w (RetBuf w (someR b) (cutF (someR b) (fun x y => foldP (fun i => F i x y) ll))) := by
  have hb := hsm.right
  have m1 := hp.out.le
  have m2 := hp.out.most
  have m3 := hl.out.le
  have m4 := hl.out.most
  obtain rfl : pl = 0 := by have : prmN 9 = 0 := (by decide); omega
  rw [← mergeF_fold]
  have HB : Hid (∀ W, Grows w W → Calls Tryz.prog 33 #[.slice al ll cl, .agg #[.int .i64 b.x0, .int .i64 b.y0, .int .i64 b.x1, .int .i64 b.y1]] W (RetBuf W (someR b) (mergeF (someR b) F ll))) := fun W g => ref10_Merge b al ll cl g5 F W (Lib.hid (hl.out.grows g)) (Lib.hid (fun i hi => ⟨(hbs.out i hi).1.grows g, (hbs.out i hi).2⟩)) hb (by omega)
  obtain ⟨B, hB⟩ : ∃ B, B = mergeF (someR b) F ll := ⟨_, rfl⟩
  obtain ⟨t, ht⟩ : ∃ t, t = someR b := ⟨_, rfl⟩
  rw [← hB] at HB ⊢
  rw [← ht] at HB ⊢
  clear hB ht hp hl hbs hrad hrad11 hs hsm hlp hb hk
  go_enter Tryz.func9, Tryz.ntmps9
  go_wp2_with ((go_at_call 33; (with_reducible refine Calls.mono (HB.out _ ?_) ?_); (exact (by repeat (first | exact Grows.refl _ | apply Grows.grow | apply Grows.alloc | apply Grows.drew))); rintro e w' ⟨a2, l2, p2, rfl, hgw, HB2⟩; (first | (obtain ⟨gw, rfl⟩ := grows_of_grow hgw) | (obtain ⟨gw, rfl⟩ := hgw))))
  refine bodyPost_ret (results_cell_row rfl _ _ _ 32 #[.int .i64 t.x0, .int .i64 t.y0, .int .i64 t.x1, .int .i64 t.y1, .slice a2 l2 p2] (0, 0) _ rfl (by repeat (first | exact blk_at _ _ _ (by first | omega | (simp; done) | (simp; omega)) | refine (blk_past _ _ _ (by first | omega | (simp; done) | (simp; omega))).trans ?_ | refine (heap_grow _ _ _ (by first | omega | (simp; done) | (simp; omega))).trans ?_ | refine (blk_drew _ _).trans ?_)) Tryz.underlying32 rfl buf_info) rfl ⟨a2, l2, p2, rfl, (by repeat (first | exact Grows.refl _ | apply Grows.grow | apply Grows.alloc | apply Grows.drew)), (by first | exact swap_ret HB2.out (by first | omega | (simp; done) | (simp; omega)) (by first | omega | (simp; done) | (simp; omega)))⟩
set_option maxRecDepth 100000 in
set_option maxHeartbeats 6400000 in
theorem ref15_Do_12 (ia : Option Addr) (il ic : Nat) (pa : Option Addr) (pl pc : Nat) (p : Nat → Int) (al : Option Addr) (ll cl : Nat) (g5 : Nat → Bf) (F : Nat → Img) (b : R) (w : World) (hp : Hid (IsInts w pa pl pc p)) (hlp : (pl : Int) = prmN 12) (hl : Hid (IsBufs w al ll cl g5)) (hbs : Hid (∀ i, i < ll → BufAt w (g5 i).r (g5 i).a (g5 i).len (g5 i).cap (F i) ∧ cntR (g5 i).r ≤ 30000000000000)) (hk : NodeOk 12 p ll) (hsm : smallR b) (hs : cntR (someR b) ≤ 300) (hrad : (12 : Int) = 2 ∨ (12 : Int) = 3 ∨ (12 : Int) = 4 → p 0 ≤ 6 ∧ p 1 ≤ 6) (hrad11 : (12 : Int) = 11 → p 2 ≤ 6 ∧ p 3 ≤ 6) :
    Calls Tryz.prog 9 #[.agg #[.int .i64 12, .slice ia il ic, .slice pa pl pc], .slice al ll cl, .agg #[.int .i64 b.x0, .int .i64 b.y0, .int .i64 b.x1, .int .i64 b.y1]] w (RetBuf w (someR b) (cutF (someR b) (fun x y => if hasR (boxO p 0) x y = true then F 0 x y else noP))) := by
  have n1 := hk.one (by omega)
  have hb := hsm.right
  have m1 := hp.out.le
  have m2 := hp.out.most
  have m3 := hl.out.le
  have m4 := hl.out.most
  obtain rfl : pl = 4 := by have : prmN 12 = 4 := (by decide); omega
  obtain ⟨b', off', rfl, hb', e0, e1, e2, e3, e4⟩ := hl.out.at (k := 0) (by omega)
  have hbk := hbs.out 0 (by omega)
  simp only [Nat.zero_mul, Nat.add_zero] at e0 e1 e2 e3 e4
  obtain ⟨rk, hrk⟩ : ∃ z, z = (g5 0).r := ⟨_, rfl⟩
  obtain ⟨ak, hak⟩ : ∃ z, z = (g5 0).a := ⟨_, rfl⟩
  obtain ⟨lk, hlk⟩ : ∃ z, z = (g5 0).len := ⟨_, rfl⟩
  obtain ⟨ck, hck⟩ : ∃ z, z = (g5 0).cap := ⟨_, rfl⟩
  obtain ⟨Fk, hFk⟩ : ∃ z, z = F 0 := ⟨_, rfl⟩
  rw [← hrk, ← hak, ← hlk, ← hck, ← hFk] at hbk
  rw [← hrk] at e0 e1 e2 e3
  rw [← hak, ← hlk, ← hck] at e4
  rw [← hFk]
  obtain ⟨hbk1, hck1⟩ := hbk
  have BK := Lib.hid hbk1
  obtain ⟨bp, offp, rfl, hbp, -⟩ := hp.out.at (k := 0) (by omega)
  obtain ⟨bx, hbx⟩ : ∃ z, z = boxO p 0 := ⟨_, rfl⟩
  have HBX : Hid (∀ W, Grows w W → Calls Tryz.prog 32 #[.slice (some ⟨bp, offp, none⟩) 4 pc, .int .i64 0] W fun e w' => e = .returned (.agg #[.int .i64 bx.x0, .int .i64 bx.y0, .int .i64 bx.x1, .int .i64 bx.y1]) ∧ Grows W w') := fun W g => ref13_BoxIs _ 4 pc p 0 bx W (Lib.hid (hp.out.grows g)) (by omega) (by omega) hbx.symm
  rw [← hbx, ← clipF_at]
  have HB : Hid (∀ W, Grows w W → Calls Tryz.prog 36 #[.agg #[.int .i64 rk.x0, .int .i64 rk.y0, .int .i64 rk.x1, .int .i64 rk.y1, .slice ak lk ck], .agg #[.int .i64 b.x0, .int .i64 b.y0, .int .i64 b.x1, .int .i64 b.y1], .agg #[.int .i64 bx.x0, .int .i64 bx.y0, .int .i64 bx.x1, .int .i64 bx.y1]] W (RetBuf W (someR b) (copyF (someR b) bx 0 0 noF Fk))) := fun W g => ref10_Clip b bx rk ak lk ck Fk W (Lib.hid (BK.out.grows g)) hb (by omega) (by omega)
  obtain ⟨B, hB⟩ : ∃ B, B = copyF (someR b) bx 0 0 noF Fk := ⟨_, rfl⟩
  obtain ⟨t, ht⟩ : ∃ t, t = someR b := ⟨_, rfl⟩
  rw [← hB] at HB ⊢
  rw [← ht] at HB ⊢
  clear hB ht hp hl hbs hrad hrad11 hs hsm hlp hb hk hrk hak hlk hck hFk hbk1 hbx
  go_enter Tryz.func9, Tryz.ntmps9
  go_wp2
  first | refine region_grow_tail2 6 (by kernel_rfl) (by kernel_rfl) ?_ | refine region_grow_tail 6 (by kernel_rfl) (by kernel_rfl) ?_
  simp only [List.take_succ_cons, List.take_zero, List.drop_succ_cons, List.drop_zero]
  repeat (go_big_quiet_step ((first | (go_at_call 32; exact grow_of (HBX.out _ (by repeat (first | exact Grows.refl _ | apply Grows.grow | apply Grows.alloc | apply Grows.drew)))))))
  refine wpQuiet_nil ?_
  rintro _ ⟨gd, rfl⟩
  go_wp2_with ((go_at_call 36; (with_reducible refine Calls.mono (HB.out _ ?_) ?_); (exact (by repeat (first | exact Grows.refl _ | apply Grows.grow | apply Grows.alloc | apply Grows.drew))); rintro e w' ⟨a2, l2, p2, rfl, hgw, HB2⟩; (first | (obtain ⟨gw, rfl⟩ := grows_of_grow hgw) | (obtain ⟨gw, rfl⟩ := hgw))))
  refine bodyPost_ret (results_cell_row rfl _ _ _ 32 #[.int .i64 t.x0, .int .i64 t.y0, .int .i64 t.x1, .int .i64 t.y1, .slice a2 l2 p2] (0, 0) _ rfl (by repeat (first | exact blk_at _ _ _ (by first | omega | (simp; done) | (simp; omega)) | refine (blk_past _ _ _ (by first | omega | (simp; done) | (simp; omega))).trans ?_ | refine (heap_grow _ _ _ (by first | omega | (simp; done) | (simp; omega))).trans ?_ | refine (blk_drew _ _).trans ?_)) Tryz.underlying32 rfl buf_info) rfl ⟨a2, l2, p2, rfl, (by repeat (first | exact Grows.refl _ | apply Grows.grow | apply Grows.alloc | apply Grows.drew)), (by first | exact swap_ret HB2.out (by first | omega | (simp; done) | (simp; omega)) (by first | omega | (simp; done) | (simp; omega)))⟩
set_option maxRecDepth 100000 in
set_option maxHeartbeats 6400000 in
theorem ref15_Do_5 (ia : Option Addr) (il ic : Nat) (pa : Option Addr) (pl pc : Nat) (p : Nat → Int) (al : Option Addr) (ll cl : Nat) (g5 : Nat → Bf) (F : Nat → Img) (b : R) (w : World) (hp : Hid (IsInts w pa pl pc p)) (hlp : (pl : Int) = prmN 5) (hl : Hid (IsBufs w al ll cl g5)) (hbs : Hid (∀ i, i < ll → BufAt w (g5 i).r (g5 i).a (g5 i).len (g5 i).cap (F i) ∧ cntR (g5 i).r ≤ 30000000000000)) (hk : NodeOk 5 p ll) (hsm : smallR b) (hs : cntR (someR b) ≤ 300) (hrad : (5 : Int) = 2 ∨ (5 : Int) = 3 ∨ (5 : Int) = 4 → p 0 ≤ 6 ∧ p 1 ≤ 6) (hrad11 : (5 : Int) = 11 → p 2 ≤ 6 ∧ p 3 ≤ 6) :
    Calls Tryz.prog 9 #[.agg #[.int .i64 5, .slice ia il ic, .slice pa pl pc], .slice al ll cl, .agg #[.int .i64 b.x0, .int .i64 b.y0, .int .i64 b.x1, .int .i64 b.y1]] w (RetBuf w (someR b) (cutF (someR b) (fun x y => tintP p (F 0 x y)))) := by
  have hb := hsm.right
  have m1 := hp.out.le
  have m2 := hp.out.most
  have m3 := hl.out.le
  have m4 := hl.out.most
  have HB : Hid (∀ W, Grows w W → Calls Tryz.prog 37 #[.agg #[.int .i64 5, .slice ia il ic, .slice pa pl pc], .slice al ll cl, .agg #[.int .i64 b.x0, .int .i64 b.y0, .int .i64 b.x1, .int .i64 b.y1]] W (RetBuf W (someR b) (cutF (someR b) (fun x y => tintP p (F 0 x y))))) := fun W g => ref15_mixed_5 ia il ic pa pl pc p al ll cl g5 F b W (Lib.hid (hp.out.grows g)) hlp (Lib.hid (hl.out.grows g)) (Lib.hid (fun i hi => ⟨(hbs.out i hi).1.grows g, (hbs.out i hi).2⟩)) hk hb hs
  obtain ⟨B, hB⟩ : ∃ B, B = cutF (someR b) (fun x y => tintP p (F 0 x y)) := ⟨_, rfl⟩
  obtain ⟨t, ht⟩ : ∃ t, t = someR b := ⟨_, rfl⟩
  rw [← hB] at HB ⊢
  rw [← ht] at HB ⊢
  clear hB ht hp hl hbs hrad hrad11 hs hsm hlp hb hk
  go_enter Tryz.func9, Tryz.ntmps9
  go_wp2_with ((go_at_call 37; (with_reducible refine Calls.mono (HB.out _ ?_) ?_); (exact (by repeat (first | exact Grows.refl _ | apply Grows.grow | apply Grows.alloc | apply Grows.drew))); rintro e w' ⟨a2, l2, p2, rfl, hgw, HB2⟩; (first | (obtain ⟨gw, rfl⟩ := grows_of_grow hgw) | (obtain ⟨gw, rfl⟩ := hgw))))
  refine bodyPost_ret (results_cell_row rfl _ _ _ 32 #[.int .i64 t.x0, .int .i64 t.y0, .int .i64 t.x1, .int .i64 t.y1, .slice a2 l2 p2] (0, 0) _ rfl (by repeat (first | exact blk_at _ _ _ (by first | omega | (simp; done) | (simp; omega)) | refine (blk_past _ _ _ (by first | omega | (simp; done) | (simp; omega))).trans ?_ | refine (heap_grow _ _ _ (by first | omega | (simp; done) | (simp; omega))).trans ?_ | refine (blk_drew _ _).trans ?_)) Tryz.underlying32 rfl buf_info) rfl ⟨a2, l2, p2, rfl, (by repeat (first | exact Grows.refl _ | apply Grows.grow | apply Grows.alloc | apply Grows.drew)), (by first | exact swap_ret HB2.out (by first | omega | (simp; done) | (simp; omega)) (by first | omega | (simp; done) | (simp; omega)))⟩
set_option maxRecDepth 100000 in
set_option maxHeartbeats 6400000 in
theorem ref15_Do_7 (ia : Option Addr) (il ic : Nat) (pa : Option Addr) (pl pc : Nat) (p : Nat → Int) (al : Option Addr) (ll cl : Nat) (g5 : Nat → Bf) (F : Nat → Img) (b : R) (w : World) (hp : Hid (IsInts w pa pl pc p)) (hlp : (pl : Int) = prmN 7) (hl : Hid (IsBufs w al ll cl g5)) (hbs : Hid (∀ i, i < ll → BufAt w (g5 i).r (g5 i).a (g5 i).len (g5 i).cap (F i) ∧ cntR (g5 i).r ≤ 30000000000000)) (hk : NodeOk 7 p ll) (hsm : smallR b) (hs : cntR (someR b) ≤ 300) (hrad : (7 : Int) = 2 ∨ (7 : Int) = 3 ∨ (7 : Int) = 4 → p 0 ≤ 6 ∧ p 1 ≤ 6) (hrad11 : (7 : Int) = 11 → p 2 ≤ 6 ∧ p 3 ≤ 6) :
    Calls Tryz.prog 9 #[.agg #[.int .i64 7, .slice ia il ic, .slice pa pl pc], .slice al ll cl, .agg #[.int .i64 b.x0, .int .i64 b.y0, .int .i64 b.x1, .int .i64 b.y1]] w (RetBuf w (someR b) (cutF (someR b) (fun x y => blendP (p 0) (F 0 x y) (F 1 x y)))) := by
  have hb := hsm.right
  have m1 := hp.out.le
  have m2 := hp.out.most
  have m3 := hl.out.le
  have m4 := hl.out.most
  have HB : Hid (∀ W, Grows w W → Calls Tryz.prog 37 #[.agg #[.int .i64 7, .slice ia il ic, .slice pa pl pc], .slice al ll cl, .agg #[.int .i64 b.x0, .int .i64 b.y0, .int .i64 b.x1, .int .i64 b.y1]] W (RetBuf W (someR b) (cutF (someR b) (fun x y => blendP (p 0) (F 0 x y) (F 1 x y))))) := fun W g => ref15_mixed_7 ia il ic pa pl pc p al ll cl g5 F b W (Lib.hid (hp.out.grows g)) hlp (Lib.hid (hl.out.grows g)) (Lib.hid (fun i hi => ⟨(hbs.out i hi).1.grows g, (hbs.out i hi).2⟩)) hk hb hs
  obtain ⟨B, hB⟩ : ∃ B, B = cutF (someR b) (fun x y => blendP (p 0) (F 0 x y) (F 1 x y)) := ⟨_, rfl⟩
  obtain ⟨t, ht⟩ : ∃ t, t = someR b := ⟨_, rfl⟩
  rw [← hB] at HB ⊢
  rw [← ht] at HB ⊢
  clear hB ht hp hl hbs hrad hrad11 hs hsm hlp hb hk
  go_enter Tryz.func9, Tryz.ntmps9
  go_wp2_with ((go_at_call 37; (with_reducible refine Calls.mono (HB.out _ ?_) ?_); (exact (by repeat (first | exact Grows.refl _ | apply Grows.grow | apply Grows.alloc | apply Grows.drew))); rintro e w' ⟨a2, l2, p2, rfl, hgw, HB2⟩; (first | (obtain ⟨gw, rfl⟩ := grows_of_grow hgw) | (obtain ⟨gw, rfl⟩ := hgw))))
  refine bodyPost_ret (results_cell_row rfl _ _ _ 32 #[.int .i64 t.x0, .int .i64 t.y0, .int .i64 t.x1, .int .i64 t.y1, .slice a2 l2 p2] (0, 0) _ rfl (by repeat (first | exact blk_at _ _ _ (by first | omega | (simp; done) | (simp; omega)) | refine (blk_past _ _ _ (by first | omega | (simp; done) | (simp; omega))).trans ?_ | refine (heap_grow _ _ _ (by first | omega | (simp; done) | (simp; omega))).trans ?_ | refine (blk_drew _ _).trans ?_)) Tryz.underlying32 rfl buf_info) rfl ⟨a2, l2, p2, rfl, (by repeat (first | exact Grows.refl _ | apply Grows.grow | apply Grows.alloc | apply Grows.drew)), (by first | exact swap_ret HB2.out (by first | omega | (simp; done) | (simp; omega)) (by first | omega | (simp; done) | (simp; omega)))⟩
set_option maxRecDepth 100000 in
set_option maxHeartbeats 6400000 in
theorem ref15_Do_8 (ia : Option Addr) (il ic : Nat) (pa : Option Addr) (pl pc : Nat) (p : Nat → Int) (al : Option Addr) (ll cl : Nat) (g5 : Nat → Bf) (F : Nat → Img) (b : R) (w : World) (hp : Hid (IsInts w pa pl pc p)) (hlp : (pl : Int) = prmN 8) (hl : Hid (IsBufs w al ll cl g5)) (hbs : Hid (∀ i, i < ll → BufAt w (g5 i).r (g5 i).a (g5 i).len (g5 i).cap (F i) ∧ cntR (g5 i).r ≤ 30000000000000)) (hk : NodeOk 8 p ll) (hsm : smallR b) (hs : cntR (someR b) ≤ 300) (hrad : (8 : Int) = 2 ∨ (8 : Int) = 3 ∨ (8 : Int) = 4 → p 0 ≤ 6 ∧ p 1 ≤ 6) (hrad11 : (8 : Int) = 11 → p 2 ≤ 6 ∧ p 3 ≤ 6) :
    Calls Tryz.prog 9 #[.agg #[.int .i64 8, .slice ia il ic, .slice pa pl pc], .slice al ll cl, .agg #[.int .i64 b.x0, .int .i64 b.y0, .int .i64 b.x1, .int .i64 b.y1]] w (RetBuf w (someR b) (cutF (someR b) (fun x y => compP (p 0) (F 0 x y) (F 1 x y)))) := by
  have hb := hsm.right
  have m1 := hp.out.le
  have m2 := hp.out.most
  have m3 := hl.out.le
  have m4 := hl.out.most
  have HB : Hid (∀ W, Grows w W → Calls Tryz.prog 37 #[.agg #[.int .i64 8, .slice ia il ic, .slice pa pl pc], .slice al ll cl, .agg #[.int .i64 b.x0, .int .i64 b.y0, .int .i64 b.x1, .int .i64 b.y1]] W (RetBuf W (someR b) (cutF (someR b) (fun x y => compP (p 0) (F 0 x y) (F 1 x y))))) := fun W g => ref15_mixed_8 ia il ic pa pl pc p al ll cl g5 F b W (Lib.hid (hp.out.grows g)) hlp (Lib.hid (hl.out.grows g)) (Lib.hid (fun i hi => ⟨(hbs.out i hi).1.grows g, (hbs.out i hi).2⟩)) hk hb hs
  obtain ⟨B, hB⟩ : ∃ B, B = cutF (someR b) (fun x y => compP (p 0) (F 0 x y) (F 1 x y)) := ⟨_, rfl⟩
  obtain ⟨t, ht⟩ : ∃ t, t = someR b := ⟨_, rfl⟩
  rw [← hB] at HB ⊢
  rw [← ht] at HB ⊢
  clear hB ht hp hl hbs hrad hrad11 hs hsm hlp hb hk
  go_enter Tryz.func9, Tryz.ntmps9
  go_wp2_with ((go_at_call 37; (with_reducible refine Calls.mono (HB.out _ ?_) ?_); (exact (by repeat (first | exact Grows.refl _ | apply Grows.grow | apply Grows.alloc | apply Grows.drew))); rintro e w' ⟨a2, l2, p2, rfl, hgw, HB2⟩; (first | (obtain ⟨gw, rfl⟩ := grows_of_grow hgw) | (obtain ⟨gw, rfl⟩ := hgw))))
  refine bodyPost_ret (results_cell_row rfl _ _ _ 32 #[.int .i64 t.x0, .int .i64 t.y0, .int .i64 t.x1, .int .i64 t.y1, .slice a2 l2 p2] (0, 0) _ rfl (by repeat (first | exact blk_at _ _ _ (by first | omega | (simp; done) | (simp; omega)) | refine (blk_past _ _ _ (by first | omega | (simp; done) | (simp; omega))).trans ?_ | refine (heap_grow _ _ _ (by first | omega | (simp; done) | (simp; omega))).trans ?_ | refine (blk_drew _ _).trans ?_)) Tryz.underlying32 rfl buf_info) rfl ⟨a2, l2, p2, rfl, (by repeat (first | exact Grows.refl _ | apply Grows.grow | apply Grows.alloc | apply Grows.drew)), (by first | exact swap_ret HB2.out (by first | omega | (simp; done) | (simp; omega)) (by first | omega | (simp; done) | (simp; omega)))⟩
theorem ref15_Do (op : Int) (ia : Option Addr) (il ic : Nat) (pa : Option Addr) (pl pc : Nat) (p : Nat → Int) (al : Option Addr) (ll cl : Nat) (g5 : Nat → Bf) (F : Nat → Img) (b : R) (w : World) (hp : Hid (IsInts w pa pl pc p)) (hlp : (pl : Int) = prmN op) (hl : Hid (IsBufs w al ll cl g5)) (hbs : Hid (∀ i, i < ll → BufAt w (g5 i).r (g5 i).a (g5 i).len (g5 i).cap (F i) ∧ cntR (g5 i).r ≤ 30000000000000)) (hk : NodeOk op p ll) (hsm : smallR b) (hs : cntR (someR b) ≤ 300) (hrad : op = 2 ∨ op = 3 ∨ op = 4 → p 0 ≤ 6 ∧ p 1 ≤ 6) (hrad11 : op = 11 → p 2 ≤ 6 ∧ p 3 ≤ 6) :
    Calls Tryz.prog 9 #[.agg #[.int .i64 op, .slice ia il ic, .slice pa pl pc], .slice al ll cl, .agg #[.int .i64 b.x0, .int .i64 b.y0, .int .i64 b.x1, .int .i64 b.y1]] w (RetBuf w (someR b) (doF op p ll F b)) := by
  have hop := hk.op_
  have hc : op = 1 ∨ op = 2 ∨ op = 3 ∨ op = 4 ∨ op = 5 ∨ op = 6 ∨ op = 7 ∨ op = 8 ∨ op = 9 ∨ op = 10 ∨ op = 11 ∨ op = 12 := by omega
  rcases hc with rfl | rfl | rfl | rfl | rfl | rfl | rfl | rfl | rfl | rfl | rfl | rfl
  · rw [doF_1]; exact ref15_Do_1 ia il ic pa pl pc p al ll cl g5 F b w hp hlp hl hbs hk hsm hs hrad hrad11
  · rw [doF_2]; exact ref15_Do_2 ia il ic pa pl pc p al ll cl g5 F b w hp hlp hl hbs hk hsm hs hrad hrad11
  · rw [doF_3]; exact ref15_Do_3 ia il ic pa pl pc p al ll cl g5 F b w hp hlp hl hbs hk hsm hs hrad hrad11
  · rw [doF_4]; exact ref15_Do_4 ia il ic pa pl pc p al ll cl g5 F b w hp hlp hl hbs hk hsm hs hrad hrad11
  · rw [doF_5]; exact ref15_Do_5 ia il ic pa pl pc p al ll cl g5 F b w hp hlp hl hbs hk hsm hs hrad hrad11
  · rw [doF_6]; exact ref15_Do_6 ia il ic pa pl pc p al ll cl g5 F b w hp hlp hl hbs hk hsm hs hrad hrad11
  · rw [doF_7]; exact ref15_Do_7 ia il ic pa pl pc p al ll cl g5 F b w hp hlp hl hbs hk hsm hs hrad hrad11
  · rw [doF_8]; exact ref15_Do_8 ia il ic pa pl pc p al ll cl g5 F b w hp hlp hl hbs hk hsm hs hrad hrad11
  · rw [doF_9]; exact ref15_Do_9 ia il ic pa pl pc p al ll cl g5 F b w hp hlp hl hbs hk hsm hs hrad hrad11
  · rw [doF_10]; exact ref15_Do_10 ia il ic pa pl pc p al ll cl g5 F b w hp hlp hl hbs hk hsm hs hrad hrad11
  · rw [doF_11]; exact ref15_Do_11 ia il ic pa pl pc p al ll cl g5 F b w hp hlp hl hbs hk hsm hs hrad hrad11
  · rw [doF_12]; exact ref15_Do_12 ia il ic pa pl pc p al ll cl g5 F b w hp hlp hl hbs hk hsm hs hrad hrad11
end Go.Proofs.YtklcmlbkhjcaiaaGreatDoor
