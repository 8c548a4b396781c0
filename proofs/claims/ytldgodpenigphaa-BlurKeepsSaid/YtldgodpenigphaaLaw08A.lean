/- What the walks of chapter 8's laws share: one, awake, fine. -/
import Derived.Test.YtldgodpenigphaaRef8B
import Derived.Test.YtldgodpenigphaaRef5M
namespace Go.Proofs.Ytldgodpenigphaa
open Go.RowKit
set_option linter.unusedVariables false

def oneR : R := ⟨0, 0, 1, 1⟩
def oneF (p : P4) : Img := imgOf oneR (fun _ => p)
theorem good_one : GoodR oneR := ⟨by decide, fun h => by cases h⟩
theorem isPix_one {w : World} {n : Nat} {t : TypeId} {p : P4} (hp : okP p) (h : Blk w n t #[.int .u8 p.r, .int .u8 p.g, .int .u8 p.b, .int .u8 p.a]) : IsPix w (some ⟨n, 0, none⟩) 1 1 (fun _ => p) :=
  ⟨Nat.le_refl _, by omega, fun _ _ => hp, fun _ => ⟨n, 0, rfl, h.lt, fun i c hi hc => by
    obtain rfl : i = 0 := by omega
    rw [h.cell]
    match c, hc with
    | 0, _ => rfl
    | 1, _ => rfl
    | 2, _ => rfl
    | 3, _ => rfl⟩⟩

/-! Literals: a rectangle of its last two edges; a slice of one pixel. -/
@[simp, go_sem] theorem build_rect23 (w : World) (k2 k3 : IntKind) (n2 n3 : Int) : (bSem 23 #[(2, .int k2 n2), (3, .int k3 n3)]).run Try.prog w = .ok (.agg #[.int .i64 0, .int .i64 0, .int k2 n2, .int k3 n3]) w := by kernel_rfl
def sSem1 (parts : Array (Nat × Value)) : Sem Value := Instr.buildSlice 24 1 parts
@[go_sem ↓] theorem slice_is_one (parts : Array (Nat × Value)) : Instr.buildSlice 24 1 parts = sSem1 parts := rfl
@[simp, go_sem] theorem slice_one (w : World) (n0 n1 n2 n3 : Int) : (sSem1 #[(0, .agg #[.int .u8 n0, .int .u8 n1, .int .u8 n2, .int .u8 n3])]).run Try.prog w = .ok (.slice (some ⟨w.heap.size, 0, none⟩) 1 1) (w.alloc (.cells #[.int .u8 n0, .int .u8 n1, .int .u8 n2, .int .u8 n3] 28)) := by kernel_rfl

set_option maxHeartbeats 1600000 in
theorem law08_one (p : P4) (w : World) (hp : okP p) : Calls Try.prog 41 #[.agg #[.int .u8 p.r, .int .u8 p.g, .int .u8 p.b, .int .u8 p.a]] w (RetBuf w oneR (oneF p)) := by
  go_enter Try.func41, Try.ntmps41
  go_wp2
  refine bodyPost_ret (results_cell_row rfl _ _ _ 26 #[.int .i64 0, .int .i64 0, .int .i64 1, .int .i64 1, .slice (some ⟨w.heap.size + 1 + 1, 0, none⟩) 1 1] (0, 0) _ rfl ?_ Try.underlying26 rfl buf_info) rfl ⟨some ⟨w.heap.size + 1 + 1, 0, none⟩, 1, 1, rfl, (by repeat (first | exact Grows.refl _ | apply Grows.grow | apply Grows.alloc | apply Grows.drew)), ?_, ?_, fun x hx => by cases hx; show w.heap.size ≤ w.heap.size + 1 + 1; omega⟩
  · exact (by repeat (first | exact blk_at _ _ _ (by first | omega | (simp; done) | (simp; omega)) | refine (blk_past _ _ _ (by first | omega | (simp; done) | (simp; omega))).trans ?_ | refine (heap_grow _ _ _ (by first | omega | (simp; done) | (simp; omega))).trans ?_ | refine (blk_drew _ _).trans ?_))
  · refine bufAt_of good_one (by decide) (isPix_one (t := 28) hp ?_)
    exact (by unfold Blk; repeat (first | exact blk_at _ _ _ (by first | omega | (simp; done) | (simp; omega)) | refine (blk_past _ _ _ (by first | omega | (simp; done) | (simp; omega))).trans ?_ | refine (heap_grow _ _ _ (by first | omega | (simp; done) | (simp; omega))).trans ?_ | refine (blk_drew _ _).trans ?_))
  · refine open_of_block (t := 28) (cs := #[.int .u8 p.r, .int .u8 p.g, .int .u8 p.b, .int .u8 p.a]) ?_
    exact (by unfold Blk; repeat (first | exact blk_at _ _ _ (by first | omega | (simp; done) | (simp; omega)) | refine (blk_past _ _ _ (by first | omega | (simp; done) | (simp; omega))).trans ?_ | refine (heap_grow _ _ _ (by first | omega | (simp; done) | (simp; omega))).trans ?_ | refine (blk_drew _ _).trans ?_))
/-! What awake asks. -/
theorem aw_r0 : cntR (someR ⟨-2, 0, 2, 1⟩) = 4 := by decide +kernel
theorem aw_r1 : cntR (someR ⟨-1, 1, 0, 2⟩) = 1 := by decide +kernel
theorem aw_p0 : boxF ⟨-2, 0, 2, 1⟩ 1 0 (oneF ⟨9, 9, 9, 9⟩) (ptX (someR ⟨-2, 0, 2, 1⟩) 0) (ptY (someR ⟨-2, 0, 2, 1⟩) 0) = noP := by kernel_rfl
theorem aw_p1 : boxF ⟨-2, 0, 2, 1⟩ 1 0 (oneF ⟨9, 9, 9, 9⟩) (ptX (someR ⟨-2, 0, 2, 1⟩) 1) (ptY (someR ⟨-2, 0, 2, 1⟩) 1) = ⟨3, 3, 3, 3⟩ := by kernel_rfl
theorem aw_p3 : boxF ⟨-2, 0, 2, 1⟩ 1 0 (oneF ⟨9, 9, 9, 9⟩) (ptX (someR ⟨-2, 0, 2, 1⟩) 3) (ptY (someR ⟨-2, 0, 2, 1⟩) 3) = ⟨3, 3, 3, 3⟩ := by kernel_rfl
theorem aw_q0 : boxF ⟨-1, 1, 0, 2⟩ 1 1 (oneF ⟨9, 9, 9, 9⟩) (ptX (someR ⟨-1, 1, 0, 2⟩) 0) (ptY (someR ⟨-1, 1, 0, 2⟩) 0) = ⟨1, 1, 1, 1⟩ := by kernel_rfl
theorem aw_box1 (w : World) (a : Option Addr) (len cap : Nat) (h : BufAt w oneR a len cap (oneF ⟨9, 9, 9, 9⟩)) : Calls Try.prog 26 #[.agg #[.int .i64 oneR.x0, .int .i64 oneR.y0, .int .i64 oneR.x1, .int .i64 oneR.y1, .slice a len cap], .agg #[.int .i64 (-2), .int .i64 0, .int .i64 2, .int .i64 1], .int .i64 1, .int .i64 0] w (RetBuf w (someR ⟨-2, 0, 2, 1⟩) (boxF ⟨-2, 0, 2, 1⟩ 1 0 (oneF ⟨9, 9, 9, 9⟩))) :=
  blur_Box ⟨-2, 0, 2, 1⟩ oneR a len cap _ 1 0 w h (by decide +kernel) (by decide +kernel) (by decide +kernel) (by decide +kernel) (by decide) (by decide) (by decide) (by decide)
theorem aw_box2 (w : World) (a : Option Addr) (len cap : Nat) (h : BufAt w oneR a len cap (oneF ⟨9, 9, 9, 9⟩)) : Calls Try.prog 26 #[.agg #[.int .i64 oneR.x0, .int .i64 oneR.y0, .int .i64 oneR.x1, .int .i64 oneR.y1, .slice a len cap], .agg #[.int .i64 (-1), .int .i64 1, .int .i64 0, .int .i64 2], .int .i64 1, .int .i64 1] w (RetBuf w (someR ⟨-1, 1, 0, 2⟩) (boxF ⟨-1, 1, 0, 2⟩ 1 1 (oneF ⟨9, 9, 9, 9⟩))) :=
  blur_Box ⟨-1, 1, 0, 2⟩ oneR a len cap _ 1 1 w h (by decide +kernel) (by decide +kernel) (by decide +kernel) (by decide +kernel) (by decide) (by decide) (by decide) (by decide)

set_option maxHeartbeats 3200000 in
theorem awake08 (w : World) : Calls Try.prog 24 #[] w fun e w' => e = .returned (.bool true) ∧ Grows w w' := by
  have nine : okP ⟨9, 9, 9, 9⟩ := by simp [okP]
  have HX1 := Lib.hid aw_box1
  have HX2 := Lib.hid aw_box2
  have HE := Lib.hid (And.intro aw_r0 (And.intro aw_r1 (And.intro aw_p0 (And.intro aw_p1 (And.intro aw_p3 aw_q0)))))
  obtain ⟨r0, hr0⟩ : ∃ r0 : R, r0 = someR ⟨-2, 0, 2, 1⟩ := ⟨_, rfl⟩
  obtain ⟨r1, hr1⟩ : ∃ r1 : R, r1 = someR ⟨-1, 1, 0, 2⟩ := ⟨_, rfl⟩
  obtain ⟨B0, hB0⟩ : ∃ B, B = boxF ⟨-2, 0, 2, 1⟩ 1 0 (oneF ⟨9, 9, 9, 9⟩) := ⟨_, rfl⟩
  obtain ⟨B1, hB1⟩ : ∃ B, B = boxF ⟨-1, 1, 0, 2⟩ 1 1 (oneF ⟨9, 9, 9, 9⟩) := ⟨_, rfl⟩
  rw [← hr0, ← hr1, ← hB0, ← hB1] at HE
  rw [← hr0, ← hB0] at HX1
  rw [← hr1, ← hB1] at HX2
  have H1 : Hid (∀ w, Calls Try.prog 41 #[.agg #[.int .u8 9, .int .u8 9, .int .u8 9, .int .u8 9]] w (RetBuf w oneR (oneF ⟨9, 9, 9, 9⟩))) := fun w => law08_one ⟨9, 9, 9, 9⟩ w nine
  obtain ⟨ro, hro⟩ : ∃ r, r = oneR := ⟨_, rfl⟩
  obtain ⟨FO, hFO⟩ : ∃ F, F = oneF ⟨9, 9, 9, 9⟩ := ⟨_, rfl⟩
  rw [← hro, ← hFO] at H1 HX1 HX2
  clear hro hFO nine
  clear hr0 hr1 hB0 hB1
  go_enter Try.func24, Try.ntmps24
  go_wp2_with (first
    | (go_at_call 41; refine (H1.out _).mono ?_; rintro e w' ⟨ao, lo, po, rfl, hgw, HB1⟩; (first | (obtain ⟨gw, rfl⟩ := grows_of_grow hgw) | (obtain ⟨gw, rfl⟩ := hgw)))
    | (go_at_call 26; (with_reducible refine Calls.mono (HX1.out _ ao lo po ?_) ?_); (exact HB1.out.1); rintro e w' ⟨a1, l1, p1, rfl, hgw, HC1⟩; (first | (obtain ⟨gb1, rfl⟩ := grows_of_grow hgw) | (obtain ⟨gb1, rfl⟩ := hgw)))
    | (go_at_call 26; (with_reducible refine Calls.mono (HX2.out _ ao lo po ?_) ?_); (exact HB1.out.1); rintro e w' ⟨a2, l2, p2, rfl, hgw, HC2⟩; (first | (obtain ⟨gb2, rfl⟩ := grows_of_grow hgw) | (obtain ⟨gb2, rfl⟩ := hgw))))
  refine wp_name ?_
  intro W hW
  have Bb : Blk W (w.heap.size + gb1.news.size) 26 #[.int .i64 r0.x0, .int .i64 r0.y0, .int .i64 r0.x1, .int .i64 r0.y1, .slice a1 l1 p1] := by rw [hW]; exact (by unfold Blk; repeat (first | exact blk_at _ _ _ (by first | omega | (simp; done) | (simp; omega)) | refine (blk_past _ _ _ (by first | omega | (simp; done) | (simp; omega))).trans ?_ | refine (heap_grow _ _ _ (by first | omega | (simp; done) | (simp; omega))).trans ?_ | refine (blk_drew _ _).trans ?_))
  have Bc : Blk W (w.heap.size + gb1.news.size + 1 + gb2.news.size) 26 #[.int .i64 r1.x0, .int .i64 r1.y0, .int .i64 r1.x1, .int .i64 r1.y1, .slice a2 l2 p2] := by rw [hW]; exact (by unfold Blk; repeat (first | exact blk_at _ _ _ (by first | omega | (simp; done) | (simp; omega)) | refine (blk_past _ _ _ (by first | omega | (simp; done) | (simp; omega))).trans ?_ | refine (heap_grow _ _ _ (by first | omega | (simp; done) | (simp; omega))).trans ?_ | refine (blk_drew _ _).trans ?_))
  have Bt : Blk W (w.heap.size + gb1.news.size + 1 + gb2.news.size + 1) 28 #[.int .u8 3, .int .u8 3, .int .u8 3, .int .u8 3] := by rw [hW]; exact (by unfold Blk; repeat (first | exact blk_at _ _ _ (by first | omega | (simp; done) | (simp; omega)) | refine (blk_past _ _ _ (by first | omega | (simp; done) | (simp; omega))).trans ?_ | refine (heap_grow _ _ _ (by first | omega | (simp; done) | (simp; omega))).trans ?_ | refine (blk_drew _ _).trans ?_))
  have HA : BufAt W r0 a1 l1 p1 B0 := by rw [hW]; exact HC1.out.1.grows (by repeat (first | exact Grows.refl _ | apply Grows.grow | apply Grows.alloc | apply Grows.drew))
  have HA2 : BufAt W r1 a2 l2 p2 B1 := by rw [hW]; exact HC2.out.1.grows (by repeat (first | exact Grows.refl _ | apply Grows.grow | apply Grows.alloc | apply Grows.drew))
  have GR : Hid (Grows w W) := by rw [hW]; exact (by repeat (first | exact Grows.refl _ | apply Grows.grow | apply Grows.alloc | apply Grows.drew))
  obtain ⟨q0, q1, e0, e1, e3, f0⟩ := HE.out
  have hl : l1 = 4 := HA.count.trans q0
  subst hl
  have hl : l2 = 1 := HA2.count.trans q1
  subst hl
  have hm := HA.most
  have hm2 := HA2.most
  obtain ⟨b, off, rfl, hb, -, x0, x1, x2, x3⟩ := HA.pix.px (k := 0) (by omega)
  obtain ⟨b', off', e, -, -, y0, y1, y2, y3⟩ := HA.pix.px (k := 1) (by omega)
  cases e
  obtain ⟨b', off', e, -, -, z0, z1, z2, z3⟩ := HA.pix.px (k := 3) (by omega)
  cases e
  obtain ⟨b2, off2, rfl, hb2, -, u0, u1, u2, u3⟩ := HA2.pix.px (k := 0) (by omega)
  simp only [e0, noP, Nat.zero_mul, Nat.add_zero] at x0 x1 x2 x3
  simp only [e1, Nat.one_mul, Nat.add_assoc, Nat.reduceAdd] at y0 y1 y2 y3
  simp only [e3, Nat.reduceMul, Nat.add_assoc, Nat.reduceAdd] at z0 z1 z2 z3
  simp only [f0, Nat.zero_mul, Nat.add_zero] at u0 u1 u2 u3
  obtain ⟨nb, hnb⟩ : ∃ n, n = w.heap.size + gb1.news.size := ⟨_, rfl⟩
  obtain ⟨nc, hnc⟩ : ∃ n, n = w.heap.size + gb1.news.size + 1 + gb2.news.size := ⟨_, rfl⟩
  rw [← hnc] at Bc Bt ⊢
  rw [← hnb] at Bb ⊢
  obtain ⟨b0, b1, b2', b3, b4, bf⟩ := Bb.c5
  obtain ⟨c0, c1, c2, c3, c4, cf⟩ := Bc.c5
  obtain ⟨t0, t1, t2, t3, tf⟩ := Bt.c4
  have lb := Bb.lt
  have lc := Bc.lt
  have lt := Bt.lt
  clear hnb hnc hW HX1 HX2 H1 HB1 HC1 HC2 HE e0 e1 e3 f0 q0 q1 HA HA2 Bb Bc Bt hgw
  first | refine region_grow2 (by kernel_rfl) (by kernel_rfl) ?_ | refine region_grow (by kernel_rfl) (by kernel_rfl) ?_
  repeat (go_big_quiet_step (fail))
  refine wpQuiet_nil ?_
  rintro _ ⟨gr, rfl⟩
  go_wp2
  go_ret
  exact ⟨rfl, GR.out.trans (by repeat (first | exact Grows.refl _ | apply Grows.grow | apply Grows.alloc | apply Grows.drew))⟩
def fine08 (len : Nat) (r box : R) (rx ry : Int) : Bool := decide (len ≤ 300) && (bufB r len && (decide (rx ≤ 12) && (decide (ry ≤ 12) && fineB box rx ry 1500)))
set_option maxHeartbeats 1600000 in
theorem law08_fine (r box : R) (a : Option Addr) (len cap : Nat) (rx ry : Int) (w : World) (hl : len ≤ cap) (hm : cap ≤ 9223372036854775807) :
    Calls Try.prog 25 #[.agg #[.int .i64 r.x0, .int .i64 r.y0, .int .i64 r.x1, .int .i64 r.y1, .slice a len cap], .agg #[.int .i64 box.x0, .int .i64 box.y0, .int .i64 box.x1, .int .i64 box.y1], .int .i64 rx, .int .i64 ry] w fun e w' => e = .returned (.bool (fine08 len r box rx ry)) ∧ Grows w w' := by
  go_enter Try.func25, Try.ntmps25
  go_wp2_with (first
    | (go_at_call 34; refine (ref05_Right r a len cap _ (by omega)).mono ?_; rintro e w' ⟨rfl, hgw⟩; first | (obtain ⟨gw, rfl⟩ := grows_of_grow hgw) | (obtain ⟨gw, rfl⟩ := hgw))
    | (go_at_call 42; refine (ref08_Fine box rx ry 1500 _).mono ?_; rintro e w' ⟨rfl, hgw⟩; first | (obtain ⟨gw, rfl⟩ := grows_of_grow hgw) | (obtain ⟨gw, rfl⟩ := hgw)))
  all_goals go_ret
  all_goals refine ⟨ret_b (by unfold fine08; simp_all <;> omega), (by repeat (first | exact Grows.refl _ | apply Grows.grow | apply Grows.alloc | apply Grows.drew))⟩
end Go.Proofs.Ytldgodpenigphaa
