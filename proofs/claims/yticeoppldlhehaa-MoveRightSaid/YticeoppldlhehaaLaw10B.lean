/- awake of chapter 10. -/
import Derived.Test.YticeoppldlhehaaLaw10A
namespace Go.Proofs.Yticeoppldlhehaa
open Go.RowKit
set_option linter.unusedVariables false

def twoR : R := ⟨0, 0, 2, 1⟩
def twoF (p q : P4) : Img := imgOf twoR (fun i => if i = 0 then p else q)
theorem good_two : GoodR twoR := ⟨by decide, fun h => by cases h⟩
theorem isPix_two {w : World} {n : Nat} {t : TypeId} {p q : P4} (hp : okP p) (hq : okP q) (h : Blk w n t #[.int .u8 p.r, .int .u8 p.g, .int .u8 p.b, .int .u8 p.a, .int .u8 q.r, .int .u8 q.g, .int .u8 q.b, .int .u8 q.a]) : IsPix w (some ⟨n, 0, none⟩) 2 2 (fun i => if i = 0 then p else q) :=
  ⟨Nat.le_refl _, by omega, fun i _ => by split <;> assumption, fun _ => ⟨n, 0, rfl, h.lt, fun i c hi hc => by
    rw [h.cell]
    have h2 : i = 0 ∨ i = 1 := by omega
    rcases h2 with rfl | rfl
    · match c, hc with
      | 0, _ => rfl
      | 1, _ => rfl
      | 2, _ => rfl
      | 3, _ => rfl
    · match c, hc with
      | 0, _ => rfl
      | 1, _ => rfl
      | 2, _ => rfl
      | 3, _ => rfl⟩⟩
def sSem2 (parts : Array (Nat × Value)) : Sem Value := Instr.buildSlice 24 2 parts
@[go_sem ↓] theorem slice_is_two (parts : Array (Nat × Value)) : Instr.buildSlice 24 2 parts = sSem2 parts := rfl
@[simp, go_sem] theorem slice_two (w : World) (n0 n1 n2 n3 m0 m1 m2 m3 : Int) : (sSem2 #[(0, .agg #[.int .u8 n0, .int .u8 n1, .int .u8 n2, .int .u8 n3]), (1, .agg #[.int .u8 m0, .int .u8 m1, .int .u8 m2, .int .u8 m3])]).run Try.prog w = .ok (.slice (some ⟨w.heap.size, 0, none⟩) 2 2) (w.alloc (.cells #[.int .u8 n0, .int .u8 n1, .int .u8 n2, .int .u8 n3, .int .u8 m0, .int .u8 m1, .int .u8 m2, .int .u8 m3] 32)) := by kernel_rfl
theorem aw_r0 : cntR (someR ⟨-1, 0, 3, 1⟩) = 4 := by decide +kernel
theorem aw_r1 : cntR (someR ⟨0, 0, 2, 1⟩) = 2 := by decide +kernel
theorem aw_p0 : tileF ⟨-1, 0, 3, 1⟩ ⟨0, 0, 2, 1⟩ (twoF ⟨1, 1, 1, 1⟩ ⟨2, 2, 2, 2⟩) (ptX (someR ⟨-1, 0, 3, 1⟩) 0) (ptY (someR ⟨-1, 0, 3, 1⟩) 0) = ⟨2, 2, 2, 2⟩ := by kernel_rfl
theorem aw_p1 : tileF ⟨-1, 0, 3, 1⟩ ⟨0, 0, 2, 1⟩ (twoF ⟨1, 1, 1, 1⟩ ⟨2, 2, 2, 2⟩) (ptX (someR ⟨-1, 0, 3, 1⟩) 1) (ptY (someR ⟨-1, 0, 3, 1⟩) 1) = ⟨1, 1, 1, 1⟩ := by kernel_rfl
theorem aw_p3 : tileF ⟨-1, 0, 3, 1⟩ ⟨0, 0, 2, 1⟩ (twoF ⟨1, 1, 1, 1⟩ ⟨2, 2, 2, 2⟩) (ptX (someR ⟨-1, 0, 3, 1⟩) 3) (ptY (someR ⟨-1, 0, 3, 1⟩) 3) = ⟨1, 1, 1, 1⟩ := by kernel_rfl
theorem aw_q0 : moveF ⟨0, 0, 2, 1⟩ 1 0 (twoF ⟨1, 1, 1, 1⟩ ⟨2, 2, 2, 2⟩) (ptX (someR ⟨0, 0, 2, 1⟩) 0) (ptY (someR ⟨0, 0, 2, 1⟩) 0) = noP := by kernel_rfl
theorem aw_q1 : moveF ⟨0, 0, 2, 1⟩ 1 0 (twoF ⟨1, 1, 1, 1⟩ ⟨2, 2, 2, 2⟩) (ptX (someR ⟨0, 0, 2, 1⟩) 1) (ptY (someR ⟨0, 0, 2, 1⟩) 1) = ⟨1, 1, 1, 1⟩ := by kernel_rfl
theorem aw_two {W : World} {n : Nat} (h : Blk W n 32 #[.int .u8 1, .int .u8 1, .int .u8 1, .int .u8 1, .int .u8 2, .int .u8 2, .int .u8 2, .int .u8 2]) : Hid (BufAt W twoR (some ⟨n, 0, none⟩) 2 2 (twoF ⟨1, 1, 1, 1⟩ ⟨2, 2, 2, 2⟩)) :=
  bufAt_of good_two (by decide) (isPix_two (p := ⟨1, 1, 1, 1⟩) (q := ⟨2, 2, 2, 2⟩) (by simp [okP]) (by simp [okP]) h)
theorem aw_tile (W : World) (n : Nat) (h : Blk W n 32 #[.int .u8 1, .int .u8 1, .int .u8 1, .int .u8 1, .int .u8 2, .int .u8 2, .int .u8 2, .int .u8 2]) : Calls Try.prog 14 #[.agg #[.int .i64 0, .int .i64 0, .int .i64 2, .int .i64 1, .slice (some ⟨n, 0, none⟩) 2 2], .agg #[.int .i64 (-1), .int .i64 0, .int .i64 3, .int .i64 1], .agg #[.int .i64 0, .int .i64 0, .int .i64 2, .int .i64 1]] W (RetBuf W (someR ⟨-1, 0, 3, 1⟩) (tileF ⟨-1, 0, 3, 1⟩ ⟨0, 0, 2, 1⟩ (twoF ⟨1, 1, 1, 1⟩ ⟨2, 2, 2, 2⟩))) :=
  move_Tile ⟨-1, 0, 3, 1⟩ twoR ⟨0, 0, 2, 1⟩ (some ⟨n, 0, none⟩) 2 2 _ W (aw_two h) (by decide) (by decide +kernel) (by decide +kernel) (by decide +kernel) (by decide +kernel)
theorem aw_offset (W : World) (n : Nat) (h : Blk W n 32 #[.int .u8 1, .int .u8 1, .int .u8 1, .int .u8 1, .int .u8 2, .int .u8 2, .int .u8 2, .int .u8 2]) : Calls Try.prog 22 #[.agg #[.int .i64 0, .int .i64 0, .int .i64 2, .int .i64 1, .slice (some ⟨n, 0, none⟩) 2 2], .agg #[.int .i64 0, .int .i64 0, .int .i64 2, .int .i64 1], .int .i64 1, .int .i64 0] W (RetBuf W (someR ⟨0, 0, 2, 1⟩) (moveF ⟨0, 0, 2, 1⟩ 1 0 (twoF ⟨1, 1, 1, 1⟩ ⟨2, 2, 2, 2⟩))) :=
  move_Offset ⟨0, 0, 2, 1⟩ twoR (some ⟨n, 0, none⟩) 2 2 _ 1 0 W (aw_two h) (by decide +kernel) (by decide +kernel) (by decide) (by decide) (by decide)

set_option maxRecDepth 100000 in
set_option maxHeartbeats 6400000 in
theorem awake10 (w : World) : Calls Try.prog 9 #[] w fun e w' => e = .returned (.bool true) ∧ Grows w w' := by
  have HX1 := Lib.hid aw_tile
  have HX2 := Lib.hid aw_offset
  have HE := Lib.hid (And.intro aw_r0 (And.intro aw_r1 (And.intro aw_p0 (And.intro aw_p1 (And.intro aw_p3 (And.intro aw_q0 aw_q1))))))
  obtain ⟨r0, hr0⟩ : ∃ r0 : R, r0 = someR ⟨-1, 0, 3, 1⟩ := ⟨_, rfl⟩
  obtain ⟨r1, hr1⟩ : ∃ r0 : R, r0 = someR ⟨0, 0, 2, 1⟩ := ⟨_, rfl⟩
  obtain ⟨B0, hB0⟩ : ∃ B, B = tileF ⟨-1, 0, 3, 1⟩ ⟨0, 0, 2, 1⟩ (twoF ⟨1, 1, 1, 1⟩ ⟨2, 2, 2, 2⟩) := ⟨_, rfl⟩
  obtain ⟨B1, hB1⟩ : ∃ B, B = moveF ⟨0, 0, 2, 1⟩ 1 0 (twoF ⟨1, 1, 1, 1⟩ ⟨2, 2, 2, 2⟩) := ⟨_, rfl⟩
  rw [← hr0, ← hr1, ← hB0, ← hB1] at HE
  rw [← hr0, ← hB0] at HX1
  rw [← hr1, ← hB1] at HX2
  clear hr0 hr1 hB0 hB1
  go_enter Try.func9, Try.ntmps9
  go_wp2_with (first
    | (go_at_call 14; (with_reducible refine Calls.mono (HX1.out _ _ ?_) ?_); (exact (by unfold Blk; repeat (first | exact blk_at _ _ _ (by first | omega | (simp; done) | (simp; omega)) | refine (blk_past _ _ _ (by first | omega | (simp; done) | (simp; omega))).trans ?_ | refine (heap_grow _ _ _ (by first | omega | (simp; done) | (simp; omega))).trans ?_ | refine (blk_drew _ _).trans ?_))); rintro e w' ⟨a1, l1, p1, rfl, hgw, HC1⟩; (first | (obtain ⟨gb1, rfl⟩ := grows_of_grow hgw) | (obtain ⟨gb1, rfl⟩ := hgw)))
    | (go_at_call 22; (with_reducible refine Calls.mono (HX2.out _ _ ?_) ?_); (exact (by unfold Blk; repeat (first | exact blk_at _ _ _ (by first | omega | (simp; done) | (simp; omega)) | refine (blk_past _ _ _ (by first | omega | (simp; done) | (simp; omega))).trans ?_ | refine (heap_grow _ _ _ (by first | omega | (simp; done) | (simp; omega))).trans ?_ | refine (blk_drew _ _).trans ?_))); rintro e w' ⟨a2, l2, p2, rfl, hgw, HC2⟩; (first | (obtain ⟨gb2, rfl⟩ := grows_of_grow hgw) | (obtain ⟨gb2, rfl⟩ := hgw))))
  refine wp_name ?_
  intro W hW
  have Bp : Blk W w.heap.size 32 #[.int .u8 1, .int .u8 1, .int .u8 1, .int .u8 1] := by rw [hW]; exact (by unfold Blk; repeat (first | exact blk_at _ _ _ (by first | omega | (simp; done) | (simp; omega)) | refine (blk_past _ _ _ (by first | omega | (simp; done) | (simp; omega))).trans ?_ | refine (heap_grow _ _ _ (by first | omega | (simp; done) | (simp; omega))).trans ?_ | refine (blk_drew _ _).trans ?_))
  have Bq : Blk W (w.heap.size + 1) 32 #[.int .u8 2, .int .u8 2, .int .u8 2, .int .u8 2] := by rw [hW]; exact (by unfold Blk; repeat (first | exact blk_at _ _ _ (by first | omega | (simp; done) | (simp; omega)) | refine (blk_past _ _ _ (by first | omega | (simp; done) | (simp; omega))).trans ?_ | refine (heap_grow _ _ _ (by first | omega | (simp; done) | (simp; omega))).trans ?_ | refine (blk_drew _ _).trans ?_))
  have Bc : Blk W (w.heap.size + 1 + 1 + 1 + 1 + gb1.news.size) 26 #[.int .i64 r0.x0, .int .i64 r0.y0, .int .i64 r0.x1, .int .i64 r0.y1, .slice a1 l1 p1] := by rw [hW]; exact (by unfold Blk; repeat (first | exact blk_at _ _ _ (by first | omega | (simp; done) | (simp; omega)) | refine (blk_past _ _ _ (by first | omega | (simp; done) | (simp; omega))).trans ?_ | refine (heap_grow _ _ _ (by first | omega | (simp; done) | (simp; omega))).trans ?_ | refine (blk_drew _ _).trans ?_))
  have Bd : Blk W (w.heap.size + 1 + 1 + 1 + 1 + gb1.news.size + 1 + gb2.news.size) 26 #[.int .i64 r1.x0, .int .i64 r1.y0, .int .i64 r1.x1, .int .i64 r1.y1, .slice a2 l2 p2] := by rw [hW]; exact (by unfold Blk; repeat (first | exact blk_at _ _ _ (by first | omega | (simp; done) | (simp; omega)) | refine (blk_past _ _ _ (by first | omega | (simp; done) | (simp; omega))).trans ?_ | refine (heap_grow _ _ _ (by first | omega | (simp; done) | (simp; omega))).trans ?_ | refine (blk_drew _ _).trans ?_))
  have HA : BufAt W r0 a1 l1 p1 B0 := by rw [hW]; exact HC1.out.1.grows (by repeat (first | exact Grows.refl _ | apply Grows.grow | apply Grows.alloc | apply Grows.drew))
  have HA2 : BufAt W r1 a2 l2 p2 B1 := by rw [hW]; exact HC2.out.1.grows (by repeat (first | exact Grows.refl _ | apply Grows.grow | apply Grows.alloc | apply Grows.drew))
  have GR : Hid (Grows w W) := by rw [hW]; exact (by repeat (first | exact Grows.refl _ | apply Grows.grow | apply Grows.alloc | apply Grows.drew))
  obtain ⟨q0, q1, e0, e1, e3, f0, f1⟩ := HE.out
  have hl : l1 = 4 := HA.count.trans q0
  subst hl
  have hl : l2 = 2 := HA2.count.trans q1
  subst hl
  have hm := HA.most
  have hm2 := HA2.most
  obtain ⟨b, off, rfl, hb, -, x0, x1, x2, x3⟩ := HA.pix.px (k := 0) (by omega)
  obtain ⟨b', off', e, -, -, y0, y1, y2, y3⟩ := HA.pix.px (k := 1) (by omega)
  cases e
  obtain ⟨b', off', e, -, -, z0, z1, z2, z3⟩ := HA.pix.px (k := 3) (by omega)
  cases e
  obtain ⟨bx, offx, rfl, hb2, -, u0, u1, u2, u3⟩ := HA2.pix.px (k := 0) (by omega)
  obtain ⟨b', off', e, -, -, v0, v1, v2, v3⟩ := HA2.pix.px (k := 1) (by omega)
  cases e
  simp only [e0, Nat.zero_mul, Nat.add_zero] at x0 x1 x2 x3
  simp only [e1, Nat.one_mul, Nat.add_assoc, Nat.reduceAdd] at y0 y1 y2 y3
  simp only [e3, Nat.reduceMul, Nat.add_assoc, Nat.reduceAdd] at z0 z1 z2 z3
  simp only [f0, noP, Nat.zero_mul, Nat.add_zero] at u0 u1 u2 u3
  simp only [f1, Nat.one_mul, Nat.add_assoc, Nat.reduceAdd] at v0 v1 v2 v3
  obtain ⟨nd, hnd⟩ : ∃ n, n = w.heap.size + 1 + 1 + 1 + 1 + gb1.news.size + 1 + gb2.news.size := ⟨_, rfl⟩
  rw [← hnd] at Bd ⊢
  obtain ⟨nc, hnc⟩ : ∃ n, n = w.heap.size + 1 + 1 + 1 + 1 + gb1.news.size := ⟨_, rfl⟩
  rw [← hnc] at Bc ⊢
  obtain ⟨b0, b1, b2', b3, b4, bf⟩ := Bc.c5
  obtain ⟨c0, c1, c2, c3, c4, cf⟩ := Bd.c5
  obtain ⟨t0, t1, t2, t3, tf⟩ := Bp.c4
  obtain ⟨s0, s1, s2, s3, sf⟩ := Bq.c4
  have lb := Bc.lt
  have lc := Bd.lt
  have lt := Bp.lt
  have lu := Bq.lt
  clear hnd hnc hW HX1 HX2 HC1 HC2 HE e0 e1 e3 f0 f1 q0 q1 HA HA2 Bp Bq Bc Bd
  first | refine region_grow2 (by kernel_rfl) (by kernel_rfl) ?_ | refine region_grow (by kernel_rfl) (by kernel_rfl) ?_
  repeat (go_big_quiet_step (fail))
  refine wpQuiet_nil ?_
  rintro _ ⟨gr, rfl⟩
  go_wp2
  go_ret
  exact ⟨rfl, GR.out.trans (by repeat (first | exact Grows.refl _ | apply Grows.grow | apply Grows.alloc | apply Grows.drew))⟩
end Go.Proofs.Yticeoppldlhehaa
