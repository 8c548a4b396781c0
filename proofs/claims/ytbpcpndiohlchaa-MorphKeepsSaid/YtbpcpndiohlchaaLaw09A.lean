/- What the walks of chapter 9's laws share: awake, fine; what both makes is the document's answer. -/
import Derived.Test.YtbpcpndiohlchaaMorphM
import Derived.Test.YtbpcpndiohlchaaRef9B
import Derived.Test.YtbpcpndiohlchaaOne
namespace Go.Proofs.Ytbpcpndiohlchaa
open Go.RowKit
set_option linter.unusedVariables false

theorem winP_congr {f g : Int → P4} {s : Int} {n : Nat} (h : ∀ k : Nat, k < n → f (s + (k : Int)) = g (s + (k : Int))) : winP f s n = winP g s n := by
  unfold winP
  rw [mxW_congr (f := fun x => (f x).r) (g := fun x => (g x).r) (t := s) n (fun k hk => by simp only [h k hk]), mxW_congr (f := fun x => (f x).g) (g := fun x => (g x).g) (t := s) n (fun k hk => by simp only [h k hk]), mxW_congr (f := fun x => (f x).b) (g := fun x => (g x).b) (t := s) n (fun k hk => by simp only [h k hk]), mxW_congr (f := fun x => (f x).a) (g := fun x => (g x).a) (t := s) n (fun k hk => by simp only [h k hk])]
/-- What both makes in a little box is what stands around each point. -/
theorem boxM_in {b : R} {ry : Int} (hs : smallR b) (hy : 0 ≤ ry ∧ ry ≤ 255) (k : Bool) (rx : Int) (F : Img) {u v : Int} (h : hasR b u v = true) : boxM k b rx ry F u v = aroundP k F u v rx ry := by
  have kk := (hasR_iff b u v).1 h
  have ne := hasR_not_empty h
  have hw := winN_eq hy.1
  unfold boxM
  rw [cutF_in (by rw [hasR_some]; exact h)]
  unfold morphV aroundP
  congr 1
  refine winP_congr (fun j hj => ?_)
  rw [cutF_in, morphH, turnP_turn]
  rw [grow_small hs ne (by omega) hy (by omega) hy, hasR_iff]
  simp only
  omega
theorem boxM_doc {b : R} {ry : Int} (hs : smallR b) (hy : 0 ≤ ry ∧ ry ≤ 255) (k : Bool) (rx : Int) (F : Img) : boxM k b rx ry F = docM k b rx ry F := by
  funext u v
  cases h : hasR b u v
  · unfold boxM docM
    rw [cutF_out (by rw [hasR_some]; exact h), cutF_out (by rw [hasR_some]; exact h)]
  · rw [boxM_in hs hy k rx F h]
    unfold docM
    rw [cutF_in (by rw [hasR_some]; exact h)]

/-! What awake asks. -/
theorem aw_r0 : cntR (someR ⟨-2, 0, 2, 1⟩) = 4 := by decide +kernel
theorem aw_p0 : boxM true ⟨-2, 0, 2, 1⟩ 1 0 (oneF ⟨9, 9, 9, 9⟩) (ptX (someR ⟨-2, 0, 2, 1⟩) 0) (ptY (someR ⟨-2, 0, 2, 1⟩) 0) = noP := by kernel_rfl
theorem aw_p1 : boxM true ⟨-2, 0, 2, 1⟩ 1 0 (oneF ⟨9, 9, 9, 9⟩) (ptX (someR ⟨-2, 0, 2, 1⟩) 1) (ptY (someR ⟨-2, 0, 2, 1⟩) 1) = ⟨9, 9, 9, 9⟩ := by kernel_rfl
theorem aw_p2 : boxM true ⟨-2, 0, 2, 1⟩ 1 0 (oneF ⟨9, 9, 9, 9⟩) (ptX (someR ⟨-2, 0, 2, 1⟩) 2) (ptY (someR ⟨-2, 0, 2, 1⟩) 2) = ⟨9, 9, 9, 9⟩ := by kernel_rfl
theorem aw_p3 : boxM true ⟨-2, 0, 2, 1⟩ 1 0 (oneF ⟨9, 9, 9, 9⟩) (ptX (someR ⟨-2, 0, 2, 1⟩) 3) (ptY (someR ⟨-2, 0, 2, 1⟩) 3) = ⟨9, 9, 9, 9⟩ := by kernel_rfl
theorem aw_q2 : boxM false ⟨-2, 0, 2, 1⟩ 1 0 (oneF ⟨9, 9, 9, 9⟩) (ptX (someR ⟨-2, 0, 2, 1⟩) 2) (ptY (someR ⟨-2, 0, 2, 1⟩) 2) = noP := by kernel_rfl
theorem aw_one {W : World} {n : Nat} (h : Blk W n 33 #[.int .u8 9, .int .u8 9, .int .u8 9, .int .u8 9]) : Hid (BufAt W oneR (some ⟨n, 0, none⟩) 1 1 (oneF ⟨9, 9, 9, 9⟩)) :=
  bufAt_of good_one (by decide) (isPix_one (p := ⟨9, 9, 9, 9⟩) (by simp [okP]) h)
theorem aw_most (W : World) (n : Nat) (h : Blk W n 33 #[.int .u8 9, .int .u8 9, .int .u8 9, .int .u8 9]) : Calls Try.prog 14 #[.agg #[.int .i64 0, .int .i64 0, .int .i64 1, .int .i64 1, .slice (some ⟨n, 0, none⟩) 1 1], .agg #[.int .i64 (-2), .int .i64 0, .int .i64 2, .int .i64 1], .int .i64 1, .int .i64 0] W (RetBuf W (someR ⟨-2, 0, 2, 1⟩) (boxM true ⟨-2, 0, 2, 1⟩ 1 0 (oneF ⟨9, 9, 9, 9⟩))) :=
  morph_Most ⟨-2, 0, 2, 1⟩ oneR (some ⟨n, 0, none⟩) 1 1 _ 1 0 W (aw_one h) (by decide) (by decide +kernel) (by decide +kernel) (by decide +kernel) (by decide) (by decide)
theorem aw_least (W : World) (n : Nat) (h : Blk W n 33 #[.int .u8 9, .int .u8 9, .int .u8 9, .int .u8 9]) : Calls Try.prog 12 #[.agg #[.int .i64 0, .int .i64 0, .int .i64 1, .int .i64 1, .slice (some ⟨n, 0, none⟩) 1 1], .agg #[.int .i64 (-2), .int .i64 0, .int .i64 2, .int .i64 1], .int .i64 1, .int .i64 0] W (RetBuf W (someR ⟨-2, 0, 2, 1⟩) (boxM false ⟨-2, 0, 2, 1⟩ 1 0 (oneF ⟨9, 9, 9, 9⟩))) :=
  morph_Least ⟨-2, 0, 2, 1⟩ oneR (some ⟨n, 0, none⟩) 1 1 _ 1 0 W (aw_one h) (by decide) (by decide +kernel) (by decide +kernel) (by decide +kernel) (by decide) (by decide)

set_option maxRecDepth 100000 in
set_option maxHeartbeats 6400000 in
theorem awake09 (w : World) : Calls Try.prog 9 #[] w fun e w' => e = .returned (.bool true) ∧ Grows w w' := by
  have HX1 := Lib.hid aw_most
  have HX2 := Lib.hid aw_least
  have HE := Lib.hid (And.intro aw_r0 (And.intro aw_p0 (And.intro aw_p1 (And.intro aw_p2 (And.intro aw_p3 aw_q2)))))
  obtain ⟨r0, hr0⟩ : ∃ r0 : R, r0 = someR ⟨-2, 0, 2, 1⟩ := ⟨_, rfl⟩
  obtain ⟨B0, hB0⟩ : ∃ B, B = boxM true ⟨-2, 0, 2, 1⟩ 1 0 (oneF ⟨9, 9, 9, 9⟩) := ⟨_, rfl⟩
  obtain ⟨B1, hB1⟩ : ∃ B, B = boxM false ⟨-2, 0, 2, 1⟩ 1 0 (oneF ⟨9, 9, 9, 9⟩) := ⟨_, rfl⟩
  rw [← hr0, ← hB0, ← hB1] at HE
  rw [← hr0, ← hB0] at HX1
  rw [← hr0, ← hB1] at HX2
  clear hr0 hB0 hB1
  go_enter Try.func9, Try.ntmps9
  go_wp2_with (first
    | (go_at_call 14; (with_reducible refine Calls.mono (HX1.out _ _ ?_) ?_); (exact (by unfold Blk; repeat (first | exact blk_at _ _ _ (by first | omega | (simp; done) | (simp; omega)) | refine (blk_past _ _ _ (by first | omega | (simp; done) | (simp; omega))).trans ?_ | refine (heap_grow _ _ _ (by first | omega | (simp; done) | (simp; omega))).trans ?_ | refine (blk_drew _ _).trans ?_))); rintro e w' ⟨a1, l1, p1, rfl, hgw, HC1⟩; (first | (obtain ⟨gb1, rfl⟩ := grows_of_grow hgw) | (obtain ⟨gb1, rfl⟩ := hgw)))
    | (go_at_call 12; (with_reducible refine Calls.mono (HX2.out _ _ ?_) ?_); (exact (by unfold Blk; repeat (first | exact blk_at _ _ _ (by first | omega | (simp; done) | (simp; omega)) | refine (blk_past _ _ _ (by first | omega | (simp; done) | (simp; omega))).trans ?_ | refine (heap_grow _ _ _ (by first | omega | (simp; done) | (simp; omega))).trans ?_ | refine (blk_drew _ _).trans ?_))); rintro e w' ⟨a2, l2, p2, rfl, hgw, HC2⟩; (first | (obtain ⟨gb2, rfl⟩ := grows_of_grow hgw) | (obtain ⟨gb2, rfl⟩ := hgw))))
  refine wp_name ?_
  intro W hW
  have Bp : Blk W w.heap.size 33 #[.int .u8 9, .int .u8 9, .int .u8 9, .int .u8 9] := by rw [hW]; exact (by unfold Blk; repeat (first | exact blk_at _ _ _ (by first | omega | (simp; done) | (simp; omega)) | refine (blk_past _ _ _ (by first | omega | (simp; done) | (simp; omega))).trans ?_ | refine (heap_grow _ _ _ (by first | omega | (simp; done) | (simp; omega))).trans ?_ | refine (blk_drew _ _).trans ?_))
  have Bc : Blk W (w.heap.size + 1 + 1 + 1 + 1 + gb1.news.size) 26 #[.int .i64 r0.x0, .int .i64 r0.y0, .int .i64 r0.x1, .int .i64 r0.y1, .slice a1 l1 p1] := by rw [hW]; exact (by unfold Blk; repeat (first | exact blk_at _ _ _ (by first | omega | (simp; done) | (simp; omega)) | refine (blk_past _ _ _ (by first | omega | (simp; done) | (simp; omega))).trans ?_ | refine (heap_grow _ _ _ (by first | omega | (simp; done) | (simp; omega))).trans ?_ | refine (blk_drew _ _).trans ?_))
  have Bd : Blk W (w.heap.size + 1 + 1 + 1 + 1 + gb1.news.size + 1 + gb2.news.size) 26 #[.int .i64 r0.x0, .int .i64 r0.y0, .int .i64 r0.x1, .int .i64 r0.y1, .slice a2 l2 p2] := by rw [hW]; exact (by unfold Blk; repeat (first | exact blk_at _ _ _ (by first | omega | (simp; done) | (simp; omega)) | refine (blk_past _ _ _ (by first | omega | (simp; done) | (simp; omega))).trans ?_ | refine (heap_grow _ _ _ (by first | omega | (simp; done) | (simp; omega))).trans ?_ | refine (blk_drew _ _).trans ?_))
  have HA : BufAt W r0 a1 l1 p1 B0 := by rw [hW]; exact HC1.out.1.grows (by repeat (first | exact Grows.refl _ | apply Grows.grow | apply Grows.alloc | apply Grows.drew))
  have HA2 : BufAt W r0 a2 l2 p2 B1 := by rw [hW]; exact HC2.out.1.grows (by repeat (first | exact Grows.refl _ | apply Grows.grow | apply Grows.alloc | apply Grows.drew))
  have GR : Hid (Grows w W) := by rw [hW]; exact (by repeat (first | exact Grows.refl _ | apply Grows.grow | apply Grows.alloc | apply Grows.drew))
  obtain ⟨q0, e0, e1, e2, e3, f2⟩ := HE.out
  have hl : l1 = 4 := HA.count.trans q0
  subst hl
  have hl : l2 = 4 := HA2.count.trans q0
  subst hl
  have hm := HA.most
  have hm2 := HA2.most
  obtain ⟨b, off, rfl, hb, -, x0, x1, x2, x3⟩ := HA.pix.px (k := 0) (by omega)
  obtain ⟨b', off', e, -, -, y0, y1, y2, y3⟩ := HA.pix.px (k := 1) (by omega)
  cases e
  obtain ⟨b', off', e, -, -, v0, v1, v2, v3⟩ := HA.pix.px (k := 2) (by omega)
  cases e
  obtain ⟨b', off', e, -, -, z0, z1, z2, z3⟩ := HA.pix.px (k := 3) (by omega)
  cases e
  obtain ⟨bx, offx, rfl, hb2, -, u0, u1, u2, u3⟩ := HA2.pix.px (k := 2) (by omega)
  simp only [e0, noP, Nat.zero_mul, Nat.add_zero] at x0 x1 x2 x3
  simp only [e1, Nat.one_mul, Nat.add_assoc, Nat.reduceAdd] at y0 y1 y2 y3
  simp only [e2, Nat.reduceMul, Nat.add_assoc, Nat.reduceAdd] at v0 v1 v2 v3
  simp only [e3, Nat.reduceMul, Nat.add_assoc, Nat.reduceAdd] at z0 z1 z2 z3
  simp only [f2, noP, Nat.reduceMul, Nat.add_assoc, Nat.reduceAdd] at u0 u1 u2 u3
  obtain ⟨nd, hnd⟩ : ∃ n, n = w.heap.size + 1 + 1 + 1 + 1 + gb1.news.size + 1 + gb2.news.size := ⟨_, rfl⟩
  rw [← hnd] at Bd ⊢
  obtain ⟨nc, hnc⟩ : ∃ n, n = w.heap.size + 1 + 1 + 1 + 1 + gb1.news.size := ⟨_, rfl⟩
  rw [← hnc] at Bc ⊢
  obtain ⟨b0, b1, b2', b3, b4, bf⟩ := Bc.c5
  obtain ⟨c0, c1, c2, c3, c4, cf⟩ := Bd.c5
  obtain ⟨t0, t1, t2, t3, tf⟩ := Bp.c4
  have lb := Bc.lt
  have lc := Bd.lt
  have lt := Bp.lt
  clear hnd hnc hW HX1 HX2 HC1 HC2 HE e0 e1 e2 e3 f2 q0 HA HA2 Bp Bc Bd
  first | refine region_grow2 (by kernel_rfl) (by kernel_rfl) ?_ | refine region_grow (by kernel_rfl) (by kernel_rfl) ?_
  repeat (go_big_quiet_step (fail))
  refine wpQuiet_nil ?_
  rintro _ ⟨gr, rfl⟩
  go_wp2
  go_ret
  exact ⟨rfl, GR.out.trans (by repeat (first | exact Grows.refl _ | apply Grows.grow | apply Grows.alloc | apply Grows.drew))⟩
def fine09 (len : Nat) (r box : R) (rx ry : Int) : Bool := decide (len ≤ 300) && (bufB r len && (decide (rx ≤ 8) && (decide (ry ≤ 8) && fineB box rx ry 600)))
set_option maxHeartbeats 1600000 in
theorem law09_fine (r box : R) (a : Option Addr) (len cap : Nat) (rx ry : Int) (w : World) (hl : len ≤ cap) (hm : cap ≤ 9223372036854775807) :
    Calls Try.prog 10 #[.agg #[.int .i64 r.x0, .int .i64 r.y0, .int .i64 r.x1, .int .i64 r.y1, .slice a len cap], .agg #[.int .i64 box.x0, .int .i64 box.y0, .int .i64 box.x1, .int .i64 box.y1], .int .i64 rx, .int .i64 ry] w fun e w' => e = .returned (.bool (fine09 len r box rx ry)) ∧ Grows w w' := by
  go_enter Try.func10, Try.ntmps10
  go_wp2_with (first
    | (go_at_call 19; refine (ref05_Right r a len cap _ (by omega)).mono ?_; rintro e w' ⟨rfl, hgw⟩; first | (obtain ⟨gw, rfl⟩ := grows_of_grow hgw) | (obtain ⟨gw, rfl⟩ := hgw))
    | (go_at_call 20; refine (ref08_Fine box rx ry 600 _).mono ?_; rintro e w' ⟨rfl, hgw⟩; first | (obtain ⟨gw, rfl⟩ := grows_of_grow hgw) | (obtain ⟨gw, rfl⟩ := hgw)))
  all_goals go_ret
  all_goals refine ⟨ret_b (by unfold fine09; simp_all <;> omega), (by repeat (first | exact Grows.refl _ | apply Grows.grow | apply Grows.alloc | apply Grows.drew))⟩
theorem law09_fineIs (r box : R) (a : Option Addr) (len cap : Nat) (rx ry : Int) (w : World) (c : Bool) (hl : len ≤ cap) (hm : cap ≤ 9223372036854775807) (h : Hid (fine09 len r box rx ry = c)) :
    Calls Try.prog 10 #[.agg #[.int .i64 r.x0, .int .i64 r.y0, .int .i64 r.x1, .int .i64 r.y1, .slice a len cap], .agg #[.int .i64 box.x0, .int .i64 box.y0, .int .i64 box.x1, .int .i64 box.y1], .int .i64 rx, .int .i64 ry] w fun e w' => e = .returned (.bool c) ∧ Grows w w' := by
  have := law09_fine r box a len cap rx ry w hl hm
  rwa [h.out] at this
/-- What is fine. -/
theorem fine09_yes {len : Nat} {r box : R} {rx ry : Int} (h : fine09 len r box rx ry = true) : len ≤ 300 ∧ GoodR r ∧ len = cntR r ∧ cntR r ≤ 300 ∧ (0 ≤ rx ∧ rx ≤ 8) ∧ (0 ≤ ry ∧ ry ≤ 8) ∧ smallR box ∧ rightR box = true ∧ cntR (growR box 0 ry 0 ry) ≤ 600 ∧ cntR (someR box) ≤ 600 := by
  unfold fine09 at h
  simp only [Bool.and_eq_true, decide_eq_true_eq] at h
  obtain ⟨h1, h2, h3, h4, h5⟩ := h
  obtain ⟨g, n⟩ := bufB_yes h2 (by omega)
  obtain ⟨k1, k2, k3, k4, k5, k6, -⟩ := fine_cnt h5 (by omega)
  exact ⟨h1, g, n, by omega, by omega, by omega, k1, k4, by omega, by omega⟩

end Go.Proofs.Ytbpcpndiohlchaa
