/- The walk of chapter 9's law MorphTwice. -/
import Derived.Test.YtbpcpndiohlchaaMorphN
import Derived.Test.YtbpcpndiohlchaaRef5S
import Derived.Deep.RegionHeld3
namespace Go.Proofs.Ytbpcpndiohlchaa
open Go.RowKit
set_option linter.unusedVariables false

/-- A world, named, behind a region. -/
theorem then_name {K : Act → World → Prop} {Q : Exit → Act → World → Prop} {a : Act} {w : World} (h : ∀ W, W = w → Exit.then K Q .normal a W) : Exit.then K Q .normal a w := h w rfl
theorem bool_no {b : Bool} (h : ¬ b = true) : b = false := by cases b <;> simp_all
theorem grow_narrow {b : R} {q ry : Int} (hs : smallR b) (hq : 0 ≤ q) (h : q ≤ ry) (hy : ry ≤ 255) : cntR (growR b 0 q 0 q) ≤ cntR (growR b 0 ry 0 ry) := by
  cases he : emptyR b
  · have k := (emptyR_not b).1 he
    have c1 := (good_grow b 0 q 0 q).cnt
    have c2 := (good_grow b 0 ry 0 ry).cnt
    rw [grow_small hs he (by omega) (by omega) (by omega) (by omega)] at c1 ⊢
    rw [grow_small hs he (by omega) (by omega) (by omega) (by omega)] at c2 ⊢
    have c3 : ((cntR _ : Nat) : Int) = (b.x1 + 0 - (b.x0 - 0)) * (b.y1 + q - (b.y0 - q)) := c1
    have c4 : ((cntR _ : Nat) : Int) = (b.x1 + 0 - (b.x0 - 0)) * (b.y1 + ry - (b.y0 - ry)) := c2
    have m := Int.mul_le_mul_of_nonneg_left (show b.y1 + q - (b.y0 - q) ≤ b.y1 + ry - (b.y0 - ry) by omega) (show 0 ≤ b.x1 + 0 - (b.x0 - 0) by omega)
    clear c1 c2
    omega
  · have e : ∀ l u r d, growR b l u r d = zeroR := fun l u r d => by unfold growR; rw [if_pos he]
    rw [e, e]
    exact Nat.le_refl _
set_option maxHeartbeats 12800000 in
theorem morphTwice_walk (r1 : R) (a1 : Option Addr) (l1 p1 : Nat) (f1 : Nat → P4) (s : R) (rx ry by_ : Int) (w : World)
    (hb1 : IsPix w a1 l1 p1 f1) (hx : -9223372036854775808 ≤ rx ∧ rx ≤ 9223372036854775807) (hy : -9223372036854775808 ≤ ry ∧ ry ≤ 9223372036854775807) (hb : -9223372036854775808 ≤ by_ ∧ by_ ≤ 9223372036854775807) :
    Calls Try.prog 7 #[.agg #[.int .i64 r1.x0, .int .i64 r1.y0, .int .i64 r1.x1, .int .i64 r1.y1, .slice a1 l1 p1], .agg #[.int .i64 s.x0, .int .i64 s.y0, .int .i64 s.x1, .int .i64 s.y1], .int .i64 rx, .int .i64 ry, .int .i64 by_] w fun e w' => e = .returned (.bool true) ∧ Grows w w' := by
  have m1 := hb1.le
  have m1' := hb1.most
  have h1 := Lib.hid hb1
  clear hb1
  by_cases d0 : by_ < 0
  · go_enter Try.func7, Try.ntmps7
    go_wp2_with ((first | (go_at_call 9; refine (awake09 _ ).mono ?_; rintro e w' ⟨rfl, hgw⟩; first | (obtain ⟨gw, rfl⟩ := grows_of_grow hgw) | (obtain ⟨gw, rfl⟩ := hgw))))
    go_ret
    exact ⟨rfl, (by repeat (first | exact Grows.refl _ | apply Grows.grow | apply Grows.alloc | apply Grows.drew))⟩
  by_cases d1 : 3 < by_
  · go_enter Try.func7, Try.ntmps7
    go_wp2_with ((first | (go_at_call 9; refine (awake09 _ ).mono ?_; rintro e w' ⟨rfl, hgw⟩; first | (obtain ⟨gw, rfl⟩ := grows_of_grow hgw) | (obtain ⟨gw, rfl⟩ := hgw))))
    go_ret
    exact ⟨rfl, (by repeat (first | exact Grows.refl _ | apply Grows.grow | apply Grows.alloc | apply Grows.drew))⟩
  by_cases ox : 9223372036854775807 < rx + by_
  · by_cases oy : 9223372036854775807 < ry + by_
    · have C1 := Lib.hid (bool_no (b := fine09 l1 r1 s (wrap64 (rx + by_)) (wrap64 (ry + by_))) (fun e => by have := fine09_yes e; unfold wrap64 at this; omega))
      go_enter Try.func7, Try.ntmps7
      go_wp2_with ((first | (go_at_call 9; refine (awake09 _ ).mono ?_; rintro e w' ⟨rfl, hgw⟩; first | (obtain ⟨gw, rfl⟩ := grows_of_grow hgw) | (obtain ⟨gw, rfl⟩ := hgw)) | (go_at_call 10; (with_reducible refine (law09_fineIs _ _ _ _ _ _ _ _ _ (by omega) (by omega) C1).mono ?_); rintro e w' ⟨rfl, hgw⟩; first | (obtain ⟨gw, rfl⟩ := grows_of_grow hgw) | (obtain ⟨gw, rfl⟩ := hgw))))
      go_ret
      exact ⟨rfl, (by repeat (first | exact Grows.refl _ | apply Grows.grow | apply Grows.alloc | apply Grows.drew))⟩
    · have C1 := Lib.hid (bool_no (b := fine09 l1 r1 s (wrap64 (rx + by_)) (ry + by_)) (fun e => by have := fine09_yes e; unfold wrap64 at this; omega))
      go_enter Try.func7, Try.ntmps7
      go_wp2_with ((first | (go_at_call 9; refine (awake09 _ ).mono ?_; rintro e w' ⟨rfl, hgw⟩; first | (obtain ⟨gw, rfl⟩ := grows_of_grow hgw) | (obtain ⟨gw, rfl⟩ := hgw)) | (go_at_call 10; (with_reducible refine (law09_fineIs _ _ _ _ _ _ _ _ _ (by omega) (by omega) C1).mono ?_); rintro e w' ⟨rfl, hgw⟩; first | (obtain ⟨gw, rfl⟩ := grows_of_grow hgw) | (obtain ⟨gw, rfl⟩ := hgw))))
      go_ret
      exact ⟨rfl, (by repeat (first | exact Grows.refl _ | apply Grows.grow | apply Grows.alloc | apply Grows.drew))⟩
  by_cases oy : 9223372036854775807 < ry + by_
  · have C1 := Lib.hid (bool_no (b := fine09 l1 r1 s (rx + by_) (wrap64 (ry + by_))) (fun e => by have := fine09_yes e; unfold wrap64 at this; omega))
    go_enter Try.func7, Try.ntmps7
    go_wp2_with ((first | (go_at_call 9; refine (awake09 _ ).mono ?_; rintro e w' ⟨rfl, hgw⟩; first | (obtain ⟨gw, rfl⟩ := grows_of_grow hgw) | (obtain ⟨gw, rfl⟩ := hgw)) | (go_at_call 10; (with_reducible refine (law09_fineIs _ _ _ _ _ _ _ _ _ (by omega) (by omega) C1).mono ?_); rintro e w' ⟨rfl, hgw⟩; first | (obtain ⟨gw, rfl⟩ := grows_of_grow hgw) | (obtain ⟨gw, rfl⟩ := hgw))))
    go_ret
    exact ⟨rfl, (by repeat (first | exact Grows.refl _ | apply Grows.grow | apply Grows.alloc | apply Grows.drew))⟩
  by_cases c1 : fine09 l1 r1 s (rx + by_) (ry + by_) = false
  · have C1 := Lib.hid c1
    clear c1
    go_enter Try.func7, Try.ntmps7
    go_wp2_with ((first | (go_at_call 9; refine (awake09 _ ).mono ?_; rintro e w' ⟨rfl, hgw⟩; first | (obtain ⟨gw, rfl⟩ := grows_of_grow hgw) | (obtain ⟨gw, rfl⟩ := hgw)) | (go_at_call 10; (with_reducible refine (law09_fineIs _ _ _ _ _ _ _ _ _ (by omega) (by omega) C1).mono ?_); rintro e w' ⟨rfl, hgw⟩; first | (obtain ⟨gw, rfl⟩ := grows_of_grow hgw) | (obtain ⟨gw, rfl⟩ := hgw))))
    go_ret
    exact ⟨rfl, (by repeat (first | exact Grows.refl _ | apply Grows.grow | apply Grows.alloc | apply Grows.drew))⟩
  have C1 := Lib.hid (bool_yes c1)
  obtain ⟨k1, g1, n1, k2, hrx, hry, hsm, hrs, k3, k4⟩ := fine09_yes C1.out
  by_cases d2 : rx < 0
  · clear c1 g1 n1 hsm hrs k3 k4
    go_enter Try.func7, Try.ntmps7
    go_wp2_with ((first | (go_at_call 9; refine (awake09 _ ).mono ?_; rintro e w' ⟨rfl, hgw⟩; first | (obtain ⟨gw, rfl⟩ := grows_of_grow hgw) | (obtain ⟨gw, rfl⟩ := hgw)) | (go_at_call 10; (with_reducible refine (law09_fineIs _ _ _ _ _ _ _ _ _ (by omega) (by omega) C1).mono ?_); rintro e w' ⟨rfl, hgw⟩; first | (obtain ⟨gw, rfl⟩ := grows_of_grow hgw) | (obtain ⟨gw, rfl⟩ := hgw))))
    go_ret
    exact ⟨rfl, (by repeat (first | exact Grows.refl _ | apply Grows.grow | apply Grows.alloc | apply Grows.drew))⟩
  by_cases d3 : ry < 0
  · clear c1 g1 n1 hsm hrs k3 k4
    go_enter Try.func7, Try.ntmps7
    go_wp2_with ((first | (go_at_call 9; refine (awake09 _ ).mono ?_; rintro e w' ⟨rfl, hgw⟩; first | (obtain ⟨gw, rfl⟩ := grows_of_grow hgw) | (obtain ⟨gw, rfl⟩ := hgw)) | (go_at_call 10; (with_reducible refine (law09_fineIs _ _ _ _ _ _ _ _ _ (by omega) (by omega) C1).mono ?_); rintro e w' ⟨rfl, hgw⟩; first | (obtain ⟨gw, rfl⟩ := grows_of_grow hgw) | (obtain ⟨gw, rfl⟩ := hgw))))
    go_ret
    exact ⟨rfl, (by repeat (first | exact Grows.refl _ | apply Grows.grow | apply Grows.alloc | apply Grows.drew))⟩
  obtain ⟨rx, rfl⟩ : ∃ n : Nat, rx = n := ⟨rx.toNat, by omega⟩
  obtain ⟨ry, rfl⟩ : ∃ n : Nat, ry = n := ⟨ry.toNat, by omega⟩
  obtain ⟨q, rfl⟩ : ∃ n : Nat, by_ = n := ⟨by_.toNat, by omega⟩
  obtain ⟨F, hF⟩ : ∃ F, F = imgOf r1 f1 := ⟨_, rfl⟩
  have X1 : Hid (BufAt w r1 a1 l1 p1 F) := by rw [hF]; exact bufAt_of g1 n1 h1.out
  have hmo := grow_mono hsm (rx := (rx : Int) + q) (ry := (ry : Int) + q) (q := q) (by omega) (by omega) (by omega) (by omega) (by omega)
  have hmr := fine09_more C1.out
  obtain ⟨w1, w2, w3, -⟩ := wide_facts hsm (rx := q) (ry := q) (by omega) (by omega) (n := 600) (by omega) (by omega) (q := ry) (by omega)
  have hgw := good_grow s q q q q
  have HGr : Hid (∀ w, Calls Try.prog 18 #[.agg #[.int .i64 s.x0, .int .i64 s.y0, .int .i64 s.x1, .int .i64 s.y1], .int .i64 (q : Int), .int .i64 (q : Int), .int .i64 (q : Int), .int .i64 (q : Int)] w fun e w' => e = .returned (.agg #[.int .i64 (growR s q q q q).x0, .int .i64 (growR s q q q q).y0, .int .i64 (growR s q q q q).x1, .int .i64 (growR s q q q q).y1]) ∧ Grows w w') := fun w => ref03_growR s q q q q w hrs (by omega) (by omega) (by omega) (by omega)
  have HB1 : Hid (∀ W, Grows w W → Calls Try.prog 14 #[.agg #[.int .i64 r1.x0, .int .i64 r1.y0, .int .i64 r1.x1, .int .i64 r1.y1, .slice a1 l1 p1], .agg #[.int .i64 (growR s q q q q).x0, .int .i64 (growR s q q q q).y0, .int .i64 (growR s q q q q).x1, .int .i64 (growR s q q q q).y1], .int .i64 (rx : Int), .int .i64 (ry : Int)] W (RetBuf W (growR s q q q q) (boxM true (growR s q q q q) rx ry F))) := fun W g => by
    have := morph_Most (growR s q q q q) r1 a1 l1 p1 F rx ry W (X1.out.grows g) (by omega) w1 (by omega) (by omega) (by omega) (by omega)
    rwa [hgw.some_eq] at this
  have HB2 : Hid (∀ W aq lq pq, Hid (BufAt W (growR s q q q q) aq lq pq (boxM true (growR s q q q q) rx ry F)) → Calls Try.prog 14 #[.agg #[.int .i64 (growR s q q q q).x0, .int .i64 (growR s q q q q).y0, .int .i64 (growR s q q q q).x1, .int .i64 (growR s q q q q).y1, .slice aq lq pq], .agg #[.int .i64 s.x0, .int .i64 s.y0, .int .i64 s.x1, .int .i64 s.y1], .int .i64 (q : Int), .int .i64 (q : Int)] W (RetBuf W (someR s) (boxM true s ((rx : Int) + q) ((ry : Int) + q) F))) := fun W aq lq pq h => by
    have k5 : cntR (growR s 0 q 0 q) ≤ 40000 := by
      have := (good_grow s 0 q 0 q)
      have e := grow_narrow hsm (q := q) (ry := (ry : Int) + q) (by omega) (by omega) (by omega)
      omega
    have := morph_Most s (growR s q q q q) aq lq pq _ q q W h (by rw [hgw.some_eq] at w3; omega) hrs k5 (by omega) (by omega) (by omega)
    rwa [boxM_two X1.out.fits.ok hsm (by omega) (by omega) (by omega) (by omega) (by omega)] at this
  have HB3 : Hid (∀ W, Grows w W → Calls Try.prog 14 #[.agg #[.int .i64 r1.x0, .int .i64 r1.y0, .int .i64 r1.x1, .int .i64 r1.y1, .slice a1 l1 p1], .agg #[.int .i64 s.x0, .int .i64 s.y0, .int .i64 s.x1, .int .i64 s.y1], .int .i64 ((rx : Int) + q), .int .i64 ((ry : Int) + q)] W (RetBuf W (someR s) (boxM true s ((rx : Int) + q) ((ry : Int) + q) F))) := fun W g => morph_MostI s r1 a1 l1 p1 F _ _ W (X1.out.grows g) (by omega) hrs (by omega) (by omega) (by omega) (by omega) (by omega) (by omega)
  obtain ⟨M, hM⟩ : ∃ B, B = boxM true (growR s q q q q) rx ry F := ⟨_, rfl⟩
  obtain ⟨B, hB⟩ : ∃ B, B = boxM true s ((rx : Int) + q) ((ry : Int) + q) F := ⟨_, rfl⟩
  obtain ⟨t, ht⟩ : ∃ t, t = someR s := ⟨_, rfl⟩
  rw [← hM] at HB1 HB2
  rw [← hB, ← ht] at HB2 HB3
  obtain ⟨g, hg⟩ : ∃ g, g = growR s q q q q := ⟨_, rfl⟩
  rw [← hg] at HGr HB1 HB2
  clear c1 g1 n1 hF hM hB ht hg hsm hrs k3 k4 X1 h1 hgw w1 w2 w3 hmo hmr
  have hw1 : IntKind.i64.wrap ((rx : Int) + q) = (rx : Int) + q := IntWalk.i64_in _ (by omega)
  have hw2 : IntKind.i64.wrap ((ry : Int) + q) = (ry : Int) + q := IntWalk.i64_in _ (by omega)
  go_enter Try.func7, Try.ntmps7
  go_wp2_with (first | (first | (go_at_call 9; refine (awake09 _ ).mono ?_; rintro e w' ⟨rfl, hgw⟩; first | (obtain ⟨gw, rfl⟩ := grows_of_grow hgw) | (obtain ⟨gw, rfl⟩ := hgw)) | (go_at_call 10; (with_reducible refine (law09_fineIs _ _ _ _ _ _ _ _ _ (by omega) (by omega) C1).mono ?_); rintro e w' ⟨rfl, hgw⟩; first | (obtain ⟨gw, rfl⟩ := grows_of_grow hgw) | (obtain ⟨gw, rfl⟩ := hgw))) | (go_at_call 18; refine (HGr.out _).mono ?_; rintro e w' ⟨rfl, hgw⟩; first | (obtain ⟨gw, rfl⟩ := grows_of_grow hgw) | (obtain ⟨gw, rfl⟩ := hgw)))
  go_region_held3 (fun w' => w'.cell? ⟨w.heap.size, 0, none⟩ = some (.int .i64 r1.x0) ∧ w'.cell? ⟨w.heap.size, 1, none⟩ = some (.int .i64 r1.y0) ∧ w'.cell? ⟨w.heap.size, 2, none⟩ = some (.int .i64 r1.x1) ∧ w'.cell? ⟨w.heap.size, 3, none⟩ = some (.int .i64 r1.y1) ∧ w'.cell? ⟨w.heap.size, 4, none⟩ = some (.slice a1 l1 p1) ∧ w'.cell? ⟨w.heap.size + 1, 0, none⟩ = some (.int .i64 s.x0) ∧ w'.cell? ⟨w.heap.size + 1, 1, none⟩ = some (.int .i64 s.y0) ∧ w'.cell? ⟨w.heap.size + 1, 2, none⟩ = some (.int .i64 s.x1) ∧ w'.cell? ⟨w.heap.size + 1, 3, none⟩ = some (.int .i64 s.y1) ∧ w'.cell? ⟨w.heap.size + 1 + 1 + gw.news.size, 0, none⟩ = some (.int .i64 g.x0) ∧ w'.cell? ⟨w.heap.size + 1 + 1 + gw.news.size, 1, none⟩ = some (.int .i64 g.y0) ∧ w'.cell? ⟨w.heap.size + 1 + 1 + gw.news.size, 2, none⟩ = some (.int .i64 g.x1) ∧ w'.cell? ⟨w.heap.size + 1 + 1 + gw.news.size, 3, none⟩ = some (.int .i64 g.y1)) (go_simp) (first
    | (go_at_call 14; (with_reducible refine Calls.mono (HB1.out _ ?_) ?_); (exact (by repeat (first | exact Grows.refl _ | apply Grows.grow | apply Grows.alloc | apply Grows.drew))); rintro e w' ⟨aq1, lq1, pq1, rfl, hgw, HQ1⟩; (first | (obtain ⟨ga, rfl⟩ := grows_of_grow hgw) | (obtain ⟨ga, rfl⟩ := hgw)); (try simp only [grow_drew] at HQ1))
    | (go_at_call 14; (with_reducible refine Calls.mono (HB2.out _ aq1 lq1 pq1 ?_) ?_); (exact Lib.hid (BufAt.grows HQ1.out.1 (by repeat (first | exact Grows.refl _ | apply Grows.grow | apply Grows.alloc | apply Grows.drew)))); rintro e w' ⟨aq2, lq2, pq2, rfl, hgw, HQ2⟩; (first | (obtain ⟨gb, rfl⟩ := grows_of_grow hgw) | (obtain ⟨gb, rfl⟩ := hgw)); (try simp only [grow_drew] at HQ2)))
  · refine then_name ?_
    intro W0 hW0
    have D0 : Blk W0 w.heap.size 26 #[.int .i64 r1.x0, .int .i64 r1.y0, .int .i64 r1.x1, .int .i64 r1.y1, .slice a1 l1 p1] := by rw [hW0]; exact (by unfold Blk; repeat (first | exact blk_at _ _ _ (by first | omega | (simp; done) | (simp; omega)) | refine (blk_past _ _ _ (by first | omega | (simp; done) | (simp; omega))).trans ?_ | refine (heap_grow _ _ _ (by first | omega | (simp; done) | (simp; omega))).trans ?_ | refine (blk_drew _ _).trans ?_))
    have D1 : Blk W0 (w.heap.size + 1) 23 #[.int .i64 s.x0, .int .i64 s.y0, .int .i64 s.x1, .int .i64 s.y1] := by rw [hW0]; exact (by unfold Blk; repeat (first | exact blk_at _ _ _ (by first | omega | (simp; done) | (simp; omega)) | refine (blk_past _ _ _ (by first | omega | (simp; done) | (simp; omega))).trans ?_ | refine (heap_grow _ _ _ (by first | omega | (simp; done) | (simp; omega))).trans ?_ | refine (blk_drew _ _).trans ?_))
    have D2 : Blk W0 (w.heap.size + 1 + 1 + gw.news.size + 1 + gb.news.size) 26 #[.int .i64 t.x0, .int .i64 t.y0, .int .i64 t.x1, .int .i64 t.y1, .slice aq2 lq2 pq2] := by rw [hW0]; exact (by unfold Blk; repeat (first | exact blk_at _ _ _ (by first | omega | (simp; done) | (simp; omega)) | refine (blk_past _ _ _ (by first | omega | (simp; done) | (simp; omega))).trans ?_ | refine (heap_grow _ _ _ (by first | omega | (simp; done) | (simp; omega))).trans ?_ | refine (blk_drew _ _).trans ?_))
    have YB : Hid (BufAt W0 t aq2 lq2 pq2 B) := by rw [hW0]; exact HQ2.out.1.grows (by repeat (first | exact Grows.refl _ | apply Grows.grow | apply Grows.alloc | apply Grows.drew))
    have GW : Hid (Grows w W0) := by rw [hW0]; exact (by repeat (first | exact Grows.refl _ | apply Grows.grow | apply Grows.alloc | apply Grows.drew))
    obtain ⟨nd, hnd⟩ : ∃ n, n = w.heap.size + 1 + 1 + gw.news.size + 1 + gb.news.size := ⟨_, rfl⟩
    rw [← hnd] at D2 ⊢
    obtain ⟨b0, b1, b2, b3, b4, bf⟩ := D0.c5
    obtain ⟨s0, s1, s2, s3, sf⟩ := D1.c4
    obtain ⟨c0, c1, c2, c3, c4, cf⟩ := D2.c5
    have l0 := D0.lt
    have l1' := D1.lt
    have l2 := D2.lt
    clear hW0 hnd D0 D1 D2 HQ1 HQ2 HB1 HB2
    go_wp2
    go_region_held3 (fun w' => w'.cell? ⟨w.heap.size, 0, none⟩ = some (.int .i64 r1.x0) ∧ w'.cell? ⟨w.heap.size, 1, none⟩ = some (.int .i64 r1.y0) ∧ w'.cell? ⟨w.heap.size, 2, none⟩ = some (.int .i64 r1.x1) ∧ w'.cell? ⟨w.heap.size, 3, none⟩ = some (.int .i64 r1.y1) ∧ w'.cell? ⟨w.heap.size, 4, none⟩ = some (.slice a1 l1 p1) ∧ w'.cell? ⟨w.heap.size + 1, 0, none⟩ = some (.int .i64 s.x0) ∧ w'.cell? ⟨w.heap.size + 1, 1, none⟩ = some (.int .i64 s.y0) ∧ w'.cell? ⟨w.heap.size + 1, 2, none⟩ = some (.int .i64 s.x1) ∧ w'.cell? ⟨w.heap.size + 1, 3, none⟩ = some (.int .i64 s.y1) ∧ w'.cell? ⟨nd, 0, none⟩ = some (.int .i64 t.x0) ∧ w'.cell? ⟨nd, 1, none⟩ = some (.int .i64 t.y0) ∧ w'.cell? ⟨nd, 2, none⟩ = some (.int .i64 t.x1) ∧ w'.cell? ⟨nd, 3, none⟩ = some (.int .i64 t.y1) ∧ w'.cell? ⟨nd, 4, none⟩ = some (.slice aq2 lq2 pq2)) (go_simp) (first
      | (go_at_call 14; (with_reducible refine Calls.mono (HB3.out _ ?_) ?_); (exact GW.out.trans (by repeat (first | exact Grows.refl _ | apply Grows.grow | apply Grows.alloc | apply Grows.drew))); rintro e w' ⟨aq3, lq3, pq3, rfl, hgw, HQ3⟩; (first | (obtain ⟨gc, rfl⟩ := grows_of_grow hgw) | (obtain ⟨gc, rfl⟩ := hgw)); (try simp only [grow_drew] at HQ3))
      | (go_at_call 11; (with_reducible refine Calls.mono (ref05_Same t aq2 aq3 lq2 pq2 lq3 pq3 B _ ?_ ?_) ?_); (exact Lib.hid (BufAt.grows YB.out (by repeat (first | exact Grows.refl _ | apply Grows.grow | apply Grows.alloc | apply Grows.drew)))); (exact Lib.hid (BufAt.grows HQ3.out.1 (by repeat (first | exact Grows.refl _ | apply Grows.grow | apply Grows.alloc | apply Grows.drew)))); rintro e w' ⟨rfl, hgw⟩; first | (obtain ⟨gd, rfl⟩ := grows_of_grow hgw) | (obtain ⟨gd, rfl⟩ := hgw)))
    go_wp2
    go_ret
    exact ⟨rfl, GW.out.trans (by repeat (first | exact Grows.refl _ | apply Grows.grow | apply Grows.alloc | apply Grows.drew))⟩
  · refine then_name ?_
    intro W0 hW0
    have D0 : Blk W0 w.heap.size 26 #[.int .i64 r1.x0, .int .i64 r1.y0, .int .i64 r1.x1, .int .i64 r1.y1, .slice a1 l1 p1] := by rw [hW0]; exact (by unfold Blk; repeat (first | exact blk_at _ _ _ (by first | omega | (simp; done) | (simp; omega)) | refine (blk_past _ _ _ (by first | omega | (simp; done) | (simp; omega))).trans ?_ | refine (heap_grow _ _ _ (by first | omega | (simp; done) | (simp; omega))).trans ?_ | refine (blk_drew _ _).trans ?_))
    have D1 : Blk W0 (w.heap.size + 1) 23 #[.int .i64 s.x0, .int .i64 s.y0, .int .i64 s.x1, .int .i64 s.y1] := by rw [hW0]; exact (by unfold Blk; repeat (first | exact blk_at _ _ _ (by first | omega | (simp; done) | (simp; omega)) | refine (blk_past _ _ _ (by first | omega | (simp; done) | (simp; omega))).trans ?_ | refine (heap_grow _ _ _ (by first | omega | (simp; done) | (simp; omega))).trans ?_ | refine (blk_drew _ _).trans ?_))
    have D2 : Blk W0 (w.heap.size + 1 + 1 + gw.news.size + 1 + ga.news.size) 26 #[.int .i64 t.x0, .int .i64 t.y0, .int .i64 t.x1, .int .i64 t.y1, .slice aq2 lq2 pq2] := by rw [hW0]; exact (by unfold Blk; repeat (first | exact blk_at _ _ _ (by first | omega | (simp; done) | (simp; omega)) | refine (blk_past _ _ _ (by first | omega | (simp; done) | (simp; omega))).trans ?_ | refine (heap_grow _ _ _ (by first | omega | (simp; done) | (simp; omega))).trans ?_ | refine (blk_drew _ _).trans ?_))
    have YB : Hid (BufAt W0 t aq2 lq2 pq2 B) := by rw [hW0]; exact (swap_ret (B0 := 0) HQ2.out (by simp <;> omega) (by omega)).out.1
    have GW : Hid (Grows w W0) := by rw [hW0]; exact (by repeat (first | exact Grows.refl _ | apply Grows.grow | apply Grows.alloc | apply Grows.drew))
    obtain ⟨nd, hnd⟩ : ∃ n, n = w.heap.size + 1 + 1 + gw.news.size + 1 + ga.news.size := ⟨_, rfl⟩
    rw [← hnd] at D2 ⊢
    obtain ⟨b0, b1, b2, b3, b4, bf⟩ := D0.c5
    obtain ⟨s0, s1, s2, s3, sf⟩ := D1.c4
    obtain ⟨c0, c1, c2, c3, c4, cf⟩ := D2.c5
    have l0 := D0.lt
    have l1' := D1.lt
    have l2 := D2.lt
    clear hW0 hnd D0 D1 D2 HQ1 HQ2 HB1 HB2
    go_wp2
    go_region_held3 (fun w' => w'.cell? ⟨w.heap.size, 0, none⟩ = some (.int .i64 r1.x0) ∧ w'.cell? ⟨w.heap.size, 1, none⟩ = some (.int .i64 r1.y0) ∧ w'.cell? ⟨w.heap.size, 2, none⟩ = some (.int .i64 r1.x1) ∧ w'.cell? ⟨w.heap.size, 3, none⟩ = some (.int .i64 r1.y1) ∧ w'.cell? ⟨w.heap.size, 4, none⟩ = some (.slice a1 l1 p1) ∧ w'.cell? ⟨w.heap.size + 1, 0, none⟩ = some (.int .i64 s.x0) ∧ w'.cell? ⟨w.heap.size + 1, 1, none⟩ = some (.int .i64 s.y0) ∧ w'.cell? ⟨w.heap.size + 1, 2, none⟩ = some (.int .i64 s.x1) ∧ w'.cell? ⟨w.heap.size + 1, 3, none⟩ = some (.int .i64 s.y1) ∧ w'.cell? ⟨nd, 0, none⟩ = some (.int .i64 t.x0) ∧ w'.cell? ⟨nd, 1, none⟩ = some (.int .i64 t.y0) ∧ w'.cell? ⟨nd, 2, none⟩ = some (.int .i64 t.x1) ∧ w'.cell? ⟨nd, 3, none⟩ = some (.int .i64 t.y1) ∧ w'.cell? ⟨nd, 4, none⟩ = some (.slice aq2 lq2 pq2)) (go_simp) (first
      | (go_at_call 14; (with_reducible refine Calls.mono (HB3.out _ ?_) ?_); (exact GW.out.trans (by repeat (first | exact Grows.refl _ | apply Grows.grow | apply Grows.alloc | apply Grows.drew))); rintro e w' ⟨aq3, lq3, pq3, rfl, hgw, HQ3⟩; (first | (obtain ⟨gc, rfl⟩ := grows_of_grow hgw) | (obtain ⟨gc, rfl⟩ := hgw)); (try simp only [grow_drew] at HQ3))
      | (go_at_call 11; (with_reducible refine Calls.mono (ref05_Same t aq2 aq3 lq2 pq2 lq3 pq3 B _ ?_ ?_) ?_); (exact Lib.hid (BufAt.grows YB.out (by repeat (first | exact Grows.refl _ | apply Grows.grow | apply Grows.alloc | apply Grows.drew)))); (exact Lib.hid (BufAt.grows HQ3.out.1 (by repeat (first | exact Grows.refl _ | apply Grows.grow | apply Grows.alloc | apply Grows.drew)))); rintro e w' ⟨rfl, hgw⟩; first | (obtain ⟨gd, rfl⟩ := grows_of_grow hgw) | (obtain ⟨gd, rfl⟩ := hgw)))
    go_wp2
    go_ret
    exact ⟨rfl, GW.out.trans (by repeat (first | exact Grows.refl _ | apply Grows.grow | apply Grows.alloc | apply Grows.drew))⟩
  · refine then_name ?_
    intro W0 hW0
    have D0 : Blk W0 w.heap.size 26 #[.int .i64 r1.x0, .int .i64 r1.y0, .int .i64 r1.x1, .int .i64 r1.y1, .slice a1 l1 p1] := by rw [hW0]; exact (by unfold Blk; repeat (first | exact blk_at _ _ _ (by first | omega | (simp; done) | (simp; omega)) | refine (blk_past _ _ _ (by first | omega | (simp; done) | (simp; omega))).trans ?_ | refine (heap_grow _ _ _ (by first | omega | (simp; done) | (simp; omega))).trans ?_ | refine (blk_drew _ _).trans ?_))
    have D1 : Blk W0 (w.heap.size + 1) 23 #[.int .i64 s.x0, .int .i64 s.y0, .int .i64 s.x1, .int .i64 s.y1] := by rw [hW0]; exact (by unfold Blk; repeat (first | exact blk_at _ _ _ (by first | omega | (simp; done) | (simp; omega)) | refine (blk_past _ _ _ (by first | omega | (simp; done) | (simp; omega))).trans ?_ | refine (heap_grow _ _ _ (by first | omega | (simp; done) | (simp; omega))).trans ?_ | refine (blk_drew _ _).trans ?_))
    have D2 : Blk W0 (w.heap.size + 1 + 1 + gw.news.size + 1) 26 #[.int .i64 t.x0, .int .i64 t.y0, .int .i64 t.x1, .int .i64 t.y1, .slice aq2 lq2 pq2] := by rw [hW0]; exact (by unfold Blk; repeat (first | exact blk_at _ _ _ (by first | omega | (simp; done) | (simp; omega)) | refine (blk_past _ _ _ (by first | omega | (simp; done) | (simp; omega))).trans ?_ | refine (heap_grow _ _ _ (by first | omega | (simp; done) | (simp; omega))).trans ?_ | refine (blk_drew _ _).trans ?_))
    have YB : Hid (BufAt W0 t aq2 lq2 pq2 B) := by rw [hW0]; exact (swap_ret (B0 := 0) HQ2.out (by simp <;> omega) (by omega)).out.1
    have GW : Hid (Grows w W0) := by rw [hW0]; exact (by repeat (first | exact Grows.refl _ | apply Grows.grow | apply Grows.alloc | apply Grows.drew))
    obtain ⟨nd, hnd⟩ : ∃ n, n = w.heap.size + 1 + 1 + gw.news.size + 1 := ⟨_, rfl⟩
    rw [← hnd] at D2 ⊢
    obtain ⟨b0, b1, b2, b3, b4, bf⟩ := D0.c5
    obtain ⟨s0, s1, s2, s3, sf⟩ := D1.c4
    obtain ⟨c0, c1, c2, c3, c4, cf⟩ := D2.c5
    have l0 := D0.lt
    have l1' := D1.lt
    have l2 := D2.lt
    clear hW0 hnd D0 D1 D2 HQ1 HQ2 HB1 HB2
    go_wp2
    go_region_held3 (fun w' => w'.cell? ⟨w.heap.size, 0, none⟩ = some (.int .i64 r1.x0) ∧ w'.cell? ⟨w.heap.size, 1, none⟩ = some (.int .i64 r1.y0) ∧ w'.cell? ⟨w.heap.size, 2, none⟩ = some (.int .i64 r1.x1) ∧ w'.cell? ⟨w.heap.size, 3, none⟩ = some (.int .i64 r1.y1) ∧ w'.cell? ⟨w.heap.size, 4, none⟩ = some (.slice a1 l1 p1) ∧ w'.cell? ⟨w.heap.size + 1, 0, none⟩ = some (.int .i64 s.x0) ∧ w'.cell? ⟨w.heap.size + 1, 1, none⟩ = some (.int .i64 s.y0) ∧ w'.cell? ⟨w.heap.size + 1, 2, none⟩ = some (.int .i64 s.x1) ∧ w'.cell? ⟨w.heap.size + 1, 3, none⟩ = some (.int .i64 s.y1) ∧ w'.cell? ⟨nd, 0, none⟩ = some (.int .i64 t.x0) ∧ w'.cell? ⟨nd, 1, none⟩ = some (.int .i64 t.y0) ∧ w'.cell? ⟨nd, 2, none⟩ = some (.int .i64 t.x1) ∧ w'.cell? ⟨nd, 3, none⟩ = some (.int .i64 t.y1) ∧ w'.cell? ⟨nd, 4, none⟩ = some (.slice aq2 lq2 pq2)) (go_simp) (first
      | (go_at_call 14; (with_reducible refine Calls.mono (HB3.out _ ?_) ?_); (exact GW.out.trans (by repeat (first | exact Grows.refl _ | apply Grows.grow | apply Grows.alloc | apply Grows.drew))); rintro e w' ⟨aq3, lq3, pq3, rfl, hgw, HQ3⟩; (first | (obtain ⟨gc, rfl⟩ := grows_of_grow hgw) | (obtain ⟨gc, rfl⟩ := hgw)); (try simp only [grow_drew] at HQ3))
      | (go_at_call 11; (with_reducible refine Calls.mono (ref05_Same t aq2 aq3 lq2 pq2 lq3 pq3 B _ ?_ ?_) ?_); (exact Lib.hid (BufAt.grows YB.out (by repeat (first | exact Grows.refl _ | apply Grows.grow | apply Grows.alloc | apply Grows.drew)))); (exact Lib.hid (BufAt.grows HQ3.out.1 (by repeat (first | exact Grows.refl _ | apply Grows.grow | apply Grows.alloc | apply Grows.drew)))); rintro e w' ⟨rfl, hgw⟩; first | (obtain ⟨gd, rfl⟩ := grows_of_grow hgw) | (obtain ⟨gd, rfl⟩ := hgw)))
    go_wp2
    go_ret
    exact ⟨rfl, GW.out.trans (by repeat (first | exact Grows.refl _ | apply Grows.grow | apply Grows.alloc | apply Grows.drew))⟩
end Go.Proofs.Ytbpcpndiohlchaa
