/- What the walks of chapter 8's laws share: what 'fine' gives; and the walk of BlurBoxes. -/
import Derived.Test.YtldgodpenigphaaLaw08A
import Derived.Test.YtldgodpenigphaaRef5S
import Derived.Test.YtldgodpenigphaaLaw05A
namespace Go.Proofs.Ytldgodpenigphaa
open Go.RowKit
set_option linter.unusedVariables false

theorem grow_small {b : R} (hs : smallR b) (ne : emptyR b = false) {l u r d : Int} (hl : 0 ≤ l ∧ l ≤ 255) (hu : 0 ≤ u ∧ u ≤ 255) (hr : 0 ≤ r ∧ r ≤ 255) (hd : 0 ≤ d ∧ d ≤ 255) : growR b l u r d = ⟨b.x0 - l, b.y0 - u, b.x1 + r, b.y1 + d⟩ := by
  have k := (emptyR_not b).1 ne
  unfold smallR at hs
  have e : emptyR (⟨b.x0 - l, b.y0 - u, b.x1 + r, b.y1 + d⟩ : R) = false := (emptyR_not _).2 (by simp only; omega)
  unfold growR
  rw [if_neg (by simp [ne])]
  unfold wholeR
  rw [cutN_in _ (by simp only; omega), cutN_in _ (by simp only; omega), cutN_in _ (by simp only; omega), cutN_in _ (by simp only; omega)]
  unfold someR
  rw [if_neg (by simp [e])]
theorem fine_cnt {b : R} {rx ry n : Int} (h : fineB b rx ry n = true) (hn : n ≤ 30000000000000) : smallR b ∧ (0 ≤ rx ∧ rx ≤ 255) ∧ (0 ≤ ry ∧ ry ≤ 255) ∧ rightR b = true ∧ (cntR (growR b 0 ry 0 ry) : Int) ≤ n ∧ (cntR (someR b) : Int) ≤ n ∧ (cntR (growR b rx ry rx ry) : Int) ≤ n := by
  unfold fineB at h
  rw [Bool.and_eq_true, decide_eq_true_eq, decide_eq_true_eq] at h
  obtain ⟨⟨hx, hy, hs⟩, ha⟩ := h
  refine ⟨hs, hx, hy, hs.right, ?_⟩
  have hg := good_grow b rx ry rx ry
  have hc := hg.area (by omega)
  cases he : emptyR b
  · have k := (emptyR_not b).1 he
    rw [hc] at ha
    have g1 := (good_grow b 0 ry 0 ry).cnt
    have g2 := (good_some hs.right).cnt
    have g3 := hg.cnt
    have e2 : someR b = b := by simp [someR, he]
    rw [e2] at g2 ⊢
    have E1 : growR b rx ry rx ry = ⟨b.x0 - rx, b.y0 - ry, b.x1 + rx, b.y1 + ry⟩ := grow_small hs he (by omega) (by omega) (by omega) (by omega)
    have E2 : growR b 0 ry 0 ry = ⟨b.x0 - 0, b.y0 - ry, b.x1 + 0, b.y1 + ry⟩ := grow_small hs he (by omega) (by omega) (by omega) (by omega)
    rw [E1] at g3 ha ⊢
    rw [E2] at g1 ⊢
    simp only at g1 g3
    have m1 : (b.x1 + 0 - (b.x0 - 0)) * (b.y1 + ry - (b.y0 - ry)) ≤ (b.x1 + rx - (b.x0 - rx)) * (b.y1 + ry - (b.y0 - ry)) := Int.mul_le_mul_of_nonneg_right (by omega) (by omega)
    have m2 : (b.x1 - b.x0) * (b.y1 - b.y0) ≤ (b.x1 + rx - (b.x0 - rx)) * (b.y1 + ry - (b.y0 - ry)) := Int.mul_le_mul (by omega) (by omega) (by omega) (by omega)
    omega
  · have e1 : ∀ l u r d, growR b l u r d = zeroR := fun l u r d => by unfold growR; rw [if_pos he]
    have e2 : someR b = zeroR := by simp [someR, he]
    rw [e1] at ha hc
    rw [e1, e1, e2, cnt_zero]
    rw [cnt_zero] at hc
    omega
theorem law08_fineIs (r box : R) (a : Option Addr) (len cap : Nat) (rx ry : Int) (w : World) (c : Bool) (hl : len ≤ cap) (hm : cap ≤ 9223372036854775807) (h : Hid (fine08 len r box rx ry = c)) :
    Calls Try.prog 25 #[.agg #[.int .i64 r.x0, .int .i64 r.y0, .int .i64 r.x1, .int .i64 r.y1, .slice a len cap], .agg #[.int .i64 box.x0, .int .i64 box.y0, .int .i64 box.x1, .int .i64 box.y1], .int .i64 rx, .int .i64 ry] w fun e w' => e = .returned (.bool c) ∧ Grows w w' := by
  have := law08_fine r box a len cap rx ry w hl hm
  rwa [h.out] at this
/-- What is fine. -/
theorem fine08_yes {len : Nat} {r box : R} {rx ry : Int} (h : fine08 len r box rx ry = true) : len ≤ 300 ∧ GoodR r ∧ len = cntR r ∧ cntR r ≤ 300 ∧ (0 ≤ rx ∧ rx ≤ 12) ∧ (0 ≤ ry ∧ ry ≤ 12) ∧ smallR box ∧ rightR box = true ∧ cntR (growR box 0 ry 0 ry) ≤ 1500 ∧ cntR (someR box) ≤ 1500 := by
  unfold fine08 at h
  simp only [Bool.and_eq_true, decide_eq_true_eq] at h
  obtain ⟨h1, h2, h3, h4, h5⟩ := h
  obtain ⟨g, n⟩ := bufB_yes h2 (by omega)
  obtain ⟨k1, k2, k3, k4, k5, k6, -⟩ := fine_cnt h5 (by omega)
  exact ⟨h1, g, n, by omega, by omega, by omega, k1, k4, by omega, by omega⟩

set_option maxHeartbeats 6400000 in
theorem blurBoxes_walk (r1 : R) (a1 : Option Addr) (l1 p1 : Nat) (f1 : Nat → P4) (s : R) (rx ry : Int) (w : World)
    (hb1 : IsPix w a1 l1 p1 f1) (hx : -9223372036854775808 ≤ rx ∧ rx ≤ 9223372036854775807) (hy : -9223372036854775808 ≤ ry ∧ ry ≤ 9223372036854775807) :
    Calls Try.prog 5 #[.agg #[.int .i64 r1.x0, .int .i64 r1.y0, .int .i64 r1.x1, .int .i64 r1.y1, .slice a1 l1 p1], .agg #[.int .i64 s.x0, .int .i64 s.y0, .int .i64 s.x1, .int .i64 s.y1], .int .i64 rx, .int .i64 ry] w fun e w' => e = .returned (.bool true) ∧ Grows w w' := by
  have m1 := hb1.le
  have m1' := hb1.most
  have h1 := Lib.hid hb1
  clear hb1
  by_cases c1 : fine08 l1 r1 s rx ry = false
  · have C1 := Lib.hid c1
    clear c1
    go_enter Try.func5, Try.ntmps5
    go_wp2_with ((first | (go_at_call 24; refine (awake08 _ ).mono ?_; rintro e w' ⟨rfl, hgw⟩; first | (obtain ⟨gw, rfl⟩ := grows_of_grow hgw) | (obtain ⟨gw, rfl⟩ := hgw)) | (go_at_call 25; (with_reducible refine (law08_fineIs _ _ _ _ _ _ _ _ _ (by omega) (by omega) C1).mono ?_); rintro e w' ⟨rfl, hgw⟩; first | (obtain ⟨gw, rfl⟩ := grows_of_grow hgw) | (obtain ⟨gw, rfl⟩ := hgw))))
    go_ret
    exact ⟨rfl, (by repeat (first | exact Grows.refl _ | apply Grows.grow | apply Grows.alloc | apply Grows.drew))⟩
  have C1 := Lib.hid (bool_yes c1)
  obtain ⟨k1, g1, n1, k2, hrx, hry, hsm, hrs, k3, k4⟩ := fine08_yes C1.out
  obtain ⟨F, hF⟩ : ∃ F, F = imgOf r1 f1 := ⟨_, rfl⟩
  have X1 : Hid (BufAt w r1 a1 l1 p1 F) := by rw [hF]; exact bufAt_of g1 n1 h1.out
  have HB1 : Hid (∀ W, Grows w W → Calls Try.prog 26 #[.agg #[.int .i64 r1.x0, .int .i64 r1.y0, .int .i64 r1.x1, .int .i64 r1.y1, .slice a1 l1 p1], .agg #[.int .i64 s.x0, .int .i64 s.y0, .int .i64 s.x1, .int .i64 s.y1], .int .i64 rx, .int .i64 ry] W (RetBuf W (someR s) (boxF s rx ry F))) := fun W g => blur_Box s r1 a1 l1 p1 F rx ry W (X1.out.grows g) (by omega) hrs (by omega) (by omega) (by omega) (by omega) (by omega) (by omega)
  have HB2 : Hid (∀ W, Grows w W → Calls Try.prog 27 #[.agg #[.int .i64 r1.x0, .int .i64 r1.y0, .int .i64 r1.x1, .int .i64 r1.y1, .slice a1 l1 p1], .agg #[.int .i64 s.x0, .int .i64 s.y0, .int .i64 s.x1, .int .i64 s.y1], .int .i64 rx, .int .i64 ry] W (RetBuf W (someR s) (boxF s rx ry F))) := fun W g => ref08_Box s r1 a1 l1 p1 F rx ry W (X1.out.grows g) (by omega) hrs (by omega) (by omega) (by omega) (by omega) (by omega) (by omega)
  obtain ⟨B, hB⟩ : ∃ B, B = boxF s rx ry F := ⟨_, rfl⟩
  obtain ⟨t, ht⟩ : ∃ t, t = someR s := ⟨_, rfl⟩
  rw [← hB, ← ht] at HB1 HB2
  clear c1 g1 n1 hF hB ht hsm hrs k3 k4 X1 h1
  go_enter Try.func5, Try.ntmps5
  go_wp2_with ((first | (go_at_call 24; refine (awake08 _ ).mono ?_; rintro e w' ⟨rfl, hgw⟩; first | (obtain ⟨gw, rfl⟩ := grows_of_grow hgw) | (obtain ⟨gw, rfl⟩ := hgw)) | (go_at_call 25; (with_reducible refine (law08_fineIs _ _ _ _ _ _ _ _ _ (by omega) (by omega) C1).mono ?_); rintro e w' ⟨rfl, hgw⟩; first | (obtain ⟨gw, rfl⟩ := grows_of_grow hgw) | (obtain ⟨gw, rfl⟩ := hgw))))
  go_region_held3 (fun w' => w'.cell? ⟨w.heap.size, 0, none⟩ = some (.int .i64 r1.x0) ∧ w'.cell? ⟨w.heap.size, 1, none⟩ = some (.int .i64 r1.y0) ∧ w'.cell? ⟨w.heap.size, 2, none⟩ = some (.int .i64 r1.x1) ∧ w'.cell? ⟨w.heap.size, 3, none⟩ = some (.int .i64 r1.y1) ∧ w'.cell? ⟨w.heap.size, 4, none⟩ = some (.slice a1 l1 p1) ∧ w'.cell? ⟨w.heap.size + 1, 0, none⟩ = some (.int .i64 s.x0) ∧ w'.cell? ⟨w.heap.size + 1, 1, none⟩ = some (.int .i64 s.y0) ∧ w'.cell? ⟨w.heap.size + 1, 2, none⟩ = some (.int .i64 s.x1) ∧ w'.cell? ⟨w.heap.size + 1, 3, none⟩ = some (.int .i64 s.y1)) (go_simp) (first
    | (go_at_call 26; (with_reducible refine Calls.mono (HB1.out _ ?_) ?_); (exact (by repeat (first | exact Grows.refl _ | apply Grows.grow | apply Grows.alloc | apply Grows.drew))); rintro e w' ⟨aq1, lq1, pq1, rfl, hgw, HQ1⟩; (first | (obtain ⟨gw, rfl⟩ := grows_of_grow hgw) | (obtain ⟨gw, rfl⟩ := hgw)); (try simp only [grow_drew] at HQ1))
    | (go_at_call 27; (with_reducible refine Calls.mono (HB2.out _ ?_) ?_); (exact (by repeat (first | exact Grows.refl _ | apply Grows.grow | apply Grows.alloc | apply Grows.drew))); rintro e w' ⟨aq2, lq2, pq2, rfl, hgw, HQ2⟩; (first | (obtain ⟨gw, rfl⟩ := grows_of_grow hgw) | (obtain ⟨gw, rfl⟩ := hgw)); (try simp only [grow_drew] at HQ2))
    | (go_at_call 18; (with_reducible refine Calls.mono (ref05_Same t aq1 aq2 lq1 pq1 lq2 pq2 B _ ?_ ?_) ?_); (exact BufAt.grows HQ1.out.1 (by assumption)); (exact BufAt.grows HQ2.out.1 (by repeat (first | exact Grows.refl _ | apply Grows.grow | apply Grows.alloc | apply Grows.drew))); rintro e w' ⟨rfl, hgw⟩; first | (obtain ⟨gw, rfl⟩ := grows_of_grow hgw) | (obtain ⟨gw, rfl⟩ := hgw)))
  go_wp2
  go_ret
  exact ⟨rfl, (by repeat (first | exact Grows.refl _ | apply Grows.grow | apply Grows.alloc | apply Grows.drew))⟩
end Go.Proofs.Ytldgodpenigphaa
