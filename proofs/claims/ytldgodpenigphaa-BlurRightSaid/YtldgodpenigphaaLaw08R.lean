/- The walk of chapter 8's law BlurRight. -/
import Derived.Test.YtldgodpenigphaaLaw08B
import Derived.Test.YtldgodpenigphaaRas5
import Derived.Test.YtldgodpenigphaaToneR
namespace Go.Proofs.Ytldgodpenigphaa
open Go.RowKit
set_option linter.unusedVariables false

def rightP (p : P4) : Prop := p.r ≤ p.a ∧ p.g ≤ p.a ∧ p.b ≤ p.a
theorem rightP_iff (p : P4) : rightT p.r p.g p.b p.a = true ↔ rightP p := rightT_iff _ _ _ _
theorem rightP_no : rightP noP := by simp [rightP, noP]
theorem near_mono {s t n : Int} (hn : 0 < n) (h : s ≤ t) : near s n ≤ near t n := Int.ediv_le_ediv hn (by omega)
theorem sumP_right {f : Int → P4} (h : ∀ x, rightP (f x)) (s : Int) : ∀ n : Nat, rightP (sumP f s n)
  | 0 => rightP_no
  | n + 1 => by
    have a := sumP_right h s n
    have b := h (s + (n : Int))
    rw [sumP_succ]
    unfold rightP at a b ⊢
    simp only [addP]
    omega
theorem meanP_right {s : P4} {n : Int} (hn : 0 < n) (h : rightP s) : rightP (meanP s n) := ⟨near_mono hn h.1, near_mono hn h.2.1, near_mono hn h.2.2⟩
theorem blurH_right {F : Img} (h : ∀ x y, rightP (F x y)) {r : Int} (hr : 0 ≤ r) (x y : Int) : rightP (blurH F r x y) := meanP_right (by omega) (sumP_right (fun u => h u y) _ _)
theorem blurV_right {F : Img} (h : ∀ x y, rightP (F x y)) {r : Int} (hr : 0 ≤ r) (x y : Int) : rightP (blurV F r x y) := meanP_right (by omega) (sumP_right (fun v => h x v) _ _)
theorem cutF_right {F : Img} (h : ∀ x y, rightP (F x y)) (r : R) (x y : Int) : rightP (cutF r F x y) := by
  unfold cutF
  split
  · exact h x y
  · exact rightP_no
theorem boxF_right {F : Img} (h : ∀ x y, rightP (F x y)) (b : R) {rx ry : Int} (hx : 0 ≤ rx) (hy : 0 ≤ ry) (x y : Int) : rightP (boxF b rx ry F x y) :=
  cutF_right (blurV_right (cutF_right (blurH_right h hx) _) hy) _ x y
theorem boxF_none {b : R} (h : rightR b = true) (F : Img) : boxF b 0 0 F = cutF (someR b) F := by rw [boxF_nought h, blurH_zero]
theorem imgOf_right {r : R} {f : Nat → P4} (hg : GoodR r) (h : ∀ i, i < cntR r → rightP (f i)) (x y : Int) : rightP (imgOf r f x y) := by
  unfold imgOf
  split
  · exact h _ (hg.idx ‹_›)
  · exact rightP_no
theorem ref01_rightIs (p : P4) (w : World) (c : Bool) (hp : okP p) (h : rightT p.r p.g p.b p.a = c) : Calls Try.prog 29 #[.agg #[.int .u8 p.r, .int .u8 p.g, .int .u8 p.b, .int .u8 p.a]] w fun e w' => e = .returned (.bool c) ∧ Grows w w' := by
  have := ref01_right p.r p.g p.b p.a w hp.1 hp.2.1 hp.2.2.1 hp.2.2.2
  rwa [h] at this

set_option maxHeartbeats 12800000 in
theorem blurRight_walk (r1 : R) (a1 : Option Addr) (l1 p1 : Nat) (f1 : Nat → P4) (s : R) (rx ry : Int) (w : World)
    (hb1 : IsPix w a1 l1 p1 f1) (hx : -9223372036854775808 ≤ rx ∧ rx ≤ 9223372036854775807) (hy : -9223372036854775808 ≤ ry ∧ ry ≤ 9223372036854775807) :
    Calls Try.prog 7 #[.agg #[.int .i64 r1.x0, .int .i64 r1.y0, .int .i64 r1.x1, .int .i64 r1.y1, .slice a1 l1 p1], .agg #[.int .i64 s.x0, .int .i64 s.y0, .int .i64 s.x1, .int .i64 s.y1], .int .i64 rx, .int .i64 ry] w fun e w' => e = .returned (.bool true) ∧ Grows w w' := by
  have m1 := hb1.le
  have m1' := hb1.most
  have h1 := Lib.hid hb1
  clear hb1
  by_cases c1 : fine08 l1 r1 s rx ry = false
  · have C1 := Lib.hid c1
    clear c1
    go_enter Try.func7, Try.ntmps7
    go_wp2_with ((first | (go_at_call 24; refine (awake08 _ ).mono ?_; rintro e w' ⟨rfl, hgw⟩; first | (obtain ⟨gw, rfl⟩ := grows_of_grow hgw) | (obtain ⟨gw, rfl⟩ := hgw)) | (go_at_call 25; (with_reducible refine (law08_fineIs _ _ _ _ _ _ _ _ _ (by omega) (by omega) C1).mono ?_); rintro e w' ⟨rfl, hgw⟩; first | (obtain ⟨gw, rfl⟩ := grows_of_grow hgw) | (obtain ⟨gw, rfl⟩ := hgw))))
    go_ret
    exact ⟨rfl, (by repeat (first | exact Grows.refl _ | apply Grows.grow | apply Grows.alloc | apply Grows.drew))⟩
  have C1 := Lib.hid (bool_yes c1)
  clear c1
  obtain ⟨k1, g1, n1, k2, hrx, hry, hsm, hrs, k3, k4⟩ := fine08_yes C1.out
  have G1 := Lib.hid g1
  have N1 := Lib.hid n1
  have HRS := Lib.hid hrs
  clear g1 n1 hrs hsm
  go_enter Try.func7, Try.ntmps7
  go_wp2_with ((first | (go_at_call 24; refine (awake08 _ ).mono ?_; rintro e w' ⟨rfl, hgw⟩; first | (obtain ⟨gw, rfl⟩ := grows_of_grow hgw) | (obtain ⟨gw, rfl⟩ := hgw)) | (go_at_call 25; (with_reducible refine (law08_fineIs _ _ _ _ _ _ _ _ _ (by omega) (by omega) C1).mono ?_); rintro e w' ⟨rfl, hgw⟩; first | (obtain ⟨gw, rfl⟩ := grows_of_grow hgw) | (obtain ⟨gw, rfl⟩ := hgw))))
  refine wp_name ?_
  intro W0 hW0
  have D0 : Hid (Blk W0 w.heap.size 26 #[.int .i64 r1.x0, .int .i64 r1.y0, .int .i64 r1.x1, .int .i64 r1.y1, .slice a1 l1 p1]) := by rw [hW0]; exact (by unfold Blk; repeat (first | exact blk_at _ _ _ (by first | omega | (simp; done) | (simp; omega)) | refine (blk_past _ _ _ (by first | omega | (simp; done) | (simp; omega))).trans ?_ | refine (heap_grow _ _ _ (by first | omega | (simp; done) | (simp; omega))).trans ?_ | refine (blk_drew _ _).trans ?_))
  have D1 : Hid (Blk W0 (w.heap.size + 1) 23 #[.int .i64 s.x0, .int .i64 s.y0, .int .i64 s.x1, .int .i64 s.y1]) := by rw [hW0]; exact (by unfold Blk; repeat (first | exact blk_at _ _ _ (by first | omega | (simp; done) | (simp; omega)) | refine (blk_past _ _ _ (by first | omega | (simp; done) | (simp; omega))).trans ?_ | refine (heap_grow _ _ _ (by first | omega | (simp; done) | (simp; omega))).trans ?_ | refine (blk_drew _ _).trans ?_))
  have GW : Hid (Grows w W0) := by rw [hW0]; exact (by repeat (first | exact Grows.refl _ | apply Grows.grow | apply Grows.alloc | apply Grows.drew))
  clear hW0 hgw
  go_loopw [9] (fun i wr => ∃ j : Nat, j ≤ l1 ∧ i = .int .i64 j ∧ Hid (Grows W0 wr ∧ ∀ i, i < j → rightP (f1 i))) (fun i _ => l1 - (intOf i).toNat)
  case atStart => exact ⟨0, by omega, rfl, Grows.refl _, fun i hi => by omega⟩
  case round =>
    obtain ⟨j, hj, rfl, hh⟩ := hrel
    have d0 := D0.out.grows hh.out.1
    obtain ⟨b0, b1, b2, b3, b4, bf⟩ := d0.c5
    have ld := d0.lt
    clear d0
    by_cases hlt : j < l1
    · have G := GW.out.trans hh.out.1
      obtain ⟨b', off', rfl, hb', hok, c0, c1, c2, c3⟩ := (h1.out.grows G).px hlt
      have HOK := Lib.hid hok
      clear G hok
      cases hrt : rightT (f1 j).r (f1 j).g (f1 j).b (f1 j).a
      · have HRT := Lib.hid hrt
        clear hrt
        go_wp2_with (go_at_call 29; (with_reducible refine (ref01_rightIs (f1 j) _ false HOK.out HRT.out).mono ?_); rintro e w' ⟨rfl, hgw⟩; first | (obtain ⟨gw, rfl⟩ := grows_of_grow hgw) | (obtain ⟨gw, rfl⟩ := hgw))
        go_ret
        exact ⟨rfl, (GW.out.trans hh.out.1).trans (by repeat (first | exact Grows.refl _ | apply Grows.grow | apply Grows.alloc | apply Grows.drew))⟩
      · have HRT := Lib.hid hrt
        clear hrt
        go_wp2_with (go_at_call 29; (with_reducible refine (ref01_rightIs (f1 j) _ true HOK.out HRT.out).mono ?_); rintro e w' ⟨rfl, hgw⟩; first | (obtain ⟨gw, rfl⟩ := grows_of_grow hgw) | (obtain ⟨gw, rfl⟩ := hgw))
        go_roundw
        case rel =>
          refine ⟨j + 1, by omega, by go_num, hh.out.1.trans (by repeat (first | exact Grows.refl _ | apply Grows.grow | apply Grows.alloc | apply Grows.drew)), fun i hi => ?_⟩
          by_cases e : i = j
          · subst e; exact (rightP_iff _).1 HRT.out
          · exact hh.out.2 i (by omega)
        case measure => simp [intOf]; omega
    · obtain rfl : j = l1 := by omega
      obtain ⟨F, hF⟩ : ∃ F, F = imgOf r1 f1 := ⟨_, rfl⟩
      have X1 : Hid (BufAt w r1 a1 j p1 F) := by rw [hF]; exact bufAt_of G1.out N1.out h1.out
      have FR : Hid (∀ x y, rightP (F x y)) := by rw [hF]; exact imgOf_right G1.out (fun i hi => hh.out.2 i (by rw [N1.out]; exact hi))
      have BR : Hid (∀ x y, rightP (boxF s rx ry F x y)) := boxF_right FR.out s (by omega) (by omega)
      have BOK : Hid (∀ x y, okP (boxF s rx ry F x y)) := cutF_ok (blurV_ok (cutF_ok (blurH_ok X1.out.fits.ok (by omega)) _) (by omega)) _
      have HB1 : Hid (∀ W, Grows w W → Calls Try.prog 26 #[.agg #[.int .i64 r1.x0, .int .i64 r1.y0, .int .i64 r1.x1, .int .i64 r1.y1, .slice a1 j p1], .agg #[.int .i64 s.x0, .int .i64 s.y0, .int .i64 s.x1, .int .i64 s.y1], .int .i64 rx, .int .i64 ry] W (RetBuf W (someR s) (boxF s rx ry F))) := fun W g => blur_Box s r1 a1 j p1 F rx ry W (X1.out.grows g) (by omega) HRS.out (by omega) (by omega) (by omega) (by omega) (by omega) (by omega)
      have HB2 : Hid (∀ W, Grows w W → Calls Try.prog 26 #[.agg #[.int .i64 r1.x0, .int .i64 r1.y0, .int .i64 r1.x1, .int .i64 r1.y1, .slice a1 j p1], .agg #[.int .i64 s.x0, .int .i64 s.y0, .int .i64 s.x1, .int .i64 s.y1], .int .i64 0, .int .i64 0] W (RetBuf W (someR s) (cutF (someR s) F))) := fun W g => by
        have := blur_Box s r1 a1 j p1 F 0 0 W (X1.out.grows g) (by omega) HRS.out (by rw [grow_nought HRS.out]; omega) (by omega) (by omega) (by omega) (by omega) (by omega)
        rwa [boxF_none HRS.out] at this
      have HB3 : Hid (∀ W, Grows w W → Calls Try.prog 23 #[.agg #[.int .i64 r1.x0, .int .i64 r1.y0, .int .i64 r1.x1, .int .i64 r1.y1, .slice a1 j p1], .agg #[.int .i64 s.x0, .int .i64 s.y0, .int .i64 s.x1, .int .i64 s.y1]] W (RetBuf W (someR s) (cutF (someR s) F))) := fun W g => ref05_Window s r1 a1 j p1 F W (X1.out.grows g) HRS.out (by omega) (by omega)
      have GR := Lib.hid (GW.out.trans hh.out.1)
      obtain ⟨B, hB⟩ : ∃ B, B = boxF s rx ry F := ⟨_, rfl⟩
      obtain ⟨M, hM⟩ : ∃ M, M = cutF (someR s) F := ⟨_, rfl⟩
      obtain ⟨t, ht⟩ : ∃ t, t = someR s := ⟨_, rfl⟩
      rw [← hB] at BR BOK
      rw [← hB, ← ht] at HB1
      rw [← hM, ← ht] at HB2 HB3
      have d1 := D1.out.grows hh.out.1
      obtain ⟨s0, s1, s2, s3, sf⟩ := d1.c4
      have ls := d1.lt
      have E0 := Lib.hid (D0.out.grows hh.out.1)
      have E1 := Lib.hid d1
      clear d1 hF hB hM ht hh X1 FR
      go_wp2_with (go_at_call 26; (with_reducible refine Calls.mono (HB1.out _ ?_) ?_); (exact GR.out.trans (by repeat (first | exact Grows.refl _ | apply Grows.grow | apply Grows.alloc | apply Grows.drew))); rintro e w' ⟨aq1, lq1, pq1, rfl, hgw, HQ1⟩; (first | (obtain ⟨gq1, rfl⟩ := grows_of_grow hgw) | (obtain ⟨gq1, rfl⟩ := hgw)))
      refine wp_name ?_
      intro W1 hW1
      have E3 : Hid (Blk W1 (wr.heap.size + gq1.news.size) 26 #[.int .i64 t.x0, .int .i64 t.y0, .int .i64 t.x1, .int .i64 t.y1, .slice aq1 lq1 pq1]) := by rw [hW1]; exact (by unfold Blk; repeat (first | exact blk_at _ _ _ (by first | omega | (simp; done) | (simp; omega)) | refine (blk_past _ _ _ (by first | omega | (simp; done) | (simp; omega))).trans ?_ | refine (heap_grow _ _ _ (by first | omega | (simp; done) | (simp; omega))).trans ?_ | refine (blk_drew _ _).trans ?_))
      have E4 : Hid (Blk W1 w.heap.size 26 #[.int .i64 r1.x0, .int .i64 r1.y0, .int .i64 r1.x1, .int .i64 r1.y1, .slice a1 j p1]) := by rw [hW1]; exact E0.out.grows (by repeat (first | exact Grows.refl _ | apply Grows.grow | apply Grows.alloc | apply Grows.drew))
      have E5 : Hid (Blk W1 (w.heap.size + 1) 23 #[.int .i64 s.x0, .int .i64 s.y0, .int .i64 s.x1, .int .i64 s.y1]) := by rw [hW1]; exact E1.out.grows (by repeat (first | exact Grows.refl _ | apply Grows.grow | apply Grows.alloc | apply Grows.drew))
      have Y1 : Hid (BufAt W1 t aq1 lq1 pq1 B) := by rw [hW1]; exact HQ1.out.1.grows (by repeat (first | exact Grows.refl _ | apply Grows.grow | apply Grows.alloc | apply Grows.drew))
      have GW1 : Hid (Grows w W1) := by rw [hW1]; exact GR.out.trans (by repeat (first | exact Grows.refl _ | apply Grows.grow | apply Grows.alloc | apply Grows.drew))
      obtain ⟨nc, hnc⟩ : ∃ n, n = wr.heap.size + gq1.news.size := ⟨_, rfl⟩
      rw [← hnc] at E3 ⊢
      have my := Y1.out.most
      clear hW1 hnc HQ1 E0 E1 b0 b1 b2 b3 b4 bf ld s0 s1 s2 s3 sf ls HB1 GR
      obtain ⟨wo, hwo⟩ : ∃ wo : World, wo = wr := ⟨_, rfl⟩
      clear hwo
      go_loopw [11] (fun i wr => ∃ k : Nat, k ≤ lq1 ∧ i = .int .i64 k ∧ Hid (Grows W1 wr)) (fun i _ => lq1 - (intOf i).toNat)
      case atStart => exact ⟨0, by omega, rfl, Grows.refl _⟩
      case round =>
        obtain ⟨k, hk, rfl, hh⟩ := hrel
        have d3 := E3.out.grows hh.out
        obtain ⟨b0, b1, b2, b3, b4, bf⟩ := d3.c5
        have ld := d3.lt
        clear d3
        by_cases hlk : k < lq1
        · obtain ⟨b', off', rfl, hb', hok, c0, c1, c2, c3⟩ := (Y1.out.pix.grows hh.out).px hlk
          obtain ⟨q, hq⟩ : ∃ q, q = B (ptX t k) (ptY t k) := ⟨_, rfl⟩
          have HOK : Hid (okP q) := by rw [hq]; exact hok
          have HRT : Hid (rightT q.r q.g q.b q.a = true) := by rw [hq]; exact (rightP_iff _).2 (BR.out _ _)
          rw [← hq] at c0 c1 c2 c3
          clear hok hq
          go_wp2_with (go_at_call 29; (with_reducible refine (ref01_rightIs q _ true HOK.out HRT.out).mono ?_); rintro e w' ⟨rfl, hgw⟩; first | (obtain ⟨gw, rfl⟩ := grows_of_grow hgw) | (obtain ⟨gw, rfl⟩ := hgw))
          go_roundw
          case rel => exact ⟨k + 1, by omega, by go_num, hh.out.trans (by repeat (first | exact Grows.refl _ | apply Grows.grow | apply Grows.alloc | apply Grows.drew))⟩
          case measure => simp [intOf]; omega
        · obtain rfl : k = lq1 := by omega
          have d4 := E4.out.grows hh.out
          obtain ⟨x0, x1, x2, x3, x4, xf⟩ := d4.c5
          have lx := d4.lt
          have d5 := E5.out.grows hh.out
          obtain ⟨s0, s1, s2, s3, sf⟩ := d5.c4
          have ls := d5.lt
          have GR := Lib.hid (GW1.out.trans hh.out)
          clear d4 d5
          go_wp2
          go_region_held3 (fun w' => w'.cell? ⟨w.heap.size, 0, none⟩ = some (.int .i64 r1.x0) ∧ w'.cell? ⟨w.heap.size, 1, none⟩ = some (.int .i64 r1.y0) ∧ w'.cell? ⟨w.heap.size, 2, none⟩ = some (.int .i64 r1.x1) ∧ w'.cell? ⟨w.heap.size, 3, none⟩ = some (.int .i64 r1.y1) ∧ w'.cell? ⟨w.heap.size, 4, none⟩ = some (.slice a1 j p1) ∧ w'.cell? ⟨w.heap.size + 1, 0, none⟩ = some (.int .i64 s.x0) ∧ w'.cell? ⟨w.heap.size + 1, 1, none⟩ = some (.int .i64 s.y0) ∧ w'.cell? ⟨w.heap.size + 1, 2, none⟩ = some (.int .i64 s.x1) ∧ w'.cell? ⟨w.heap.size + 1, 3, none⟩ = some (.int .i64 s.y1)) (go_simp) (first
            | (go_at_call 26; (with_reducible refine Calls.mono (HB2.out _ ?_) ?_); (exact GR.out.trans (by repeat (first | exact Grows.refl _ | apply Grows.grow | apply Grows.alloc | apply Grows.drew))); rintro e w' ⟨aw1, lw1, pw1, rfl, hgw, HW1⟩; (first | (obtain ⟨gw, rfl⟩ := grows_of_grow hgw) | (obtain ⟨gw, rfl⟩ := hgw)); (try simp only [grow_drew] at HW1))
            | (go_at_call 23; (with_reducible refine Calls.mono (HB3.out _ ?_) ?_); (exact GR.out.trans (by repeat (first | exact Grows.refl _ | apply Grows.grow | apply Grows.alloc | apply Grows.drew))); rintro e w' ⟨aw2, lw2, pw2, rfl, hgw, HW2⟩; (first | (obtain ⟨gw, rfl⟩ := grows_of_grow hgw) | (obtain ⟨gw, rfl⟩ := hgw)); (try simp only [grow_drew] at HW2))
            | (go_at_call 18; (with_reducible refine Calls.mono (ref05_Same t aw1 aw2 lw1 pw1 lw2 pw2 M _ ?_ ?_) ?_); (exact BufAt.grows HW1.out.1 (by assumption)); (exact BufAt.grows HW2.out.1 (by repeat (first | exact Grows.refl _ | apply Grows.grow | apply Grows.alloc | apply Grows.drew))); rintro e w' ⟨rfl, hgw⟩; first | (obtain ⟨gw, rfl⟩ := grows_of_grow hgw) | (obtain ⟨gw, rfl⟩ := hgw)))
          go_wp2
          go_ret
          exact ⟨rfl, GR.out.trans (by repeat (first | exact Grows.refl _ | apply Grows.grow | apply Grows.alloc | apply Grows.drew))⟩
end Go.Proofs.Ytldgodpenigphaa
