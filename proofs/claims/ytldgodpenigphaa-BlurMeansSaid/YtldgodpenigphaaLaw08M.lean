/- The walk of chapter 8's law BlurMeans. -/
import Derived.Test.YtldgodpenigphaaLaw08P
namespace Go.Proofs.Ytldgodpenigphaa
open Go.RowKit
set_option linter.unusedVariables false

/-- A mean that is near, and all that the walk reckons of it. -/
theorem mean_close {s r : Int} (hr : 0 ≤ r ∧ r ≤ 12) (h0 : 0 ≤ s) (h1 : s ≤ 255 * (2 * r + 1)) : (0 ≤ near s (2 * r + 1) ∧ near s (2 * r + 1) ≤ 255) ∧ (0 ≤ near s (2 * r + 1) * (2 * r + 1) ∧ near s (2 * r + 1) * (2 * r + 1) ≤ 10000) ∧ 2 * (near s (2 * r + 1) * (2 * r + 1) - s) < 2 * r + 1 ∧ -(2 * r + 1) < 2 * (near s (2 * r + 1) * (2 * r + 1) - s) := by
  have hb := near_bd (s := s) (n := 2 * r + 1) (by omega) h0 h1 (by omega)
  have hc := near_close (s := s) (n := 2 * r + 1) (by omega) (by omega)
  have hm := Int.mul_nonneg hb.1 (show (0 : Int) ≤ 2 * r + 1 by omega)
  refine ⟨hb, ⟨hm, ?_⟩, hc⟩
  generalize near s (2 * r + 1) * (2 * r + 1) = p at *
  omega
/-- The same of a pixel's four values. -/
def closeP (q t : P4) (n : Int) : Prop :=
  ((0 ≤ q.r ∧ q.r ≤ 255) ∧ (0 ≤ q.r * n ∧ q.r * n ≤ 10000) ∧ 2 * (q.r * n - t.r) < n ∧ -n < 2 * (q.r * n - t.r)) ∧ ((0 ≤ q.g ∧ q.g ≤ 255) ∧ (0 ≤ q.g * n ∧ q.g * n ≤ 10000) ∧ 2 * (q.g * n - t.g) < n ∧ -n < 2 * (q.g * n - t.g)) ∧
  ((0 ≤ q.b ∧ q.b ≤ 255) ∧ (0 ≤ q.b * n ∧ q.b * n ≤ 10000) ∧ 2 * (q.b * n - t.b) < n ∧ -n < 2 * (q.b * n - t.b)) ∧ ((0 ≤ q.a ∧ q.a ≤ 255) ∧ (0 ≤ q.a * n ∧ q.a * n ≤ 10000) ∧ 2 * (q.a * n - t.a) < n ∧ -n < 2 * (q.a * n - t.a))
theorem blurH_close {F : Img} (h : ∀ x y, okP (F x y)) {r : Int} (hr : 0 ≤ r ∧ r ≤ 12) (x y : Int) : closeP (blurH F r x y) (sumP (fun u => F u y) (x - r) (winN r)) (2 * r + 1) := by
  have b := sumP_bd (fun u => h u y) (x - r) (winN r)
  rw [winN_eq hr.1] at b
  obtain ⟨b0, b1, b2, b3⟩ := b
  exact ⟨mean_close hr b0.1 b0.2, mean_close hr b1.1 b1.2, mean_close hr b2.1 b2.2, mean_close hr b3.1 b3.2⟩

set_option maxRecDepth 100000 in
set_option maxHeartbeats 25600000 in
theorem blurMeans_walk (r1 : R) (a1 : Option Addr) (l1 p1 : Nat) (f1 : Nat → P4) (s : R) (r : Int) (w : World)
    (hb1 : IsPix w a1 l1 p1 f1) (hx : -9223372036854775808 ≤ r ∧ r ≤ 9223372036854775807) :
    Calls Try.prog 6 #[.agg #[.int .i64 r1.x0, .int .i64 r1.y0, .int .i64 r1.x1, .int .i64 r1.y1, .slice a1 l1 p1], .agg #[.int .i64 s.x0, .int .i64 s.y0, .int .i64 s.x1, .int .i64 s.y1], .int .i64 r] w fun e w' => e = .returned (.bool true) ∧ Grows w w' := by
  have m1 := hb1.le
  have m1' := hb1.most
  have h1 := Lib.hid hb1
  clear hb1
  by_cases c1 : fine08 l1 r1 s r 0 = false
  · have C1 := Lib.hid c1
    clear c1
    go_enter Try.func6, Try.ntmps6
    go_wp2_with ((first | (go_at_call 24; refine (awake08 _ ).mono ?_; rintro e w' ⟨rfl, hgw⟩; first | (obtain ⟨gw, rfl⟩ := grows_of_grow hgw) | (obtain ⟨gw, rfl⟩ := hgw)) | (go_at_call 25; (with_reducible refine (law08_fineIs _ _ _ _ _ _ _ _ _ (by omega) (by omega) C1).mono ?_); rintro e w' ⟨rfl, hgw⟩; first | (obtain ⟨gw, rfl⟩ := grows_of_grow hgw) | (obtain ⟨gw, rfl⟩ := hgw))))
    go_ret
    exact ⟨rfl, (by repeat (first | exact Grows.refl _ | apply Grows.grow | apply Grows.alloc | apply Grows.drew))⟩
  have C1 := Lib.hid (bool_yes c1)
  clear c1
  obtain ⟨k1, g1, n1, k2, hrx, -, hsm, hrs, k3, k4⟩ := fine08_yes C1.out
  obtain ⟨F, hF⟩ : ∃ F, F = imgOf r1 f1 := ⟨_, rfl⟩
  have X1 : Hid (BufAt w r1 a1 l1 p1 F) := by rw [hF]; exact bufAt_of g1 n1 h1.out
  have FOK : Hid (∀ u v, okP (F u v)) := X1.out.fits.ok
  have HB1 : Hid (∀ W, Grows w W → Calls Try.prog 26 #[.agg #[.int .i64 r1.x0, .int .i64 r1.y0, .int .i64 r1.x1, .int .i64 r1.y1, .slice a1 l1 p1], .agg #[.int .i64 s.x0, .int .i64 s.y0, .int .i64 s.x1, .int .i64 s.y1], .int .i64 r, .int .i64 0] W (RetBuf W (someR s) (boxF s r 0 F))) := fun W g => blur_Box s r1 a1 l1 p1 F r 0 W (X1.out.grows g) (by omega) hrs (by omega) (by omega) (by omega) (by omega) (by omega) (by omega)
  have HEQ : Hid (∀ u v, hasR s u v = true → boxF s r 0 F u v = blurH F r u v) := fun u v a => by rw [boxF_nought hrs, cutF_in (by rw [hasR_some]; exact a)]
  have sb := (rightR_iff s).1 hrs
  obtain ⟨B, hB⟩ : ∃ B, B = boxF s r 0 F := ⟨_, rfl⟩
  obtain ⟨t, ht⟩ : ∃ t, t = someR s := ⟨_, rfl⟩
  rw [← hB, ← ht] at HB1
  rw [← hB] at HEQ
  rw [← ht] at k4
  clear g1 n1 hF hB ht hsm hrs k3 h1
  go_enter Try.func6, Try.ntmps6
  go_wp2_with (first
    | (first | (go_at_call 24; refine (awake08 _ ).mono ?_; rintro e w' ⟨rfl, hgw⟩; first | (obtain ⟨gw, rfl⟩ := grows_of_grow hgw) | (obtain ⟨gw, rfl⟩ := hgw)) | (go_at_call 25; (with_reducible refine (law08_fineIs _ _ _ _ _ _ _ _ _ (by omega) (by omega) C1).mono ?_); rintro e w' ⟨rfl, hgw⟩; first | (obtain ⟨gw, rfl⟩ := grows_of_grow hgw) | (obtain ⟨gw, rfl⟩ := hgw)))
    | (go_at_call 26; (with_reducible refine Calls.mono (HB1.out _ ?_) ?_); (exact (by repeat (first | exact Grows.refl _ | apply Grows.grow | apply Grows.alloc | apply Grows.drew))); rintro e w' ⟨aq1, lq1, pq1, rfl, hgw, HQ1⟩; (first | (obtain ⟨gq1, rfl⟩ := grows_of_grow hgw) | (obtain ⟨gq1, rfl⟩ := hgw))))
  refine wp_name ?_
  intro W0 hW0
  have D0 : Hid (Blk W0 w.heap.size 26 #[.int .i64 r1.x0, .int .i64 r1.y0, .int .i64 r1.x1, .int .i64 r1.y1, .slice a1 l1 p1]) := by rw [hW0]; exact (by unfold Blk; repeat (first | exact blk_at _ _ _ (by first | omega | (simp; done) | (simp; omega)) | refine (blk_past _ _ _ (by first | omega | (simp; done) | (simp; omega))).trans ?_ | refine (heap_grow _ _ _ (by first | omega | (simp; done) | (simp; omega))).trans ?_ | refine (blk_drew _ _).trans ?_))
  have D1 : Hid (Blk W0 (w.heap.size + 1) 23 #[.int .i64 s.x0, .int .i64 s.y0, .int .i64 s.x1, .int .i64 s.y1]) := by rw [hW0]; exact (by unfold Blk; repeat (first | exact blk_at _ _ _ (by first | omega | (simp; done) | (simp; omega)) | refine (blk_past _ _ _ (by first | omega | (simp; done) | (simp; omega))).trans ?_ | refine (heap_grow _ _ _ (by first | omega | (simp; done) | (simp; omega))).trans ?_ | refine (blk_drew _ _).trans ?_))
  have E1 : Hid (Blk W0 (w.heap.size + 1 + 1 + gq1.news.size) 26 #[.int .i64 t.x0, .int .i64 t.y0, .int .i64 t.x1, .int .i64 t.y1, .slice aq1 lq1 pq1]) := by rw [hW0]; exact (by unfold Blk; repeat (first | exact blk_at _ _ _ (by first | omega | (simp; done) | (simp; omega)) | refine (blk_past _ _ _ (by first | omega | (simp; done) | (simp; omega))).trans ?_ | refine (heap_grow _ _ _ (by first | omega | (simp; done) | (simp; omega))).trans ?_ | refine (blk_drew _ _).trans ?_))
  have Y1 : Hid (BufAt W0 t aq1 lq1 pq1 B) := by rw [hW0]; exact HQ1.out.1.grows (by repeat (first | exact Grows.refl _ | apply Grows.grow | apply Grows.alloc | apply Grows.drew))
  have GW : Hid (Grows w W0) := by rw [hW0]; exact (by repeat (first | exact Grows.refl _ | apply Grows.grow | apply Grows.alloc | apply Grows.drew))
  obtain ⟨nc, hnc⟩ : ∃ n, n = w.heap.size + 1 + 1 + gq1.news.size := ⟨_, rfl⟩
  rw [← hnc] at E1 ⊢
  clear hW0 HQ1 HB1 hgw hnc
  go_loopw [9] (fun y wr => ∃ v : Int, s.y0 ≤ v ∧ v ≤ 4398046511104 ∧ y = .int .i64 v ∧ Hid (Grows W0 wr)) (fun y _ => (s.y1 - intOf y).toNat)
  case atStart => exact ⟨_, by omega, by omega, rfl, Grows.refl _⟩
  case round =>
    obtain ⟨v, hv1, hv2, rfl, hh⟩ := hrel
    have b2 := D1.out.grows hh.out
    obtain ⟨d0, d1, d2, d3, df⟩ := b2.c4
    have l2 := b2.lt
    clear b2
    by_cases hlt : v < s.y1
    · go_wp2
      clear d0 d1 d2 d3 df l2
      obtain ⟨wo, hwo⟩ : ∃ wo : World, wo = wr := ⟨_, rfl⟩
      clear hwo
      go_loopw [10] (fun x wr => ∃ u : Int, s.x0 ≤ u ∧ u ≤ 4398046511104 ∧ x = .int .i64 u ∧ Hid (Grows W0 wr)) (fun x _ => (s.x1 - intOf x).toNat)
      case atStart => exact ⟨_, by omega, by omega, rfl, hh.out⟩
      case round =>
        clear hh
        obtain ⟨u, hu1, hu2, rfl, hh⟩ := hrel
        have b2 := D1.out.grows hh.out
        obtain ⟨d0, d1, d2, d3, df⟩ := b2.c4
        have l2 := b2.lt
        clear b2
        by_cases hltx : u < s.x1
        · have a1 := E1.out.grows hh.out
          obtain ⟨e0, e1, e2, e3, e4, ef⟩ := a1.c5
          have le := a1.lt
          have hin : hasR s u v = true := (hasR_iff _ _ _).2 (by omega)
          obtain ⟨p, hp⟩ : ∃ p, p = blurH F r u v := ⟨_, rfl⟩
          have HQa : Hid (B u v = p) := by rw [hp]; exact HEQ.out u v hin
          have CLO : Hid (closeP p (sumP (fun i => F i v) (u - r) (winN r)) (2 * r + 1)) := by rw [hp]; exact blurH_close FOK.out hrx u v
          have BDS : Hid (∀ j : Nat, (j : Int) ≤ 2 * r + 1 → bdS (sumP (fun i => F i v) (u - r) j)) := fun j hj => sumP_bdS (f := fun i => F i v) (fun i => FOK.out i v) _ (by omega)
          have Z1 := Lib.hid (Y1.out.grows hh.out)
          clear a1 hin hp
          go_wp2_with (go_at_call 28; (with_reducible refine (ref05_AtIs _ _ _ _ _ _ _ _ p Z1 (by omega) HQa).mono ?_); rintro e w' ⟨rfl, hgw⟩; first | (obtain ⟨gw, rfl⟩ := grows_of_grow hgw) | (obtain ⟨gw, rfl⟩ := hgw))
          refine wp_name ?_
          intro W1 hW1
          have CP : Hid (Blk W1 (wr.heap.size + gw.news.size) 28 #[.int .u8 p.r, .int .u8 p.g, .int .u8 p.b, .int .u8 p.a]) := by rw [hW1]; exact (by unfold Blk; repeat (first | exact blk_at _ _ _ (by first | omega | (simp; done) | (simp; omega)) | refine (blk_past _ _ _ (by first | omega | (simp; done) | (simp; omega))).trans ?_ | refine (heap_grow _ _ _ (by first | omega | (simp; done) | (simp; omega))).trans ?_ | refine (blk_drew _ _).trans ?_))
          have GW1 : Hid (Grows W0 W1) := by rw [hW1]; exact hh.out.trans (by repeat (first | exact Grows.refl _ | apply Grows.grow | apply Grows.alloc | apply Grows.drew))
          have C0 := Lib.hid (D0.out.grows GW1.out)
          have X0 := Lib.hid (X1.out.grows (GW.out.trans GW1.out))
          have GI : Hid (Grows W1 W1) := Grows.refl _
          obtain ⟨np, hnp⟩ : ∃ n, n = wr.heap.size + gw.news.size := ⟨_, rfl⟩
          rw [← hnp] at CP ⊢
          clear hW1 hnp hh d0 d1 d2 d3 df l2 e0 e1 e2 e3 e4 ef le Z1 HQa hgw
          unfold closeP at CLO
          unfold bdS at BDS
          obtain ⟨wo, hwo⟩ : ∃ wo : World, wo = wr := ⟨_, rfl⟩
          clear hwo
          refine wp_loop_rounds 5 ?_
          rw [rounds_succ]
          go_wp2
          go_loopw [13, 14] (fun x z wr => ∃ j : Nat, (j : Int) ≤ 2 * r + 1 ∧ x = .int .i64 (sumP (fun i => F i v) (u - r) j).r ∧ z = .int .i64 (-r + j) ∧ Hid (Grows W1 wr)) (fun _ z _ => (r + 1 - intOf z).toNat)
          case atStart => exact ⟨0, by omega, rfl, by go_num, GI.out⟩
          case round =>
            clear GI
            obtain ⟨j, hj, rfl, rfl, h3⟩ := hrel
            have hbs := BDS.out j (by omega)
            by_cases hk3 : (j : Int) < 2 * r + 1
            · have c0 := C0.out.grows h3.out
              obtain ⟨s0, s1, s2, s3, s4, sf⟩ := c0.c5
              have ls := c0.lt
              have HSRC := Lib.hid (X0.out.grows h3.out)
              have eS : Hid ((sumP (fun i => F i v) (u - r) (j + 1)).r = (sumP (fun i => F i v) (u - r) j).r + (F (u - r + (j : Int)) v).r) := by rw [sumP_succ]; simp only [addP]; show _ = _; omega
              have hux : u + (-r + (j : Int)) = u - r + (j : Int) := by omega
              obtain ⟨q, hq⟩ : ∃ q, q = F (u - r + (j : Int)) v := ⟨_, rfl⟩
              have hqb : okP q := by rw [hq]; exact FOK.out _ _
              have HQ0 : Hid (F (u + (-r + (j : Int))) v = q) := by rw [hux]; exact hq.symm
              rw [← hq] at eS
              clear c0 hq hux
              unfold okP at hqb
              go_wp2_with (go_at_call 28; (with_reducible refine (ref05_AtIs _ _ _ _ _ _ _ _ q HSRC (by omega) HQ0).mono ?_); rintro e w' ⟨rfl, hgw⟩; first | (obtain ⟨gw, rfl⟩ := grows_of_grow hgw) | (obtain ⟨gw, rfl⟩ := hgw))
              go_roundw
              case rel => exact ⟨j + 1, by omega, by rw [eS.out], by go_num, h3.out.trans (by repeat (first | exact Grows.refl _ | apply Grows.grow | apply Grows.alloc | apply Grows.drew))⟩
              case measure => simp [intOf]; omega
            · obtain rfl : j = winN r := by unfold winN; omega
              obtain ⟨T, hT⟩ : ∃ T, T = sumP (fun i => F i v) (u - r) (winN r) := ⟨_, rfl⟩
              have hcl := CLO.out
              rw [← hT] at hcl hbs ⊢
              obtain ⟨hc0, hc1, hc2, hc3⟩ := hcl
              have cp := CP.out.grows h3.out
              obtain ⟨g0, g1, g2, g3, gf⟩ := cp.c4
              have lp := cp.lt
              have GI := h3
              clear cp hT h3
              go_wp2
              clear g0 g1 g2 g3 gf lp hc0 hc1 hc2 hc3 hbs hk3 hj
              obtain ⟨wo, hwo⟩ : ∃ wo : World, wo = wr := ⟨_, rfl⟩
              clear hwo
              rw [rounds_succ]
              go_wp2
              go_loopw [13, 14] (fun x z wr => ∃ j : Nat, (j : Int) ≤ 2 * r + 1 ∧ x = .int .i64 (sumP (fun i => F i v) (u - r) j).g ∧ z = .int .i64 (-r + j) ∧ Hid (Grows W1 wr)) (fun _ z _ => (r + 1 - intOf z).toNat)
              case atStart => exact ⟨0, by omega, rfl, by go_num, GI.out⟩
              case round =>
                clear GI
                obtain ⟨j, hj, rfl, rfl, h3⟩ := hrel
                have hbs := BDS.out j (by omega)
                by_cases hk3 : (j : Int) < 2 * r + 1
                · have c0 := C0.out.grows h3.out
                  obtain ⟨s0, s1, s2, s3, s4, sf⟩ := c0.c5
                  have ls := c0.lt
                  have HSRC := Lib.hid (X0.out.grows h3.out)
                  have eS : Hid ((sumP (fun i => F i v) (u - r) (j + 1)).g = (sumP (fun i => F i v) (u - r) j).g + (F (u - r + (j : Int)) v).g) := by rw [sumP_succ]; simp only [addP]; show _ = _; omega
                  have hux : u + (-r + (j : Int)) = u - r + (j : Int) := by omega
                  obtain ⟨q, hq⟩ : ∃ q, q = F (u - r + (j : Int)) v := ⟨_, rfl⟩
                  have hqb : okP q := by rw [hq]; exact FOK.out _ _
                  have HQ0 : Hid (F (u + (-r + (j : Int))) v = q) := by rw [hux]; exact hq.symm
                  rw [← hq] at eS
                  clear c0 hq hux
                  unfold okP at hqb
                  go_wp2_with (go_at_call 28; (with_reducible refine (ref05_AtIs _ _ _ _ _ _ _ _ q HSRC (by omega) HQ0).mono ?_); rintro e w' ⟨rfl, hgw⟩; first | (obtain ⟨gw, rfl⟩ := grows_of_grow hgw) | (obtain ⟨gw, rfl⟩ := hgw))
                  go_roundw
                  case rel => exact ⟨j + 1, by omega, by rw [eS.out], by go_num, h3.out.trans (by repeat (first | exact Grows.refl _ | apply Grows.grow | apply Grows.alloc | apply Grows.drew))⟩
                  case measure => simp [intOf]; omega
                · obtain rfl : j = winN r := by unfold winN; omega
                  obtain ⟨T, hT⟩ : ∃ T, T = sumP (fun i => F i v) (u - r) (winN r) := ⟨_, rfl⟩
                  have hcl := CLO.out
                  rw [← hT] at hcl hbs ⊢
                  obtain ⟨hc0, hc1, hc2, hc3⟩ := hcl
                  have cp := CP.out.grows h3.out
                  obtain ⟨g0, g1, g2, g3, gf⟩ := cp.c4
                  have lp := cp.lt
                  have GI := h3
                  clear cp hT h3
                  go_wp2
                  clear g0 g1 g2 g3 gf lp hc0 hc1 hc2 hc3 hbs hk3 hj
                  obtain ⟨wo, hwo⟩ : ∃ wo : World, wo = wr := ⟨_, rfl⟩
                  clear hwo
                  rw [rounds_succ]
                  go_wp2
                  go_loopw [13, 14] (fun x z wr => ∃ j : Nat, (j : Int) ≤ 2 * r + 1 ∧ x = .int .i64 (sumP (fun i => F i v) (u - r) j).b ∧ z = .int .i64 (-r + j) ∧ Hid (Grows W1 wr)) (fun _ z _ => (r + 1 - intOf z).toNat)
                  case atStart => exact ⟨0, by omega, rfl, by go_num, GI.out⟩
                  case round =>
                    clear GI
                    obtain ⟨j, hj, rfl, rfl, h3⟩ := hrel
                    have hbs := BDS.out j (by omega)
                    by_cases hk3 : (j : Int) < 2 * r + 1
                    · have c0 := C0.out.grows h3.out
                      obtain ⟨s0, s1, s2, s3, s4, sf⟩ := c0.c5
                      have ls := c0.lt
                      have HSRC := Lib.hid (X0.out.grows h3.out)
                      have eS : Hid ((sumP (fun i => F i v) (u - r) (j + 1)).b = (sumP (fun i => F i v) (u - r) j).b + (F (u - r + (j : Int)) v).b) := by rw [sumP_succ]; simp only [addP]; show _ = _; omega
                      have hux : u + (-r + (j : Int)) = u - r + (j : Int) := by omega
                      obtain ⟨q, hq⟩ : ∃ q, q = F (u - r + (j : Int)) v := ⟨_, rfl⟩
                      have hqb : okP q := by rw [hq]; exact FOK.out _ _
                      have HQ0 : Hid (F (u + (-r + (j : Int))) v = q) := by rw [hux]; exact hq.symm
                      rw [← hq] at eS
                      clear c0 hq hux
                      unfold okP at hqb
                      go_wp2_with (go_at_call 28; (with_reducible refine (ref05_AtIs _ _ _ _ _ _ _ _ q HSRC (by omega) HQ0).mono ?_); rintro e w' ⟨rfl, hgw⟩; first | (obtain ⟨gw, rfl⟩ := grows_of_grow hgw) | (obtain ⟨gw, rfl⟩ := hgw))
                      go_roundw
                      case rel => exact ⟨j + 1, by omega, by rw [eS.out], by go_num, h3.out.trans (by repeat (first | exact Grows.refl _ | apply Grows.grow | apply Grows.alloc | apply Grows.drew))⟩
                      case measure => simp [intOf]; omega
                    · obtain rfl : j = winN r := by unfold winN; omega
                      obtain ⟨T, hT⟩ : ∃ T, T = sumP (fun i => F i v) (u - r) (winN r) := ⟨_, rfl⟩
                      have hcl := CLO.out
                      rw [← hT] at hcl hbs ⊢
                      obtain ⟨hc0, hc1, hc2, hc3⟩ := hcl
                      have cp := CP.out.grows h3.out
                      obtain ⟨g0, g1, g2, g3, gf⟩ := cp.c4
                      have lp := cp.lt
                      have GI := h3
                      clear cp hT h3
                      go_wp2
                      clear g0 g1 g2 g3 gf lp hc0 hc1 hc2 hc3 hbs hk3 hj
                      obtain ⟨wo, hwo⟩ : ∃ wo : World, wo = wr := ⟨_, rfl⟩
                      clear hwo
                      rw [rounds_succ]
                      go_wp2
                      go_loopw [13, 14] (fun x z wr => ∃ j : Nat, (j : Int) ≤ 2 * r + 1 ∧ x = .int .i64 (sumP (fun i => F i v) (u - r) j).a ∧ z = .int .i64 (-r + j) ∧ Hid (Grows W1 wr)) (fun _ z _ => (r + 1 - intOf z).toNat)
                      case atStart => exact ⟨0, by omega, rfl, by go_num, GI.out⟩
                      case round =>
                        clear GI
                        obtain ⟨j, hj, rfl, rfl, h3⟩ := hrel
                        have hbs := BDS.out j (by omega)
                        by_cases hk3 : (j : Int) < 2 * r + 1
                        · have c0 := C0.out.grows h3.out
                          obtain ⟨s0, s1, s2, s3, s4, sf⟩ := c0.c5
                          have ls := c0.lt
                          have HSRC := Lib.hid (X0.out.grows h3.out)
                          have eS : Hid ((sumP (fun i => F i v) (u - r) (j + 1)).a = (sumP (fun i => F i v) (u - r) j).a + (F (u - r + (j : Int)) v).a) := by rw [sumP_succ]; simp only [addP]; show _ = _; omega
                          have hux : u + (-r + (j : Int)) = u - r + (j : Int) := by omega
                          obtain ⟨q, hq⟩ : ∃ q, q = F (u - r + (j : Int)) v := ⟨_, rfl⟩
                          have hqb : okP q := by rw [hq]; exact FOK.out _ _
                          have HQ0 : Hid (F (u + (-r + (j : Int))) v = q) := by rw [hux]; exact hq.symm
                          rw [← hq] at eS
                          clear c0 hq hux
                          unfold okP at hqb
                          go_wp2_with (go_at_call 28; (with_reducible refine (ref05_AtIs _ _ _ _ _ _ _ _ q HSRC (by omega) HQ0).mono ?_); rintro e w' ⟨rfl, hgw⟩; first | (obtain ⟨gw, rfl⟩ := grows_of_grow hgw) | (obtain ⟨gw, rfl⟩ := hgw))
                          go_roundw
                          case rel => exact ⟨j + 1, by omega, by rw [eS.out], by go_num, h3.out.trans (by repeat (first | exact Grows.refl _ | apply Grows.grow | apply Grows.alloc | apply Grows.drew))⟩
                          case measure => simp [intOf]; omega
                        · obtain rfl : j = winN r := by unfold winN; omega
                          obtain ⟨T, hT⟩ : ∃ T, T = sumP (fun i => F i v) (u - r) (winN r) := ⟨_, rfl⟩
                          have hcl := CLO.out
                          rw [← hT] at hcl hbs ⊢
                          obtain ⟨hc0, hc1, hc2, hc3⟩ := hcl
                          have cp := CP.out.grows h3.out
                          obtain ⟨g0, g1, g2, g3, gf⟩ := cp.c4
                          have lp := cp.lt
                          have GI := h3
                          clear cp hT h3
                          go_wp2
                          clear g0 g1 g2 g3 gf lp hc0 hc1 hc2 hc3 hbs hk3 hj
                          obtain ⟨wo, hwo⟩ : ∃ wo : World, wo = wr := ⟨_, rfl⟩
                          clear hwo
                          rw [rounds_succ]
                          go_wp2
                          go_roundw
                          case rel => exact ⟨u + 1, by omega, by omega, by go_num, GW1.out.trans GI.out⟩
                          case measure => simp [intOf]; omega
        · go_wp2
          go_roundw
          case rel => exact ⟨v + 1, by omega, by omega, by go_num, hh.out⟩
          case measure => simp [intOf]; omega
    · go_wp2
      go_ret
      exact ⟨rfl, GW.out.trans hh.out⟩
end Go.Proofs.Ytldgodpenigphaa
