/- The walk of chapter 9's law MorphWindows. -/
import Derived.Test.YtbpcpndiohlchaaMorphN
namespace Go.Proofs.Ytbpcpndiohlchaa
open Go.RowKit
set_option linter.unusedVariables false

/-- Has a value been seen, up to a place of a window, the flag is up. -/
def SeenTo (f : Int → Int → Int) (a : Int) (p0 p1 : Int) (q0 q p : Int) (b : Bool) : Prop := ∀ y x, q0 ≤ y → p0 ≤ x → x < p1 → (y < q ∨ (y = q ∧ x < p)) → f x y = a → b = true
theorem SeenTo.step {f : Int → Int → Int} {a p0 p1 q0 q p n : Int} {b b' : Bool} (h : SeenTo f a p0 p1 q0 q p b) (hn : f p q = n) (h1 : n = a → b' = true) (h2 : b = true → b' = true) : SeenTo f a p0 p1 q0 q (p + 1) b' := fun y x hy hx0 hx1 hs e => by
  by_cases c : y = q ∧ x = p
  · obtain ⟨rfl, rfl⟩ := c
    exact h1 (hn.symm.trans e)
  · exact h2 (h y x hy hx0 hx1 (by omega) e)
theorem SeenTo.row {f : Int → Int → Int} {a p0 p1 q0 q p : Int} {b : Bool} (h : SeenTo f a p0 p1 q0 q p b) (hp : p1 ≤ p) : SeenTo f a p0 p1 q0 (q + 1) p0 b := fun y x hy hx0 hx1 hs e => h y x hy hx0 hx1 (by omega) e
theorem SeenTo.start (f : Int → Int → Int) (a p0 p1 q0 : Int) (b : Bool) : SeenTo f a p0 p1 q0 q0 p0 b := fun y x hy hx0 hx1 hs e => by omega

set_option maxRecDepth 100000 in
set_option maxHeartbeats 25600000 in
theorem morphWindows_walk (r1 : R) (a1 : Option Addr) (l1 p1 : Nat) (f1 : Nat → P4) (s : R) (rx ry : Int) (w : World)
    (hb1 : IsPix w a1 l1 p1 f1) (hx : -9223372036854775808 ≤ rx ∧ rx ≤ 9223372036854775807) (hy : -9223372036854775808 ≤ ry ∧ ry ≤ 9223372036854775807) :
    Calls Try.prog 4 #[.agg #[.int .i64 r1.x0, .int .i64 r1.y0, .int .i64 r1.x1, .int .i64 r1.y1, .slice a1 l1 p1], .agg #[.int .i64 s.x0, .int .i64 s.y0, .int .i64 s.x1, .int .i64 s.y1], .int .i64 rx, .int .i64 ry] w fun e w' => e = .returned (.bool true) ∧ Grows w w' := by
  have m1 := hb1.le
  have m1' := hb1.most
  have h1 := Lib.hid hb1
  clear hb1
  by_cases c1 : fine09 l1 r1 s rx ry = false
  · have C1 := Lib.hid c1
    clear c1
    go_enter Try.func4, Try.ntmps4
    go_wp2_with ((first | (go_at_call 9; refine (awake09 _ ).mono ?_; rintro e w' ⟨rfl, hgw⟩; first | (obtain ⟨gw, rfl⟩ := grows_of_grow hgw) | (obtain ⟨gw, rfl⟩ := hgw)) | (go_at_call 10; (with_reducible refine (law09_fineIs _ _ _ _ _ _ _ _ _ (by omega) (by omega) C1).mono ?_); rintro e w' ⟨rfl, hgw⟩; first | (obtain ⟨gw, rfl⟩ := grows_of_grow hgw) | (obtain ⟨gw, rfl⟩ := hgw))))
    go_ret
    exact ⟨rfl, (by repeat (first | exact Grows.refl _ | apply Grows.grow | apply Grows.alloc | apply Grows.drew))⟩
  have C1 := Lib.hid (bool_yes c1)
  obtain ⟨k1, g1, n1, k2, hrx, hry, hsm, hrs, k3, k4⟩ := fine09_yes C1.out
  obtain ⟨F, hF⟩ : ∃ F, F = imgOf r1 f1 := ⟨_, rfl⟩
  have X1 : Hid (BufAt w r1 a1 l1 p1 F) := by rw [hF]; exact bufAt_of g1 n1 h1.out
  have FOK : Hid (∀ u v, okP (F u v)) := X1.out.fits.ok
  have HB1 : Hid (∀ W, Grows w W → Calls Try.prog 14 #[.agg #[.int .i64 r1.x0, .int .i64 r1.y0, .int .i64 r1.x1, .int .i64 r1.y1, .slice a1 l1 p1], .agg #[.int .i64 s.x0, .int .i64 s.y0, .int .i64 s.x1, .int .i64 s.y1], .int .i64 rx, .int .i64 ry] W (RetBuf W (someR s) (boxM true s rx ry F))) := fun W g => morph_MostI s r1 a1 l1 p1 F rx ry W (X1.out.grows g) (by omega) hrs (by omega) (by omega) (by omega) (by omega) (by omega) (by omega)
  have HB2 : Hid (∀ W, Grows w W → Calls Try.prog 12 #[.agg #[.int .i64 r1.x0, .int .i64 r1.y0, .int .i64 r1.x1, .int .i64 r1.y1, .slice a1 l1 p1], .agg #[.int .i64 s.x0, .int .i64 s.y0, .int .i64 s.x1, .int .i64 s.y1], .int .i64 rx, .int .i64 ry] W (RetBuf W (someR s) (boxM false s rx ry F))) := fun W g => morph_LeastI s r1 a1 l1 p1 F rx ry W (X1.out.grows g) (by omega) hrs (by omega) (by omega) (by omega) (by omega) (by omega) (by omega)
  have HEQ : Hid (∀ u v, (s.x0 ≤ u ∧ u < s.x1 ∧ s.y0 ≤ v ∧ v < s.y1) → ∀ c, (∀ x y, u - rx ≤ x → x ≤ u + rx → v - ry ≤ y → y ≤ v + ry → chan (F x y) c ≤ chan (boxM true s rx ry F u v) c ∧ chan (boxM false s rx ry F u v) c ≤ chan (F x y) c) ∧
      (∃ x y, (u - rx ≤ x ∧ x ≤ u + rx) ∧ (v - ry ≤ y ∧ y ≤ v + ry) ∧ chan (F x y) c = chan (boxM true s rx ry F u v) c) ∧ ∃ x y, (u - rx ≤ x ∧ x ≤ u + rx) ∧ (v - ry ≤ y ∧ y ≤ v + ry) ∧ chan (F x y) c = chan (boxM false s rx ry F u v) c) := fun u v hin c => by
    rw [boxM_in hsm (by omega) true rx F ((hasR_iff _ _ _).2 (by omega)), boxM_in hsm (by omega) false rx F ((hasR_iff _ _ _).2 (by omega))]
    refine ⟨fun x y a b c' d => ?_, ?_, ?_⟩
    · have e1 := around_ge true F u v c a b c' d
      have e2 := around_ge false F u v c a b c' d
      simp only [turnV, if_true, Bool.false_eq_true, if_false] at e1 e2
      omega
    · obtain ⟨x, y, a, b, e⟩ := around_is (k := true) FOK.out u v hrx.1 hry.1 c
      exact ⟨x, y, a, b, e.symm⟩
    · obtain ⟨x, y, a, b, e⟩ := around_is (k := false) FOK.out u v hrx.1 hry.1 c
      exact ⟨x, y, a, b, e.symm⟩
  have sb := (rightR_iff s).1 hrs
  obtain ⟨B, hB⟩ : ∃ B, B = boxM true s rx ry F := ⟨_, rfl⟩
  obtain ⟨D, hD⟩ : ∃ B, B = boxM false s rx ry F := ⟨_, rfl⟩
  obtain ⟨t, ht⟩ : ∃ t, t = someR s := ⟨_, rfl⟩
  rw [← hB] at HB1 HEQ
  rw [← hD] at HB2 HEQ
  rw [← ht] at HB1 HB2 k4
  clear c1 g1 n1 hF hB hD ht hsm hrs k3 h1
  go_enter Try.func4, Try.ntmps4
  go_wp2_with (first
    | (first | (go_at_call 9; refine (awake09 _ ).mono ?_; rintro e w' ⟨rfl, hgw⟩; first | (obtain ⟨gw, rfl⟩ := grows_of_grow hgw) | (obtain ⟨gw, rfl⟩ := hgw)) | (go_at_call 10; (with_reducible refine (law09_fineIs _ _ _ _ _ _ _ _ _ (by omega) (by omega) C1).mono ?_); rintro e w' ⟨rfl, hgw⟩; first | (obtain ⟨gw, rfl⟩ := grows_of_grow hgw) | (obtain ⟨gw, rfl⟩ := hgw)))
    | (go_at_call 14; (with_reducible refine Calls.mono (HB1.out _ ?_) ?_); (exact (by repeat (first | exact Grows.refl _ | apply Grows.grow | apply Grows.alloc | apply Grows.drew))); rintro e w' ⟨aq1, lq1, pq1, rfl, hgw, HQ1⟩; (first | (obtain ⟨gq1, rfl⟩ := grows_of_grow hgw) | (obtain ⟨gq1, rfl⟩ := hgw)))
    | (go_at_call 12; (with_reducible refine Calls.mono (HB2.out _ ?_) ?_); (exact (by repeat (first | exact Grows.refl _ | apply Grows.grow | apply Grows.alloc | apply Grows.drew))); rintro e w' ⟨aq2, lq2, pq2, rfl, hgw, HQ2⟩; (first | (obtain ⟨gq2, rfl⟩ := grows_of_grow hgw) | (obtain ⟨gq2, rfl⟩ := hgw))))
  refine wp_name ?_
  intro W1 hW1
  have E0 : Hid (Blk W1 w.heap.size 26 #[.int .i64 r1.x0, .int .i64 r1.y0, .int .i64 r1.x1, .int .i64 r1.y1, .slice a1 l1 p1]) := by rw [hW1]; exact (by unfold Blk; repeat (first | exact blk_at _ _ _ (by first | omega | (simp; done) | (simp; omega)) | refine (blk_past _ _ _ (by first | omega | (simp; done) | (simp; omega))).trans ?_ | refine (heap_grow _ _ _ (by first | omega | (simp; done) | (simp; omega))).trans ?_ | refine (blk_drew _ _).trans ?_))
  have E1 : Hid (Blk W1 (w.heap.size + 1) 23 #[.int .i64 s.x0, .int .i64 s.y0, .int .i64 s.x1, .int .i64 s.y1]) := by rw [hW1]; exact (by unfold Blk; repeat (first | exact blk_at _ _ _ (by first | omega | (simp; done) | (simp; omega)) | refine (blk_past _ _ _ (by first | omega | (simp; done) | (simp; omega))).trans ?_ | refine (heap_grow _ _ _ (by first | omega | (simp; done) | (simp; omega))).trans ?_ | refine (blk_drew _ _).trans ?_))
  have E3 : Hid (Blk W1 (w.heap.size + 1 + 1 + gq1.news.size) 26 #[.int .i64 t.x0, .int .i64 t.y0, .int .i64 t.x1, .int .i64 t.y1, .slice aq1 lq1 pq1]) := by rw [hW1]; exact (by unfold Blk; repeat (first | exact blk_at _ _ _ (by first | omega | (simp; done) | (simp; omega)) | refine (blk_past _ _ _ (by first | omega | (simp; done) | (simp; omega))).trans ?_ | refine (heap_grow _ _ _ (by first | omega | (simp; done) | (simp; omega))).trans ?_ | refine (blk_drew _ _).trans ?_))
  have E4 : Hid (Blk W1 (w.heap.size + 1 + 1 + gq1.news.size + 1 + gq2.news.size) 26 #[.int .i64 t.x0, .int .i64 t.y0, .int .i64 t.x1, .int .i64 t.y1, .slice aq2 lq2 pq2]) := by rw [hW1]; exact (by unfold Blk; repeat (first | exact blk_at _ _ _ (by first | omega | (simp; done) | (simp; omega)) | refine (blk_past _ _ _ (by first | omega | (simp; done) | (simp; omega))).trans ?_ | refine (heap_grow _ _ _ (by first | omega | (simp; done) | (simp; omega))).trans ?_ | refine (blk_drew _ _).trans ?_))
  have Z1 : Hid (BufAt W1 t aq1 lq1 pq1 B) := by rw [hW1]; exact HQ1.out.1.grows (by repeat (first | exact Grows.refl _ | apply Grows.grow | apply Grows.alloc | apply Grows.drew))
  have Z2 : Hid (BufAt W1 t aq2 lq2 pq2 D) := by rw [hW1]; exact HQ2.out.1.grows (by repeat (first | exact Grows.refl _ | apply Grows.grow | apply Grows.alloc | apply Grows.drew))
  have GW1 : Hid (Grows w W1) := by rw [hW1]; exact (by repeat (first | exact Grows.refl _ | apply Grows.grow | apply Grows.alloc | apply Grows.drew))
  have X2 : Hid (BufAt W1 r1 a1 l1 p1 F) := X1.out.grows GW1.out
  obtain ⟨ne, hne⟩ : ∃ n, n = w.heap.size + 1 + 1 + gq1.news.size + 1 + gq2.news.size := ⟨_, rfl⟩
  rw [← hne] at E4 ⊢
  obtain ⟨nd, hnd⟩ : ∃ n, n = w.heap.size + 1 + 1 + gq1.news.size := ⟨_, rfl⟩
  rw [← hnd] at E3 ⊢
  clear hW1 hne hnd HQ1 HQ2 HB1 HB2
  go_loopw [11] (fun y wr => ∃ v : Int, s.y0 ≤ v ∧ v ≤ 4398046511104 ∧ y = .int .i64 v ∧ Hid (Grows W1 wr)) (fun y _ => (s.y1 - intOf y).toNat)
  case atStart => exact ⟨_, by omega, by omega, rfl, Grows.refl _⟩
  case round =>
    obtain ⟨v, hv1, hv2, rfl, hh⟩ := hrel
    have d1 := E1.out.grows hh.out
    obtain ⟨s0, s1, s2, s3, sf⟩ := d1.c4
    have ls := d1.lt
    clear d1
    by_cases hlt : v < s.y1
    · go_wp2
      clear s0 s1 s2 s3 sf ls
      obtain ⟨wo, hwo⟩ : ∃ wo : World, wo = wr := ⟨_, rfl⟩
      clear hwo
      go_loopw [12] (fun x wr => ∃ u : Int, s.x0 ≤ u ∧ u ≤ 4398046511104 ∧ x = .int .i64 u ∧ Hid (Grows W1 wr)) (fun x _ => (s.x1 - intOf x).toNat)
      case atStart => exact ⟨_, by omega, by omega, rfl, hh.out⟩
      case round =>
        clear hh
        obtain ⟨u, hu1, hu2, rfl, hh⟩ := hrel
        have d1 := E1.out.grows hh.out
        obtain ⟨s0, s1, s2, s3, sf⟩ := d1.c4
        have ls := d1.lt
        clear d1
        by_cases hltx : u < s.x1
        · have HEV := Lib.hid (HEQ.out u v (by omega))
          obtain ⟨qb, hqb⟩ : ∃ q, q = B u v := ⟨_, rfl⟩
          obtain ⟨qd, hqd⟩ : ∃ q, q = D u v := ⟨_, rfl⟩
          rw [← hqb, ← hqd] at HEV
          have HQa : Hid (B u v = qb) := hqb.symm
          have HQb : Hid (D u v = qd) := hqd.symm
          clear hqb hqd
          go_wp2
          clear s0 s1 s2 s3 sf ls
          obtain ⟨wo, hwo⟩ : ∃ wo : World, wo = wr := ⟨_, rfl⟩
          clear hwo
          go_loopw [13] (fun z wr => ∃ c : Nat, c ≤ 4 ∧ z = .int .i64 c ∧ Hid (Grows W1 wr)) (fun z _ => 4 - (intOf z).toNat)
          case atStart => exact ⟨0, by omega, rfl, hh.out⟩
          case round =>
            clear hh
            obtain ⟨c, hc, rfl, hh⟩ := hrel
            by_cases hc4 : (c : Int) < 4
            · have hc4n : c < 4 := by omega
              have d3 := E3.out.grows hh.out
              obtain ⟨x0, x1, x2, x3, x4, xf⟩ := d3.c5
              have lx := d3.lt
              have d4 := E4.out.grows hh.out
              obtain ⟨y0, y1, y2, y3, y4, yf⟩ := d4.c5
              have ly := d4.lt
              have Y1 := Lib.hid (Z1.out.grows hh.out)
              have Y2 := Lib.hid (Z2.out.grows hh.out)
              clear d3 d4
              go_wp2_with ((first | (go_at_call 15; (with_reducible refine (ref05_AtIs _ _ _ _ _ _ _ _ _ (Lib.hid (BufAt.grows Y1.out (by repeat (first | exact Grows.refl _ | apply Grows.grow | apply Grows.alloc | apply Grows.drew)))) (by omega) HQa).mono ?_); rintro e w' ⟨rfl, hgw⟩; first | (obtain ⟨gw, rfl⟩ := grows_of_grow hgw) | (obtain ⟨gw, rfl⟩ := hgw)) | (go_at_call 15; (with_reducible refine (ref05_AtIs _ _ _ _ _ _ _ _ _ (Lib.hid (BufAt.grows Y2.out (by repeat (first | exact Grows.refl _ | apply Grows.grow | apply Grows.alloc | apply Grows.drew)))) (by omega) HQb).mono ?_); rintro e w' ⟨rfl, hgw⟩; first | (obtain ⟨gw, rfl⟩ := grows_of_grow hgw) | (obtain ⟨gw, rfl⟩ := hgw))))
              refine wp_name ?_
              intro W2 hW2
              have GW2 : Hid (Grows W1 W2) := by rw [hW2]; exact hh.out.trans (by repeat (first | exact Grows.refl _ | apply Grows.grow | apply Grows.alloc | apply Grows.drew))
              obtain ⟨hi, hhi⟩ : ∃ z, z = chan qb c := ⟨_, rfl⟩
              obtain ⟨lo, hlo⟩ : ∃ z, z = chan qd c := ⟨_, rfl⟩
              have HEC := Lib.hid (HEV.out c)
              rw [← hhi, ← hlo] at HEC ⊢
              clear hW2 hhi hlo x0 x1 x2 x3 x4 xf lx y0 y1 y2 y3 y4 yf ly Y1 Y2 hh
              obtain ⟨wo, hwo⟩ : ∃ wo : World, wo = wr := ⟨_, rfl⟩
              clear hwo
              go_loopw [16, 17, 18] (fun f1 f2 z wr => ∃ (j : Nat) (b1 b2 : Bool), (j : Int) ≤ 2 * ry + 1 ∧ z = .int .i64 (v - ry + j) ∧ f1 = .bool b1 ∧ f2 = .bool b2 ∧ Hid (Grows W2 wr ∧ SeenTo (fun x y => chan (F x y) c) hi (u - rx) (u + rx + 1) (v - ry) (v - ry + j) (u - rx) b1 ∧ SeenTo (fun x y => chan (F x y) c) lo (u - rx) (u + rx + 1) (v - ry) (v - ry + j) (u - rx) b2)) (fun _ _ z _ => (v + ry + 1 - intOf z).toNat)
              case atStart =>
                refine ⟨0, false, false, by omega, by go_num, rfl, rfl, Grows.refl _, ?_, ?_⟩
                · rw [show v - ry + ((0 : Nat) : Int) = v - ry from by omega]; exact SeenTo.start _ _ _ _ _ _
                · rw [show v - ry + ((0 : Nat) : Int) = v - ry from by omega]; exact SeenTo.start _ _ _ _ _ _
              case round =>
                obtain ⟨j, b1, b2, hj, rfl, rfl, rfl, h3⟩ := hrel
                by_cases hltj : (j : Int) < 2 * ry + 1
                · have hltj2 : v - ry + (j : Int) ≤ v + ry := by omega
                  go_wp2
                  obtain ⟨wo, hwo⟩ : ∃ wo : World, wo = wr := ⟨_, rfl⟩
                  clear hwo
                  go_loopw [16, 17, 19] (fun f1 f2 z wr => ∃ (i : Nat) (b1 b2 : Bool), (i : Int) ≤ 2 * rx + 1 ∧ z = .int .i64 (u - rx + i) ∧ f1 = .bool b1 ∧ f2 = .bool b2 ∧ Hid (Grows W2 wr ∧ SeenTo (fun x y => chan (F x y) c) hi (u - rx) (u + rx + 1) (v - ry) (v - ry + (j : Int)) (u - rx + i) b1 ∧ SeenTo (fun x y => chan (F x y) c) lo (u - rx) (u + rx + 1) (v - ry) (v - ry + (j : Int)) (u - rx + i) b2)) (fun _ _ z _ => (u + rx + 1 - intOf z).toNat)
                  case atStart =>
                    refine ⟨0, b1, b2, by omega, by go_num, rfl, rfl, h3.out.1, ?_, ?_⟩
                    · rw [show u - rx + ((0 : Nat) : Int) = u - rx from by omega]; exact h3.out.2.1
                    · rw [show u - rx + ((0 : Nat) : Int) = u - rx from by omega]; exact h3.out.2.2
                  case round =>
                    clear h3
                    obtain ⟨i, b1, b2, hi2, rfl, rfl, rfl, h3⟩ := hrel
                    by_cases hlti : (i : Int) < 2 * rx + 1
                    · have hlti2 : u - rx + (i : Int) ≤ u + rx := by omega
                      have c0 := E0.out.grows (GW2.out.trans h3.out.1)
                      obtain ⟨s0, s1, s2, s3, s4, sf⟩ := c0.c5
                      have ls := c0.lt
                      have HX := Lib.hid (X2.out.grows (GW2.out.trans h3.out.1))
                      obtain ⟨q, hq⟩ : ∃ q, q = F (u - rx + (i : Int)) (v - ry + (j : Int)) := ⟨_, rfl⟩
                      have HQ0 : Hid (F (u - rx + (i : Int)) (v - ry + (j : Int)) = q) := hq.symm
                      have hbd := HEC.out.1 (u - rx + (i : Int)) (v - ry + (j : Int)) (by omega) (by omega) (by omega) (by omega)
                      rw [← hq] at hbd
                      obtain ⟨hbd1, hbd2⟩ := hbd
                      have HNQ : Hid ((fun x y => chan (F x y) c) (u - rx + (i : Int)) (v - ry + (j : Int)) = chan q c) := by rw [hq]; rfl
                      have n1 : ¬ (hi < chan q c) := by omega
                      have n2 : ¬ (chan q c < lo) := by omega
                      have hie : u - rx + ((i + 1 : Nat) : Int) = u - rx + (i : Int) + 1 := by omega
                      have HIE := Lib.hid hie
                      clear c0 hq hie
                      by_cases e1 : chan q c = hi <;> by_cases e2 : chan q c = lo <;> cases b1 <;> cases b2
                      all_goals go_wp2_with (go_at_call 15; (with_reducible refine (ref05_AtIs _ _ _ _ _ _ _ _ q HX (by omega) HQ0).mono ?_); rintro e w' ⟨rfl, hgw⟩; first | (obtain ⟨gw, rfl⟩ := grows_of_grow hgw) | (obtain ⟨gw, rfl⟩ := hgw))
                      all_goals go_roundw
                      all_goals first
                        | exact ⟨i + 1, _, _, by omega, by go_num, rfl, rfl, h3.out.1.trans (by repeat (first | exact Grows.refl _ | apply Grows.grow | apply Grows.alloc | apply Grows.drew)), by rw [HIE.out]; exact h3.out.2.1.step HNQ.out (fun h => by first | rfl | exact absurd h e1 | exact beq_iff_eq.2 (e1.symm.trans e2)) (fun h => by first | rfl | exact beq_iff_eq.2 (e1.symm.trans e2) | cases h), by rw [HIE.out]; exact h3.out.2.2.step HNQ.out (fun h => by first | rfl | exact absurd h e2 | exact beq_iff_eq.2 (e1.symm.trans e2)) (fun h => by first | rfl | exact beq_iff_eq.2 (e1.symm.trans e2) | cases h)⟩
                        | (simp [intOf]; omega)
                    · obtain rfl : i = winN rx := by unfold winN; omega
                      have hwn := winN_eq (r := rx) (by omega)
                      have hli : ¬ (u - rx + ((winN rx : Nat) : Int) ≤ u + rx) := by omega
                      go_wp2
                      go_roundw
                      case rel =>
                        refine ⟨j + 1, b1, b2, by omega, by go_num, rfl, rfl, h3.out.1, ?_, ?_⟩
                        · rw [show v - ry + ((j + 1 : Nat) : Int) = v - ry + (j : Int) + 1 from by omega]; exact h3.out.2.1.row (by omega)
                        · rw [show v - ry + ((j + 1 : Nat) : Int) = v - ry + (j : Int) + 1 from by omega]; exact h3.out.2.2.row (by omega)
                      case measure => simp [intOf]; omega
                · have hlj : ¬ (v - ry + (j : Int) ≤ v + ry) := by omega
                  obtain ⟨-, ⟨xa, ya, ha1, ha2, ha3⟩, xb, yb, hb1, hb2, hb3⟩ := HEC.out
                  have t1 : b1 = true := h3.out.2.1 ya xa (by omega) (by omega) (by omega) (.inl (by omega)) ha3
                  have t2 : b2 = true := h3.out.2.2 yb xb (by omega) (by omega) (by omega) (.inl (by omega)) hb3
                  subst t1 t2
                  clear ha3 hb3
                  go_wp2
                  go_roundw
                  case rel => exact ⟨c + 1, by omega, by go_num, GW2.out.trans (h3.out.1.trans (by repeat (first | exact Grows.refl _ | apply Grows.grow | apply Grows.alloc | apply Grows.drew)))⟩
                  case measure => simp [intOf]; omega
            · go_wp2
              go_roundw
              case rel => exact ⟨u + 1, by omega, by omega, by go_num, hh.out.trans (by repeat (first | exact Grows.refl _ | apply Grows.grow | apply Grows.alloc | apply Grows.drew))⟩
              case measure => simp [intOf]; omega
        · go_wp2
          go_roundw
          case rel => exact ⟨v + 1, by omega, by omega, by go_num, hh.out⟩
          case measure => simp [intOf]; omega
    · go_wp2
      go_ret
      exact ⟨rfl, GW1.out.trans hh.out⟩
end Go.Proofs.Ytbpcpndiohlchaa
