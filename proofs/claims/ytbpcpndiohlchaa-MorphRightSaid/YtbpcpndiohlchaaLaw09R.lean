/- The walk of chapter 9's law MorphRight. -/
import Derived.Test.YtbpcpndiohlchaaMorphN
import Derived.Test.YtbpcpndiohlchaaRas5
import Derived.Test.YtbpcpndiohlchaaToneR
import Derived.Test.YtbpcpndiohlchaaRef5S
import Derived.Deep.RegionHeld3
namespace Go.Proofs.Ytbpcpndiohlchaa
open Go.RowKit
set_option linter.unusedVariables false

def rightP (p : P4) : Prop := p.r ≤ p.a ∧ p.g ≤ p.a ∧ p.b ≤ p.a
theorem rightP_iff (p : P4) : rightT p.r p.g p.b p.a = true ↔ rightP p := rightT_iff _ _ _ _
theorem rightP_no : rightP noP := by simp [rightP, noP]
theorem cutF_right {F : Img} (h : ∀ x y, rightP (F x y)) (r : R) (x y : Int) : rightP (cutF r F x y) := by
  unfold cutF
  split
  · exact h x y
  · exact rightP_no
theorem imgOf_right {r : R} {f : Nat → P4} (hg : GoodR r) (h : ∀ i, i < cntR r → rightP (f i)) (x y : Int) : rightP (imgOf r f x y) := by
  unfold imgOf
  split
  · exact h _ (hg.idx ‹_›)
  · exact rightP_no
theorem ref01_rightIs (p : P4) (w : World) (c : Bool) (hp : okP p) (h : rightT p.r p.g p.b p.a = c) : Calls Try.prog 16 #[.agg #[.int .u8 p.r, .int .u8 p.g, .int .u8 p.b, .int .u8 p.a]] w fun e w' => e = .returned (.bool c) ∧ Grows w w' := by
  have := ref01_right p.r p.g p.b p.a w hp.1 hp.2.1 hp.2.2.1 hp.2.2.2
  rwa [h] at this

theorem winP_right {f : Int → P4} (k : Bool) (h : ∀ x, rightP (f x)) (s : Int) (n : Nat) : rightP (turnP k (winP (fun x => turnP k (f x)) s n)) := by
  unfold rightP turnP winP
  cases k
  · simp only [turnV, Bool.false_eq_true, if_false]
    have h0 := mxW_mono (f := fun x => 255 - (f x).a) (g := fun x => 255 - (f x).r) (fun x => by have := (h x).1; show 255 - (f x).a ≤ 255 - (f x).r; omega) s n
    have h1 := mxW_mono (f := fun x => 255 - (f x).a) (g := fun x => 255 - (f x).g) (fun x => by have := (h x).2.1; show 255 - (f x).a ≤ 255 - (f x).g; omega) s n
    have h2 := mxW_mono (f := fun x => 255 - (f x).a) (g := fun x => 255 - (f x).b) (fun x => by have := (h x).2.2; show 255 - (f x).a ≤ 255 - (f x).b; omega) s n
    omega
  · simp only [turnV, if_true]
    exact ⟨mxW_mono (fun x => (h x).1) s n, mxW_mono (fun x => (h x).2.1) s n, mxW_mono (fun x => (h x).2.2) s n⟩
theorem boxM_right {F : Img} (h : ∀ x y, rightP (F x y)) (k : Bool) (b : R) (rx ry x y : Int) : rightP (boxM k b rx ry F x y) :=
  cutF_right (fun x y => winP_right k (fun v => cutF_right (fun x y => winP_right k (fun u => h u y) _ _) _ x v) _ _) _ x y
theorem boxM_nought {F : Img} (h : ∀ x y, okP (F x y)) {b : R} (hb : rightR b = true) (k : Bool) : boxM k b 0 0 F = cutF (someR b) F := by
  unfold boxM
  rw [morphH_zero h, grow_nought hb, morphV_zero (fun x y => cutF_ok h _ x y), cut_cut]

set_option maxHeartbeats 12800000 in
theorem morphRight_walk (r1 : R) (a1 : Option Addr) (l1 p1 : Nat) (f1 : Nat → P4) (s : R) (rx ry : Int) (w : World)
    (hb1 : IsPix w a1 l1 p1 f1) (hx : -9223372036854775808 ≤ rx ∧ rx ≤ 9223372036854775807) (hy : -9223372036854775808 ≤ ry ∧ ry ≤ 9223372036854775807) :
    Calls Try.prog 5 #[.agg #[.int .i64 r1.x0, .int .i64 r1.y0, .int .i64 r1.x1, .int .i64 r1.y1, .slice a1 l1 p1], .agg #[.int .i64 s.x0, .int .i64 s.y0, .int .i64 s.x1, .int .i64 s.y1], .int .i64 rx, .int .i64 ry] w fun e w' => e = .returned (.bool true) ∧ Grows w w' := by
  have m1 := hb1.le
  have m1' := hb1.most
  have h1 := Lib.hid hb1
  clear hb1
  by_cases c1 : fine09 l1 r1 s rx ry = false
  · have C1 := Lib.hid c1
    clear c1
    go_enter Try.func5, Try.ntmps5
    go_wp2_with ((first | (go_at_call 9; refine (awake09 _ ).mono ?_; rintro e w' ⟨rfl, hgw⟩; first | (obtain ⟨gw, rfl⟩ := grows_of_grow hgw) | (obtain ⟨gw, rfl⟩ := hgw)) | (go_at_call 10; (with_reducible refine (law09_fineIs _ _ _ _ _ _ _ _ _ (by omega) (by omega) C1).mono ?_); rintro e w' ⟨rfl, hgw⟩; first | (obtain ⟨gw, rfl⟩ := grows_of_grow hgw) | (obtain ⟨gw, rfl⟩ := hgw))))
    go_ret
    exact ⟨rfl, (by repeat (first | exact Grows.refl _ | apply Grows.grow | apply Grows.alloc | apply Grows.drew))⟩
  have C1 := Lib.hid (bool_yes c1)
  clear c1
  obtain ⟨k1, g1, n1, k2, hrx, hry, hsm, hrs, k3, k4⟩ := fine09_yes C1.out
  have G1 := Lib.hid g1
  have N1 := Lib.hid n1
  have HRS := Lib.hid hrs
  clear g1 n1 hrs hsm
  go_enter Try.func5, Try.ntmps5
  go_wp2_with ((first | (go_at_call 9; refine (awake09 _ ).mono ?_; rintro e w' ⟨rfl, hgw⟩; first | (obtain ⟨gw, rfl⟩ := grows_of_grow hgw) | (obtain ⟨gw, rfl⟩ := hgw)) | (go_at_call 10; (with_reducible refine (law09_fineIs _ _ _ _ _ _ _ _ _ (by omega) (by omega) C1).mono ?_); rintro e w' ⟨rfl, hgw⟩; first | (obtain ⟨gw, rfl⟩ := grows_of_grow hgw) | (obtain ⟨gw, rfl⟩ := hgw))))
  refine wp_name ?_
  intro W0 hW0
  have D0 : Hid (Blk W0 w.heap.size 26 #[.int .i64 r1.x0, .int .i64 r1.y0, .int .i64 r1.x1, .int .i64 r1.y1, .slice a1 l1 p1]) := by rw [hW0]; exact (by unfold Blk; repeat (first | exact blk_at _ _ _ (by first | omega | (simp; done) | (simp; omega)) | refine (blk_past _ _ _ (by first | omega | (simp; done) | (simp; omega))).trans ?_ | refine (heap_grow _ _ _ (by first | omega | (simp; done) | (simp; omega))).trans ?_ | refine (blk_drew _ _).trans ?_))
  have D1 : Hid (Blk W0 (w.heap.size + 1) 23 #[.int .i64 s.x0, .int .i64 s.y0, .int .i64 s.x1, .int .i64 s.y1]) := by rw [hW0]; exact (by unfold Blk; repeat (first | exact blk_at _ _ _ (by first | omega | (simp; done) | (simp; omega)) | refine (blk_past _ _ _ (by first | omega | (simp; done) | (simp; omega))).trans ?_ | refine (heap_grow _ _ _ (by first | omega | (simp; done) | (simp; omega))).trans ?_ | refine (blk_drew _ _).trans ?_))
  have GW : Hid (Grows w W0) := by rw [hW0]; exact (by repeat (first | exact Grows.refl _ | apply Grows.grow | apply Grows.alloc | apply Grows.drew))
  clear hW0 hgw
  go_loopw [9] (fun i wr => ∃ j : Nat, j ≤ l1 ∧ i = .int .i64 j ∧ Hid (Grows W0 wr ∧ ∀ i, i < j → rightP (f1 i))) (fun i _ => l1 - (intOf i).toNat)
  case atStart => exact ⟨0, by omega, rfl, Grows.refl _, fun i hi => by omega⟩
  case round =>
    obtain ⟨j, hj, rfl, hh⟩ := hrel
    have d0 := D0.out.grows hh.out.1
    obtain ⟨b0, b1, b2, b3, b4, bf⟩ := d0.c5
    have ld := d0.lt
    clear d0
    by_cases hlt : j < l1
    · have G := GW.out.trans hh.out.1
      obtain ⟨b', off', rfl, hb', hok, c0, c1, c2, c3⟩ := (h1.out.grows G).px hlt
      have HOK := Lib.hid hok
      clear G hok
      cases hrt : rightT (f1 j).r (f1 j).g (f1 j).b (f1 j).a
      · have HRT := Lib.hid hrt
        clear hrt
        go_wp2_with (go_at_call 16; (with_reducible refine (ref01_rightIs (f1 j) _ false HOK.out HRT.out).mono ?_); rintro e w' ⟨rfl, hgw⟩; first | (obtain ⟨gw, rfl⟩ := grows_of_grow hgw) | (obtain ⟨gw, rfl⟩ := hgw))
        go_ret
        exact ⟨rfl, (GW.out.trans hh.out.1).trans (by repeat (first | exact Grows.refl _ | apply Grows.grow | apply Grows.alloc | apply Grows.drew))⟩
      · have HRT := Lib.hid hrt
        clear hrt
        go_wp2_with (go_at_call 16; (with_reducible refine (ref01_rightIs (f1 j) _ true HOK.out HRT.out).mono ?_); rintro e w' ⟨rfl, hgw⟩; first | (obtain ⟨gw, rfl⟩ := grows_of_grow hgw) | (obtain ⟨gw, rfl⟩ := hgw))
        go_roundw
        case rel =>
          refine ⟨j + 1, by omega, by go_num, hh.out.1.trans (by repeat (first | exact Grows.refl _ | apply Grows.grow | apply Grows.alloc | apply Grows.drew)), fun i hi => ?_⟩
          by_cases e : i = j
          · subst e; exact (rightP_iff _).1 HRT.out
          · exact hh.out.2 i (by omega)
        case measure => simp [intOf]; omega
    · obtain rfl : l1 = j := by omega
      obtain ⟨F, hF⟩ : ∃ F, F = imgOf r1 f1 := ⟨_, rfl⟩
      have X1 : Hid (BufAt w r1 a1 l1 p1 F) := by rw [hF]; exact bufAt_of G1.out N1.out h1.out
      have FR : Hid (∀ x y, rightP (F x y)) := by rw [hF]; exact imgOf_right G1.out (fun i hi => hh.out.2 i (by rw [N1.out]; exact hi))
      have FOK : Hid (∀ u v, okP (F u v)) := X1.out.fits.ok
      have BR1 : Hid (∀ x y, rightP (boxM true s rx ry F x y)) := boxM_right FR.out true s _ _
      have BR2 : Hid (∀ x y, rightP (boxM false s rx ry F x y)) := boxM_right FR.out false s _ _
      have BO1 : Hid (∀ x y, okP (boxM true s rx ry F x y)) := fun x y => cutF_ok (morphV_ok (cutF_ok (morphH_ok FOK.out _ _) _) _ _) _ x y
      have BO2 : Hid (∀ x y, okP (boxM false s rx ry F x y)) := fun x y => cutF_ok (morphV_ok (cutF_ok (morphH_ok FOK.out _ _) _) _ _) _ x y
      have HB1 : Hid (∀ W, Grows w W → Calls Try.prog 14 #[.agg #[.int .i64 r1.x0, .int .i64 r1.y0, .int .i64 r1.x1, .int .i64 r1.y1, .slice a1 l1 p1], .agg #[.int .i64 s.x0, .int .i64 s.y0, .int .i64 s.x1, .int .i64 s.y1], .int .i64 rx, .int .i64 ry] W (RetBuf W (someR s) (boxM true s rx ry F))) := fun W g => morph_MostI s r1 a1 l1 p1 F rx ry W (X1.out.grows g) (by omega) HRS.out (by omega) (by omega) (by omega) (by omega) (by omega) (by omega)
      have HB2 : Hid (∀ W, Grows w W → Calls Try.prog 12 #[.agg #[.int .i64 r1.x0, .int .i64 r1.y0, .int .i64 r1.x1, .int .i64 r1.y1, .slice a1 l1 p1], .agg #[.int .i64 s.x0, .int .i64 s.y0, .int .i64 s.x1, .int .i64 s.y1], .int .i64 rx, .int .i64 ry] W (RetBuf W (someR s) (boxM false s rx ry F))) := fun W g => morph_LeastI s r1 a1 l1 p1 F rx ry W (X1.out.grows g) (by omega) HRS.out (by omega) (by omega) (by omega) (by omega) (by omega) (by omega)
      have HZ1 : Hid (∀ W, Grows w W → Calls Try.prog 14 #[.agg #[.int .i64 r1.x0, .int .i64 r1.y0, .int .i64 r1.x1, .int .i64 r1.y1, .slice a1 l1 p1], .agg #[.int .i64 s.x0, .int .i64 s.y0, .int .i64 s.x1, .int .i64 s.y1], .int .i64 0, .int .i64 0] W (RetBuf W (someR s) (cutF (someR s) F))) := fun W g => by
        have := morph_MostI s r1 a1 l1 p1 F 0 0 W (X1.out.grows g) (by omega) HRS.out (by rw [grow_nought HRS.out]; omega) (by omega) (by omega) (by omega) (by omega) (by omega)
        rwa [boxM_nought FOK.out HRS.out] at this
      have HZ2 : Hid (∀ W, Grows w W → Calls Try.prog 12 #[.agg #[.int .i64 r1.x0, .int .i64 r1.y0, .int .i64 r1.x1, .int .i64 r1.y1, .slice a1 l1 p1], .agg #[.int .i64 s.x0, .int .i64 s.y0, .int .i64 s.x1, .int .i64 s.y1], .int .i64 0, .int .i64 0] W (RetBuf W (someR s) (cutF (someR s) F))) := fun W g => by
        have := morph_LeastI s r1 a1 l1 p1 F 0 0 W (X1.out.grows g) (by omega) HRS.out (by rw [grow_nought HRS.out]; omega) (by omega) (by omega) (by omega) (by omega) (by omega)
        rwa [boxM_nought FOK.out HRS.out] at this
      have HB3 : Hid (∀ W, Grows w W → Calls Try.prog 17 #[.agg #[.int .i64 r1.x0, .int .i64 r1.y0, .int .i64 r1.x1, .int .i64 r1.y1, .slice a1 l1 p1], .agg #[.int .i64 s.x0, .int .i64 s.y0, .int .i64 s.x1, .int .i64 s.y1]] W (RetBuf W (someR s) (cutF (someR s) F))) := fun W g => ref05_Window s r1 a1 l1 p1 F W (X1.out.grows g) HRS.out (by omega) (by omega)
      have GR := Lib.hid (GW.out.trans hh.out.1)
      obtain ⟨B, hB⟩ : ∃ B, B = boxM true s rx ry F := ⟨_, rfl⟩
      obtain ⟨D, hD⟩ : ∃ B, B = boxM false s rx ry F := ⟨_, rfl⟩
      obtain ⟨M, hM⟩ : ∃ M, M = cutF (someR s) F := ⟨_, rfl⟩
      obtain ⟨t, ht⟩ : ∃ t, t = someR s := ⟨_, rfl⟩
      rw [← hB] at BR1 BO1
      rw [← hD] at BR2 BO2
      rw [← hB, ← ht] at HB1
      rw [← hD, ← ht] at HB2
      rw [← hM, ← ht] at HZ1 HZ2 HB3
      have d1 := D1.out.grows hh.out.1
      obtain ⟨s0, s1, s2, s3, sf⟩ := d1.c4
      have ls := d1.lt
      have E0 := Lib.hid (D0.out.grows hh.out.1)
      have E1 := Lib.hid d1
      clear d1 hF hB hD hM ht hh X1 FR FOK
      go_wp2_with (first
        | (go_at_call 14; (with_reducible refine Calls.mono (HB1.out _ ?_) ?_); (exact GR.out.trans (by repeat (first | exact Grows.refl _ | apply Grows.grow | apply Grows.alloc | apply Grows.drew))); rintro e w' ⟨aq1, lq1, pq1, rfl, hgw, Hq1⟩; (first | (obtain ⟨gq1, rfl⟩ := grows_of_grow hgw) | (obtain ⟨gq1, rfl⟩ := hgw)); (try simp only [grow_drew] at Hq1))
        | (go_at_call 12; (with_reducible refine Calls.mono (HB2.out _ ?_) ?_); (exact GR.out.trans (by repeat (first | exact Grows.refl _ | apply Grows.grow | apply Grows.alloc | apply Grows.drew))); rintro e w' ⟨aq2, lq2, pq2, rfl, hgw, Hq2⟩; (first | (obtain ⟨gq2, rfl⟩ := grows_of_grow hgw) | (obtain ⟨gq2, rfl⟩ := hgw)); (try simp only [grow_drew] at Hq2)))
      refine wp_name ?_
      intro W1 hW1
      have E3 : Hid (Blk W1 (wr.heap.size + gq1.news.size) 26 #[.int .i64 t.x0, .int .i64 t.y0, .int .i64 t.x1, .int .i64 t.y1, .slice aq1 lq1 pq1]) := by rw [hW1]; exact (by unfold Blk; repeat (first | exact blk_at _ _ _ (by first | omega | (simp; done) | (simp; omega)) | refine (blk_past _ _ _ (by first | omega | (simp; done) | (simp; omega))).trans ?_ | refine (heap_grow _ _ _ (by first | omega | (simp; done) | (simp; omega))).trans ?_ | refine (blk_drew _ _).trans ?_))
      have E6 : Hid (Blk W1 (wr.heap.size + gq1.news.size + 1 + gq2.news.size) 26 #[.int .i64 t.x0, .int .i64 t.y0, .int .i64 t.x1, .int .i64 t.y1, .slice aq2 lq2 pq2]) := by rw [hW1]; exact (by unfold Blk; repeat (first | exact blk_at _ _ _ (by first | omega | (simp; done) | (simp; omega)) | refine (blk_past _ _ _ (by first | omega | (simp; done) | (simp; omega))).trans ?_ | refine (heap_grow _ _ _ (by first | omega | (simp; done) | (simp; omega))).trans ?_ | refine (blk_drew _ _).trans ?_))
      have E4 : Hid (Blk W1 w.heap.size 26 #[.int .i64 r1.x0, .int .i64 r1.y0, .int .i64 r1.x1, .int .i64 r1.y1, .slice a1 l1 p1]) := by rw [hW1]; exact E0.out.grows (by repeat (first | exact Grows.refl _ | apply Grows.grow | apply Grows.alloc | apply Grows.drew))
      have E5 : Hid (Blk W1 (w.heap.size + 1) 23 #[.int .i64 s.x0, .int .i64 s.y0, .int .i64 s.x1, .int .i64 s.y1]) := by rw [hW1]; exact E1.out.grows (by repeat (first | exact Grows.refl _ | apply Grows.grow | apply Grows.alloc | apply Grows.drew))
      have Y1 : Hid (BufAt W1 t aq1 lq1 pq1 B) := by rw [hW1]; exact Hq1.out.1.grows (by repeat (first | exact Grows.refl _ | apply Grows.grow | apply Grows.alloc | apply Grows.drew))
      have Y2 : Hid (BufAt W1 t aq2 lq2 pq2 D) := by rw [hW1]; exact Hq2.out.1.grows (by repeat (first | exact Grows.refl _ | apply Grows.grow | apply Grows.alloc | apply Grows.drew))
      have GW1 : Hid (Grows w W1) := by rw [hW1]; exact GR.out.trans (by repeat (first | exact Grows.refl _ | apply Grows.grow | apply Grows.alloc | apply Grows.drew))
      obtain ⟨ne, hne⟩ : ∃ n, n = wr.heap.size + gq1.news.size + 1 + gq2.news.size := ⟨_, rfl⟩
      rw [← hne] at E6 ⊢
      obtain ⟨nc, hnc⟩ : ∃ n, n = wr.heap.size + gq1.news.size := ⟨_, rfl⟩
      rw [← hnc] at E3 ⊢
      have hll : lq2 = lq1 := Y2.out.count.trans Y1.out.count.symm
      subst hll
      have my := Y1.out.most
      have my2 := Y2.out.most
      clear hW1 hnc hne Hq1 Hq2 E0 E1 b0 b1 b2 b3 b4 bf ld s0 s1 s2 s3 sf ls HB1 HB2 GR
      obtain ⟨wo, hwo⟩ : ∃ wo : World, wo = wr := ⟨_, rfl⟩
      clear hwo
      go_loopw [12] (fun i wr => ∃ k : Nat, k ≤ lq2 ∧ i = .int .i64 k ∧ Hid (Grows W1 wr)) (fun i _ => lq2 - (intOf i).toNat)
      case atStart => exact ⟨0, by omega, rfl, Grows.refl _⟩
      case round =>
        obtain ⟨k, hk, rfl, hh⟩ := hrel
        have d3 := E3.out.grows hh.out
        obtain ⟨b0, b1, b2, b3, b4, bf⟩ := d3.c5
        have ld := d3.lt
        have d6 := E6.out.grows hh.out
        obtain ⟨y0, y1, y2, y3, y4, yf⟩ := d6.c5
        have ly := d6.lt
        clear d3 d6
        by_cases hlk : k < lq2
        · obtain ⟨b', off', rfl, hb', hok, c0, c1, c2, c3⟩ := (Y1.out.pix.grows hh.out).px hlk
          obtain ⟨b'', off'', rfl, hb'', hok', e0, e1, e2, e3⟩ := (Y2.out.pix.grows hh.out).px hlk
          obtain ⟨q, hq⟩ : ∃ q, q = B (ptX t k) (ptY t k) := ⟨_, rfl⟩
          obtain ⟨q', hq'⟩ : ∃ q, q = D (ptX t k) (ptY t k) := ⟨_, rfl⟩
          have HOK : Hid (okP q) := by rw [hq]; exact hok
          have HRT : Hid (rightT q.r q.g q.b q.a = true) := by rw [hq]; exact (rightP_iff _).2 (BR1.out _ _)
          have HOK' : Hid (okP q') := by rw [hq']; exact hok'
          have HRT' : Hid (rightT q'.r q'.g q'.b q'.a = true) := by rw [hq']; exact (rightP_iff _).2 (BR2.out _ _)
          rw [← hq] at c0 c1 c2 c3
          rw [← hq'] at e0 e1 e2 e3
          clear hok hq hok' hq'
          go_wp2_with (first
            | (go_at_call 16; (with_reducible refine (ref01_rightIs q _ true HOK.out HRT.out).mono ?_); rintro e w' ⟨rfl, hgw⟩; first | (obtain ⟨gw, rfl⟩ := grows_of_grow hgw) | (obtain ⟨gw, rfl⟩ := hgw))
            | (go_at_call 16; (with_reducible refine (ref01_rightIs q' _ true HOK'.out HRT'.out).mono ?_); rintro e w' ⟨rfl, hgw⟩; first | (obtain ⟨gw, rfl⟩ := grows_of_grow hgw) | (obtain ⟨gw, rfl⟩ := hgw)))
          go_roundw
          case rel => exact ⟨k + 1, by omega, by go_num, hh.out.trans (by repeat (first | exact Grows.refl _ | apply Grows.grow | apply Grows.alloc | apply Grows.drew))⟩
          case measure => simp [intOf]; omega
        · obtain rfl : lq2 = k := by omega
          have d4 := E4.out.grows hh.out
          obtain ⟨x0, x1, x2, x3, x4, xf⟩ := d4.c5
          have lx := d4.lt
          have d5 := E5.out.grows hh.out
          obtain ⟨s0, s1, s2, s3, sf⟩ := d5.c4
          have ls := d5.lt
          have E4' := Lib.hid d4
          have E5' := Lib.hid d5
          have E3' := Lib.hid (E3.out.grows hh.out)
          have E6' := Lib.hid (E6.out.grows hh.out)
          have GR := Lib.hid (GW1.out.trans hh.out)
          clear d4 d5
          go_wp2_with (go_at_call 17; (with_reducible refine Calls.mono (HB3.out _ ?_) ?_); (exact GR.out.trans (by repeat (first | exact Grows.refl _ | apply Grows.grow | apply Grows.alloc | apply Grows.drew))); rintro e w' ⟨aq3, lq3, pq3, rfl, hgw, Hq3⟩; (first | (obtain ⟨gq3, rfl⟩ := grows_of_grow hgw) | (obtain ⟨gq3, rfl⟩ := hgw)); (try simp only [grow_drew] at Hq3))
          refine wp_name ?_
          intro W2 hW2
          have X0 : Hid (Blk W2 w.heap.size 26 #[.int .i64 r1.x0, .int .i64 r1.y0, .int .i64 r1.x1, .int .i64 r1.y1, .slice a1 l1 p1]) := by rw [hW2]; exact E4'.out.grows (by repeat (first | exact Grows.refl _ | apply Grows.grow | apply Grows.alloc | apply Grows.drew))
          have X5 : Hid (Blk W2 (w.heap.size + 1) 23 #[.int .i64 s.x0, .int .i64 s.y0, .int .i64 s.x1, .int .i64 s.y1]) := by rw [hW2]; exact E5'.out.grows (by repeat (first | exact Grows.refl _ | apply Grows.grow | apply Grows.alloc | apply Grows.drew))
          have X3 : Hid (Blk W2 nc 26 #[.int .i64 t.x0, .int .i64 t.y0, .int .i64 t.x1, .int .i64 t.y1, .slice aq1 lq2 pq1]) := by rw [hW2]; exact E3'.out.grows (by repeat (first | exact Grows.refl _ | apply Grows.grow | apply Grows.alloc | apply Grows.drew))
          have X6 : Hid (Blk W2 ne 26 #[.int .i64 t.x0, .int .i64 t.y0, .int .i64 t.x1, .int .i64 t.y1, .slice aq2 lq2 pq2]) := by rw [hW2]; exact E6'.out.grows (by repeat (first | exact Grows.refl _ | apply Grows.grow | apply Grows.alloc | apply Grows.drew))
          have X7 : Hid (Blk W2 (wr.heap.size + gq3.news.size) 26 #[.int .i64 t.x0, .int .i64 t.y0, .int .i64 t.x1, .int .i64 t.y1, .slice aq3 lq3 pq3]) := by rw [hW2]; exact (by unfold Blk; repeat (first | exact blk_at _ _ _ (by first | omega | (simp; done) | (simp; omega)) | refine (blk_past _ _ _ (by first | omega | (simp; done) | (simp; omega))).trans ?_ | refine (heap_grow _ _ _ (by first | omega | (simp; done) | (simp; omega))).trans ?_ | refine (blk_drew _ _).trans ?_))
          have Y3 : Hid (BufAt W2 t aq3 lq3 pq3 M) := by rw [hW2]; exact Hq3.out.1.grows (by repeat (first | exact Grows.refl _ | apply Grows.grow | apply Grows.alloc | apply Grows.drew))
          have GR2 : Hid (Grows w W2) := by rw [hW2]; exact GR.out.trans (by repeat (first | exact Grows.refl _ | apply Grows.grow | apply Grows.alloc | apply Grows.drew))
          obtain ⟨nw, hnw⟩ : ∃ n, n = wr.heap.size + gq3.news.size := ⟨_, rfl⟩
          rw [← hnw] at X7 ⊢
          clear hW2 hnw Hq3 E4' E5' E3' E6' GR x0 x1 x2 x3 x4 xf lx s0 s1 s2 s3 sf ls b0 b1 b2 b3 b4 bf ld y0 y1 y2 y3 y4 yf ly HB3
          obtain ⟨x0, x1, x2, x3, x4, xf⟩ := X0.out.c5
          obtain ⟨s0, s1, s2, s3, sf⟩ := X5.out.c4
          obtain ⟨b0, b1, b2, b3, b4, bf⟩ := X3.out.c5
          obtain ⟨y0, y1, y2, y3, y4, yf⟩ := X6.out.c5
          obtain ⟨z0, z1, z2, z3, z4, zf⟩ := X7.out.c5
          have lx := X0.out.lt
          have ls := X5.out.lt
          have ld := X3.out.lt
          have ly := X6.out.lt
          have lz := X7.out.lt
          go_region_held3 (fun w' => w'.cell? ⟨w.heap.size, 0, none⟩ = some (.int .i64 r1.x0) ∧ w'.cell? ⟨w.heap.size, 1, none⟩ = some (.int .i64 r1.y0) ∧ w'.cell? ⟨w.heap.size, 2, none⟩ = some (.int .i64 r1.x1) ∧ w'.cell? ⟨w.heap.size, 3, none⟩ = some (.int .i64 r1.y1) ∧ w'.cell? ⟨w.heap.size, 4, none⟩ = some (.slice a1 l1 p1) ∧ w'.cell? ⟨w.heap.size + 1, 0, none⟩ = some (.int .i64 s.x0) ∧ w'.cell? ⟨w.heap.size + 1, 1, none⟩ = some (.int .i64 s.y0) ∧ w'.cell? ⟨w.heap.size + 1, 2, none⟩ = some (.int .i64 s.x1) ∧ w'.cell? ⟨w.heap.size + 1, 3, none⟩ = some (.int .i64 s.y1) ∧ w'.cell? ⟨nc, 4, none⟩ = some (.slice aq1 lq2 pq1) ∧ w'.cell? ⟨ne, 4, none⟩ = some (.slice aq2 lq2 pq2) ∧ w'.cell? ⟨nw, 0, none⟩ = some (.int .i64 t.x0) ∧ w'.cell? ⟨nw, 1, none⟩ = some (.int .i64 t.y0) ∧ w'.cell? ⟨nw, 2, none⟩ = some (.int .i64 t.x1) ∧ w'.cell? ⟨nw, 3, none⟩ = some (.int .i64 t.y1) ∧ w'.cell? ⟨nw, 4, none⟩ = some (.slice aq3 lq3 pq3)) (go_simp) (first
            | (go_at_call 14; (with_reducible refine Calls.mono (HZ1.out _ ?_) ?_); (exact GR2.out.trans (by repeat (first | exact Grows.refl _ | apply Grows.grow | apply Grows.alloc | apply Grows.drew))); rintro e w' ⟨aw1, lw1, pw1, rfl, hgw, Hw1⟩; (first | (obtain ⟨gw1, rfl⟩ := grows_of_grow hgw) | (obtain ⟨gw1, rfl⟩ := hgw)); (try simp only [grow_drew] at Hw1))
            | (go_at_call 12; (with_reducible refine Calls.mono (HZ2.out _ ?_) ?_); (exact GR2.out.trans (by repeat (first | exact Grows.refl _ | apply Grows.grow | apply Grows.alloc | apply Grows.drew))); rintro e w' ⟨aw2, lw2, pw2, rfl, hgw, Hw2⟩; (first | (obtain ⟨gw2, rfl⟩ := grows_of_grow hgw) | (obtain ⟨gw2, rfl⟩ := hgw)); (try simp only [grow_drew] at Hw2))
            | (go_at_call 11; (with_reducible refine Calls.mono (ref05_Same t aw1 aq3 lw1 pw1 lq3 pq3 M _ ?_ ?_) ?_); (exact Lib.hid (BufAt.grows Hw1.out.1 (by repeat (first | exact Grows.refl _ | apply Grows.grow | apply Grows.alloc | apply Grows.drew)))); (exact Lib.hid (BufAt.grows Y3.out (by repeat (first | exact Grows.refl _ | apply Grows.grow | apply Grows.alloc | apply Grows.drew)))); rintro e w' ⟨rfl, hgw⟩; first | (obtain ⟨gw, rfl⟩ := grows_of_grow hgw) | (obtain ⟨gw, rfl⟩ := hgw))
            | (go_at_call 11; (with_reducible refine Calls.mono (ref05_Same t aw2 aq3 lw2 pw2 lq3 pq3 M _ ?_ ?_) ?_); (exact Lib.hid (BufAt.grows Hw2.out.1 (by repeat (first | exact Grows.refl _ | apply Grows.grow | apply Grows.alloc | apply Grows.drew)))); (exact Lib.hid (BufAt.grows Y3.out (by repeat (first | exact Grows.refl _ | apply Grows.grow | apply Grows.alloc | apply Grows.drew)))); rintro e w' ⟨rfl, hgw⟩; first | (obtain ⟨gw, rfl⟩ := grows_of_grow hgw) | (obtain ⟨gw, rfl⟩ := hgw)))
          go_wp2
          go_ret
          exact ⟨rfl, GR2.out.trans (by repeat (first | exact Grows.refl _ | apply Grows.grow | apply Grows.alloc | apply Grows.drew))⟩
end Go.Proofs.Ytbpcpndiohlchaa
