/- The walk of chapter 8's law BlurParts. -/
import Derived.Test.YtldgodpenigphaaLaw08B
namespace Go.Proofs.Ytldgodpenigphaa
open Go.RowKit
set_option linter.unusedVariables false

/-- What Box shows hangs on no box. -/
theorem boxF_full {b : R} {rx ry : Int} {F : Img} (hs : smallR b) (hy : 0 ≤ ry ∧ ry ≤ 255) {u v : Int} (h : hasR b u v = true) : boxF b rx ry F u v = blurV (blurH F rx) ry u v := by
  have k := (hasR_iff b u v).1 h
  have ne := hasR_not_empty h
  unfold boxF
  rw [cutF_in (by rw [hasR_some]; exact h)]
  unfold blurV
  congr 1
  refine sumP_congr _ _ (fun i hi => ?_)
  have hw := winN_eq hy.1
  unfold midF
  rw [cutF_in]
  rw [grow_small hs ne (by omega) hy (by omega) hy, hasR_iff]
  simp only
  omega
theorem ref05_AtIs (r : R) (a : Option Addr) (len cap : Nat) (F : Img) (x y : Int) (w : World) (q : P4) (h : Hid (BufAt w r a len cap F)) (hs : cntR r ≤ 140737488355328) (hq : Hid (F x y = q)) :
    Calls Try.prog 28 #[.agg #[.int .i64 r.x0, .int .i64 r.y0, .int .i64 r.x1, .int .i64 r.y1, .slice a len cap], .int .i64 x, .int .i64 y] w fun e w' => e = .returned (.agg #[.int .u8 q.r, .int .u8 q.g, .int .u8 q.b, .int .u8 q.a]) ∧ Grows w w' := by
  have := ref05_At r a len cap F x y w h hs
  rwa [hq.out] at this

set_option maxHeartbeats 12800000 in
theorem blurParts_walk (r1 : R) (a1 : Option Addr) (l1 p1 : Nat) (f1 : Nat → P4) (s t : R) (rx ry : Int) (w : World)
    (hb1 : IsPix w a1 l1 p1 f1) (hx : -9223372036854775808 ≤ rx ∧ rx ≤ 9223372036854775807) (hy : -9223372036854775808 ≤ ry ∧ ry ≤ 9223372036854775807) :
    Calls Try.prog 8 #[.agg #[.int .i64 r1.x0, .int .i64 r1.y0, .int .i64 r1.x1, .int .i64 r1.y1, .slice a1 l1 p1], .agg #[.int .i64 s.x0, .int .i64 s.y0, .int .i64 s.x1, .int .i64 s.y1], .agg #[.int .i64 t.x0, .int .i64 t.y0, .int .i64 t.x1, .int .i64 t.y1], .int .i64 rx, .int .i64 ry] w fun e w' => e = .returned (.bool true) ∧ Grows w w' := by
  have m1 := hb1.le
  have m1' := hb1.most
  have h1 := Lib.hid hb1
  clear hb1
  by_cases c1 : fine08 l1 r1 s rx ry = false
  · have C1 := Lib.hid c1
    clear c1
    go_enter Try.func8, Try.ntmps8
    go_wp2_with ((first | (go_at_call 24; refine (awake08 _ ).mono ?_; rintro e w' ⟨rfl, hgw⟩; first | (obtain ⟨gw, rfl⟩ := grows_of_grow hgw) | (obtain ⟨gw, rfl⟩ := hgw)) | (go_at_call 25; (with_reducible refine (law08_fineIs _ _ _ _ _ _ _ _ _ (by omega) (by omega) C1).mono ?_); rintro e w' ⟨rfl, hgw⟩; first | (obtain ⟨gw, rfl⟩ := grows_of_grow hgw) | (obtain ⟨gw, rfl⟩ := hgw))))
    go_ret
    exact ⟨rfl, (by repeat (first | exact Grows.refl _ | apply Grows.grow | apply Grows.alloc | apply Grows.drew))⟩
  have C1 := Lib.hid (bool_yes c1)
  clear c1
  by_cases c2 : fine08 l1 r1 t rx ry = false
  · have C2 := Lib.hid c2
    clear c2
    go_enter Try.func8, Try.ntmps8
    go_wp2_with ((first | (go_at_call 24; refine (awake08 _ ).mono ?_; rintro e w' ⟨rfl, hgw⟩; first | (obtain ⟨gw, rfl⟩ := grows_of_grow hgw) | (obtain ⟨gw, rfl⟩ := hgw)) | (go_at_call 25; (with_reducible refine (law08_fineIs _ _ _ _ _ _ _ _ _ (by omega) (by omega) C1).mono ?_); rintro e w' ⟨rfl, hgw⟩; first | (obtain ⟨gw, rfl⟩ := grows_of_grow hgw) | (obtain ⟨gw, rfl⟩ := hgw)) | (go_at_call 25; (with_reducible refine (law08_fineIs _ _ _ _ _ _ _ _ _ (by omega) (by omega) C2).mono ?_); rintro e w' ⟨rfl, hgw⟩; first | (obtain ⟨gw, rfl⟩ := grows_of_grow hgw) | (obtain ⟨gw, rfl⟩ := hgw))))
    go_ret
    exact ⟨rfl, (by repeat (first | exact Grows.refl _ | apply Grows.grow | apply Grows.alloc | apply Grows.drew))⟩
  have C2 := Lib.hid (bool_yes c2)
  clear c2
  obtain ⟨k1, g1, n1, k2, hrx, hry, hsm, hrs, k3, k4⟩ := fine08_yes C1.out
  obtain ⟨-, -, -, -, -, -, htm, hrt, k5, k6⟩ := fine08_yes C2.out
  obtain ⟨F, hF⟩ : ∃ F, F = imgOf r1 f1 := ⟨_, rfl⟩
  have X1 : Hid (BufAt w r1 a1 l1 p1 F) := by rw [hF]; exact bufAt_of g1 n1 h1.out
  have HB1 : Hid (∀ W, Grows w W → Calls Try.prog 26 #[.agg #[.int .i64 r1.x0, .int .i64 r1.y0, .int .i64 r1.x1, .int .i64 r1.y1, .slice a1 l1 p1], .agg #[.int .i64 s.x0, .int .i64 s.y0, .int .i64 s.x1, .int .i64 s.y1], .int .i64 rx, .int .i64 ry] W (RetBuf W (someR s) (boxF s rx ry F))) := fun W g => blur_Box s r1 a1 l1 p1 F rx ry W (X1.out.grows g) (by omega) hrs (by omega) (by omega) (by omega) (by omega) (by omega) (by omega)
  have HB2 : Hid (∀ W, Grows w W → Calls Try.prog 26 #[.agg #[.int .i64 r1.x0, .int .i64 r1.y0, .int .i64 r1.x1, .int .i64 r1.y1, .slice a1 l1 p1], .agg #[.int .i64 t.x0, .int .i64 t.y0, .int .i64 t.x1, .int .i64 t.y1], .int .i64 rx, .int .i64 ry] W (RetBuf W (someR t) (boxF t rx ry F))) := fun W g => blur_Box t r1 a1 l1 p1 F rx ry W (X1.out.grows g) (by omega) hrt (by omega) (by omega) (by omega) (by omega) (by omega) (by omega)
  have HEQ : Hid (∀ u v, (s.x0 ≤ u ∧ u < s.x1 ∧ s.y0 ≤ v ∧ v < s.y1) → (t.x0 ≤ u ∧ u < t.x1 ∧ t.y0 ≤ v ∧ v < t.y1) → boxF s rx ry F u v = boxF t rx ry F u v) := fun u v a b => by
    rw [boxF_full hsm (by omega) ((hasR_iff _ _ _).2 (by omega)), boxF_full htm (by omega) ((hasR_iff _ _ _).2 (by omega))]
  have tb := (rightR_iff t).1 hrt
  have sb := (rightR_iff s).1 hrs
  obtain ⟨B1, hB1⟩ : ∃ B, B = boxF s rx ry F := ⟨_, rfl⟩
  obtain ⟨B2, hB2⟩ : ∃ B, B = boxF t rx ry F := ⟨_, rfl⟩
  obtain ⟨s', hs'⟩ : ∃ t, t = someR s := ⟨_, rfl⟩
  obtain ⟨t', ht'⟩ : ∃ s, s = someR t := ⟨_, rfl⟩
  rw [← hB1, ← hs'] at HB1
  rw [← hB2, ← ht'] at HB2
  rw [← hB1, ← hB2] at HEQ
  rw [← hs'] at k4
  rw [← ht'] at k6
  clear g1 n1 hF hB1 hB2 hs' ht' hsm hrs htm hrt k3 k5 X1 h1
  go_enter Try.func8, Try.ntmps8
  go_wp2_with (first
    | (first | (go_at_call 24; refine (awake08 _ ).mono ?_; rintro e w' ⟨rfl, hgw⟩; first | (obtain ⟨gw, rfl⟩ := grows_of_grow hgw) | (obtain ⟨gw, rfl⟩ := hgw)) | (go_at_call 25; (with_reducible refine (law08_fineIs _ _ _ _ _ _ _ _ _ (by omega) (by omega) C1).mono ?_); rintro e w' ⟨rfl, hgw⟩; first | (obtain ⟨gw, rfl⟩ := grows_of_grow hgw) | (obtain ⟨gw, rfl⟩ := hgw)) | (go_at_call 25; (with_reducible refine (law08_fineIs _ _ _ _ _ _ _ _ _ (by omega) (by omega) C2).mono ?_); rintro e w' ⟨rfl, hgw⟩; first | (obtain ⟨gw, rfl⟩ := grows_of_grow hgw) | (obtain ⟨gw, rfl⟩ := hgw)))
    | (go_at_call 26; (with_reducible refine Calls.mono (HB1.out _ ?_) ?_); (exact (by repeat (first | exact Grows.refl _ | apply Grows.grow | apply Grows.alloc | apply Grows.drew))); rintro e w' ⟨aq1, lq1, pq1, rfl, hgw, HQ1⟩; (first | (obtain ⟨gq1, rfl⟩ := grows_of_grow hgw) | (obtain ⟨gq1, rfl⟩ := hgw)))
    | (go_at_call 26; (with_reducible refine Calls.mono (HB2.out _ ?_) ?_); (exact (by repeat (first | exact Grows.refl _ | apply Grows.grow | apply Grows.alloc | apply Grows.drew))); rintro e w' ⟨aq2, lq2, pq2, rfl, hgw, HQ2⟩; (first | (obtain ⟨gq2, rfl⟩ := grows_of_grow hgw) | (obtain ⟨gq2, rfl⟩ := hgw))))
  refine wp_name ?_
  intro W0 hW0
  have D1 : Hid (Blk W0 (w.heap.size + 1) 23 #[.int .i64 s.x0, .int .i64 s.y0, .int .i64 s.x1, .int .i64 s.y1]) := by rw [hW0]; exact (by unfold Blk; repeat (first | exact blk_at _ _ _ (by first | omega | (simp; done) | (simp; omega)) | refine (blk_past _ _ _ (by first | omega | (simp; done) | (simp; omega))).trans ?_ | refine (heap_grow _ _ _ (by first | omega | (simp; done) | (simp; omega))).trans ?_ | refine (blk_drew _ _).trans ?_))
  have D2 : Hid (Blk W0 (w.heap.size + 1 + 1) 23 #[.int .i64 t.x0, .int .i64 t.y0, .int .i64 t.x1, .int .i64 t.y1]) := by rw [hW0]; exact (by unfold Blk; repeat (first | exact blk_at _ _ _ (by first | omega | (simp; done) | (simp; omega)) | refine (blk_past _ _ _ (by first | omega | (simp; done) | (simp; omega))).trans ?_ | refine (heap_grow _ _ _ (by first | omega | (simp; done) | (simp; omega))).trans ?_ | refine (blk_drew _ _).trans ?_))
  have E1 : Hid (Blk W0 (w.heap.size + 1 + 1 + 1 + gq1.news.size) 26 #[.int .i64 s'.x0, .int .i64 s'.y0, .int .i64 s'.x1, .int .i64 s'.y1, .slice aq1 lq1 pq1]) := by rw [hW0]; exact (by unfold Blk; repeat (first | exact blk_at _ _ _ (by first | omega | (simp; done) | (simp; omega)) | refine (blk_past _ _ _ (by first | omega | (simp; done) | (simp; omega))).trans ?_ | refine (heap_grow _ _ _ (by first | omega | (simp; done) | (simp; omega))).trans ?_ | refine (blk_drew _ _).trans ?_))
  have E2 : Hid (Blk W0 (w.heap.size + 1 + 1 + 1 + gq1.news.size + 1 + gq2.news.size) 26 #[.int .i64 t'.x0, .int .i64 t'.y0, .int .i64 t'.x1, .int .i64 t'.y1, .slice aq2 lq2 pq2]) := by rw [hW0]; exact (by unfold Blk; repeat (first | exact blk_at _ _ _ (by first | omega | (simp; done) | (simp; omega)) | refine (blk_past _ _ _ (by first | omega | (simp; done) | (simp; omega))).trans ?_ | refine (heap_grow _ _ _ (by first | omega | (simp; done) | (simp; omega))).trans ?_ | refine (blk_drew _ _).trans ?_))
  have X1 : Hid (BufAt W0 s' aq1 lq1 pq1 B1) := by rw [hW0]; exact HQ1.out.1.grows (by repeat (first | exact Grows.refl _ | apply Grows.grow | apply Grows.alloc | apply Grows.drew))
  have X2 : Hid (BufAt W0 t' aq2 lq2 pq2 B2) := by rw [hW0]; exact HQ2.out.1.grows (by repeat (first | exact Grows.refl _ | apply Grows.grow | apply Grows.alloc | apply Grows.drew))
  have GW : Hid (Grows w W0) := by rw [hW0]; exact (by repeat (first | exact Grows.refl _ | apply Grows.grow | apply Grows.alloc | apply Grows.drew))
  obtain ⟨nc, hnc⟩ : ∃ n, n = w.heap.size + 1 + 1 + 1 + gq1.news.size := ⟨_, rfl⟩
  obtain ⟨nd, hnd⟩ : ∃ n, n = w.heap.size + 1 + 1 + 1 + gq1.news.size + 1 + gq2.news.size := ⟨_, rfl⟩
  rw [← hnd] at E2 ⊢
  rw [← hnc] at E1 ⊢
  clear hW0 HQ1 HQ2 HB1 HB2 hgw hnc hnd
  go_loopw [13] (fun y wr => ∃ v : Int, t.y0 ≤ v ∧ v ≤ 4398046511104 ∧ y = .int .i64 v ∧ Hid (Grows W0 wr)) (fun y _ => (t.y1 - intOf y).toNat)
  case atStart => exact ⟨_, by omega, by omega, rfl, Grows.refl _⟩
  case round =>
    obtain ⟨v, hv1, hv2, rfl, hh⟩ := hrel
    have b2 := D2.out.grows hh.out
    obtain ⟨d0, d1, d2, d3, df⟩ := b2.c4
    have l2 := b2.lt
    clear b2
    by_cases hlt : v < t.y1
    · go_wp2
      clear d0 d1 d2 d3 df l2
      obtain ⟨wo, hwo⟩ : ∃ wo : World, wo = wr := ⟨_, rfl⟩
      clear hwo
      go_loopw [14] (fun x wr => ∃ u : Int, t.x0 ≤ u ∧ u ≤ 4398046511104 ∧ x = .int .i64 u ∧ Hid (Grows W0 wr)) (fun x _ => (t.x1 - intOf x).toNat)
      case atStart => exact ⟨_, by omega, by omega, rfl, hh.out⟩
      case round =>
        clear hh
        obtain ⟨u, hu1, hu2, rfl, hh⟩ := hrel
        have b2 := D2.out.grows hh.out
        obtain ⟨d0, d1, d2, d3, df⟩ := b2.c4
        have l2 := b2.lt
        clear b2
        by_cases hltx : u < t.x1
        · have b1 := D1.out.grows hh.out
          obtain ⟨s0, s1, s2, s3, sf⟩ := b1.c4
          have l1 := b1.lt
          have a1 := E1.out.grows hh.out
          obtain ⟨e0, e1, e2, e3, e4, ef⟩ := a1.c5
          have le := a1.lt
          have a2 := E2.out.grows hh.out
          obtain ⟨g0, g1, g2, g3, g4, gf⟩ := a2.c5
          have lg := a2.lt
          have Y1 := Lib.hid (X1.out.grows hh.out)
          have Y2 := Lib.hid (X2.out.grows hh.out)
          clear b1 a1 a2
          by_cases hin : s.x0 ≤ u ∧ u < s.x1 ∧ s.y0 ≤ v ∧ v < s.y1
          · obtain ⟨i0, i1, i2, i3⟩ := hin
            have hq := HEQ.out u v (by omega) (by omega)
            obtain ⟨q, hq2⟩ : ∃ q, q = B2 u v := ⟨_, rfl⟩
            rw [← hq2] at hq
            have HQa := Lib.hid hq
            have HQb := Lib.hid hq2.symm
            clear hq hq2
            go_wp2
            first | refine region_grow2 (by kernel_rfl) (by kernel_rfl) ?_ | refine region_grow (by kernel_rfl) (by kernel_rfl) ?_
            repeat (go_big_quiet_step ((first | (go_at_call 28; exact grow_of (ref05_AtIs _ _ _ _ _ _ _ _ _ (Lib.hid (BufAt.grows Y1.out (by repeat (first | exact Grows.refl _ | apply Grows.grow | apply Grows.alloc | apply Grows.drew)))) (by omega) HQa)) | (go_at_call 28; exact grow_of (ref05_AtIs _ _ _ _ _ _ _ _ _ (Lib.hid (BufAt.grows Y2.out (by repeat (first | exact Grows.refl _ | apply Grows.grow | apply Grows.alloc | apply Grows.drew)))) (by omega) HQb)))))
            refine wpQuiet_nil ?_
            rintro _ ⟨gr, rfl⟩
            go_wp2
            go_roundw
            case rel => exact ⟨u + 1, by omega, by omega, by go_num, hh.out.trans (by repeat (first | exact Grows.refl _ | apply Grows.grow | apply Grows.alloc | apply Grows.drew))⟩
            case measure => simp [intOf]; omega
          · by_cases i0 : u < s.x0
            · clear hin
              go_wp2
              first | refine region_grow2 (by kernel_rfl) (by kernel_rfl) ?_ | refine region_grow (by kernel_rfl) (by kernel_rfl) ?_
              repeat (go_big_quiet_step (fail))
              refine wpQuiet_nil ?_
              rintro _ ⟨gr, rfl⟩
              go_wp2
              go_roundw
              case rel => exact ⟨u + 1, by omega, by omega, by go_num, hh.out.trans (by repeat (first | exact Grows.refl _ | apply Grows.grow | apply Grows.alloc | apply Grows.drew))⟩
              case measure => simp [intOf]; omega
            by_cases i1 : s.x1 ≤ u
            · clear hin
              go_wp2
              first | refine region_grow2 (by kernel_rfl) (by kernel_rfl) ?_ | refine region_grow (by kernel_rfl) (by kernel_rfl) ?_
              repeat (go_big_quiet_step (fail))
              refine wpQuiet_nil ?_
              rintro _ ⟨gr, rfl⟩
              go_wp2
              go_roundw
              case rel => exact ⟨u + 1, by omega, by omega, by go_num, hh.out.trans (by repeat (first | exact Grows.refl _ | apply Grows.grow | apply Grows.alloc | apply Grows.drew))⟩
              case measure => simp [intOf]; omega
            by_cases i2 : v < s.y0
            · clear hin
              go_wp2
              first | refine region_grow2 (by kernel_rfl) (by kernel_rfl) ?_ | refine region_grow (by kernel_rfl) (by kernel_rfl) ?_
              repeat (go_big_quiet_step (fail))
              refine wpQuiet_nil ?_
              rintro _ ⟨gr, rfl⟩
              go_wp2
              go_roundw
              case rel => exact ⟨u + 1, by omega, by omega, by go_num, hh.out.trans (by repeat (first | exact Grows.refl _ | apply Grows.grow | apply Grows.alloc | apply Grows.drew))⟩
              case measure => simp [intOf]; omega
            · have i3 : s.y1 ≤ v := by omega
              clear hin
              have hd : decide (v < s.y1) = false := decide_eq_false (by omega)
              go_wp2
              first | refine region_grow2 (by kernel_rfl) (by kernel_rfl) ?_ | refine region_grow (by kernel_rfl) (by kernel_rfl) ?_
              repeat (go_big_quiet_step (fail))
              refine wpQuiet_nil ?_
              rintro _ ⟨gr, rfl⟩
              go_wp2
              go_roundw
              case rel => exact ⟨u + 1, by omega, by omega, by go_num, hh.out.trans (by repeat (first | exact Grows.refl _ | apply Grows.grow | apply Grows.alloc | apply Grows.drew))⟩
              case measure => simp [intOf]; omega
        · go_wp2
          go_roundw
          case rel => exact ⟨v + 1, by omega, by omega, by go_num, hh.out⟩
          case measure => simp [intOf]; omega
    · go_wp2
      go_ret
      exact ⟨rfl, GW.out.trans hh.out⟩
end Go.Proofs.Ytldgodpenigphaa
