/- The walk of chapter 10's law MoveRight. -/
import Derived.Test.YticeoppldlhehaaLaw10S
import Derived.Test.YticeoppldlhehaaMoveR
import Derived.Test.YticeoppldlhehaaRas5
namespace Go.Proofs.Yticeoppldlhehaa
open Go.RowKit
set_option linter.unusedVariables false

set_option maxRecDepth 100000 in
set_option maxHeartbeats 25600000 in
theorem moveRight_walk (r1 : R) (a1 : Option Addr) (l1 p1 : Nat) (f1 : Nat → P4) (s : R) (dx dy rx : Int) (p : P4) (w : World)
    (hb1 : IsPix w a1 l1 p1 f1) (hx : -9223372036854775808 ≤ dx ∧ dx ≤ 9223372036854775807) (hy : -9223372036854775808 ≤ dy ∧ dy ≤ 9223372036854775807) (hu : -9223372036854775808 ≤ rx ∧ rx ≤ 9223372036854775807) (hpx : okP p) :
    Calls Try.prog 8 #[.agg #[.int .i64 r1.x0, .int .i64 r1.y0, .int .i64 r1.x1, .int .i64 r1.y1, .slice a1 l1 p1], .agg #[.int .i64 s.x0, .int .i64 s.y0, .int .i64 s.x1, .int .i64 s.y1], .int .i64 dx, .int .i64 dy, .int .i64 rx, .agg #[.int .u8 p.r, .int .u8 p.g, .int .u8 p.b, .int .u8 p.a]] w fun e w' => e = .returned (.bool true) ∧ Grows w w' := by
  have m1 := hb1.le
  have m1' := hb1.most
  replace hb1 := Lib.hid hb1
  cases c_HR10 : right10 l1 r1 f1
  case false =>
    have HR10 := Lib.hid c_HR10
    clear c_HR10
    go_enter Try.func8, Try.ntmps8
    go_wp2_with ((first | (go_at_call 9; refine (awake10 _ ).mono ?_; rintro e w' ⟨rfl, hgw⟩; first | (obtain ⟨gw, rfl⟩ := grows_of_grow hgw) | (obtain ⟨gw, rfl⟩ := hgw)) | (go_at_call 10; (with_reducible refine (ref10_RightIs _ _ _ _ _ _ _ (Lib.hid (hb1.out.grows (by repeat (first | exact Grows.refl _ | apply Grows.grow | apply Grows.alloc | apply Grows.drew)))) HR10).mono ?_); rintro e w' ⟨rfl, hgw⟩; first | (obtain ⟨gw, rfl⟩ := grows_of_grow hgw) | (obtain ⟨gw, rfl⟩ := hgw))))
    go_ret
    exact ⟨rfl, (by repeat (first | exact Grows.refl _ | apply Grows.grow | apply Grows.alloc | apply Grows.drew))⟩
  have HR10 := Lib.hid c_HR10
  by_cases d1 : 10 < rx
  · clear c_HR10
    go_enter Try.func8, Try.ntmps8
    go_wp2_with ((first | (go_at_call 9; refine (awake10 _ ).mono ?_; rintro e w' ⟨rfl, hgw⟩; first | (obtain ⟨gw, rfl⟩ := grows_of_grow hgw) | (obtain ⟨gw, rfl⟩ := hgw)) | (go_at_call 10; (with_reducible refine (ref10_RightIs _ _ _ _ _ _ _ (Lib.hid (hb1.out.grows (by repeat (first | exact Grows.refl _ | apply Grows.grow | apply Grows.alloc | apply Grows.drew)))) HR10).mono ?_); rintro e w' ⟨rfl, hgw⟩; first | (obtain ⟨gw, rfl⟩ := grows_of_grow hgw) | (obtain ⟨gw, rfl⟩ := hgw))))
    go_ret
    exact ⟨rfl, (by repeat (first | exact Grows.refl _ | apply Grows.grow | apply Grows.alloc | apply Grows.drew))⟩
  cases c_HF10 : fineB s rx rx 900
  case false =>
    have HF10 := Lib.hid c_HF10
    clear c_HF10
    go_enter Try.func8, Try.ntmps8
    go_wp2_with ((first | (go_at_call 9; refine (awake10 _ ).mono ?_; rintro e w' ⟨rfl, hgw⟩; first | (obtain ⟨gw, rfl⟩ := grows_of_grow hgw) | (obtain ⟨gw, rfl⟩ := hgw)) | (go_at_call 10; (with_reducible refine (ref10_RightIs _ _ _ _ _ _ _ (Lib.hid (hb1.out.grows (by repeat (first | exact Grows.refl _ | apply Grows.grow | apply Grows.alloc | apply Grows.drew)))) HR10).mono ?_); rintro e w' ⟨rfl, hgw⟩; first | (obtain ⟨gw, rfl⟩ := grows_of_grow hgw) | (obtain ⟨gw, rfl⟩ := hgw)) | (go_at_call 30; (with_reducible refine (ref08_FineIs _ _ _ _ _ _ HF10).mono ?_); rintro e w' ⟨rfl, hgw⟩; first | (obtain ⟨gw, rfl⟩ := grows_of_grow hgw) | (obtain ⟨gw, rfl⟩ := hgw))))
    go_ret
    exact ⟨rfl, (by repeat (first | exact Grows.refl _ | apply Grows.grow | apply Grows.alloc | apply Grows.drew))⟩
  have HF10 := Lib.hid c_HF10
  cases c_HN101 : nearB dx
  case false =>
    have HN101 := Lib.hid c_HN101
    clear c_HN101
    go_enter Try.func8, Try.ntmps8
    go_wp2_with ((first | (go_at_call 9; refine (awake10 _ ).mono ?_; rintro e w' ⟨rfl, hgw⟩; first | (obtain ⟨gw, rfl⟩ := grows_of_grow hgw) | (obtain ⟨gw, rfl⟩ := hgw)) | (go_at_call 10; (with_reducible refine (ref10_RightIs _ _ _ _ _ _ _ (Lib.hid (hb1.out.grows (by repeat (first | exact Grows.refl _ | apply Grows.grow | apply Grows.alloc | apply Grows.drew)))) HR10).mono ?_); rintro e w' ⟨rfl, hgw⟩; first | (obtain ⟨gw, rfl⟩ := grows_of_grow hgw) | (obtain ⟨gw, rfl⟩ := hgw)) | (go_at_call 30; (with_reducible refine (ref08_FineIs _ _ _ _ _ _ HF10).mono ?_); rintro e w' ⟨rfl, hgw⟩; first | (obtain ⟨gw, rfl⟩ := grows_of_grow hgw) | (obtain ⟨gw, rfl⟩ := hgw)) | (go_at_call 18; (with_reducible refine (ref10_NearIs _ _ _ HN101).mono ?_); rintro e w' ⟨rfl, hgw⟩; first | (obtain ⟨gw, rfl⟩ := grows_of_grow hgw) | (obtain ⟨gw, rfl⟩ := hgw))))
    go_ret
    exact ⟨rfl, (by repeat (first | exact Grows.refl _ | apply Grows.grow | apply Grows.alloc | apply Grows.drew))⟩
  have HN101 := Lib.hid c_HN101
  cases c_HN102 : nearB dy
  case false =>
    have HN102 := Lib.hid c_HN102
    clear c_HN102
    go_enter Try.func8, Try.ntmps8
    go_wp2_with ((first | (go_at_call 9; refine (awake10 _ ).mono ?_; rintro e w' ⟨rfl, hgw⟩; first | (obtain ⟨gw, rfl⟩ := grows_of_grow hgw) | (obtain ⟨gw, rfl⟩ := hgw)) | (go_at_call 10; (with_reducible refine (ref10_RightIs _ _ _ _ _ _ _ (Lib.hid (hb1.out.grows (by repeat (first | exact Grows.refl _ | apply Grows.grow | apply Grows.alloc | apply Grows.drew)))) HR10).mono ?_); rintro e w' ⟨rfl, hgw⟩; first | (obtain ⟨gw, rfl⟩ := grows_of_grow hgw) | (obtain ⟨gw, rfl⟩ := hgw)) | (go_at_call 30; (with_reducible refine (ref08_FineIs _ _ _ _ _ _ HF10).mono ?_); rintro e w' ⟨rfl, hgw⟩; first | (obtain ⟨gw, rfl⟩ := grows_of_grow hgw) | (obtain ⟨gw, rfl⟩ := hgw)) | (go_at_call 18; (with_reducible refine (ref10_NearIs _ _ _ HN101).mono ?_); rintro e w' ⟨rfl, hgw⟩; first | (obtain ⟨gw, rfl⟩ := grows_of_grow hgw) | (obtain ⟨gw, rfl⟩ := hgw)) | (go_at_call 18; (with_reducible refine (ref10_NearIs _ _ _ HN102).mono ?_); rintro e w' ⟨rfl, hgw⟩; first | (obtain ⟨gw, rfl⟩ := grows_of_grow hgw) | (obtain ⟨gw, rfl⟩ := hgw))))
    go_ret
    exact ⟨rfl, (by repeat (first | exact Grows.refl _ | apply Grows.grow | apply Grows.alloc | apply Grows.drew))⟩
  have HN102 := Lib.hid c_HN102
  cases c_HP10 : rightT p.r p.g p.b p.a
  case false =>
    have HP10 := Lib.hid c_HP10
    clear c_HP10
    go_enter Try.func8, Try.ntmps8
    go_wp2_with ((first | (go_at_call 9; refine (awake10 _ ).mono ?_; rintro e w' ⟨rfl, hgw⟩; first | (obtain ⟨gw, rfl⟩ := grows_of_grow hgw) | (obtain ⟨gw, rfl⟩ := hgw)) | (go_at_call 10; (with_reducible refine (ref10_RightIs _ _ _ _ _ _ _ (Lib.hid (hb1.out.grows (by repeat (first | exact Grows.refl _ | apply Grows.grow | apply Grows.alloc | apply Grows.drew)))) HR10).mono ?_); rintro e w' ⟨rfl, hgw⟩; first | (obtain ⟨gw, rfl⟩ := grows_of_grow hgw) | (obtain ⟨gw, rfl⟩ := hgw)) | (go_at_call 30; (with_reducible refine (ref08_FineIs _ _ _ _ _ _ HF10).mono ?_); rintro e w' ⟨rfl, hgw⟩; first | (obtain ⟨gw, rfl⟩ := grows_of_grow hgw) | (obtain ⟨gw, rfl⟩ := hgw)) | (go_at_call 18; (with_reducible refine (ref10_NearIs _ _ _ HN101).mono ?_); rintro e w' ⟨rfl, hgw⟩; first | (obtain ⟨gw, rfl⟩ := grows_of_grow hgw) | (obtain ⟨gw, rfl⟩ := hgw)) | (go_at_call 18; (with_reducible refine (ref10_NearIs _ _ _ HN102).mono ?_); rintro e w' ⟨rfl, hgw⟩; first | (obtain ⟨gw, rfl⟩ := grows_of_grow hgw) | (obtain ⟨gw, rfl⟩ := hgw)) | (go_at_call 19; (with_reducible refine (ref01_rightIs _ _ _ (by assumption) HP10.out).mono ?_); rintro e w' ⟨rfl, hgw⟩; first | (obtain ⟨gw, rfl⟩ := grows_of_grow hgw) | (obtain ⟨gw, rfl⟩ := hgw))))
    go_ret
    exact ⟨rfl, (by repeat (first | exact Grows.refl _ | apply Grows.grow | apply Grows.alloc | apply Grows.drew))⟩
  have HP10 := Lib.hid c_HP10
  obtain ⟨k1, g1, n1, krp⟩ := right10_yes c_HR10
  obtain ⟨hsm, hrx, -, hrs, -, k4, -⟩ := fine_cnt c_HF10 (by omega)
  have hdx : -16777216 ≤ dx ∧ dx ≤ 16777216 := of_decide_eq_true c_HN101
  have hdy : -16777216 ≤ dy ∧ dy ≤ 16777216 := of_decide_eq_true c_HN102
  obtain ⟨t1, t2, t3⟩ := shadow_facts c_HF10 (by omega) hdx hdy
  obtain ⟨hdx0, hdx1⟩ := hdx
  obtain ⟨hdy0, hdy1⟩ := hdy
  have hsm' := hsm
  unfold smallR at hsm'
  obtain ⟨⟨s00, s01⟩, ⟨s10, s11⟩, ⟨s20, s21⟩, s30, s31⟩ := hsm'
  obtain ⟨F, hF⟩ : ∃ F, F = imgOf r1 f1 := ⟨_, rfl⟩
  have X1 : Hid (BufAt w r1 a1 l1 p1 F) := by rw [hF]; exact bufAt_of g1 n1 hb1.out
  have FR : ∀ x y, rightP (F x y) := by rw [hF]; exact imgOf_right g1 (fun i hi => krp i (by omega))
  have FOK := X1.out.fits.ok
  have okn : okP noP := by unfold okP noP; simp
  have BR : Hid (∀ x y, rightP (shadowF s dx dy rx rx p F x y)) := shadow_right FOK FR hpx ((rightP_iff _).1 c_HP10) s dx dy hrx.1 hrx.1
  have H1 : Hid (∀ W, Grows w W → Calls Try.prog 31 #[.agg #[.int .i64 r1.x0, .int .i64 r1.y0, .int .i64 r1.x1, .int .i64 r1.y1, .slice a1 l1 p1], .agg #[.int .i64 s.x0, .int .i64 s.y0, .int .i64 s.x1, .int .i64 s.y1], .int .i64 dx, .int .i64 dy, .int .i64 rx, .int .i64 rx, .agg #[.int .u8 p.r, .int .u8 p.g, .int .u8 p.b, .int .u8 p.a]] W (RetBuf W (someR s) (shadowF s dx dy rx rx p F))) := fun W g => move_Shadow s r1 a1 l1 p1 F dx dy rx rx p W (X1.out.grows g) (by omega) hrs (by omega) hpx (by omega) (by omega) hrx hrx t1 (by omega) (by omega)
  have H2 : Hid (∀ W, Grows w W → Calls Try.prog 31 #[.agg #[.int .i64 r1.x0, .int .i64 r1.y0, .int .i64 r1.x1, .int .i64 r1.y1, .slice a1 l1 p1], .agg #[.int .i64 s.x0, .int .i64 s.y0, .int .i64 s.x1, .int .i64 s.y1], .int .i64 dx, .int .i64 dy, .int .i64 rx, .int .i64 rx, .agg #[.int .u8 0, .int .u8 0, .int .u8 0, .int .u8 0]] W (RetBuf W (someR s) (cutF (someR s) F))) := fun W g => by
    have := move_Shadow s r1 a1 l1 p1 F dx dy rx rx noP W (X1.out.grows g) (by omega) hrs (by omega) okn (by omega) (by omega) hrx hrx t1 (by omega) (by omega)
    rw [shadow_none FOK] at this
    exact this
  have H3 : Hid (∀ W, Grows w W → Calls Try.prog 33 #[.agg #[.int .i64 r1.x0, .int .i64 r1.y0, .int .i64 r1.x1, .int .i64 r1.y1, .slice a1 l1 p1], .agg #[.int .i64 s.x0, .int .i64 s.y0, .int .i64 s.x1, .int .i64 s.y1]] W (RetBuf W (someR s) (cutF (someR s) F))) := fun W g => ref05_Window s r1 a1 l1 p1 F W (X1.out.grows g) hrs (by omega) (by omega)
  have H4 : Hid (fineB ⟨s.x0 + dx, s.y0 + dy, s.x1 + dx, s.y1 + dy⟩ 0 0 400 = true → ∀ W, Grows w W → Calls Try.prog 22 #[.agg #[.int .i64 r1.x0, .int .i64 r1.y0, .int .i64 r1.x1, .int .i64 r1.y1, .slice a1 l1 p1], .agg #[.int .i64 (s.x0 + dx), .int .i64 (s.y0 + dy), .int .i64 (s.x1 + dx), .int .i64 (s.y1 + dy)], .int .i64 dx, .int .i64 dy] W (RetBuf W (someR (farR s dx dy)) (moveF (farR s dx dy) dx dy F))) := fun hf W g => by
    obtain ⟨-, -, -, hrt, -, k5, -⟩ := fine_cnt hf (by omega)
    exact move_Offset (farR s dx dy) r1 a1 l1 p1 F dx dy W (X1.out.grows g) hrt (by unfold farR; omega) (by omega) (by omega) (by omega)
  have H5 : Hid (fineB ⟨s.x0 + dx, s.y0 + dy, s.x1 + dx, s.y1 + dy⟩ 0 0 400 = true → ∀ W aq lq pq, Hid (BufAt W (someR (farR s dx dy)) aq lq pq (moveF (farR s dx dy) dx dy F)) → Calls Try.prog 22 #[.agg #[.int .i64 (someR (farR s dx dy)).x0, .int .i64 (someR (farR s dx dy)).y0, .int .i64 (someR (farR s dx dy)).x1, .int .i64 (someR (farR s dx dy)).y1, .slice aq lq pq], .agg #[.int .i64 s.x0, .int .i64 s.y0, .int .i64 s.x1, .int .i64 s.y1], .int .i64 (-dx), .int .i64 (-dy)] W (RetBuf W (someR s) (cutF (someR s) F))) := fun hf W aq lq pq h => by
    obtain ⟨-, -, -, hrt, -, k5, -⟩ := fine_cnt hf (by omega)
    have := move_Offset s (someR (farR s dx dy)) aq lq pq _ (-dx) (-dy) W h hrs (by omega) (by unfold farR; omega) (by omega) (by omega)
    rw [move_back] at this
    exact this
  obtain ⟨B, hB⟩ : ∃ B, B = shadowF s dx dy rx rx p F := ⟨_, rfl⟩
  obtain ⟨D, hD⟩ : ∃ B, B = cutF (someR s) F := ⟨_, rfl⟩
  obtain ⟨M, hM⟩ : ∃ M, M = moveF (farR s dx dy) dx dy F := ⟨_, rfl⟩
  obtain ⟨g, hg⟩ : ∃ g, g = someR (farR s dx dy) := ⟨_, rfl⟩
  obtain ⟨t, ht⟩ : ∃ t, t = someR s := ⟨_, rfl⟩
  rw [← hD, ← ht] at H2 H3
  rw [← hM, ← hg] at H4
  rw [← hM, ← hg, ← hD, ← ht] at H5
  rw [← hB, ← ht] at H1
  rw [← hB] at BR
  rw [← ht] at k4
  clear g1 n1 krp hF hB hD hM hg ht hsm hrs t1 t2 t3 X1 FR FOK okn c_HR10 c_HF10 c_HN101 c_HN102 c_HP10
  go_enter Try.func8, Try.ntmps8
  go_wp2_with (first
    | (first | (go_at_call 9; refine (awake10 _ ).mono ?_; rintro e w' ⟨rfl, hgw⟩; first | (obtain ⟨gw, rfl⟩ := grows_of_grow hgw) | (obtain ⟨gw, rfl⟩ := hgw)) | (go_at_call 10; (with_reducible refine (ref10_RightIs _ _ _ _ _ _ _ (Lib.hid (hb1.out.grows (by repeat (first | exact Grows.refl _ | apply Grows.grow | apply Grows.alloc | apply Grows.drew)))) HR10).mono ?_); rintro e w' ⟨rfl, hgw⟩; first | (obtain ⟨gw, rfl⟩ := grows_of_grow hgw) | (obtain ⟨gw, rfl⟩ := hgw)) | (go_at_call 30; (with_reducible refine (ref08_FineIs _ _ _ _ _ _ HF10).mono ?_); rintro e w' ⟨rfl, hgw⟩; first | (obtain ⟨gw, rfl⟩ := grows_of_grow hgw) | (obtain ⟨gw, rfl⟩ := hgw)) | (go_at_call 18; (with_reducible refine (ref10_NearIs _ _ _ HN101).mono ?_); rintro e w' ⟨rfl, hgw⟩; first | (obtain ⟨gw, rfl⟩ := grows_of_grow hgw) | (obtain ⟨gw, rfl⟩ := hgw)) | (go_at_call 18; (with_reducible refine (ref10_NearIs _ _ _ HN102).mono ?_); rintro e w' ⟨rfl, hgw⟩; first | (obtain ⟨gw, rfl⟩ := grows_of_grow hgw) | (obtain ⟨gw, rfl⟩ := hgw)) | (go_at_call 19; (with_reducible refine (ref01_rightIs _ _ _ (by assumption) HP10.out).mono ?_); rintro e w' ⟨rfl, hgw⟩; first | (obtain ⟨gw, rfl⟩ := grows_of_grow hgw) | (obtain ⟨gw, rfl⟩ := hgw)))
    | (go_at_call 31; (with_reducible refine Calls.mono (H1.out _ ?_) ?_); (exact (by repeat (first | exact Grows.refl _ | apply Grows.grow | apply Grows.alloc | apply Grows.drew))); rintro e w' ⟨aq1, lq1, pq1, rfl, hgw, Hq1⟩; (first | (obtain ⟨ga, rfl⟩ := grows_of_grow hgw) | (obtain ⟨ga, rfl⟩ := hgw)); (try simp only [grow_drew] at Hq1)))
  have hmm1 := Hq1.out.1.most
  refine wp_name ?_
  intro W1 hW1
  have E0 : Hid (Blk W1 w.heap.size 26 #[.int .i64 r1.x0, .int .i64 r1.y0, .int .i64 r1.x1, .int .i64 r1.y1, .slice a1 l1 p1]) := by rw [hW1]; exact (by unfold Blk; repeat (first | exact blk_at _ _ _ (by first | omega | (simp; done) | (simp; omega)) | refine (blk_past _ _ _ (by first | omega | (simp; done) | (simp; omega))).trans ?_ | refine (heap_grow _ _ _ (by first | omega | (simp; done) | (simp; omega))).trans ?_ | refine (blk_drew _ _).trans ?_))
  have E1 : Hid (Blk W1 (w.heap.size + 1) 23 #[.int .i64 s.x0, .int .i64 s.y0, .int .i64 s.x1, .int .i64 s.y1]) := by rw [hW1]; exact (by unfold Blk; repeat (first | exact blk_at _ _ _ (by first | omega | (simp; done) | (simp; omega)) | refine (blk_past _ _ _ (by first | omega | (simp; done) | (simp; omega))).trans ?_ | refine (heap_grow _ _ _ (by first | omega | (simp; done) | (simp; omega))).trans ?_ | refine (blk_drew _ _).trans ?_))
  have E3 : Hid (Blk W1 (w.heap.size + 1 + 1 + 1 + ga.news.size) 26 #[.int .i64 t.x0, .int .i64 t.y0, .int .i64 t.x1, .int .i64 t.y1, .slice aq1 lq1 pq1]) := by rw [hW1]; exact (by unfold Blk; repeat (first | exact blk_at _ _ _ (by first | omega | (simp; done) | (simp; omega)) | refine (blk_past _ _ _ (by first | omega | (simp; done) | (simp; omega))).trans ?_ | refine (heap_grow _ _ _ (by first | omega | (simp; done) | (simp; omega))).trans ?_ | refine (blk_drew _ _).trans ?_))
  have Z1 : Hid (BufAt W1 t aq1 lq1 pq1 B) := by rw [hW1]; exact Hq1.out.1.grows (by repeat (first | exact Grows.refl _ | apply Grows.grow | apply Grows.alloc | apply Grows.drew))
  have GW1 : Hid (Grows w W1) := by rw [hW1]; exact (by repeat (first | exact Grows.refl _ | apply Grows.grow | apply Grows.alloc | apply Grows.drew))
  obtain ⟨nd, hnd⟩ : ∃ n, n = w.heap.size + 1 + 1 + 1 + ga.news.size := ⟨_, rfl⟩
  rw [← hnd] at E3 ⊢
  clear hW1 hnd Hq1 H1
  go_loopw [14] (fun i wr => ∃ k : Nat, k ≤ lq1 ∧ i = .int .i64 k ∧ Hid (Grows W1 wr)) (fun i _ => lq1 - (intOf i).toNat)
  case atStart => exact ⟨0, by omega, rfl, Grows.refl _⟩
  case round =>
    obtain ⟨k, hk, rfl, hh⟩ := hrel
    have d3 := E3.out.grows hh.out
    obtain ⟨y0, y1, y2, y3, y4, yf⟩ := d3.c5
    have ly := d3.lt
    clear d3
    by_cases hlk : k < lq1
    · obtain ⟨b', off', rfl, hb', hok, c0, c1, c2, c3⟩ := (Z1.out.pix.grows hh.out).px hlk
      obtain ⟨q, hq⟩ : ∃ q, q = B (ptX t k) (ptY t k) := ⟨_, rfl⟩
      have HOK : Hid (okP q) := by rw [hq]; exact hok
      have HRT : Hid (rightT q.r q.g q.b q.a = true) := by rw [hq]; exact (rightP_iff _).2 (BR.out _ _)
      rw [← hq] at c0 c1 c2 c3
      clear hok hq
      go_wp2_with (go_at_call 19; (with_reducible refine (ref01_rightIs q _ true HOK.out HRT.out).mono ?_); rintro e w' ⟨rfl, hgw⟩; first | (obtain ⟨gw, rfl⟩ := grows_of_grow hgw) | (obtain ⟨gw, rfl⟩ := hgw))
      go_roundw
      case rel => exact ⟨k + 1, by omega, by go_num, hh.out.trans (by repeat (first | exact Grows.refl _ | apply Grows.grow | apply Grows.alloc | apply Grows.drew))⟩
      case measure => simp [intOf]; omega
    · obtain rfl : lq1 = k := by omega
      have d0 := E0.out.grows hh.out
      obtain ⟨b0, b1, b2, b3, b4, bf⟩ := d0.c5
      have l0 := d0.lt
      have d1 := E1.out.grows hh.out
      obtain ⟨s0, s1, s2, s3, sf⟩ := d1.c4
      have ls := d1.lt
      have GR : Hid (Grows w wr) := GW1.out.trans hh.out
      have F0 := Lib.hid d0
      have F1 := Lib.hid d1
      clear d0 d1 hh
      cases c_HB102 : fineB ⟨s.x0 + dx, s.y0 + dy, s.x1 + dx, s.y1 + dy⟩ 0 0 400
      · have HB102 := Lib.hid c_HB102
        clear c_HB102
        go_wp2_with (go_at_call 11; refine (law10_boxIs ⟨s.x0 + dx, s.y0 + dy, s.x1 + dx, s.y1 + dy⟩ _ _ HB102).mono ?_; rintro e w' ⟨rfl, hgw⟩; first | (obtain ⟨gv, rfl⟩ := grows_of_grow hgw) | (obtain ⟨gv, rfl⟩ := hgw))
        go_ret
        exact ⟨rfl, GR.out.trans (by repeat (first | exact Grows.refl _ | apply Grows.grow | apply Grows.alloc | apply Grows.drew))⟩
      cases c_HB101 : fineB s 0 0 400
      · have HB102 := Lib.hid c_HB102
        have HB101 := Lib.hid c_HB101
        clear c_HB101 c_HB102
        go_wp2_with (first | (go_at_call 11; refine (law10_boxIs ⟨s.x0 + dx, s.y0 + dy, s.x1 + dx, s.y1 + dy⟩ _ _ HB102).mono ?_; rintro e w' ⟨rfl, hgw⟩; first | (obtain ⟨gv, rfl⟩ := grows_of_grow hgw) | (obtain ⟨gv, rfl⟩ := hgw)) | (go_at_call 11; refine (law10_boxIs s _ _ HB101).mono ?_; rintro e w' ⟨rfl, hgw⟩; first | (obtain ⟨gv, rfl⟩ := grows_of_grow hgw) | (obtain ⟨gv, rfl⟩ := hgw)))
        go_ret
        exact ⟨rfl, GR.out.trans (by repeat (first | exact Grows.refl _ | apply Grows.grow | apply Grows.alloc | apply Grows.drew))⟩
      have HB102 := Lib.hid c_HB102
      have HB101 := Lib.hid c_HB101
      have H4' := Lib.hid (H4.out c_HB102)
      have H5' := Lib.hid (H5.out c_HB102)
      clear c_HB101 c_HB102 H4 H5
      have hnx : IntKind.i64.wrap (-dx) = -dx := IntWalk.i64_in _ (by omega)
      have hny : IntKind.i64.wrap (-dy) = -dy := IntWalk.i64_in _ (by omega)
      go_wp2_with (first | (go_at_call 11; refine (law10_boxIs ⟨s.x0 + dx, s.y0 + dy, s.x1 + dx, s.y1 + dy⟩ _ _ HB102).mono ?_; rintro e w' ⟨rfl, hgw⟩; first | (obtain ⟨gv, rfl⟩ := grows_of_grow hgw) | (obtain ⟨gv, rfl⟩ := hgw)) | (go_at_call 11; refine (law10_boxIs s _ _ HB101).mono ?_; rintro e w' ⟨rfl, hgw⟩; first | (obtain ⟨gv, rfl⟩ := grows_of_grow hgw) | (obtain ⟨gv, rfl⟩ := hgw)))
      refine wp_name ?_
      intro W2 hW2
      have P0 : Hid (Blk W2 w.heap.size 26 #[.int .i64 r1.x0, .int .i64 r1.y0, .int .i64 r1.x1, .int .i64 r1.y1, .slice a1 l1 p1]) := by rw [hW2]; exact F0.out.grows (by repeat (first | exact Grows.refl _ | apply Grows.grow | apply Grows.alloc | apply Grows.drew))
      have P1 : Hid (Blk W2 (w.heap.size + 1) 23 #[.int .i64 s.x0, .int .i64 s.y0, .int .i64 s.x1, .int .i64 s.y1]) := by rw [hW2]; exact F1.out.grows (by repeat (first | exact Grows.refl _ | apply Grows.grow | apply Grows.alloc | apply Grows.drew))
      have P2 : Hid (Blk W2 wr.heap.size 23 #[.int .i64 (s.x0 + dx), .int .i64 (s.y0 + dy), .int .i64 (s.x1 + dx), .int .i64 (s.y1 + dy)]) := by rw [hW2]; exact (by unfold Blk; repeat (first | exact blk_at _ _ _ (by first | omega | (simp; done) | (simp; omega)) | refine (blk_past _ _ _ (by first | omega | (simp; done) | (simp; omega))).trans ?_ | refine (heap_grow _ _ _ (by first | omega | (simp; done) | (simp; omega))).trans ?_ | refine (blk_drew _ _).trans ?_))
      have GW2 : Hid (Grows w W2) := by rw [hW2]; exact GR.out.trans (by repeat (first | exact Grows.refl _ | apply Grows.grow | apply Grows.alloc | apply Grows.drew))
      obtain ⟨nt, hnt⟩ : ∃ n, n = wr.heap.size := ⟨_, rfl⟩
      rw [← hnt] at P2 ⊢
      clear hW2 hnt b0 b1 b2 b3 b4 bf s0 s1 s2 s3 sf l0 ls F0 F1 GR E0 E1 E3 Z1 y0 y1 y2 y3 y4 yf ly
      obtain ⟨b0, b1, b2, b3, b4, bf⟩ := P0.out.c5
      obtain ⟨s0, s1, s2, s3, sf⟩ := P1.out.c4
      obtain ⟨c0, c1, c2, c3, cf⟩ := P2.out.c4
      have l0 := P0.out.lt
      have l1' := P1.out.lt
      have l2 := P2.out.lt
      go_region_held3 (fun w' => w'.cell? ⟨w.heap.size, 0, none⟩ = some (.int .i64 r1.x0) ∧ w'.cell? ⟨w.heap.size, 1, none⟩ = some (.int .i64 r1.y0) ∧ w'.cell? ⟨w.heap.size, 2, none⟩ = some (.int .i64 r1.x1) ∧ w'.cell? ⟨w.heap.size, 3, none⟩ = some (.int .i64 r1.y1) ∧ w'.cell? ⟨w.heap.size, 4, none⟩ = some (.slice a1 l1 p1) ∧ w'.cell? ⟨w.heap.size + 1, 0, none⟩ = some (.int .i64 s.x0) ∧ w'.cell? ⟨w.heap.size + 1, 1, none⟩ = some (.int .i64 s.y0) ∧ w'.cell? ⟨w.heap.size + 1, 2, none⟩ = some (.int .i64 s.x1) ∧ w'.cell? ⟨w.heap.size + 1, 3, none⟩ = some (.int .i64 s.y1) ∧ w'.cell? ⟨nt, 0, none⟩ = some (.int .i64 (s.x0 + dx)) ∧ w'.cell? ⟨nt, 1, none⟩ = some (.int .i64 (s.y0 + dy)) ∧ w'.cell? ⟨nt, 2, none⟩ = some (.int .i64 (s.x1 + dx)) ∧ w'.cell? ⟨nt, 3, none⟩ = some (.int .i64 (s.y1 + dy))) (go_simp) (first
        | (go_at_call 22; (with_reducible refine Calls.mono (H4'.out _ ?_) ?_); (exact GW2.out.trans (by repeat (first | exact Grows.refl _ | apply Grows.grow | apply Grows.alloc | apply Grows.drew))); rintro e w' ⟨aq2, lq2, pq2, rfl, hgw, Hq2⟩; (first | (obtain ⟨gb, rfl⟩ := grows_of_grow hgw) | (obtain ⟨gb, rfl⟩ := hgw)); (try simp only [grow_drew] at Hq2))
        | (go_at_call 22; (with_reducible refine Calls.mono (H5'.out _ aq2 lq2 pq2 ?_) ?_); (exact Lib.hid (BufAt.grows Hq2.out.1 (by repeat (first | exact Grows.refl _ | apply Grows.grow | apply Grows.alloc | apply Grows.drew)))); rintro e w' ⟨aq3, lq3, pq3, rfl, hgw, Hq3⟩; (first | (obtain ⟨gc, rfl⟩ := grows_of_grow hgw) | (obtain ⟨gc, rfl⟩ := hgw)); (try simp only [grow_drew] at Hq3)))
      · refine then_name ?_
        intro W3 hW3
        have Q0 : Blk W3 w.heap.size 26 #[.int .i64 r1.x0, .int .i64 r1.y0, .int .i64 r1.x1, .int .i64 r1.y1, .slice a1 l1 p1] := by rw [hW3]; exact P0.out.grows (by repeat (first | exact Grows.refl _ | apply Grows.grow | apply Grows.alloc | apply Grows.drew))
        have Q1 : Blk W3 (w.heap.size + 1) 23 #[.int .i64 s.x0, .int .i64 s.y0, .int .i64 s.x1, .int .i64 s.y1] := by rw [hW3]; exact P1.out.grows (by repeat (first | exact Grows.refl _ | apply Grows.grow | apply Grows.alloc | apply Grows.drew))
        have Q3 : Blk W3 (W2.heap.size + gc.news.size) 26 #[.int .i64 t.x0, .int .i64 t.y0, .int .i64 t.x1, .int .i64 t.y1, .slice aq3 lq3 pq3] := by rw [hW3]; exact (by unfold Blk; repeat (first | exact blk_at _ _ _ (by first | omega | (simp; done) | (simp; omega)) | refine (blk_past _ _ _ (by first | omega | (simp; done) | (simp; omega))).trans ?_ | refine (heap_grow _ _ _ (by first | omega | (simp; done) | (simp; omega))).trans ?_ | refine (blk_drew _ _).trans ?_))
        have Y1 : Hid (BufAt W3 t aq3 lq3 pq3 D) := by rw [hW3]; exact Hq3.out.1.grows (by repeat (first | exact Grows.refl _ | apply Grows.grow | apply Grows.alloc | apply Grows.drew))
        have GW3 : Hid (Grows w W3) := by rw [hW3]; exact GW2.out.trans (by repeat (first | exact Grows.refl _ | apply Grows.grow | apply Grows.alloc | apply Grows.drew))
        obtain ⟨ne, hne⟩ : ∃ n, n = W2.heap.size + gc.news.size := ⟨_, rfl⟩
        rw [← hne] at Q3 ⊢
        clear b0 b1 b2 b3 b4 bf s0 s1 s2 s3 sf c0 c1 c2 c3 cf l0 l1' l2
        obtain ⟨b0, b1, b2, b3, b4, bf⟩ := Q0.c5
        obtain ⟨s0, s1, s2, s3, sf⟩ := Q1.c4
        obtain ⟨c0, c1, c2, c3, c4, cf⟩ := Q3.c5
        have l0 := Q0.lt
        have l1' := Q1.lt
        have l2 := Q3.lt
        clear hW3 hne Q0 Q1 Q3 Hq2 Hq3 H4' H5' P0 P1 P2
        go_wp2
        go_region_held3 (fun w' => w'.cell? ⟨w.heap.size, 0, none⟩ = some (.int .i64 r1.x0) ∧ w'.cell? ⟨w.heap.size, 1, none⟩ = some (.int .i64 r1.y0) ∧ w'.cell? ⟨w.heap.size, 2, none⟩ = some (.int .i64 r1.x1) ∧ w'.cell? ⟨w.heap.size, 3, none⟩ = some (.int .i64 r1.y1) ∧ w'.cell? ⟨w.heap.size, 4, none⟩ = some (.slice a1 l1 p1) ∧ w'.cell? ⟨w.heap.size + 1, 0, none⟩ = some (.int .i64 s.x0) ∧ w'.cell? ⟨w.heap.size + 1, 1, none⟩ = some (.int .i64 s.y0) ∧ w'.cell? ⟨w.heap.size + 1, 2, none⟩ = some (.int .i64 s.x1) ∧ w'.cell? ⟨w.heap.size + 1, 3, none⟩ = some (.int .i64 s.y1) ∧ w'.cell? ⟨ne, 0, none⟩ = some (.int .i64 t.x0) ∧ w'.cell? ⟨ne, 1, none⟩ = some (.int .i64 t.y0) ∧ w'.cell? ⟨ne, 2, none⟩ = some (.int .i64 t.x1) ∧ w'.cell? ⟨ne, 3, none⟩ = some (.int .i64 t.y1) ∧ w'.cell? ⟨ne, 4, none⟩ = some (.slice aq3 lq3 pq3)) (go_simp) (first
          | (go_at_call 33; (with_reducible refine Calls.mono (H3.out _ ?_) ?_); (exact GW3.out.trans (by repeat (first | exact Grows.refl _ | apply Grows.grow | apply Grows.alloc | apply Grows.drew))); rintro e w' ⟨aq4, lq4, pq4, rfl, hgw, Hq4⟩; (first | (obtain ⟨gd, rfl⟩ := grows_of_grow hgw) | (obtain ⟨gd, rfl⟩ := hgw)); (try simp only [grow_drew] at Hq4))
          | (go_at_call 20; (with_reducible refine Calls.mono (ref05_Same t aq3 aq4 lq3 pq3 lq4 pq4 D _ ?_ ?_) ?_); (exact Lib.hid (BufAt.grows Y1.out (by repeat (first | exact Grows.refl _ | apply Grows.grow | apply Grows.alloc | apply Grows.drew)))); (exact Lib.hid (BufAt.grows Hq4.out.1 (by repeat (first | exact Grows.refl _ | apply Grows.grow | apply Grows.alloc | apply Grows.drew)))); rintro e w' ⟨rfl, hgw⟩; first | (obtain ⟨ge, rfl⟩ := grows_of_grow hgw) | (obtain ⟨ge, rfl⟩ := hgw))
          | (go_at_call 31; (with_reducible refine Calls.mono (H2.out _ ?_) ?_); (exact GW3.out.trans (by repeat (first | exact Grows.refl _ | apply Grows.grow | apply Grows.alloc | apply Grows.drew))); rintro e w' ⟨aq5, lq5, pq5, rfl, hgw, Hq5⟩; (first | (obtain ⟨gf, rfl⟩ := grows_of_grow hgw) | (obtain ⟨gf, rfl⟩ := hgw)); (try simp only [grow_drew] at Hq5))
          | (go_at_call 20; (with_reducible refine Calls.mono (ref05_Same t aq5 aq4 lq5 pq5 lq4 pq4 D _ ?_ ?_) ?_); (exact Lib.hid (BufAt.grows Hq5.out.1 (by assumption))); (exact Lib.hid (BufAt.grows Hq4.out.1 (by repeat (first | exact Grows.refl _ | apply Grows.grow | apply Grows.alloc | apply Grows.drew)))); rintro e w' ⟨rfl, hgw⟩; first | (obtain ⟨gi, rfl⟩ := grows_of_grow hgw) | (obtain ⟨gi, rfl⟩ := hgw)))
        go_wp2
        go_ret
        exact ⟨rfl, GW3.out.trans (by repeat (first | exact Grows.refl _ | apply Grows.grow | apply Grows.alloc | apply Grows.drew))⟩
      · refine then_name ?_
        intro W3 hW3
        have Q0 : Blk W3 w.heap.size 26 #[.int .i64 r1.x0, .int .i64 r1.y0, .int .i64 r1.x1, .int .i64 r1.y1, .slice a1 l1 p1] := by rw [hW3]; exact P0.out.grows (by repeat (first | exact Grows.refl _ | apply Grows.grow | apply Grows.alloc | apply Grows.drew))
        have Q1 : Blk W3 (w.heap.size + 1) 23 #[.int .i64 s.x0, .int .i64 s.y0, .int .i64 s.x1, .int .i64 s.y1] := by rw [hW3]; exact P1.out.grows (by repeat (first | exact Grows.refl _ | apply Grows.grow | apply Grows.alloc | apply Grows.drew))
        have Q3 : Blk W3 (W2.heap.size + gb.news.size) 26 #[.int .i64 t.x0, .int .i64 t.y0, .int .i64 t.x1, .int .i64 t.y1, .slice aq3 lq3 pq3] := by rw [hW3]; exact (by unfold Blk; repeat (first | exact blk_at _ _ _ (by first | omega | (simp; done) | (simp; omega)) | refine (blk_past _ _ _ (by first | omega | (simp; done) | (simp; omega))).trans ?_ | refine (heap_grow _ _ _ (by first | omega | (simp; done) | (simp; omega))).trans ?_ | refine (blk_drew _ _).trans ?_))
        have Y1 : Hid (BufAt W3 t aq3 lq3 pq3 D) := by rw [hW3]; exact (swap_ret (B0 := 0) Hq3.out (by simp <;> omega) (by omega)).out.1
        have GW3 : Hid (Grows w W3) := by rw [hW3]; exact GW2.out.trans (by repeat (first | exact Grows.refl _ | apply Grows.grow | apply Grows.alloc | apply Grows.drew))
        obtain ⟨ne, hne⟩ : ∃ n, n = W2.heap.size + gb.news.size := ⟨_, rfl⟩
        rw [← hne] at Q3 ⊢
        clear b0 b1 b2 b3 b4 bf s0 s1 s2 s3 sf c0 c1 c2 c3 cf l0 l1' l2
        obtain ⟨b0, b1, b2, b3, b4, bf⟩ := Q0.c5
        obtain ⟨s0, s1, s2, s3, sf⟩ := Q1.c4
        obtain ⟨c0, c1, c2, c3, c4, cf⟩ := Q3.c5
        have l0 := Q0.lt
        have l1' := Q1.lt
        have l2 := Q3.lt
        clear hW3 hne Q0 Q1 Q3 Hq2 Hq3 H4' H5' P0 P1 P2
        go_wp2
        go_region_held3 (fun w' => w'.cell? ⟨w.heap.size, 0, none⟩ = some (.int .i64 r1.x0) ∧ w'.cell? ⟨w.heap.size, 1, none⟩ = some (.int .i64 r1.y0) ∧ w'.cell? ⟨w.heap.size, 2, none⟩ = some (.int .i64 r1.x1) ∧ w'.cell? ⟨w.heap.size, 3, none⟩ = some (.int .i64 r1.y1) ∧ w'.cell? ⟨w.heap.size, 4, none⟩ = some (.slice a1 l1 p1) ∧ w'.cell? ⟨w.heap.size + 1, 0, none⟩ = some (.int .i64 s.x0) ∧ w'.cell? ⟨w.heap.size + 1, 1, none⟩ = some (.int .i64 s.y0) ∧ w'.cell? ⟨w.heap.size + 1, 2, none⟩ = some (.int .i64 s.x1) ∧ w'.cell? ⟨w.heap.size + 1, 3, none⟩ = some (.int .i64 s.y1) ∧ w'.cell? ⟨ne, 0, none⟩ = some (.int .i64 t.x0) ∧ w'.cell? ⟨ne, 1, none⟩ = some (.int .i64 t.y0) ∧ w'.cell? ⟨ne, 2, none⟩ = some (.int .i64 t.x1) ∧ w'.cell? ⟨ne, 3, none⟩ = some (.int .i64 t.y1) ∧ w'.cell? ⟨ne, 4, none⟩ = some (.slice aq3 lq3 pq3)) (go_simp) (first
          | (go_at_call 33; (with_reducible refine Calls.mono (H3.out _ ?_) ?_); (exact GW3.out.trans (by repeat (first | exact Grows.refl _ | apply Grows.grow | apply Grows.alloc | apply Grows.drew))); rintro e w' ⟨aq4, lq4, pq4, rfl, hgw, Hq4⟩; (first | (obtain ⟨gd, rfl⟩ := grows_of_grow hgw) | (obtain ⟨gd, rfl⟩ := hgw)); (try simp only [grow_drew] at Hq4))
          | (go_at_call 20; (with_reducible refine Calls.mono (ref05_Same t aq3 aq4 lq3 pq3 lq4 pq4 D _ ?_ ?_) ?_); (exact Lib.hid (BufAt.grows Y1.out (by repeat (first | exact Grows.refl _ | apply Grows.grow | apply Grows.alloc | apply Grows.drew)))); (exact Lib.hid (BufAt.grows Hq4.out.1 (by repeat (first | exact Grows.refl _ | apply Grows.grow | apply Grows.alloc | apply Grows.drew)))); rintro e w' ⟨rfl, hgw⟩; first | (obtain ⟨ge, rfl⟩ := grows_of_grow hgw) | (obtain ⟨ge, rfl⟩ := hgw))
          | (go_at_call 31; (with_reducible refine Calls.mono (H2.out _ ?_) ?_); (exact GW3.out.trans (by repeat (first | exact Grows.refl _ | apply Grows.grow | apply Grows.alloc | apply Grows.drew))); rintro e w' ⟨aq5, lq5, pq5, rfl, hgw, Hq5⟩; (first | (obtain ⟨gf, rfl⟩ := grows_of_grow hgw) | (obtain ⟨gf, rfl⟩ := hgw)); (try simp only [grow_drew] at Hq5))
          | (go_at_call 20; (with_reducible refine Calls.mono (ref05_Same t aq5 aq4 lq5 pq5 lq4 pq4 D _ ?_ ?_) ?_); (exact Lib.hid (BufAt.grows Hq5.out.1 (by assumption))); (exact Lib.hid (BufAt.grows Hq4.out.1 (by repeat (first | exact Grows.refl _ | apply Grows.grow | apply Grows.alloc | apply Grows.drew)))); rintro e w' ⟨rfl, hgw⟩; first | (obtain ⟨gi, rfl⟩ := grows_of_grow hgw) | (obtain ⟨gi, rfl⟩ := hgw)))
        go_wp2
        go_ret
        exact ⟨rfl, GW3.out.trans (by repeat (first | exact Grows.refl _ | apply Grows.grow | apply Grows.alloc | apply Grows.drew))⟩
      · refine then_name ?_
        intro W3 hW3
        have Q0 : Blk W3 w.heap.size 26 #[.int .i64 r1.x0, .int .i64 r1.y0, .int .i64 r1.x1, .int .i64 r1.y1, .slice a1 l1 p1] := by rw [hW3]; exact P0.out.grows (by repeat (first | exact Grows.refl _ | apply Grows.grow | apply Grows.alloc | apply Grows.drew))
        have Q1 : Blk W3 (w.heap.size + 1) 23 #[.int .i64 s.x0, .int .i64 s.y0, .int .i64 s.x1, .int .i64 s.y1] := by rw [hW3]; exact P1.out.grows (by repeat (first | exact Grows.refl _ | apply Grows.grow | apply Grows.alloc | apply Grows.drew))
        have Q3 : Blk W3 (W2.heap.size) 26 #[.int .i64 t.x0, .int .i64 t.y0, .int .i64 t.x1, .int .i64 t.y1, .slice aq3 lq3 pq3] := by rw [hW3]; exact (by unfold Blk; repeat (first | exact blk_at _ _ _ (by first | omega | (simp; done) | (simp; omega)) | refine (blk_past _ _ _ (by first | omega | (simp; done) | (simp; omega))).trans ?_ | refine (heap_grow _ _ _ (by first | omega | (simp; done) | (simp; omega))).trans ?_ | refine (blk_drew _ _).trans ?_))
        have Y1 : Hid (BufAt W3 t aq3 lq3 pq3 D) := by rw [hW3]; exact (swap_ret (B0 := 0) Hq3.out (by simp <;> omega) (by omega)).out.1
        have GW3 : Hid (Grows w W3) := by rw [hW3]; exact GW2.out.trans (by repeat (first | exact Grows.refl _ | apply Grows.grow | apply Grows.alloc | apply Grows.drew))
        obtain ⟨ne, hne⟩ : ∃ n, n = W2.heap.size := ⟨_, rfl⟩
        rw [← hne] at Q3 ⊢
        clear b0 b1 b2 b3 b4 bf s0 s1 s2 s3 sf c0 c1 c2 c3 cf l0 l1' l2
        obtain ⟨b0, b1, b2, b3, b4, bf⟩ := Q0.c5
        obtain ⟨s0, s1, s2, s3, sf⟩ := Q1.c4
        obtain ⟨c0, c1, c2, c3, c4, cf⟩ := Q3.c5
        have l0 := Q0.lt
        have l1' := Q1.lt
        have l2 := Q3.lt
        clear hW3 hne Q0 Q1 Q3 Hq2 Hq3 H4' H5' P0 P1 P2
        go_wp2
        go_region_held3 (fun w' => w'.cell? ⟨w.heap.size, 0, none⟩ = some (.int .i64 r1.x0) ∧ w'.cell? ⟨w.heap.size, 1, none⟩ = some (.int .i64 r1.y0) ∧ w'.cell? ⟨w.heap.size, 2, none⟩ = some (.int .i64 r1.x1) ∧ w'.cell? ⟨w.heap.size, 3, none⟩ = some (.int .i64 r1.y1) ∧ w'.cell? ⟨w.heap.size, 4, none⟩ = some (.slice a1 l1 p1) ∧ w'.cell? ⟨w.heap.size + 1, 0, none⟩ = some (.int .i64 s.x0) ∧ w'.cell? ⟨w.heap.size + 1, 1, none⟩ = some (.int .i64 s.y0) ∧ w'.cell? ⟨w.heap.size + 1, 2, none⟩ = some (.int .i64 s.x1) ∧ w'.cell? ⟨w.heap.size + 1, 3, none⟩ = some (.int .i64 s.y1) ∧ w'.cell? ⟨ne, 0, none⟩ = some (.int .i64 t.x0) ∧ w'.cell? ⟨ne, 1, none⟩ = some (.int .i64 t.y0) ∧ w'.cell? ⟨ne, 2, none⟩ = some (.int .i64 t.x1) ∧ w'.cell? ⟨ne, 3, none⟩ = some (.int .i64 t.y1) ∧ w'.cell? ⟨ne, 4, none⟩ = some (.slice aq3 lq3 pq3)) (go_simp) (first
          | (go_at_call 33; (with_reducible refine Calls.mono (H3.out _ ?_) ?_); (exact GW3.out.trans (by repeat (first | exact Grows.refl _ | apply Grows.grow | apply Grows.alloc | apply Grows.drew))); rintro e w' ⟨aq4, lq4, pq4, rfl, hgw, Hq4⟩; (first | (obtain ⟨gd, rfl⟩ := grows_of_grow hgw) | (obtain ⟨gd, rfl⟩ := hgw)); (try simp only [grow_drew] at Hq4))
          | (go_at_call 20; (with_reducible refine Calls.mono (ref05_Same t aq3 aq4 lq3 pq3 lq4 pq4 D _ ?_ ?_) ?_); (exact Lib.hid (BufAt.grows Y1.out (by repeat (first | exact Grows.refl _ | apply Grows.grow | apply Grows.alloc | apply Grows.drew)))); (exact Lib.hid (BufAt.grows Hq4.out.1 (by repeat (first | exact Grows.refl _ | apply Grows.grow | apply Grows.alloc | apply Grows.drew)))); rintro e w' ⟨rfl, hgw⟩; first | (obtain ⟨ge, rfl⟩ := grows_of_grow hgw) | (obtain ⟨ge, rfl⟩ := hgw))
          | (go_at_call 31; (with_reducible refine Calls.mono (H2.out _ ?_) ?_); (exact GW3.out.trans (by repeat (first | exact Grows.refl _ | apply Grows.grow | apply Grows.alloc | apply Grows.drew))); rintro e w' ⟨aq5, lq5, pq5, rfl, hgw, Hq5⟩; (first | (obtain ⟨gf, rfl⟩ := grows_of_grow hgw) | (obtain ⟨gf, rfl⟩ := hgw)); (try simp only [grow_drew] at Hq5))
          | (go_at_call 20; (with_reducible refine Calls.mono (ref05_Same t aq5 aq4 lq5 pq5 lq4 pq4 D _ ?_ ?_) ?_); (exact Lib.hid (BufAt.grows Hq5.out.1 (by assumption))); (exact Lib.hid (BufAt.grows Hq4.out.1 (by repeat (first | exact Grows.refl _ | apply Grows.grow | apply Grows.alloc | apply Grows.drew)))); rintro e w' ⟨rfl, hgw⟩; first | (obtain ⟨gi, rfl⟩ := grows_of_grow hgw) | (obtain ⟨gi, rfl⟩ := hgw)))
        go_wp2
        go_ret
        exact ⟨rfl, GW3.out.trans (by repeat (first | exact Grows.refl _ | apply Grows.grow | apply Grows.alloc | apply Grows.drew))⟩
end Go.Proofs.Yticeoppldlhehaa
