/- The walk of chapter 9's law MorphCloses. -/
import Derived.Test.YtbpcpndiohlchaaLaw09T
namespace Go.Proofs.Ytbpcpndiohlchaa
open Go.RowKit
set_option linter.unusedVariables false

theorem Blk.chan {W : World} {n : Nat} {t : TypeId} {p : P4} (h : Blk W n t #[.int .u8 p.r, .int .u8 p.g, .int .u8 p.b, .int .u8 p.a]) {c : Nat} (hc : c < 4) : W.cell? ⟨n, c, none⟩ = some (.int .u8 (chan p c)) := by
  rw [h.cell]
  match c, hc with
  | 0, _ => rfl
  | 1, _ => rfl
  | 2, _ => rfl
  | 3, _ => rfl

set_option maxRecDepth 100000 in
set_option maxHeartbeats 25600000 in
theorem morphCloses_walk (r1 : R) (a1 : Option Addr) (l1 p1 : Nat) (f1 : Nat → P4) (s : R) (rx ry : Int) (w : World)
    (hb1 : IsPix w a1 l1 p1 f1) (hx : -9223372036854775808 ≤ rx ∧ rx ≤ 9223372036854775807) (hy : -9223372036854775808 ≤ ry ∧ ry ≤ 9223372036854775807) :
    Calls Try.prog 6 #[.agg #[.int .i64 r1.x0, .int .i64 r1.y0, .int .i64 r1.x1, .int .i64 r1.y1, .slice a1 l1 p1], .agg #[.int .i64 s.x0, .int .i64 s.y0, .int .i64 s.x1, .int .i64 s.y1], .int .i64 rx, .int .i64 ry] w fun e w' => e = .returned (.bool true) ∧ Grows w w' := by
  have m1 := hb1.le
  have m1' := hb1.most
  have h1 := Lib.hid hb1
  clear hb1
  by_cases c1 : fine09 l1 r1 s rx ry = false
  · have C1 := Lib.hid c1
    clear c1
    go_enter Try.func6, Try.ntmps6
    go_wp2_with ((first | (go_at_call 9; refine (awake09 _ ).mono ?_; rintro e w' ⟨rfl, hgw⟩; first | (obtain ⟨gw, rfl⟩ := grows_of_grow hgw) | (obtain ⟨gw, rfl⟩ := hgw)) | (go_at_call 10; (with_reducible refine (law09_fineIs _ _ _ _ _ _ _ _ _ (by omega) (by omega) C1).mono ?_); rintro e w' ⟨rfl, hgw⟩; first | (obtain ⟨gw, rfl⟩ := grows_of_grow hgw) | (obtain ⟨gw, rfl⟩ := hgw))))
    go_ret
    exact ⟨rfl, (by repeat (first | exact Grows.refl _ | apply Grows.grow | apply Grows.alloc | apply Grows.drew))⟩
  have C1 := Lib.hid (bool_yes c1)
  obtain ⟨k1, g1, n1, k2, hrx, hry, hsm, hrs, k3, k4⟩ := fine09_yes C1.out
  obtain ⟨F, hF⟩ : ∃ F, F = imgOf r1 f1 := ⟨_, rfl⟩
  have X1 : Hid (BufAt w r1 a1 l1 p1 F) := by rw [hF]; exact bufAt_of g1 n1 h1.out
  have FOK : Hid (∀ u v, okP (F u v)) := X1.out.fits.ok
  have hmr := fine09_more C1.out
  obtain ⟨w1, w2, w3, -⟩ := wide_facts hsm hrx hry (n := 600) (by omega) (by omega) (q := ry) (by omega)
  have hgw := good_grow s rx ry rx ry
  have hgs := hgw.some_eq
  rw [hgs] at w3
  have HGr : Hid (∀ w, Calls Try.prog 18 #[.agg #[.int .i64 s.x0, .int .i64 s.y0, .int .i64 s.x1, .int .i64 s.y1], .int .i64 rx, .int .i64 ry, .int .i64 rx, .int .i64 ry] w fun e w' => e = .returned (.agg #[.int .i64 (growR s rx ry rx ry).x0, .int .i64 (growR s rx ry rx ry).y0, .int .i64 (growR s rx ry rx ry).x1, .int .i64 (growR s rx ry rx ry).y1]) ∧ Grows w w') := fun w => ref03_growR s rx ry rx ry w hrs (by omega) (by omega) (by omega) (by omega)
  have H1 : Hid (∀ W, Grows w W → Calls Try.prog 14 #[.agg #[.int .i64 r1.x0, .int .i64 r1.y0, .int .i64 r1.x1, .int .i64 r1.y1, .slice a1 l1 p1], .agg #[.int .i64 (growR s rx ry rx ry).x0, .int .i64 (growR s rx ry rx ry).y0, .int .i64 (growR s rx ry rx ry).x1, .int .i64 (growR s rx ry rx ry).y1], .int .i64 rx, .int .i64 ry] W (RetBuf W (growR s rx ry rx ry) (boxM true (growR s rx ry rx ry) rx ry F))) := fun W g => by
    have := morph_MostI (growR s rx ry rx ry) r1 a1 l1 p1 F rx ry W (X1.out.grows g) (by omega) w1 (by omega) (by rw [hgs]; omega) (by omega) (by omega) (by omega) (by omega)
    rwa [hgs] at this
  have H3 : Hid (∀ W, Grows w W → Calls Try.prog 12 #[.agg #[.int .i64 r1.x0, .int .i64 r1.y0, .int .i64 r1.x1, .int .i64 r1.y1, .slice a1 l1 p1], .agg #[.int .i64 (growR s rx ry rx ry).x0, .int .i64 (growR s rx ry rx ry).y0, .int .i64 (growR s rx ry rx ry).x1, .int .i64 (growR s rx ry rx ry).y1], .int .i64 rx, .int .i64 ry] W (RetBuf W (growR s rx ry rx ry) (boxM false (growR s rx ry rx ry) rx ry F))) := fun W g => by
    have := morph_LeastI (growR s rx ry rx ry) r1 a1 l1 p1 F rx ry W (X1.out.grows g) (by omega) w1 (by omega) (by rw [hgs]; omega) (by omega) (by omega) (by omega) (by omega)
    rwa [hgs] at this
  have HEQ : Hid (∀ u v c, (s.x0 ≤ u ∧ u < s.x1 ∧ s.y0 ≤ v ∧ v < s.y1) → chan (F u v) c ≤ chan (boxM false s rx ry (boxM true (growR s rx ry rx ry) rx ry F) u v) c ∧ chan (boxM true s rx ry (boxM false (growR s rx ry rx ry) rx ry F) u v) c ≤ chan (F u v) c) := fun u v c hin => by
    rw [boxM_back hsm hrx hry false true ((hasR_iff _ _ _).2 (by omega)), boxM_back hsm hrx hry true false ((hasR_iff _ _ _).2 (by omega))]
    exact around_closes FOK.out u v hrx.1 hry.1 c
  obtain ⟨M1, hM1⟩ : ∃ B, B = boxM true (growR s rx ry rx ry) rx ry F := ⟨_, rfl⟩
  obtain ⟨M2, hM2⟩ : ∃ B, B = boxM false (growR s rx ry rx ry) rx ry F := ⟨_, rfl⟩
  rw [← hM1] at H1 HEQ
  rw [← hM2] at H3 HEQ
  have H2 : Hid (∀ W aq lq pq, Hid (BufAt W (growR s rx ry rx ry) aq lq pq M1) → Calls Try.prog 12 #[.agg #[.int .i64 (growR s rx ry rx ry).x0, .int .i64 (growR s rx ry rx ry).y0, .int .i64 (growR s rx ry rx ry).x1, .int .i64 (growR s rx ry rx ry).y1, .slice aq lq pq], .agg #[.int .i64 s.x0, .int .i64 s.y0, .int .i64 s.x1, .int .i64 s.y1], .int .i64 rx, .int .i64 ry] W (RetBuf W (someR s) (boxM false s rx ry M1))) := fun W aq lq pq h => morph_LeastI s _ aq lq pq M1 rx ry W h (by omega) hrs (by omega) (by omega) (by omega) (by omega) (by omega) (by omega)
  have H4 : Hid (∀ W aq lq pq, Hid (BufAt W (growR s rx ry rx ry) aq lq pq M2) → Calls Try.prog 14 #[.agg #[.int .i64 (growR s rx ry rx ry).x0, .int .i64 (growR s rx ry rx ry).y0, .int .i64 (growR s rx ry rx ry).x1, .int .i64 (growR s rx ry rx ry).y1, .slice aq lq pq], .agg #[.int .i64 s.x0, .int .i64 s.y0, .int .i64 s.x1, .int .i64 s.y1], .int .i64 rx, .int .i64 ry] W (RetBuf W (someR s) (boxM true s rx ry M2))) := fun W aq lq pq h => morph_MostI s _ aq lq pq M2 rx ry W h (by omega) hrs (by omega) (by omega) (by omega) (by omega) (by omega) (by omega)
  have sb := (rightR_iff s).1 hrs
  obtain ⟨B, hB⟩ : ∃ B, B = boxM false s rx ry M1 := ⟨_, rfl⟩
  obtain ⟨D, hD⟩ : ∃ B, B = boxM true s rx ry M2 := ⟨_, rfl⟩
  obtain ⟨t, ht⟩ : ∃ t, t = someR s := ⟨_, rfl⟩
  rw [← hB] at H2 HEQ
  rw [← hD] at H4 HEQ
  rw [← ht] at H2 H4 k4
  obtain ⟨g, hg⟩ : ∃ g, g = growR s rx ry rx ry := ⟨_, rfl⟩
  rw [← hg] at HGr H1 H2 H3 H4
  clear c1 g1 n1 hF hM1 hM2 hB hD ht hg hsm hrs k3 h1 hgw hgs w1 w2 w3 hmr
  go_enter Try.func6, Try.ntmps6
  go_wp2_with (first | (first | (go_at_call 9; refine (awake09 _ ).mono ?_; rintro e w' ⟨rfl, hgw⟩; first | (obtain ⟨gw, rfl⟩ := grows_of_grow hgw) | (obtain ⟨gw, rfl⟩ := hgw)) | (go_at_call 10; (with_reducible refine (law09_fineIs _ _ _ _ _ _ _ _ _ (by omega) (by omega) C1).mono ?_); rintro e w' ⟨rfl, hgw⟩; first | (obtain ⟨gw, rfl⟩ := grows_of_grow hgw) | (obtain ⟨gw, rfl⟩ := hgw))) | (go_at_call 18; refine (HGr.out _).mono ?_; rintro e w' ⟨rfl, hgw⟩; first | (obtain ⟨gw, rfl⟩ := grows_of_grow hgw) | (obtain ⟨gw, rfl⟩ := hgw)))
  rename_i K4 hK4
  have TAIL4 : ∀ (nd : Nat) (W0 : World) (aq2 : Option Addr) (lq2 pq2 : Nat) (u8 u11 u12 u13 u14 u15 u16 u17 u18 u19 u20 u21 u22 u23 u24 u25 u26 u27 u28 u29 u30 u31 u32 u33 u34 u35 u36 u37 u38 u39 u40 u41 u42 u43 u44 u45 u46 u47 u48 u49 u50 u51 u52 u53 u54 u55 u56 u57 u58 u59 u60 u61 u62 u63 u64 u65 u66 u67 u68 u69 u70 u71 u72 u73 u74 u75 u76 u77 u78 u79 u80 u81 u82 u83 u84 u85 u86 u87 u88 u89 u90 u91 u92 u93 u94 u95 u96 : Value), Hid (Grows w W0) → Hid (Blk W0 w.heap.size 26 #[.int .i64 r1.x0, .int .i64 r1.y0, .int .i64 r1.x1, .int .i64 r1.y1, .slice a1 l1 p1]) → Hid (Blk W0 (w.heap.size + 1) 23 #[.int .i64 s.x0, .int .i64 s.y0, .int .i64 s.x1, .int .i64 s.y1]) → Hid (Blk W0 (w.heap.size + 1 + 1 + gw.news.size) 23 #[.int .i64 g.x0, .int .i64 g.y0, .int .i64 g.x1, .int .i64 g.y1]) → Hid (Blk W0 nd 26 #[.int .i64 t.x0, .int .i64 t.y0, .int .i64 t.x1, .int .i64 t.y1, .slice aq2 lq2 pq2]) → Hid (BufAt W0 t aq2 lq2 pq2 B) → K4 { tmps := #[.agg #[.int .i64 r1.x0, .int .i64 r1.y0, .int .i64 r1.x1, .int .i64 r1.y1, .slice a1 l1 p1], .agg #[.int .i64 s.x0, .int .i64 s.y0, .int .i64 s.x1, .int .i64 s.y1], .int .i64 rx, .int .i64 ry, .pointer (some ⟨w.heap.size, 0, none⟩), .pointer (some ⟨w.heap.size + 1, 0, none⟩), undef, undef, u8, .pointer (some ⟨w.heap.size + 1 + 1 + gw.news.size, 0, none⟩), .pointer (some ⟨nd, 0, none⟩), u11, u12, u13, u14, u15, u16, u17, u18, u19, u20, u21, u22, u23, u24, u25, u26, u27, u28, u29, u30, u31, u32, u33, u34, u35, u36, u37, u38, u39, u40, u41, u42, u43, u44, u45, u46, u47, u48, u49, u50, u51, u52, u53, u54, u55, u56, u57, u58, u59, u60, u61, u62, u63, u64, u65, u66, u67, u68, u69, u70, u71, u72, u73, u74, u75, u76, u77, u78, u79, u80, u81, u82, u83, u84, u85, u86, u87, u88, u89, u90, u91, u92, u93, u94, u95, u96], defers := [] } W0 := by
    intro nd W0 aq2 lq2 pq2 u8 u11 u12 u13 u14 u15 u16 u17 u18 u19 u20 u21 u22 u23 u24 u25 u26 u27 u28 u29 u30 u31 u32 u33 u34 u35 u36 u37 u38 u39 u40 u41 u42 u43 u44 u45 u46 u47 u48 u49 u50 u51 u52 u53 u54 u55 u56 u57 u58 u59 u60 u61 u62 u63 u64 u65 u66 u67 u68 u69 u70 u71 u72 u73 u74 u75 u76 u77 u78 u79 u80 u81 u82 u83 u84 u85 u86 u87 u88 u89 u90 u91 u92 u93 u94 u95 u96 GW D0 D1 D2 D3 YC
    refine hK4 _ _ ?_
    clear hK4 H1 H2
    obtain ⟨ng, hng⟩ : ∃ n, n = w.heap.size + 1 + 1 + gw.news.size := ⟨_, rfl⟩
    rw [← hng] at D2 ⊢
    clear hng
    obtain ⟨b0, b1, b2, b3, b4, bf⟩ := D0.out.c5
    obtain ⟨s0, s1, s2, s3, sf⟩ := D1.out.c4
    obtain ⟨c0, c1, c2, c3, cf⟩ := D2.out.c4
    have l0 := D0.out.lt
    have l1' := D1.out.lt
    have l2 := D2.out.lt
    go_wp2
    rename_i K hK
    have TAIL : ∀ (ne : Nat) (W1 : World) (aq4 : Option Addr) (lq4 pq4 : Nat) (u8 u12 u13 u14 u15 u16 u17 u18 u19 u20 u21 u22 u23 u24 u25 u26 u27 u28 u29 u30 u31 u32 u33 u34 u35 u36 u37 u38 u39 u40 u41 u42 u43 u44 u45 u46 u47 u48 u49 u50 u51 u52 u53 u54 u55 u56 u57 u58 u59 u60 u61 u62 u63 u64 u65 u66 u67 u68 u69 u70 u71 u72 u73 u74 u75 u76 u77 u78 u79 u80 u81 u82 u83 u84 u85 u86 u87 u88 u89 u90 u91 u92 u93 u94 u95 u96 : Value), Hid (Grows W0 W1) → Hid (Blk W1 ne 26 #[.int .i64 t.x0, .int .i64 t.y0, .int .i64 t.x1, .int .i64 t.y1, .slice aq4 lq4 pq4]) → Hid (BufAt W1 t aq4 lq4 pq4 D) → K { tmps := #[.agg #[.int .i64 r1.x0, .int .i64 r1.y0, .int .i64 r1.x1, .int .i64 r1.y1, .slice a1 l1 p1], .agg #[.int .i64 s.x0, .int .i64 s.y0, .int .i64 s.x1, .int .i64 s.y1], .int .i64 rx, .int .i64 ry, .pointer (some ⟨w.heap.size, 0, none⟩), .pointer (some ⟨w.heap.size + 1, 0, none⟩), undef, undef, u8, .pointer (some ⟨ng, 0, none⟩), .pointer (some ⟨nd, 0, none⟩), .pointer (some ⟨ne, 0, none⟩), u12, u13, u14, u15, u16, u17, u18, u19, u20, u21, u22, u23, u24, u25, u26, u27, u28, u29, u30, u31, u32, u33, u34, u35, u36, u37, u38, u39, u40, u41, u42, u43, u44, u45, u46, u47, u48, u49, u50, u51, u52, u53, u54, u55, u56, u57, u58, u59, u60, u61, u62, u63, u64, u65, u66, u67, u68, u69, u70, u71, u72, u73, u74, u75, u76, u77, u78, u79, u80, u81, u82, u83, u84, u85, u86, u87, u88, u89, u90, u91, u92, u93, u94, u95, u96], defers := [] } W1 := by
      intro ne W1 aq4 lq4 pq4 u8 u12 u13 u14 u15 u16 u17 u18 u19 u20 u21 u22 u23 u24 u25 u26 u27 u28 u29 u30 u31 u32 u33 u34 u35 u36 u37 u38 u39 u40 u41 u42 u43 u44 u45 u46 u47 u48 u49 u50 u51 u52 u53 u54 u55 u56 u57 u58 u59 u60 u61 u62 u63 u64 u65 u66 u67 u68 u69 u70 u71 u72 u73 u74 u75 u76 u77 u78 u79 u80 u81 u82 u83 u84 u85 u86 u87 u88 u89 u90 u91 u92 u93 u94 u95 u96 G0 E4 Z2
      refine hK _ _ ?_
      have E0 : Hid (Blk W1 w.heap.size 26 #[.int .i64 r1.x0, .int .i64 r1.y0, .int .i64 r1.x1, .int .i64 r1.y1, .slice a1 l1 p1]) := D0.out.grows G0.out
      have E1 : Hid (Blk W1 (w.heap.size + 1) 23 #[.int .i64 s.x0, .int .i64 s.y0, .int .i64 s.x1, .int .i64 s.y1]) := D1.out.grows G0.out
      have E3 : Hid (Blk W1 nd 26 #[.int .i64 t.x0, .int .i64 t.y0, .int .i64 t.x1, .int .i64 t.y1, .slice aq2 lq2 pq2]) := D3.out.grows G0.out
      have Z1 : Hid (BufAt W1 t aq2 lq2 pq2 B) := YC.out.grows G0.out
      have GW1 : Hid (Grows w W1) := GW.out.trans G0.out
      have X2 : Hid (BufAt W1 r1 a1 l1 p1 F) := X1.out.grows GW1.out
      clear G0 hK b0 b1 b2 b3 b4 bf s0 s1 s2 s3 sf l0 l1'
      obtain ⟨b0, b1, b2, b3, b4, bf⟩ := E0.out.c5
      obtain ⟨s0, s1, s2, s3, sf⟩ := E1.out.c4
      have l0 := E0.out.lt
      have l1' := E1.out.lt
      clear D0 D1 D2 D3 YC H3 H4 c0 c1 c2 c3 cf l2 GW
      go_wp2
      clear b0 b1 b2 b3 b4 bf s0 s1 s2 s3 sf l0 l1'
      go_loopw [12] (fun y wr => ∃ v : Int, s.y0 ≤ v ∧ v ≤ 4398046511104 ∧ y = .int .i64 v ∧ Hid (Grows W1 wr)) (fun y _ => (s.y1 - intOf y).toNat)
      case atStart => exact ⟨_, by omega, by omega, rfl, Grows.refl _⟩
      case round =>
        obtain ⟨v, hv1, hv2, rfl, hh⟩ := hrel
        have d1 := E1.out.grows hh.out
        obtain ⟨s0, s1, s2, s3, sf⟩ := d1.c4
        have ls := d1.lt
        clear d1
        by_cases hlt : v < s.y1
        · go_wp2
          clear s0 s1 s2 s3 sf ls
          obtain ⟨wo, hwo⟩ : ∃ wo : World, wo = wr := ⟨_, rfl⟩
          clear hwo
          go_loopw [13] (fun x wr => ∃ u : Int, s.x0 ≤ u ∧ u ≤ 4398046511104 ∧ x = .int .i64 u ∧ Hid (Grows W1 wr)) (fun x _ => (s.x1 - intOf x).toNat)
          case atStart => exact ⟨_, by omega, by omega, rfl, hh.out⟩
          case round =>
            clear hh
            obtain ⟨u, hu1, hu2, rfl, hh⟩ := hrel
            have d1 := E1.out.grows hh.out
            obtain ⟨s0, s1, s2, s3, sf⟩ := d1.c4
            have ls := d1.lt
            clear d1
            by_cases hltx : u < s.x1
            · have d0 := E0.out.grows hh.out
              obtain ⟨b0, b1, b2, b3, b4, bf⟩ := d0.c5
              have l0 := d0.lt
              clear d0
              have HEV : Hid (∀ c, chan (F u v) c ≤ chan (B u v) c ∧ chan (D u v) c ≤ chan (F u v) c) := fun c => HEQ.out u v c (by omega)
              obtain ⟨q, hq⟩ : ∃ q, q = F u v := ⟨_, rfl⟩
              obtain ⟨qb, hqb⟩ : ∃ q, q = B u v := ⟨_, rfl⟩
              obtain ⟨qd, hqd⟩ : ∃ q, q = D u v := ⟨_, rfl⟩
              rw [← hq, ← hqb, ← hqd] at HEV
              have HQ0 : Hid (F u v = q) := hq.symm
              have HQa : Hid (B u v = qb) := hqb.symm
              have HQb : Hid (D u v = qd) := hqd.symm
              have HX := Lib.hid (X2.out.grows hh.out)
              clear hq hqb hqd
              go_wp2_with (go_at_call 15; (with_reducible refine (ref05_AtIs _ _ _ _ _ _ _ _ q HX (by omega) HQ0).mono ?_); rintro e w' ⟨rfl, hgw⟩; first | (obtain ⟨gw, rfl⟩ := grows_of_grow hgw) | (obtain ⟨gw, rfl⟩ := hgw))
              refine wp_name ?_
              intro W2 hW2
              have GW2 : Hid (Grows W1 W2) := by rw [hW2]; exact hh.out.trans (by repeat (first | exact Grows.refl _ | apply Grows.grow | apply Grows.alloc | apply Grows.drew))
              have PB : Hid (Blk W2 (wr.heap.size + gw.news.size) 33 #[.int .u8 q.r, .int .u8 q.g, .int .u8 q.b, .int .u8 q.a]) := by rw [hW2]; exact (by unfold Blk; repeat (first | exact blk_at _ _ _ (by first | omega | (simp; done) | (simp; omega)) | refine (blk_past _ _ _ (by first | omega | (simp; done) | (simp; omega))).trans ?_ | refine (heap_grow _ _ _ (by first | omega | (simp; done) | (simp; omega))).trans ?_ | refine (blk_drew _ _).trans ?_))
              obtain ⟨np, hnp⟩ : ∃ n, n = wr.heap.size + gw.news.size := ⟨_, rfl⟩
              rw [← hnp] at PB ⊢
              clear hW2 hnp hh b0 b1 b2 b3 b4 bf l0 s0 s1 s2 s3 sf ls HX HQ0
              obtain ⟨wo, hwo⟩ : ∃ wo : World, wo = wr := ⟨_, rfl⟩
              clear hwo
              go_loopw [15] (fun z wr => ∃ c : Nat, c ≤ 4 ∧ z = .int .i64 c ∧ Hid (Grows W2 wr)) (fun z _ => 4 - (intOf z).toNat)
              case atStart => exact ⟨0, by omega, rfl, Grows.refl _⟩
              case round =>
                obtain ⟨c, hc, rfl, h3⟩ := hrel
                have hc5 : c = 0 ∨ c = 1 ∨ c = 2 ∨ c = 3 ∨ c = 4 := by omega
                rcases hc5 with rfl | rfl | rfl | rfl | rfl
                · have G3 := GW2.out.trans h3.out
                  have d3 := E3.out.grows G3
                  obtain ⟨x0, x1, x2, x3, x4, xf⟩ := d3.c5
                  have lx := d3.lt
                  have d4 := E4.out.grows G3
                  obtain ⟨y0, y1, y2, y3, y4, yf⟩ := d4.c5
                  have ly := d4.lt
                  have dp := PB.out.grows h3.out
                  obtain ⟨z0, z1, z2, z3, zf⟩ := dp.c4
                  have lp := dp.lt
                  have n1 : decide (qb.r < q.r) = false := by have := (HEV.out 0).1; simp only [chan] at this; simp at this; exact decide_eq_false (by omega)
                  have n2 : decide (q.r < qd.r) = false := by have := (HEV.out 0).2; simp only [chan] at this; simp at this; exact decide_eq_false (by omega)
                  have Y1 := Lib.hid (Z1.out.grows G3)
                  have Y2 := Lib.hid (Z2.out.grows G3)
                  clear d3 d4 dp G3
                  go_wp2
                  first | refine region_grow2 (by kernel_rfl) (by kernel_rfl) ?_ | refine region_grow (by kernel_rfl) (by kernel_rfl) ?_
                  repeat (go_big_quiet_step ((first | (go_at_call 15; exact grow_of (ref05_AtIs _ _ _ _ _ _ _ _ _ (Lib.hid (BufAt.grows Y1.out (by repeat (first | exact Grows.refl _ | apply Grows.grow | apply Grows.alloc | apply Grows.drew)))) (by omega) HQa)) | (go_at_call 15; exact grow_of (ref05_AtIs _ _ _ _ _ _ _ _ _ (Lib.hid (BufAt.grows Y2.out (by repeat (first | exact Grows.refl _ | apply Grows.grow | apply Grows.alloc | apply Grows.drew)))) (by omega) HQb)))))
                  refine wpQuiet_nil ?_
                  rintro _ ⟨gr, rfl⟩
                  go_wp2
                  go_roundw
                  case rel => exact ⟨0 + 1, by omega, by go_num, h3.out.trans (by repeat (first | exact Grows.refl _ | apply Grows.grow | apply Grows.alloc | apply Grows.drew))⟩
                  case measure => simp [intOf]
                · have G3 := GW2.out.trans h3.out
                  have d3 := E3.out.grows G3
                  obtain ⟨x0, x1, x2, x3, x4, xf⟩ := d3.c5
                  have lx := d3.lt
                  have d4 := E4.out.grows G3
                  obtain ⟨y0, y1, y2, y3, y4, yf⟩ := d4.c5
                  have ly := d4.lt
                  have dp := PB.out.grows h3.out
                  obtain ⟨z0, z1, z2, z3, zf⟩ := dp.c4
                  have lp := dp.lt
                  have n1 : decide (qb.g < q.g) = false := by have := (HEV.out 1).1; simp only [chan] at this; simp at this; exact decide_eq_false (by omega)
                  have n2 : decide (q.g < qd.g) = false := by have := (HEV.out 1).2; simp only [chan] at this; simp at this; exact decide_eq_false (by omega)
                  have Y1 := Lib.hid (Z1.out.grows G3)
                  have Y2 := Lib.hid (Z2.out.grows G3)
                  clear d3 d4 dp G3
                  go_wp2
                  first | refine region_grow2 (by kernel_rfl) (by kernel_rfl) ?_ | refine region_grow (by kernel_rfl) (by kernel_rfl) ?_
                  repeat (go_big_quiet_step ((first | (go_at_call 15; exact grow_of (ref05_AtIs _ _ _ _ _ _ _ _ _ (Lib.hid (BufAt.grows Y1.out (by repeat (first | exact Grows.refl _ | apply Grows.grow | apply Grows.alloc | apply Grows.drew)))) (by omega) HQa)) | (go_at_call 15; exact grow_of (ref05_AtIs _ _ _ _ _ _ _ _ _ (Lib.hid (BufAt.grows Y2.out (by repeat (first | exact Grows.refl _ | apply Grows.grow | apply Grows.alloc | apply Grows.drew)))) (by omega) HQb)))))
                  refine wpQuiet_nil ?_
                  rintro _ ⟨gr, rfl⟩
                  go_wp2
                  go_roundw
                  case rel => exact ⟨1 + 1, by omega, by go_num, h3.out.trans (by repeat (first | exact Grows.refl _ | apply Grows.grow | apply Grows.alloc | apply Grows.drew))⟩
                  case measure => simp [intOf]
                · have G3 := GW2.out.trans h3.out
                  have d3 := E3.out.grows G3
                  obtain ⟨x0, x1, x2, x3, x4, xf⟩ := d3.c5
                  have lx := d3.lt
                  have d4 := E4.out.grows G3
                  obtain ⟨y0, y1, y2, y3, y4, yf⟩ := d4.c5
                  have ly := d4.lt
                  have dp := PB.out.grows h3.out
                  obtain ⟨z0, z1, z2, z3, zf⟩ := dp.c4
                  have lp := dp.lt
                  have n1 : decide (qb.b < q.b) = false := by have := (HEV.out 2).1; simp only [chan] at this; simp at this; exact decide_eq_false (by omega)
                  have n2 : decide (q.b < qd.b) = false := by have := (HEV.out 2).2; simp only [chan] at this; simp at this; exact decide_eq_false (by omega)
                  have Y1 := Lib.hid (Z1.out.grows G3)
                  have Y2 := Lib.hid (Z2.out.grows G3)
                  clear d3 d4 dp G3
                  go_wp2
                  first | refine region_grow2 (by kernel_rfl) (by kernel_rfl) ?_ | refine region_grow (by kernel_rfl) (by kernel_rfl) ?_
                  repeat (go_big_quiet_step ((first | (go_at_call 15; exact grow_of (ref05_AtIs _ _ _ _ _ _ _ _ _ (Lib.hid (BufAt.grows Y1.out (by repeat (first | exact Grows.refl _ | apply Grows.grow | apply Grows.alloc | apply Grows.drew)))) (by omega) HQa)) | (go_at_call 15; exact grow_of (ref05_AtIs _ _ _ _ _ _ _ _ _ (Lib.hid (BufAt.grows Y2.out (by repeat (first | exact Grows.refl _ | apply Grows.grow | apply Grows.alloc | apply Grows.drew)))) (by omega) HQb)))))
                  refine wpQuiet_nil ?_
                  rintro _ ⟨gr, rfl⟩
                  go_wp2
                  go_roundw
                  case rel => exact ⟨2 + 1, by omega, by go_num, h3.out.trans (by repeat (first | exact Grows.refl _ | apply Grows.grow | apply Grows.alloc | apply Grows.drew))⟩
                  case measure => simp [intOf]
                · have G3 := GW2.out.trans h3.out
                  have d3 := E3.out.grows G3
                  obtain ⟨x0, x1, x2, x3, x4, xf⟩ := d3.c5
                  have lx := d3.lt
                  have d4 := E4.out.grows G3
                  obtain ⟨y0, y1, y2, y3, y4, yf⟩ := d4.c5
                  have ly := d4.lt
                  have dp := PB.out.grows h3.out
                  obtain ⟨z0, z1, z2, z3, zf⟩ := dp.c4
                  have lp := dp.lt
                  have n1 : decide (qb.a < q.a) = false := by have := (HEV.out 3).1; simp only [chan] at this; simp at this; exact decide_eq_false (by omega)
                  have n2 : decide (q.a < qd.a) = false := by have := (HEV.out 3).2; simp only [chan] at this; simp at this; exact decide_eq_false (by omega)
                  have Y1 := Lib.hid (Z1.out.grows G3)
                  have Y2 := Lib.hid (Z2.out.grows G3)
                  clear d3 d4 dp G3
                  go_wp2
                  first | refine region_grow2 (by kernel_rfl) (by kernel_rfl) ?_ | refine region_grow (by kernel_rfl) (by kernel_rfl) ?_
                  repeat (go_big_quiet_step ((first | (go_at_call 15; exact grow_of (ref05_AtIs _ _ _ _ _ _ _ _ _ (Lib.hid (BufAt.grows Y1.out (by repeat (first | exact Grows.refl _ | apply Grows.grow | apply Grows.alloc | apply Grows.drew)))) (by omega) HQa)) | (go_at_call 15; exact grow_of (ref05_AtIs _ _ _ _ _ _ _ _ _ (Lib.hid (BufAt.grows Y2.out (by repeat (first | exact Grows.refl _ | apply Grows.grow | apply Grows.alloc | apply Grows.drew)))) (by omega) HQb)))))
                  refine wpQuiet_nil ?_
                  rintro _ ⟨gr, rfl⟩
                  go_wp2
                  go_roundw
                  case rel => exact ⟨3 + 1, by omega, by go_num, h3.out.trans (by repeat (first | exact Grows.refl _ | apply Grows.grow | apply Grows.alloc | apply Grows.drew))⟩
                  case measure => simp [intOf]
                · go_wp2
                  go_roundw
                  case rel => exact ⟨u + 1, by omega, by omega, by go_num, (GW2.out.trans h3.out).trans (by repeat (first | exact Grows.refl _ | apply Grows.grow | apply Grows.alloc | apply Grows.drew))⟩
                  case measure => simp [intOf]; omega
            · go_wp2
              go_roundw
              case rel => exact ⟨v + 1, by omega, by omega, by go_num, hh.out⟩
              case measure => simp [intOf]; omega
        · go_wp2
          go_ret
          exact ⟨rfl, GW1.out.trans hh.out⟩
    go_region_held3 (fun w' => w'.cell? ⟨w.heap.size, 0, none⟩ = some (.int .i64 r1.x0) ∧ w'.cell? ⟨w.heap.size, 1, none⟩ = some (.int .i64 r1.y0) ∧ w'.cell? ⟨w.heap.size, 2, none⟩ = some (.int .i64 r1.x1) ∧ w'.cell? ⟨w.heap.size, 3, none⟩ = some (.int .i64 r1.y1) ∧ w'.cell? ⟨w.heap.size, 4, none⟩ = some (.slice a1 l1 p1) ∧ w'.cell? ⟨w.heap.size + 1, 0, none⟩ = some (.int .i64 s.x0) ∧ w'.cell? ⟨w.heap.size + 1, 1, none⟩ = some (.int .i64 s.y0) ∧ w'.cell? ⟨w.heap.size + 1, 2, none⟩ = some (.int .i64 s.x1) ∧ w'.cell? ⟨w.heap.size + 1, 3, none⟩ = some (.int .i64 s.y1) ∧ w'.cell? ⟨ng, 0, none⟩ = some (.int .i64 g.x0) ∧ w'.cell? ⟨ng, 1, none⟩ = some (.int .i64 g.y0) ∧ w'.cell? ⟨ng, 2, none⟩ = some (.int .i64 g.x1) ∧ w'.cell? ⟨ng, 3, none⟩ = some (.int .i64 g.y1)) (go_simp) (first
      | (go_at_call 12; (with_reducible refine Calls.mono (H3.out _ ?_) ?_); (exact GW.out.trans (by repeat (first | exact Grows.refl _ | apply Grows.grow | apply Grows.alloc | apply Grows.drew))); rintro e w' ⟨aq3, lq3, pq3, rfl, hgw, Hq3⟩; (first | (obtain ⟨gc, rfl⟩ := grows_of_grow hgw) | (obtain ⟨gc, rfl⟩ := hgw)); (try simp only [grow_drew] at Hq3))
      | (go_at_call 14; (with_reducible refine Calls.mono (H4.out _ aq3 lq3 pq3 ?_) ?_); (exact Lib.hid (BufAt.grows Hq3.out.1 (by repeat (first | exact Grows.refl _ | apply Grows.grow | apply Grows.alloc | apply Grows.drew)))); rintro e w' ⟨aq4, lq4, pq4, rfl, hgw, Hq4⟩; (first | (obtain ⟨gd, rfl⟩ := grows_of_grow hgw) | (obtain ⟨gd, rfl⟩ := hgw)); (try simp only [grow_drew] at Hq4)))
    · exact TAIL (W0.heap.size + gd.news.size) _ aq4 lq4 pq4 _ _ _ _ _ _ _ _ _ _ _ _ _ _ _ _ _ _ _ _ _ _ _ _ _ _ _ _ _ _ _ _ _ _ _ _ _ _ _ _ _ _ _ _ _ _ _ _ _ _ _ _ _ _ _ _ _ _ _ _ _ _ _ _ _ _ _ _ _ _ _ _ _ _ _ _ _ _ _ _ _ _ _ _ _ _ (by show Grows _ _; exact (by repeat (first | exact Grows.refl _ | apply Grows.grow | apply Grows.alloc | apply Grows.drew))) (by show Blk _ _ _ _; exact (by unfold Blk; repeat (first | exact blk_at _ _ _ (by first | omega | (simp; done) | (simp; omega)) | refine (blk_past _ _ _ (by first | omega | (simp; done) | (simp; omega))).trans ?_ | refine (heap_grow _ _ _ (by first | omega | (simp; done) | (simp; omega))).trans ?_ | refine (blk_drew _ _).trans ?_))) (by show BufAt _ _ _ _ _ _; exact Hq4.out.1.grows (by repeat (first | exact Grows.refl _ | apply Grows.grow | apply Grows.alloc | apply Grows.drew)))
    · exact TAIL (W0.heap.size + gc.news.size) _ aq4 lq4 pq4 _ _ _ _ _ _ _ _ _ _ _ _ _ _ _ _ _ _ _ _ _ _ _ _ _ _ _ _ _ _ _ _ _ _ _ _ _ _ _ _ _ _ _ _ _ _ _ _ _ _ _ _ _ _ _ _ _ _ _ _ _ _ _ _ _ _ _ _ _ _ _ _ _ _ _ _ _ _ _ _ _ _ _ _ _ _ (by show Grows _ _; exact (by repeat (first | exact Grows.refl _ | apply Grows.grow | apply Grows.alloc | apply Grows.drew))) (by show Blk _ _ _ _; exact (by unfold Blk; repeat (first | exact blk_at _ _ _ (by first | omega | (simp; done) | (simp; omega)) | refine (blk_past _ _ _ (by first | omega | (simp; done) | (simp; omega))).trans ?_ | refine (heap_grow _ _ _ (by first | omega | (simp; done) | (simp; omega))).trans ?_ | refine (blk_drew _ _).trans ?_))) (by show BufAt _ _ _ _ _ _; exact (swap_ret (B0 := 0) Hq4.out (by simp <;> omega) (by omega)).out.1)
    · exact TAIL (W0.heap.size) _ aq4 lq4 pq4 _ _ _ _ _ _ _ _ _ _ _ _ _ _ _ _ _ _ _ _ _ _ _ _ _ _ _ _ _ _ _ _ _ _ _ _ _ _ _ _ _ _ _ _ _ _ _ _ _ _ _ _ _ _ _ _ _ _ _ _ _ _ _ _ _ _ _ _ _ _ _ _ _ _ _ _ _ _ _ _ _ _ _ _ _ _ (by show Grows _ _; exact (by repeat (first | exact Grows.refl _ | apply Grows.grow | apply Grows.alloc | apply Grows.drew))) (by show Blk _ _ _ _; exact (by unfold Blk; repeat (first | exact blk_at _ _ _ (by first | omega | (simp; done) | (simp; omega)) | refine (blk_past _ _ _ (by first | omega | (simp; done) | (simp; omega))).trans ?_ | refine (heap_grow _ _ _ (by first | omega | (simp; done) | (simp; omega))).trans ?_ | refine (blk_drew _ _).trans ?_))) (by show BufAt _ _ _ _ _ _; exact (swap_ret (B0 := 0) Hq4.out (by simp <;> omega) (by omega)).out.1)
  go_region_held3 (fun w' => w'.cell? ⟨w.heap.size, 0, none⟩ = some (.int .i64 r1.x0) ∧ w'.cell? ⟨w.heap.size, 1, none⟩ = some (.int .i64 r1.y0) ∧ w'.cell? ⟨w.heap.size, 2, none⟩ = some (.int .i64 r1.x1) ∧ w'.cell? ⟨w.heap.size, 3, none⟩ = some (.int .i64 r1.y1) ∧ w'.cell? ⟨w.heap.size, 4, none⟩ = some (.slice a1 l1 p1) ∧ w'.cell? ⟨w.heap.size + 1, 0, none⟩ = some (.int .i64 s.x0) ∧ w'.cell? ⟨w.heap.size + 1, 1, none⟩ = some (.int .i64 s.y0) ∧ w'.cell? ⟨w.heap.size + 1, 2, none⟩ = some (.int .i64 s.x1) ∧ w'.cell? ⟨w.heap.size + 1, 3, none⟩ = some (.int .i64 s.y1) ∧ w'.cell? ⟨w.heap.size + 1 + 1 + gw.news.size, 0, none⟩ = some (.int .i64 g.x0) ∧ w'.cell? ⟨w.heap.size + 1 + 1 + gw.news.size, 1, none⟩ = some (.int .i64 g.y0) ∧ w'.cell? ⟨w.heap.size + 1 + 1 + gw.news.size, 2, none⟩ = some (.int .i64 g.x1) ∧ w'.cell? ⟨w.heap.size + 1 + 1 + gw.news.size, 3, none⟩ = some (.int .i64 g.y1)) (go_simp) (first
    | (go_at_call 14; (with_reducible refine Calls.mono (H1.out _ ?_) ?_); (exact (by repeat (first | exact Grows.refl _ | apply Grows.grow | apply Grows.alloc | apply Grows.drew))); rintro e w' ⟨aq1, lq1, pq1, rfl, hgw, Hq1⟩; (first | (obtain ⟨ga, rfl⟩ := grows_of_grow hgw) | (obtain ⟨ga, rfl⟩ := hgw)); (try simp only [grow_drew] at Hq1))
    | (go_at_call 12; (with_reducible refine Calls.mono (H2.out _ aq1 lq1 pq1 ?_) ?_); (exact Lib.hid (BufAt.grows Hq1.out.1 (by repeat (first | exact Grows.refl _ | apply Grows.grow | apply Grows.alloc | apply Grows.drew)))); rintro e w' ⟨aq2, lq2, pq2, rfl, hgw, Hq2⟩; (first | (obtain ⟨gb, rfl⟩ := grows_of_grow hgw) | (obtain ⟨gb, rfl⟩ := hgw)); (try simp only [grow_drew] at Hq2)))
  · exact TAIL4 (w.heap.size + 1 + 1 + gw.news.size + 1 + gb.news.size) _ aq2 lq2 pq2 _ _ _ _ _ _ _ _ _ _ _ _ _ _ _ _ _ _ _ _ _ _ _ _ _ _ _ _ _ _ _ _ _ _ _ _ _ _ _ _ _ _ _ _ _ _ _ _ _ _ _ _ _ _ _ _ _ _ _ _ _ _ _ _ _ _ _ _ _ _ _ _ _ _ _ _ _ _ _ _ _ _ _ _ _ _ _ (by show Grows _ _; exact (by repeat (first | exact Grows.refl _ | apply Grows.grow | apply Grows.alloc | apply Grows.drew))) (by show Blk _ _ _ _; exact (by unfold Blk; repeat (first | exact blk_at _ _ _ (by first | omega | (simp; done) | (simp; omega)) | refine (blk_past _ _ _ (by first | omega | (simp; done) | (simp; omega))).trans ?_ | refine (heap_grow _ _ _ (by first | omega | (simp; done) | (simp; omega))).trans ?_ | refine (blk_drew _ _).trans ?_))) (by show Blk _ _ _ _; exact (by unfold Blk; repeat (first | exact blk_at _ _ _ (by first | omega | (simp; done) | (simp; omega)) | refine (blk_past _ _ _ (by first | omega | (simp; done) | (simp; omega))).trans ?_ | refine (heap_grow _ _ _ (by first | omega | (simp; done) | (simp; omega))).trans ?_ | refine (blk_drew _ _).trans ?_))) (by show Blk _ _ _ _; exact (by unfold Blk; repeat (first | exact blk_at _ _ _ (by first | omega | (simp; done) | (simp; omega)) | refine (blk_past _ _ _ (by first | omega | (simp; done) | (simp; omega))).trans ?_ | refine (heap_grow _ _ _ (by first | omega | (simp; done) | (simp; omega))).trans ?_ | refine (blk_drew _ _).trans ?_))) (by show Blk _ _ _ _; exact (by unfold Blk; repeat (first | exact blk_at _ _ _ (by first | omega | (simp; done) | (simp; omega)) | refine (blk_past _ _ _ (by first | omega | (simp; done) | (simp; omega))).trans ?_ | refine (heap_grow _ _ _ (by first | omega | (simp; done) | (simp; omega))).trans ?_ | refine (blk_drew _ _).trans ?_))) (by show BufAt _ _ _ _ _ _; exact Hq2.out.1.grows (by repeat (first | exact Grows.refl _ | apply Grows.grow | apply Grows.alloc | apply Grows.drew)))
  · exact TAIL4 (w.heap.size + 1 + 1 + gw.news.size + 1 + ga.news.size) _ aq2 lq2 pq2 _ _ _ _ _ _ _ _ _ _ _ _ _ _ _ _ _ _ _ _ _ _ _ _ _ _ _ _ _ _ _ _ _ _ _ _ _ _ _ _ _ _ _ _ _ _ _ _ _ _ _ _ _ _ _ _ _ _ _ _ _ _ _ _ _ _ _ _ _ _ _ _ _ _ _ _ _ _ _ _ _ _ _ _ _ _ _ (by show Grows _ _; exact (by repeat (first | exact Grows.refl _ | apply Grows.grow | apply Grows.alloc | apply Grows.drew))) (by show Blk _ _ _ _; exact (by unfold Blk; repeat (first | exact blk_at _ _ _ (by first | omega | (simp; done) | (simp; omega)) | refine (blk_past _ _ _ (by first | omega | (simp; done) | (simp; omega))).trans ?_ | refine (heap_grow _ _ _ (by first | omega | (simp; done) | (simp; omega))).trans ?_ | refine (blk_drew _ _).trans ?_))) (by show Blk _ _ _ _; exact (by unfold Blk; repeat (first | exact blk_at _ _ _ (by first | omega | (simp; done) | (simp; omega)) | refine (blk_past _ _ _ (by first | omega | (simp; done) | (simp; omega))).trans ?_ | refine (heap_grow _ _ _ (by first | omega | (simp; done) | (simp; omega))).trans ?_ | refine (blk_drew _ _).trans ?_))) (by show Blk _ _ _ _; exact (by unfold Blk; repeat (first | exact blk_at _ _ _ (by first | omega | (simp; done) | (simp; omega)) | refine (blk_past _ _ _ (by first | omega | (simp; done) | (simp; omega))).trans ?_ | refine (heap_grow _ _ _ (by first | omega | (simp; done) | (simp; omega))).trans ?_ | refine (blk_drew _ _).trans ?_))) (by show Blk _ _ _ _; exact (by unfold Blk; repeat (first | exact blk_at _ _ _ (by first | omega | (simp; done) | (simp; omega)) | refine (blk_past _ _ _ (by first | omega | (simp; done) | (simp; omega))).trans ?_ | refine (heap_grow _ _ _ (by first | omega | (simp; done) | (simp; omega))).trans ?_ | refine (blk_drew _ _).trans ?_))) (by show BufAt _ _ _ _ _ _; exact (swap_ret (B0 := 0) Hq2.out (by simp <;> omega) (by omega)).out.1)
  · exact TAIL4 (w.heap.size + 1 + 1 + gw.news.size + 1) _ aq2 lq2 pq2 _ _ _ _ _ _ _ _ _ _ _ _ _ _ _ _ _ _ _ _ _ _ _ _ _ _ _ _ _ _ _ _ _ _ _ _ _ _ _ _ _ _ _ _ _ _ _ _ _ _ _ _ _ _ _ _ _ _ _ _ _ _ _ _ _ _ _ _ _ _ _ _ _ _ _ _ _ _ _ _ _ _ _ _ _ _ _ (by show Grows _ _; exact (by repeat (first | exact Grows.refl _ | apply Grows.grow | apply Grows.alloc | apply Grows.drew))) (by show Blk _ _ _ _; exact (by unfold Blk; repeat (first | exact blk_at _ _ _ (by first | omega | (simp; done) | (simp; omega)) | refine (blk_past _ _ _ (by first | omega | (simp; done) | (simp; omega))).trans ?_ | refine (heap_grow _ _ _ (by first | omega | (simp; done) | (simp; omega))).trans ?_ | refine (blk_drew _ _).trans ?_))) (by show Blk _ _ _ _; exact (by unfold Blk; repeat (first | exact blk_at _ _ _ (by first | omega | (simp; done) | (simp; omega)) | refine (blk_past _ _ _ (by first | omega | (simp; done) | (simp; omega))).trans ?_ | refine (heap_grow _ _ _ (by first | omega | (simp; done) | (simp; omega))).trans ?_ | refine (blk_drew _ _).trans ?_))) (by show Blk _ _ _ _; exact (by unfold Blk; repeat (first | exact blk_at _ _ _ (by first | omega | (simp; done) | (simp; omega)) | refine (blk_past _ _ _ (by first | omega | (simp; done) | (simp; omega))).trans ?_ | refine (heap_grow _ _ _ (by first | omega | (simp; done) | (simp; omega))).trans ?_ | refine (blk_drew _ _).trans ?_))) (by show Blk _ _ _ _; exact (by unfold Blk; repeat (first | exact blk_at _ _ _ (by first | omega | (simp; done) | (simp; omega)) | refine (blk_past _ _ _ (by first | omega | (simp; done) | (simp; omega))).trans ?_ | refine (heap_grow _ _ _ (by first | omega | (simp; done) | (simp; omega))).trans ?_ | refine (blk_drew _ _).trans ?_))) (by show BufAt _ _ _ _ _ _; exact (swap_ret (B0 := 0) Hq2.out (by simp <;> omega) (by omega)).out.1)
end Go.Proofs.Ytbpcpndiohlchaa
