/- The walk of chapter 9's law MorphKeeps. -/
import Derived.Test.YtbpcpndiohlchaaMorphN
import Derived.Test.YtbpcpndiohlchaaKeepL
import Derived.Test.YtbpcpndiohlchaaRef5S
namespace Go.Proofs.Ytbpcpndiohlchaa
open Go.RowKit
set_option linter.unusedVariables false

theorem own_ne {w : World} {base : Nat} {e : TypeId} {size n : Nat} {a : Option Addr} {c : Nat} {xs : List Value} (h : w.ownsRow base e size (.slice a n c) n xs) {m : Nat} {t : TypeId} {cs : Array Value} (hb : Blk w m t cs) (ht : t ≠ e) : blkOf a ≠ some m := by
  rcases h.2 with ⟨hv, _⟩ | ⟨b, c', cur, hv, _, hg, _⟩
  · injection hv with hv
    subst hv
    intro e; cases e
  · injection hv with hv
    subst hv
    intro e2
    have e3 : b = m := by simpa using e2
    subst e3
    have e4 := hg.symm.trans hb
    injection e4 with e4
    injection e4 with _ e5 _
    exact ht e5.symm
theorem KeepSt.nine {w wr : World} {b off len cap k : Nat} {f : Nat → P4} (h : KeepSt w wr (some ⟨b, off, none⟩) len cap) (hf : IsPix wr (some ⟨b, off, none⟩) len cap f) (hk : k < len) :
    KeepSt w ((((wr.setCell ⟨b, off + k * 4, none⟩ (.int .u8 9)).setCell ⟨b, off + k * 4 + 1, none⟩ (.int .u8 9)).setCell ⟨b, off + k * 4 + 2, none⟩ (.int .u8 9)).setCell ⟨b, off + k * 4 + 3, none⟩ (.int .u8 9)) (some ⟨b, off, none⟩) len cap := by
  have e := h.set hf hk (p := ⟨9, 9, 9, 9⟩) (by simp [okP])
  simp only [pxC, World.setCells, Nat.add_assoc, Nat.reduceAdd] at e ⊢
  exact e
set_option maxRecDepth 100000 in
set_option maxHeartbeats 25600000 in
theorem morphKeeps_walk (r1 : R) (a1 : Option Addr) (l1 p1 : Nat) (f1 : Nat → P4) (s : R) (rx : Int) (w : World)
    (hb1 : IsPix w a1 l1 p1 f1) (hx : -9223372036854775808 ≤ rx ∧ rx ≤ 9223372036854775807) :
    Calls Try.prog 8 #[.agg #[.int .i64 r1.x0, .int .i64 r1.y0, .int .i64 r1.x1, .int .i64 r1.y1, .slice a1 l1 p1], .agg #[.int .i64 s.x0, .int .i64 s.y0, .int .i64 s.x1, .int .i64 s.y1], .int .i64 rx] w fun e w' => e = .returned (.bool true) ∧ Grows w w' := by
  have m1 := hb1.le
  have m1' := hb1.most
  have h1 := Lib.hid hb1
  clear hb1
  by_cases c1 : fine09 l1 r1 s rx 0 = false
  · have C1 := Lib.hid c1
    clear c1
    go_enter Try.func8, Try.ntmps8
    go_wp2_with ((first | (go_at_call 9; refine (awake09 _ ).mono ?_; rintro e w' ⟨rfl, hgw⟩; first | (obtain ⟨gw, rfl⟩ := grows_of_grow hgw) | (obtain ⟨gw, rfl⟩ := hgw)) | (go_at_call 10; (with_reducible refine (law09_fineIs _ _ _ _ _ _ _ _ _ (by omega) (by omega) C1).mono ?_); rintro e w' ⟨rfl, hgw⟩; first | (obtain ⟨gw, rfl⟩ := grows_of_grow hgw) | (obtain ⟨gw, rfl⟩ := hgw))))
    go_ret
    exact ⟨rfl, (by repeat (first | exact Grows.refl _ | apply Grows.grow | apply Grows.alloc | apply Grows.drew))⟩
  have C1 := Lib.hid (bool_yes c1)
  clear c1
  obtain ⟨k1, g1, n1, k2, hrx, -, hsm, hrs, k3, k4⟩ := fine09_yes C1.out
  obtain ⟨F, hF⟩ : ∃ F, F = imgOf r1 f1 := ⟨_, rfl⟩
  have X1 : Hid (BufAt w r1 a1 l1 p1 F) := by rw [hF]; exact bufAt_of g1 n1 h1.out
  have HB1 : Hid (∀ W, Grows w W → Calls Try.prog 14 #[.agg #[.int .i64 r1.x0, .int .i64 r1.y0, .int .i64 r1.x1, .int .i64 r1.y1, .slice a1 l1 p1], .agg #[.int .i64 s.x0, .int .i64 s.y0, .int .i64 s.x1, .int .i64 s.y1], .int .i64 rx, .int .i64 0] W (RetBuf W (someR s) (boxM true s rx 0 F))) := fun W g => morph_MostI s r1 a1 l1 p1 F rx 0 W (X1.out.grows g) (by omega) hrs (by omega) (by omega) (by omega) (by omega) (by omega) (by omega)
  have HB2 : Hid (∀ W, Grows w W → Calls Try.prog 12 #[.agg #[.int .i64 r1.x0, .int .i64 r1.y0, .int .i64 r1.x1, .int .i64 r1.y1, .slice a1 l1 p1], .agg #[.int .i64 s.x0, .int .i64 s.y0, .int .i64 s.x1, .int .i64 s.y1], .int .i64 rx, .int .i64 0] W (RetBuf W (someR s) (boxM false s rx 0 F))) := fun W g => morph_LeastI s r1 a1 l1 p1 F rx 0 W (X1.out.grows g) (by omega) hrs (by omega) (by omega) (by omega) (by omega) (by omega) (by omega)
  have G1 := Lib.hid g1
  have N1 := Lib.hid n1
  obtain ⟨B, hB⟩ : ∃ B, B = boxM true s rx 0 F := ⟨_, rfl⟩
  obtain ⟨t, ht⟩ : ∃ t, t = someR s := ⟨_, rfl⟩
  rw [← hB, ← ht] at HB1
  rw [← ht] at k4 HB2
  clear g1 n1 hF hB ht hsm hrs k3 h1
  go_enter Try.func8, Try.ntmps8
  go_wp2_with ((first | (go_at_call 9; refine (awake09 _ ).mono ?_; rintro e w' ⟨rfl, hgw⟩; first | (obtain ⟨gw, rfl⟩ := grows_of_grow hgw) | (obtain ⟨gw, rfl⟩ := hgw)) | (go_at_call 10; (with_reducible refine (law09_fineIs _ _ _ _ _ _ _ _ _ (by omega) (by omega) C1).mono ?_); rintro e w' ⟨rfl, hgw⟩; first | (obtain ⟨gw, rfl⟩ := grows_of_grow hgw) | (obtain ⟨gw, rfl⟩ := hgw))))
  rename_i K hK
  have TAIL : ∀ (nw : Nat) (W0 : World) (aw : Option Addr) (cw : Nat) (u6 u8 u9 u10 u11 u12 u13 u14 u15 u16 u17 u18 u19 u20 u21 u22 u23 u24 u25 u26 u27 u28 u29 u30 u31 u32 u33 u34 u35 u36 u37 u38 u39 u40 u41 u42 u43 u44 u45 u46 u47 u48 u49 : Value), w.heap.size + 1 < nw → Hid (Grows w W0) → Hid (Blk W0 w.heap.size 26 #[.int .i64 r1.x0, .int .i64 r1.y0, .int .i64 r1.x1, .int .i64 r1.y1, .slice a1 l1 p1]) → Hid (Blk W0 (w.heap.size + 1) 23 #[.int .i64 s.x0, .int .i64 s.y0, .int .i64 s.x1, .int .i64 s.y1]) → Hid (Blk W0 nw 26 #[.int .i64 r1.x0, .int .i64 r1.y0, .int .i64 r1.x1, .int .i64 r1.y1, .slice aw l1 cw]) → Hid (BufAt W0 r1 aw l1 cw F) → Hid (∀ k, blkOf aw = some k → k < W0.heap.size) → K { tmps := #[.agg #[.int .i64 r1.x0, .int .i64 r1.y0, .int .i64 r1.x1, .int .i64 r1.y1, .slice a1 l1 p1], .agg #[.int .i64 s.x0, .int .i64 s.y0, .int .i64 s.x1, .int .i64 s.y1], .int .i64 rx, .pointer (some ⟨w.heap.size, 0, none⟩), .pointer (some ⟨w.heap.size + 1, 0, none⟩), undef, u6, .pointer (some ⟨nw, 0, none⟩), u8, u9, u10, u11, u12, u13, u14, u15, u16, u17, u18, u19, u20, u21, u22, u23, u24, u25, u26, u27, u28, u29, u30, u31, u32, u33, u34, u35, u36, u37, u38, u39, u40, u41, u42, u43, u44, u45, u46, u47, u48, u49], defers := [] } W0 := by
    intro nw W0 aw cw u6 u8 u9 u10 u11 u12 u13 u14 u15 u16 u17 u18 u19 u20 u21 u22 u23 u24 u25 u26 u27 u28 u29 u30 u31 u32 u33 u34 u35 u36 u37 u38 u39 u40 u41 u42 u43 u44 u45 u46 u47 u48 u49 hnw1 GW D0 D1 D2 XB HAW
    refine hK _ _ ?_
    clear hK
    obtain ⟨b0, b1, b2, b3, b4, bf⟩ := D0.out.c5
    have lb := D0.out.lt
    obtain ⟨s0, s1, s2, s3, sf⟩ := D1.out.c4
    have ls := D1.out.lt
    have lw := D2.out.lt
    go_wp2_with (go_at_call 14; (with_reducible refine Calls.mono (HB1.out _ ?_) ?_); (exact GW.out.trans (by repeat (first | exact Grows.refl _ | apply Grows.grow | apply Grows.alloc | apply Grows.drew))); rintro e w' ⟨aq, lq, pq, rfl, hgw, HQ⟩; (first | (obtain ⟨gq, rfl⟩ := grows_of_grow hgw) | (obtain ⟨gq, rfl⟩ := hgw)))
    refine wp_name ?_
    intro W1 hW1
    have E0 : Hid (Blk W1 w.heap.size 26 #[.int .i64 r1.x0, .int .i64 r1.y0, .int .i64 r1.x1, .int .i64 r1.y1, .slice a1 l1 p1]) := by rw [hW1]; exact D0.out.grows (by repeat (first | exact Grows.refl _ | apply Grows.grow | apply Grows.alloc | apply Grows.drew))
    have E1 : Hid (Blk W1 (w.heap.size + 1) 23 #[.int .i64 s.x0, .int .i64 s.y0, .int .i64 s.x1, .int .i64 s.y1]) := by rw [hW1]; exact D1.out.grows (by repeat (first | exact Grows.refl _ | apply Grows.grow | apply Grows.alloc | apply Grows.drew))
    have E2 : Hid (Blk W1 nw 26 #[.int .i64 r1.x0, .int .i64 r1.y0, .int .i64 r1.x1, .int .i64 r1.y1, .slice aw l1 cw]) := by rw [hW1]; exact D2.out.grows (by repeat (first | exact Grows.refl _ | apply Grows.grow | apply Grows.alloc | apply Grows.drew))
    have E3 : Hid (Blk W1 (W0.heap.size + gq.news.size) 26 #[.int .i64 t.x0, .int .i64 t.y0, .int .i64 t.x1, .int .i64 t.y1, .slice aq lq pq]) := by rw [hW1]; exact (by unfold Blk; repeat (first | exact blk_at _ _ _ (by first | omega | (simp; done) | (simp; omega)) | refine (blk_past _ _ _ (by first | omega | (simp; done) | (simp; omega))).trans ?_ | refine (heap_grow _ _ _ (by first | omega | (simp; done) | (simp; omega))).trans ?_ | refine (blk_drew _ _).trans ?_))
    have YW : Hid (BufAt W1 r1 aw l1 cw F) := by rw [hW1]; exact XB.out.grows (by repeat (first | exact Grows.refl _ | apply Grows.grow | apply Grows.alloc | apply Grows.drew))
    have YC : Hid (BufAt W1 t aq lq pq B) := by rw [hW1]; exact HQ.out.1.grows (by repeat (first | exact Grows.refl _ | apply Grows.grow | apply Grows.alloc | apply Grows.drew))
    have YO : Hid (Open W1 aq) := by rw [hW1]; exact HQ.out.2.1.grows (by repeat (first | exact Grows.refl _ | apply Grows.grow | apply Grows.alloc | apply Grows.drew))
    have GW1 : Hid (Grows w W1) := by rw [hW1]; exact GW.out.trans (by repeat (first | exact Grows.refl _ | apply Grows.grow | apply Grows.alloc | apply Grows.drew))
    have HAQ : Hid (∀ k, blkOf aq = some k → W0.heap.size ≤ k ∧ k < W0.heap.size + gq.news.size) := fun k hk => by
      obtain ⟨x, rfl, rfl⟩ := blkOf_some_iff hk
      have q1 := HQ.out.2.2 x rfl
      have q2 := (HQ.out.2.1 x rfl).1
      simp at q2
      omega
    obtain ⟨nc, hnc⟩ : ∃ n, n = W0.heap.size + gq.news.size := ⟨_, rfl⟩
    rw [← hnc] at E3 HAQ ⊢
    have mq := YC.out.most
    have KS : Hid (KeepSt W1 W1 aq lq pq) := ⟨World.grownBy.refl W1 _, ⟨_, YC.out.pix⟩, YO.out⟩
    have nine : okP ⟨9, 9, 9, 9⟩ := by simp [okP]
    clear hW1 hnc HQ b0 b1 b2 b3 b4 bf s0 s1 s2 s3 sf ls YC YO D0 D1 D2 XB GW HB1
    go_loopw [9] (fun i wr => ∃ k : Nat, k ≤ lq ∧ i = .int .i64 k ∧ Hid (KeepSt W1 wr aq lq pq)) (fun i _ => lq - (intOf i).toNat)
    case atStart => exact ⟨0, by omega, rfl, KS.out⟩
    case round =>
      clear KS
      obtain ⟨k, hk, rfl, hh⟩ := hrel
      have d3 := E3.out.grown hh.out.by_ (fun e => by have := HAQ.out _ e.symm; omega)
      obtain ⟨b0, b1, b2, b3, b4, bf⟩ := d3.c5
      have ld := d3.lt
      clear d3
      by_cases hlk : k < lq
      · obtain ⟨f, hf⟩ := hh.out.pix
        obtain ⟨b', off', rfl, hb', -, c0, c1, c2, c3⟩ := hf.px hlk
        have hfz := (hh.out.open_ _ rfl).2
        have HF := Lib.hid hf
        clear hf
        go_wp2
        go_roundw
        case rel => exact ⟨k + 1, by omega, by go_num, hh.out.nine HF.out hlk⟩
        case measure => simp [intOf]; omega
      · obtain rfl : k = lq := by omega
        have d0 := E0.out.grown hh.out.by_ (fun e => by have := HAQ.out _ e.symm; omega)
        obtain ⟨x0, x1, x2, x3, x4, xf⟩ := d0.c5
        have lx := d0.lt
        have d2 := E2.out.grown hh.out.by_ (fun e => by have := HAQ.out _ e.symm; omega)
        obtain ⟨y0, y1, y2, y3, y4, yf⟩ := d2.c5
        have ly := d2.lt
        have S1 := Lib.hid (X1.out.farR (X1.out.grows GW1.out) hh.out.by_ (fun k hk => by have := HAQ.out k hk; omega))
        have S2 := Lib.hid (YW.out.grown hh.out.by_ (fun _ x hx e => by have := HAW.out x.block (by rw [hx]; rfl); have := HAQ.out _ e.symm; omega))
        have GR := Lib.hid (GW1.out.grown hh.out.by_ (fun k hk => by have := HAQ.out k hk; omega))
        clear d0 d2
        have dd1 := E1.out.grown hh.out.by_ (fun e => by have := HAQ.out _ e.symm; omega)
        obtain ⟨v0, v1, v2, v3, vf⟩ := dd1.c4
        have lv := dd1.lt
        clear dd1
        go_wp2_with (first | (go_at_call 12; (with_reducible refine Calls.mono (HB2.out _ ?_) ?_); (exact GR.out.trans (by repeat (first | exact Grows.refl _ | apply Grows.grow | apply Grows.alloc | apply Grows.drew))); rintro e w' ⟨ax, lx', px, rfl, hgw, HX⟩; (first | (obtain ⟨gx, rfl⟩ := grows_of_grow hgw) | (obtain ⟨gx, rfl⟩ := hgw)); clear HX) | (go_at_call 11; (with_reducible refine Calls.mono (ref05_Same r1 a1 aw l1 p1 l1 cw F _ ?_ ?_) ?_); (exact Lib.hid (BufAt.grows S1.out (by repeat (first | exact Grows.refl _ | apply Grows.grow | apply Grows.alloc | apply Grows.drew)))); (exact Lib.hid (BufAt.grows S2.out (by repeat (first | exact Grows.refl _ | apply Grows.grow | apply Grows.alloc | apply Grows.drew)))); rintro e w' ⟨rfl, hgw⟩; first | (obtain ⟨gw, rfl⟩ := grows_of_grow hgw) | (obtain ⟨gw, rfl⟩ := hgw)))
        go_ret
        exact ⟨rfl, GR.out.trans (by repeat (first | exact Grows.refl _ | apply Grows.grow | apply Grows.alloc | apply Grows.drew))⟩
  clear HB1
  go_region_held3 (fun w' => w'.cell? ⟨w.heap.size, 0, none⟩ = some (.int .i64 r1.x0) ∧ w'.cell? ⟨w.heap.size, 1, none⟩ = some (.int .i64 r1.y0) ∧ w'.cell? ⟨w.heap.size, 2, none⟩ = some (.int .i64 r1.x1) ∧ w'.cell? ⟨w.heap.size, 3, none⟩ = some (.int .i64 r1.y1) ∧ w'.cell? ⟨w.heap.size, 4, none⟩ = some (.slice a1 l1 p1)) (go_simp) (first
    | (refine step_append_row (by rfl) (.tmp 22) (.tmp 24) (by rfl) (w.heap.size + 1 + 1 + gw.news.size + 1) (w.heap.size + 1 + 1 + gw.news.size + 1) (by rfl) (by unfold Blk; repeat (first | exact blk_at _ _ _ (by first | omega | (simp; done) | (simp; omega)) | refine (blk_past _ _ _ (by first | omega | (simp; done) | (simp; omega))).trans ?_ | refine (heap_grow _ _ _ (by first | omega | (simp; done) | (simp; omega))).trans ?_ | refine (blk_drew _ _).trans ?_)) (by omega) a1 l1 p1 _ (by rfl) (X1.out.pix.grows (by repeat (first | exact Grows.refl _ | apply Grows.grow | apply Grows.alloc | apply Grows.drew))) (by omega) ?_; intro aw cw w1 h1 h2; have B7 : Blk w1 (w.heap.size + 1 + 1 + gw.news.size) 26 #[.int .i64 0, .int .i64 0, .int .i64 0, .int .i64 0, .slice none 0 0] := (by { refine Blk.grown ?_ h2 (fun e => by { injection e with e; omega }); exact (by unfold Blk; repeat (first | exact blk_at _ _ _ (by first | omega | (simp; done) | (simp; omega)) | refine (blk_past _ _ _ (by first | omega | (simp; done) | (simp; omega))).trans ?_ | refine (heap_grow _ _ _ (by first | omega | (simp; done) | (simp; omega))).trans ?_ | refine (blk_drew _ _).trans ?_)) }); obtain ⟨e0, e1, e2, e3, e4, ef⟩ := B7.c5; have le := B7.lt; replace B7 := Lib.hid B7; have B0 : Blk w1 w.heap.size 26 #[.int .i64 r1.x0, .int .i64 r1.y0, .int .i64 r1.x1, .int .i64 r1.y1, .slice a1 l1 p1] := (by { refine Blk.grown ?_ h2 (fun e => by { injection e with e; omega }); exact (by unfold Blk; repeat (first | exact blk_at _ _ _ (by first | omega | (simp; done) | (simp; omega)) | refine (blk_past _ _ _ (by first | omega | (simp; done) | (simp; omega))).trans ?_ | refine (heap_grow _ _ _ (by first | omega | (simp; done) | (simp; omega))).trans ?_ | refine (blk_drew _ _).trans ?_)) }); have B1 : Blk w1 (w.heap.size + 1) 23 #[.int .i64 s.x0, .int .i64 s.y0, .int .i64 s.x1, .int .i64 s.y1] := (by { refine Blk.grown ?_ h2 (fun e => by { injection e with e; omega }); exact (by unfold Blk; repeat (first | exact blk_at _ _ _ (by first | omega | (simp; done) | (simp; omega)) | refine (blk_past _ _ _ (by first | omega | (simp; done) | (simp; omega))).trans ?_ | refine (heap_grow _ _ _ (by first | omega | (simp; done) | (simp; omega))).trans ?_ | refine (blk_drew _ _).trans ?_)) }); have GA : Hid (Grows w w1) := Grows.grown (w1 := _) (by exact (by repeat (first | exact Grows.refl _ | apply Grows.grow | apply Grows.alloc | apply Grows.drew))) h2 (fun k hk => by { injection hk with hk; omega }); obtain ⟨b0, b1, b2, b3, b4, bf⟩ := B0.c5; have lb := B0.lt; replace B0 := Lib.hid B0; replace B1 := Lib.hid B1; have hsz := h2.size; simp at hsz; replace h1 := Lib.hid h1; clear h2)
    | (refine step_append_row (w := World.alloc _ (.cells #[.int .i64 0, .int .i64 0, .int .i64 0, .int .i64 0, .slice none 0 0] 26)) (by rfl) (.tmp 22) (.tmp 24) (by rfl) (w.heap.size + 1 + 1 + gw.news.size) (w.heap.size + 1 + 1 + gw.news.size) (by rfl) (by unfold Blk; repeat (first | exact blk_at _ _ _ (by first | omega | (simp; done) | (simp; omega)) | refine (blk_past _ _ _ (by first | omega | (simp; done) | (simp; omega))).trans ?_ | refine (heap_grow _ _ _ (by first | omega | (simp; done) | (simp; omega))).trans ?_ | refine (blk_drew _ _).trans ?_)) (by omega) a1 l1 p1 _ (by rfl) (X1.out.pix.grows (by repeat (first | exact Grows.refl _ | apply Grows.grow | apply Grows.alloc | apply Grows.drew))) (by omega) ?_; intro aw cw w1 h1 h2; have B7 : Blk w1 (w.heap.size + 1 + 1 + gw.news.size + 1) 26 #[.int .i64 0, .int .i64 0, .int .i64 0, .int .i64 0, .slice none 0 0] := (by { refine Blk.grown ?_ h2 (fun e => by { injection e with e; omega }); exact (by unfold Blk; repeat (first | exact blk_at _ _ _ (by first | omega | (simp; done) | (simp; omega)) | refine (blk_past _ _ _ (by first | omega | (simp; done) | (simp; omega))).trans ?_ | refine (heap_grow _ _ _ (by first | omega | (simp; done) | (simp; omega))).trans ?_ | refine (blk_drew _ _).trans ?_)) }); obtain ⟨e0, e1, e2, e3, e4, ef⟩ := B7.c5; have le := B7.lt; replace B7 := Lib.hid B7; have B0 : Blk w1 w.heap.size 26 #[.int .i64 r1.x0, .int .i64 r1.y0, .int .i64 r1.x1, .int .i64 r1.y1, .slice a1 l1 p1] := (by { refine Blk.grown ?_ h2 (fun e => by { injection e with e; omega }); exact (by unfold Blk; repeat (first | exact blk_at _ _ _ (by first | omega | (simp; done) | (simp; omega)) | refine (blk_past _ _ _ (by first | omega | (simp; done) | (simp; omega))).trans ?_ | refine (heap_grow _ _ _ (by first | omega | (simp; done) | (simp; omega))).trans ?_ | refine (blk_drew _ _).trans ?_)) }); have B1 : Blk w1 (w.heap.size + 1) 23 #[.int .i64 s.x0, .int .i64 s.y0, .int .i64 s.x1, .int .i64 s.y1] := (by { refine Blk.grown ?_ h2 (fun e => by { injection e with e; omega }); exact (by unfold Blk; repeat (first | exact blk_at _ _ _ (by first | omega | (simp; done) | (simp; omega)) | refine (blk_past _ _ _ (by first | omega | (simp; done) | (simp; omega))).trans ?_ | refine (heap_grow _ _ _ (by first | omega | (simp; done) | (simp; omega))).trans ?_ | refine (blk_drew _ _).trans ?_)) }); have GA : Hid (Grows w w1) := Grows.grown (w1 := _) (by exact (by repeat (first | exact Grows.refl _ | apply Grows.grow | apply Grows.alloc | apply Grows.drew))) h2 (fun k hk => by { injection hk with hk; omega }); obtain ⟨b0, b1, b2, b3, b4, bf⟩ := B0.c5; have lb := B0.lt; replace B0 := Lib.hid B0; replace B1 := Lib.hid B1; have hsz := h2.size; simp at hsz; replace h1 := Lib.hid h1; clear h2)
    | (refine step_append_row (by rfl) (.tmp 22) (.tmp 24) (by rfl) (w.heap.size + 1 + 1 + gw.news.size) (w.heap.size + 1 + 1 + gw.news.size) (by rfl) (by unfold Blk; repeat (first | exact blk_at _ _ _ (by first | omega | (simp; done) | (simp; omega)) | refine (blk_past _ _ _ (by first | omega | (simp; done) | (simp; omega))).trans ?_ | refine (heap_grow _ _ _ (by first | omega | (simp; done) | (simp; omega))).trans ?_ | refine (blk_drew _ _).trans ?_)) (by omega) a1 l1 p1 _ (by rfl) (X1.out.pix.grows (by repeat (first | exact Grows.refl _ | apply Grows.grow | apply Grows.alloc | apply Grows.drew))) (by omega) ?_; intro aw cw w1 h1 h2; have B0 : Blk w1 w.heap.size 26 #[.int .i64 r1.x0, .int .i64 r1.y0, .int .i64 r1.x1, .int .i64 r1.y1, .slice a1 l1 p1] := (by { refine Blk.grown ?_ h2 (fun e => by { injection e with e; omega }); exact (by unfold Blk; repeat (first | exact blk_at _ _ _ (by first | omega | (simp; done) | (simp; omega)) | refine (blk_past _ _ _ (by first | omega | (simp; done) | (simp; omega))).trans ?_ | refine (heap_grow _ _ _ (by first | omega | (simp; done) | (simp; omega))).trans ?_ | refine (blk_drew _ _).trans ?_)) }); have B1 : Blk w1 (w.heap.size + 1) 23 #[.int .i64 s.x0, .int .i64 s.y0, .int .i64 s.x1, .int .i64 s.y1] := (by { refine Blk.grown ?_ h2 (fun e => by { injection e with e; omega }); exact (by unfold Blk; repeat (first | exact blk_at _ _ _ (by first | omega | (simp; done) | (simp; omega)) | refine (blk_past _ _ _ (by first | omega | (simp; done) | (simp; omega))).trans ?_ | refine (heap_grow _ _ _ (by first | omega | (simp; done) | (simp; omega))).trans ?_ | refine (blk_drew _ _).trans ?_)) }); have GA : Hid (Grows w w1) := Grows.grown (w1 := _) (by exact (by repeat (first | exact Grows.refl _ | apply Grows.grow | apply Grows.alloc | apply Grows.drew))) h2 (fun k hk => by { injection hk with hk; omega }); obtain ⟨b0, b1, b2, b3, b4, bf⟩ := B0.c5; have lb := B0.lt; replace B0 := Lib.hid B0; replace B1 := Lib.hid B1; have hsz := h2.size; simp at hsz; replace h1 := Lib.hid h1; clear h2))
  · have hl := own_lt h1.out
    refine then_name ?_
    intro W0 hW0
    have D0 : Hid (Blk W0 w.heap.size 26 #[.int .i64 r1.x0, .int .i64 r1.y0, .int .i64 r1.x1, .int .i64 r1.y1, .slice a1 l1 p1]) := by rw [hW0]; exact B0.out.grows (by repeat (first | exact Grows.refl _ | apply Grows.grow | apply Grows.alloc | apply Grows.drew))
    have D1 : Hid (Blk W0 (w.heap.size + 1) 23 #[.int .i64 s.x0, .int .i64 s.y0, .int .i64 s.x1, .int .i64 s.y1]) := by rw [hW0]; exact B1.out.grows (by repeat (first | exact Grows.refl _ | apply Grows.grow | apply Grows.alloc | apply Grows.drew))
    have D2 : Hid (Blk W0 (w1.heap.size) 26 #[.int .i64 r1.x0, .int .i64 r1.y0, .int .i64 r1.x1, .int .i64 r1.y1, .slice aw l1 cw]) := by rw [hW0]; exact (by unfold Blk; repeat (first | exact blk_at _ _ _ (by first | omega | (simp; done) | (simp; omega)) | refine (blk_past _ _ _ (by first | omega | (simp; done) | (simp; omega))).trans ?_ | refine (heap_grow _ _ _ (by first | omega | (simp; done) | (simp; omega))).trans ?_ | refine (blk_drew _ _).trans ?_))
    have XW : Hid (W0.ownsRow (w.heap.size + 1 + 1 + gw.news.size) 33 4 (.slice aw l1 cw) l1 (cellsP (fun i => F (ptX r1 i) (ptY r1 i)) l1)) := by rw [hW0]; exact ownsRow_grows h1.out (by repeat (first | exact Grows.refl _ | apply Grows.grow | apply Grows.alloc | apply Grows.drew))
    have GW : Hid (Grows w W0) := by rw [hW0]; exact GA.out.trans (by repeat (first | exact Grows.refl _ | apply Grows.grow | apply Grows.alloc | apply Grows.drew))
    obtain ⟨nw, hnw⟩ : ∃ n, n = w1.heap.size := ⟨_, rfl⟩
    have hnw1 : w.heap.size + 1 < nw := by omega
    rw [← hnw] at D2 ⊢
    have XB : Hid (BufAt W0 r1 aw l1 cw F) := bufAt_copied G1.out X1.out.fits N1.out XW.out
    have HAW : Hid (∀ k, blkOf aw = some k → k < W0.heap.size) := fun k hk => (own_lt XW.out k hk).2
    clear hW0 hnw hl h1 GA B0 B1 XW hsz b0 b1 b2 b3 b4 bf lb
    exact TAIL nw W0 aw cw _ _ _ _ _ _ _ _ _ _ _ _ _ _ _ _ _ _ _ _ _ _ _ _ _ _ _ _ _ _ _ _ _ _ _ _ _ _ _ _ _ _ _ hnw1 GW D0 D1 D2 XB HAW
  · have hl := own_lt h1.out
    refine then_name ?_
    intro W0 hW0
    have D0 : Hid (Blk W0 w.heap.size 26 #[.int .i64 r1.x0, .int .i64 r1.y0, .int .i64 r1.x1, .int .i64 r1.y1, .slice a1 l1 p1]) := by rw [hW0]; exact B0.out.far5 (by omega) _ _ _ _ _
    have D1 : Hid (Blk W0 (w.heap.size + 1) 23 #[.int .i64 s.x0, .int .i64 s.y0, .int .i64 s.x1, .int .i64 s.y1]) := by rw [hW0]; exact B1.out.far5 (by omega) _ _ _ _ _
    have D2 : Hid (Blk W0 (w.heap.size + 1 + 1 + gw.news.size + 1) 26 #[.int .i64 r1.x0, .int .i64 r1.y0, .int .i64 r1.x1, .int .i64 r1.y1, .slice aw l1 cw]) := by rw [hW0]; exact B7.out.set5 _ _ _ _ _
    have XW : Hid (W0.ownsRow (w.heap.size + 1 + 1 + gw.news.size) 33 4 (.slice aw l1 cw) l1 (cellsP (fun i => F (ptX r1 i) (ptY r1 i)) l1)) := by rw [hW0]; exact ownsRow_far5 h1.out (fun e => own_ne h1.out B7.out (by decide) e) _ _ _ _ _
    have GW : Hid (Grows w W0) := by rw [hW0]; exact GA.out.five (by omega) _ _ _ _ _
    obtain ⟨nw, hnw⟩ : ∃ n, n = w.heap.size + 1 + 1 + gw.news.size + 1 := ⟨_, rfl⟩
    have hnw1 : w.heap.size + 1 < nw := by omega
    rw [← hnw] at D2 ⊢
    have XB : Hid (BufAt W0 r1 aw l1 cw F) := bufAt_copied G1.out X1.out.fits N1.out XW.out
    have HAW : Hid (∀ k, blkOf aw = some k → k < W0.heap.size) := fun k hk => (own_lt XW.out k hk).2
    clear hW0 hnw hl h1 GA B0 B1 XW hsz b0 b1 b2 b3 b4 bf lb B7 e0 e1 e2 e3 e4 ef le
    exact TAIL nw W0 aw cw _ _ _ _ _ _ _ _ _ _ _ _ _ _ _ _ _ _ _ _ _ _ _ _ _ _ _ _ _ _ _ _ _ _ _ _ _ _ _ _ _ _ _ hnw1 GW D0 D1 D2 XB HAW
  · have hl := own_lt h1.out
    refine then_name ?_
    intro W0 hW0
    have D0 : Hid (Blk W0 w.heap.size 26 #[.int .i64 r1.x0, .int .i64 r1.y0, .int .i64 r1.x1, .int .i64 r1.y1, .slice a1 l1 p1]) := by rw [hW0]; exact B0.out.far5 (by omega) _ _ _ _ _
    have D1 : Hid (Blk W0 (w.heap.size + 1) 23 #[.int .i64 s.x0, .int .i64 s.y0, .int .i64 s.x1, .int .i64 s.y1]) := by rw [hW0]; exact B1.out.far5 (by omega) _ _ _ _ _
    have D2 : Hid (Blk W0 (w.heap.size + 1 + 1 + gw.news.size) 26 #[.int .i64 r1.x0, .int .i64 r1.y0, .int .i64 r1.x1, .int .i64 r1.y1, .slice aw l1 cw]) := by rw [hW0]; exact B7.out.set5 _ _ _ _ _
    have XW : Hid (W0.ownsRow (w.heap.size + 1 + 1 + gw.news.size + 1) 33 4 (.slice aw l1 cw) l1 (cellsP (fun i => F (ptX r1 i) (ptY r1 i)) l1)) := by rw [hW0]; exact ownsRow_far5 h1.out (fun e => own_ne h1.out B7.out (by decide) e) _ _ _ _ _
    have GW : Hid (Grows w W0) := by rw [hW0]; exact GA.out.five (by omega) _ _ _ _ _
    obtain ⟨nw, hnw⟩ : ∃ n, n = w.heap.size + 1 + 1 + gw.news.size := ⟨_, rfl⟩
    have hnw1 : w.heap.size + 1 < nw := by omega
    rw [← hnw] at D2 ⊢
    have XB : Hid (BufAt W0 r1 aw l1 cw F) := bufAt_copied G1.out X1.out.fits N1.out XW.out
    have HAW : Hid (∀ k, blkOf aw = some k → k < W0.heap.size) := fun k hk => (own_lt XW.out k hk).2
    clear hW0 hnw hl h1 GA B0 B1 XW hsz b0 b1 b2 b3 b4 bf lb B7 e0 e1 e2 e3 e4 ef le
    exact TAIL nw W0 aw cw _ _ _ _ _ _ _ _ _ _ _ _ _ _ _ _ _ _ _ _ _ _ _ _ _ _ _ _ _ _ _ _ _ _ _ _ _ _ _ _ _ _ _ hnw1 GW D0 D1 D2 XB HAW
end Go.Proofs.Ytbpcpndiohlchaa
