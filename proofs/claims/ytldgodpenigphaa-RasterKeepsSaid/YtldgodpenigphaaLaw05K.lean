/- The walk of chapter 5's law RasterKeeps. -/
import Derived.Test.YtldgodpenigphaaLaw05A
namespace Go.Proofs.Ytldgodpenigphaa
open Go.RowKit
set_option linter.unusedVariables false

set_option maxHeartbeats 12800000 in
theorem rasterKeeps_walk (r1 : R) (a1 : Option Addr) (l1 p1 : Nat) (f1 : Nat → P4) (r2 : R) (a2 : Option Addr) (l2 p2 : Nat) (f2 : Nat → P4) (s : R) (w : World)
    (hb1 : IsPix w a1 l1 p1 f1) (hb2 : IsPix w a2 l2 p2 f2) :
    Calls Try.prog 4 #[.agg #[.int .i64 r1.x0, .int .i64 r1.y0, .int .i64 r1.x1, .int .i64 r1.y1, .slice a1 l1 p1], .agg #[.int .i64 r2.x0, .int .i64 r2.y0, .int .i64 r2.x1, .int .i64 r2.y1, .slice a2 l2 p2], .agg #[.int .i64 s.x0, .int .i64 s.y0, .int .i64 s.x1, .int .i64 s.y1]] w fun e w' => e = .returned (.bool true) ∧ Grows w w' := by
  have m1 := hb1.le
  have m1' := hb1.most
  have m2 := hb2.le
  have m2' := hb2.most
  have h1 := Lib.hid hb1
  have h2 := Lib.hid hb2
  clear hb1 hb2
  by_cases c1 : (decide (l1 ≤ 2000) && bufB r1 l1) = false
  · have C1 := Lib.hid c1
    clear c1
    go_enter Try.func4, Try.ntmps4
    go_wp2_with ((first | (go_at_call 11; refine (awake05 _ ).mono ?_; rintro e w' ⟨rfl, hgw⟩; first | (obtain ⟨gw, rfl⟩ := grows_of_grow hgw) | (obtain ⟨gw, rfl⟩ := hgw)) | (go_at_call 12; (with_reducible refine (law05_rightIs _ _ _ _ _ _ (by omega) (by omega) C1).mono ?_); rintro e w' ⟨rfl, hgw⟩; first | (obtain ⟨gw, rfl⟩ := grows_of_grow hgw) | (obtain ⟨gw, rfl⟩ := hgw))))
    go_ret
    exact ⟨rfl, (by repeat (first | exact Grows.refl _ | apply Grows.grow | apply Grows.alloc | apply Grows.drew))⟩
  have C1 := Lib.hid (bool_yes c1)
  clear c1
  by_cases c2 : (decide (l2 ≤ 2000) && bufB r2 l2) = false
  · have C2 := Lib.hid c2
    clear c2
    go_enter Try.func4, Try.ntmps4
    go_wp2_with ((first | (go_at_call 11; refine (awake05 _ ).mono ?_; rintro e w' ⟨rfl, hgw⟩; first | (obtain ⟨gw, rfl⟩ := grows_of_grow hgw) | (obtain ⟨gw, rfl⟩ := hgw)) | (go_at_call 12; (with_reducible refine (law05_rightIs _ _ _ _ _ _ (by omega) (by omega) C1).mono ?_); rintro e w' ⟨rfl, hgw⟩; first | (obtain ⟨gw, rfl⟩ := grows_of_grow hgw) | (obtain ⟨gw, rfl⟩ := hgw)) | (go_at_call 12; (with_reducible refine (law05_rightIs _ _ _ _ _ _ (by omega) (by omega) C2).mono ?_); rintro e w' ⟨rfl, hgw⟩; first | (obtain ⟨gw, rfl⟩ := grows_of_grow hgw) | (obtain ⟨gw, rfl⟩ := hgw))))
    go_ret
    exact ⟨rfl, (by repeat (first | exact Grows.refl _ | apply Grows.grow | apply Grows.alloc | apply Grows.drew))⟩
  have C2 := Lib.hid (bool_yes c2)
  clear c2
  cases c6 : littleB s 5000
  · go_enter Try.func4, Try.ntmps4
    go_wp2_with ((first | (go_at_call 11; refine (awake05 _ ).mono ?_; rintro e w' ⟨rfl, hgw⟩; first | (obtain ⟨gw, rfl⟩ := grows_of_grow hgw) | (obtain ⟨gw, rfl⟩ := hgw)) | (go_at_call 12; (with_reducible refine (law05_rightIs _ _ _ _ _ _ (by omega) (by omega) C1).mono ?_); rintro e w' ⟨rfl, hgw⟩; first | (obtain ⟨gw, rfl⟩ := grows_of_grow hgw) | (obtain ⟨gw, rfl⟩ := hgw)) | (go_at_call 12; (with_reducible refine (law05_rightIs _ _ _ _ _ _ (by omega) (by omega) C2).mono ?_); rintro e w' ⟨rfl, hgw⟩; first | (obtain ⟨gw, rfl⟩ := grows_of_grow hgw) | (obtain ⟨gw, rfl⟩ := hgw)) | (go_at_call 21; refine (ref05_LittleIs _ _ _ _ (by assumption)).mono ?_; rintro e w' ⟨rfl, hgw⟩; first | (obtain ⟨gw, rfl⟩ := grows_of_grow hgw) | (obtain ⟨gw, rfl⟩ := hgw))))
    go_ret
    exact ⟨rfl, (by repeat (first | exact Grows.refl _ | apply Grows.grow | apply Grows.alloc | apply Grows.drew))⟩
  obtain ⟨c3, klt⟩ := cnt_little c6 (by omega)
  have klt' : cntR (someR s) ≤ 5000 := by omega
  clear klt
  have q1 : l1 ≤ 2000 ∧ bufB r1 l1 = true := by simpa using C1.out
  have q2 : l2 ≤ 2000 ∧ bufB r2 l2 = true := by simpa using C2.out
  obtain ⟨g1, n1⟩ := bufB_yes q1.2 (by omega)
  obtain ⟨g2, n2⟩ := bufB_yes q2.2 (by omega)
  obtain ⟨F, hF⟩ : ∃ F, F = imgOf r1 f1 := ⟨_, rfl⟩
  obtain ⟨G, hG⟩ : ∃ G, G = imgOf r2 f2 := ⟨_, rfl⟩
  have X1 : Hid (BufAt w r1 a1 l1 p1 F) := by rw [hF]; exact bufAt_of g1 n1 h1.out
  have X2 : Hid (BufAt w r2 a2 l2 p2 G) := by rw [hG]; exact bufAt_of g2 n2 h2.out
  have k1 := q1.1
  have k2 := q2.1
  have kc1 : cntR r1 ≤ 2000 := by omega
  have kc2 : cntR r2 ≤ 2000 := by omega
  have nine : okP ⟨9, 9, 9, 9⟩ := by simp [okP]
  clear q1 q2 g1 g2 n1 n2 hF hG
  go_enter Try.func4, Try.ntmps4
  go_wp2_with ((first | (go_at_call 11; refine (awake05 _ ).mono ?_; rintro e w' ⟨rfl, hgw⟩; first | (obtain ⟨gw, rfl⟩ := grows_of_grow hgw) | (obtain ⟨gw, rfl⟩ := hgw)) | (go_at_call 12; (with_reducible refine (law05_rightIs _ _ _ _ _ _ (by omega) (by omega) C1).mono ?_); rintro e w' ⟨rfl, hgw⟩; first | (obtain ⟨gw, rfl⟩ := grows_of_grow hgw) | (obtain ⟨gw, rfl⟩ := hgw)) | (go_at_call 12; (with_reducible refine (law05_rightIs _ _ _ _ _ _ (by omega) (by omega) C2).mono ?_); rintro e w' ⟨rfl, hgw⟩; first | (obtain ⟨gw, rfl⟩ := grows_of_grow hgw) | (obtain ⟨gw, rfl⟩ := hgw)) | (go_at_call 21; refine (ref05_LittleIs _ _ _ _ (by assumption)).mono ?_; rintro e w' ⟨rfl, hgw⟩; first | (obtain ⟨gw, rfl⟩ := grows_of_grow hgw) | (obtain ⟨gw, rfl⟩ := hgw))))
  refine (law05_copied r2 a2 l2 p2 G _ ?_ (by omega)).mono ?_
  · exact BufAt.grows X2.out (by repeat (first | exact Grows.refl _ | apply Grows.grow | apply Grows.alloc | apply Grows.drew))
  rintro e w' ⟨aw, lw, pw, rfl, hgw, HBw⟩
  first | (obtain ⟨gw, rfl⟩ := grows_of_grow hgw) | (obtain ⟨gw, rfl⟩ := hgw)
  clear hgw
  go_wp2_with fail
  refine (law05_copied r1 a1 l1 p1 F _ ?_ (by omega)).mono ?_
  · exact BufAt.grows X1.out (by repeat (first | exact Grows.refl _ | apply Grows.grow | apply Grows.alloc | apply Grows.drew))
  rintro e w' ⟨ac, lc, pc, rfl, hgw, HBc⟩
  first | (obtain ⟨gw2, rfl⟩ := grows_of_grow hgw) | (obtain ⟨gw2, rfl⟩ := hgw)
  clear hgw
  go_wp2_with fail
  have hbc : ∀ k, blkOf ac = some k → w.heap.size + 1 + 1 + 1 + gw.news.size + 1 ≤ k ∧ k < w.heap.size + 1 + 1 + 1 + gw.news.size + 1 + gw2.news.size := fun k hk => by
    obtain ⟨x, rfl, rfl⟩ := blkOf_some_iff hk
    have h1 := (HBc.out.2.1 x rfl).1
    have h2 := HBc.out.2.2 x rfl
    simp at h1 h2
    omega
  refine Calls.mono (raster_Copy (w.heap.size + 1 + 1 + 1 + gw.news.size + 1 + gw2.news.size) r1 s r2 0 0 ac a2 lc pc l2 p2 F G _ ?_ ?_ ?_ (fun e => by have := (hbc _ e).2; omega) ?_ ?_ (by omega) (by omega) c3 (by omega) (by omega)) ?_
  · show Blk _ _ _ _
    exact (by unfold Blk; repeat (first | exact blk_at _ _ _ (by first | omega | (simp; done) | (simp; omega)) | refine (blk_past _ _ _ (by first | omega | (simp; done) | (simp; omega))).trans ?_ | refine (heap_grow _ _ _ (by first | omega | (simp; done) | (simp; omega))).trans ?_ | refine (blk_drew _ _).trans ?_))
  · exact BufAt.grows HBc.out.1 (by repeat (first | exact Grows.refl _ | apply Grows.grow | apply Grows.alloc | apply Grows.drew))
  · exact HBc.out.2.1.grows (by repeat (first | exact Grows.refl _ | apply Grows.grow | apply Grows.alloc | apply Grows.drew))
  · exact BufAt.grows X2.out (by repeat (first | exact Grows.refl _ | apply Grows.grow | apply Grows.alloc | apply Grows.drew))
  · intro h0 x y hx hy
    obtain ⟨b, off, e, hb, -⟩ := X2.out.pix.cells h0
    rw [hx] at e; cases e
    have := (hbc y.block (by rw [hy]; rfl)).1
    show b ≠ _
    omega
  rintro e w1 ⟨rfl, G1, HA, HO⟩
  have hcn : ∀ k, blkOf ac = some k → w.heap.size + 1 + 1 + 1 + gw.news.size + 1 ≤ k := fun k hk => (hbc k hk).1
  have B1 : Blk w1 (w.heap.size + 1) 26 #[.int .i64 r2.x0, .int .i64 r2.y0, .int .i64 r2.x1, .int .i64 r2.y1, .slice a2 l2 p2] := by
    refine Blk.grown ?_ G1 (fun e => by have := hcn _ e.symm; omega)
    exact (by unfold Blk; repeat (first | exact blk_at _ _ _ (by first | omega | (simp; done) | (simp; omega)) | refine (blk_past _ _ _ (by first | omega | (simp; done) | (simp; omega))).trans ?_ | refine (heap_grow _ _ _ (by first | omega | (simp; done) | (simp; omega))).trans ?_ | refine (blk_drew _ _).trans ?_))
  have B2 : Blk w1 (w.heap.size + 1 + 1) 23 #[.int .i64 s.x0, .int .i64 s.y0, .int .i64 s.x1, .int .i64 s.y1] := by
    refine Blk.grown ?_ G1 (fun e => by have := hcn _ e.symm; omega)
    exact (by unfold Blk; repeat (first | exact blk_at _ _ _ (by first | omega | (simp; done) | (simp; omega)) | refine (blk_past _ _ _ (by first | omega | (simp; done) | (simp; omega))).trans ?_ | refine (heap_grow _ _ _ (by first | omega | (simp; done) | (simp; omega))).trans ?_ | refine (blk_drew _ _).trans ?_))
  have Bw : Blk w1 (w.heap.size + 1 + 1 + 1 + gw.news.size) 26 #[.int .i64 r2.x0, .int .i64 r2.y0, .int .i64 r2.x1, .int .i64 r2.y1, .slice aw lw pw] := by
    refine Blk.grown ?_ G1 (fun e => by have := hcn _ e.symm; omega)
    exact (by unfold Blk; repeat (first | exact blk_at _ _ _ (by first | omega | (simp; done) | (simp; omega)) | refine (blk_past _ _ _ (by first | omega | (simp; done) | (simp; omega))).trans ?_ | refine (heap_grow _ _ _ (by first | omega | (simp; done) | (simp; omega))).trans ?_ | refine (blk_drew _ _).trans ?_))
  have Bc : Blk w1 (w.heap.size + 1 + 1 + 1 + gw.news.size + 1 + gw2.news.size) 26 #[.int .i64 r1.x0, .int .i64 r1.y0, .int .i64 r1.x1, .int .i64 r1.y1, .slice ac lc pc] := by
    refine Blk.grown ?_ G1 (fun e => by have := (hbc _ e.symm).2; omega)
    exact (by unfold Blk; repeat (first | exact blk_at _ _ _ (by first | omega | (simp; done) | (simp; omega)) | refine (blk_past _ _ _ (by first | omega | (simp; done) | (simp; omega))).trans ?_ | refine (heap_grow _ _ _ (by first | omega | (simp; done) | (simp; omega))).trans ?_ | refine (blk_drew _ _).trans ?_))
  have GR : Grows w w1 := Grows.grown (w1 := _) (by repeat (first | exact Grows.refl _ | apply Grows.grow | apply Grows.alloc | apply Grows.drew)) G1 (fun k hk => by have := hcn k hk; omega)
  have HW : BufAt w1 r2 aw lw pw G := by
    refine BufAt.farR (w0 := _) HBw.out.1 (BufAt.grows HBw.out.1 (by repeat (first | exact Grows.refl _ | apply Grows.grow | apply Grows.alloc | apply Grows.drew))) G1 (fun k hk => by have := hcn k hk; simp; omega)
  have hbw0 : ∀ k, blkOf aw = some k → k < w.heap.size + 1 + 1 + 1 + gw.news.size := fun k hk => by
    obtain ⟨x, rfl, rfl⟩ := blkOf_some_iff hk
    have h1 := (HBw.out.2.1 x rfl).1
    simp at h1
    omega
  have Y2 := Lib.hid (X2.out.grows GR)
  have YW := Lib.hid HW
  have YC := Lib.hid HA
  have YO := Lib.hid HO
  have GRh := Lib.hid GR
  obtain ⟨nw, hnw⟩ : ∃ n, n = w.heap.size + 1 + 1 + 1 + gw.news.size := ⟨_, rfl⟩
  obtain ⟨nc, hnc⟩ : ∃ n, n = w.heap.size + 1 + 1 + 1 + gw.news.size + 1 + gw2.news.size := ⟨_, rfl⟩
  rw [← hnc] at Bc ⊢
  rw [← hnw] at Bw ⊢
  have hne : blkOf ac ≠ some nc := fun e => by have := (hbc _ e).2; omega
  have hbw : ∀ k, blkOf aw = some k → k < nw := fun k hk => by have := hbw0 k hk; omega
  clear hbw0
  have hcw : ∀ k, blkOf ac = some k → nw < k := fun k hk => by have := hcn k hk; omega
  have hw1 : w.heap.size + 1 + 1 < nw := by omega
  have hw2 : nw < nc := by omega
  have Z1 := Lib.hid B1
  have Z2 := Lib.hid B2
  have Zw := Lib.hid Bw
  have Zc := Lib.hid Bc
  obtain ⟨d0, d1, d2, d3, d4, df⟩ := B1.c5
  obtain ⟨s0, s1, s2, s3, sf⟩ := B2.c4
  have l1' := B1.lt
  have l2' := B2.lt
  have lw' := Bw.lt
  have lc' := Bc.lt
  clear G1 HA HO B1 B2 Bw Bc GR HW hbc hcn HBc HBw hnw hnc
  go_wp2_with fail
  refine Calls.mono (raster_Window s r2 a2 l2 p2 G _ Y2 c3 (by omega) (by omega)) ?_
  rintro e w' ⟨an, ln, pn, rfl, hgw, HBn⟩
  first | (obtain ⟨gw3, rfl⟩ := grows_of_grow hgw) | (obtain ⟨gw3, rfl⟩ := hgw)
  clear hgw
  go_wp2_with fail
  have hbn : ∀ k, blkOf an = some k → w1.heap.size ≤ k ∧ k < w1.heap.size + gw3.news.size := fun k hk => by
    obtain ⟨x, rfl, rfl⟩ := blkOf_some_iff hk
    have h1 := (HBn.out.2.1 x rfl).1
    have h2 := HBn.out.2.2 x rfl
    simp at h1
    omega
  refine Calls.mono (raster_Fill (w1.heap.size + gw3.news.size) (someR s) s an ln pn (cutF (someR s) G) ⟨9, 9, 9, 9⟩ _ ?_ ?_ ?_ (fun e => by have := (hbn _ e).2; omega) (by omega) nine c3) ?_
  · show Blk _ _ _ _
    exact (by unfold Blk; repeat (first | exact blk_at _ _ _ (by first | omega | (simp; done) | (simp; omega)) | refine (blk_past _ _ _ (by first | omega | (simp; done) | (simp; omega))).trans ?_ | refine (heap_grow _ _ _ (by first | omega | (simp; done) | (simp; omega))).trans ?_ | refine (blk_drew _ _).trans ?_))
  · exact BufAt.grows HBn.out.1 (by repeat (first | exact Grows.refl _ | apply Grows.grow | apply Grows.alloc | apply Grows.drew))
  · exact HBn.out.2.1.grows (by repeat (first | exact Grows.refl _ | apply Grows.grow | apply Grows.alloc | apply Grows.drew))
  rintro e w2 ⟨rfl, G1, -, -⟩
  have G0 : w1.grownBy w2 (blkOf an) := grows_grownBy (w1 := (grow w1 gw3).alloc (.cells #[.int .i64 (someR s).x0, .int .i64 (someR s).y0, .int .i64 (someR s).x1, .int .i64 (someR s).y1, .slice an ln pn] 26)) (by repeat (first | exact Grows.refl _ | apply Grows.grow | apply Grows.alloc | apply Grows.drew)) G1
  have hrow : ∀ k, blkOf an = some k → w1.heap.size ≤ k := fun k hk => (hbn k hk).1
  have V1 := Lib.hid (Z1.out.grown G0 (fun e => by have := hrow _ e.symm; omega))
  have V2 := Lib.hid (Z2.out.grown G0 (fun e => by have := hrow _ e.symm; omega))
  have Vw := Lib.hid (Zw.out.grown G0 (fun e => by have := hrow _ e.symm; omega))
  have Vc := Lib.hid (Zc.out.grown G0 (fun e => by have := hrow _ e.symm; omega))
  have GR : Grows w1 w2 := Grows.grown (Grows.refl w1) G0 hrow
  have U2 := Lib.hid (Y2.out.grows GR)
  have UW := Lib.hid (YW.out.grows GR)
  have UC := Lib.hid (YC.out.grows GR)
  have UO := Lib.hid (YO.out.grows GR)
  have GRR := Lib.hid (GRh.out.trans GR)
  clear d0 d1 d2 d3 d4 df s0 s1 s2 s3 sf l1' l2' lw' lc' G1 G0 hrow hbn HBn GR Y2 YW YC YO Z1 Z2 Zw Zc GRh
  obtain ⟨s0, s1, s2, s3, sf⟩ := V2.out.c4
  have l2' := V2.out.lt
  go_wp2_with fail
  refine Calls.mono (raster_Fill nc r1 s ac lc pc _ ⟨9, 9, 9, 9⟩ _ Vc UC UO hne (by omega) nine c3) ?_
  rintro e w3 ⟨rfl, G1, -, -⟩
  have B1 := V1.out.grown G1 (fun e => by have := hcw _ e.symm; omega)
  have Bw := Vw.out.grown G1 (fun e => by have := hcw _ e.symm; omega)
  have T2 := Lib.hid (X2.out.farR U2.out G1 (fun k hk => by have := hcw k hk; omega))
  have TW := Lib.hid (UW.out.grown G1 (fun _ x hx e => by have := hbw x.block (by rw [hx]; rfl); have := hcw _ e.symm; omega))
  have GR3 := Lib.hid (GRR.out.grown G1 (fun k hk => by have := hcw k hk; omega))
  obtain ⟨d0, d1, d2, d3, d4, df⟩ := B1.c5
  obtain ⟨e0, e1, e2, e3, e4, ef⟩ := Bw.c5
  have l1' := B1.lt
  have lw' := Bw.lt
  clear s0 s1 s2 s3 sf l2' B1 Bw G1 V1 V2 Vw Vc U2 UW UC UO
  go_wp2_with ((go_at_call 18; refine Calls.mono (ref05_Same r2 a2 aw l2 p2 lw pw G _ T2 TW) ?_; rintro e w' ⟨rfl, hgw⟩; first | (obtain ⟨gw, rfl⟩ := grows_of_grow hgw) | (obtain ⟨gw, rfl⟩ := hgw)))
  go_ret
  exact ⟨rfl, GR3.out.trans (by repeat (first | exact Grows.refl _ | apply Grows.grow | apply Grows.alloc | apply Grows.drew))⟩
end Go.Proofs.Ytldgodpenigphaa
