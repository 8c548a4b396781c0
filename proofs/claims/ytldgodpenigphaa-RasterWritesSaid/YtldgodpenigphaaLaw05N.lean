/- The walk of chapter 5's law RasterWrites, where the rectangle is not little. -/
import Derived.Test.YtldgodpenigphaaLaw05A
import Derived.Test.YtldgodpenigphaaHeld
namespace Go.Proofs.Ytldgodpenigphaa
open Go.RowKit
set_option linter.unusedVariables false

set_option maxHeartbeats 12800000 in
theorem rasterWrites_no (r1 : R) (a1 : Option Addr) (l1 p1 : Nat) (r2 : R) (a2 : Option Addr) (l2 p2 : Nat) (s : R) (dx dy : Int) (p : P4) (w : World) (F G : Img)
    (m1 : l1 ≤ p1) (m1' : p1 ≤ 9223372036854775807) (m2 : l2 ≤ p2) (m2' : p2 ≤ 9223372036854775807) (C1 : Hid ((decide (l1 ≤ 2000) && bufB r1 l1) = true)) (C2 : Hid ((decide (l2 ≤ 2000) && bufB r2 l2) = true)) (c3 : rightR s = true) (c4 : nearN dx = true) (c5 : nearN dy = true)
    (hdx' : -4398046511104 ≤ dx ∧ dx ≤ 4398046511104) (hdy' : -4398046511104 ≤ dy ∧ dy ≤ 4398046511104) (X1 : Hid (BufAt w r1 a1 l1 p1 F)) (X2 : Hid (BufAt w r2 a2 l2 p2 G)) (k1 : l1 ≤ 2000) (k2 : l2 ≤ 2000) (kc1 : cntR r1 ≤ 2000) (kc2 : cntR r2 ≤ 2000) (hp : okP p) (c6 : littleB s 5000 = false) :
    Calls Try.prog 3 #[.agg #[.int .i64 r1.x0, .int .i64 r1.y0, .int .i64 r1.x1, .int .i64 r1.y1, .slice a1 l1 p1], .agg #[.int .i64 r2.x0, .int .i64 r2.y0, .int .i64 r2.x1, .int .i64 r2.y1, .slice a2 l2 p2], .agg #[.int .i64 s.x0, .int .i64 s.y0, .int .i64 s.x1, .int .i64 s.y1], .int .i64 dx, .int .i64 dy, .agg #[.int .u8 p.r, .int .u8 p.g, .int .u8 p.b, .int .u8 p.a]] w fun e w' => e = .returned (.bool true) ∧ Grows w w' := by
  go_enter Try.func3, Try.ntmps3
  go_wp2_with ((first | (go_at_call 11; refine (awake05 _ ).mono ?_; rintro e w' ⟨rfl, hgw⟩; first | (obtain ⟨gw, rfl⟩ := grows_of_grow hgw) | (obtain ⟨gw, rfl⟩ := hgw)) | (go_at_call 12; (with_reducible refine (law05_rightIs _ _ _ _ _ _ (by omega) (by omega) C1).mono ?_); rintro e w' ⟨rfl, hgw⟩; first | (obtain ⟨gw, rfl⟩ := grows_of_grow hgw) | (obtain ⟨gw, rfl⟩ := hgw)) | (go_at_call 12; (with_reducible refine (law05_rightIs _ _ _ _ _ _ (by omega) (by omega) C2).mono ?_); rintro e w' ⟨rfl, hgw⟩; first | (obtain ⟨gw, rfl⟩ := grows_of_grow hgw) | (obtain ⟨gw, rfl⟩ := hgw)) | (go_at_call 13; refine (ref03_rightIs _ _ _ (by assumption)).mono ?_; rintro e w' ⟨rfl, hgw⟩; first | (obtain ⟨gw, rfl⟩ := grows_of_grow hgw) | (obtain ⟨gw, rfl⟩ := hgw)) | (go_at_call 14; refine (ref03_near _ _ ).mono ?_; rintro e w' ⟨rfl, rfl⟩)))
  refine (law05_copied r1 a1 l1 p1 F _ ?_ (by omega)).mono ?_
  · exact BufAt.grows X1.out (by repeat (first | exact Grows.refl _ | apply Grows.grow | apply Grows.alloc | apply Grows.drew))
  rintro e w' ⟨af, lf, pf, rfl, hgw, HBf⟩
  first | (obtain ⟨gw, rfl⟩ := grows_of_grow hgw) | (obtain ⟨gw, rfl⟩ := hgw)
  clear hgw
  go_wp2_with fail
  have hfr : ∀ k, blkOf af = some k → w.heap.size + 1 + 1 + 1 + 1 ≤ k ∧ k < w.heap.size + 1 + 1 + 1 + 1 + gw.news.size := fun k hk => by
    obtain ⟨x, rfl, rfl⟩ := blkOf_some_iff hk
    have h1 := (HBf.out.2.1 x rfl).1
    have h2 := HBf.out.2.2 x rfl
    simp at h1 h2
    omega
  refine Calls.mono (raster_Fill (w.heap.size + 1 + 1 + 1 + 1 + gw.news.size) r1 s af lf pf F p _ ?_ ?_ ?_ (fun e => by have := (hfr _ e).2; omega) (by omega) hp c3) ?_
  · show Blk _ _ _ _
    exact (by unfold Blk; repeat (first | exact blk_at _ _ _ (by first | omega | (simp; done) | (simp; omega)) | refine (blk_past _ _ _ (by first | omega | (simp; done) | (simp; omega))).trans ?_ | refine (heap_grow _ _ _ (by first | omega | (simp; done) | (simp; omega))).trans ?_ | refine (blk_drew _ _).trans ?_))
  · exact BufAt.grows HBf.out.1 (by repeat (first | exact Grows.refl _ | apply Grows.grow | apply Grows.alloc | apply Grows.drew))
  · exact HBf.out.2.1.grows (by repeat (first | exact Grows.refl _ | apply Grows.grow | apply Grows.alloc | apply Grows.drew))
  rintro e w1 ⟨rfl, G1, HA, HO⟩
  have B0 : Blk w1 w.heap.size 26 #[.int .i64 r1.x0, .int .i64 r1.y0, .int .i64 r1.x1, .int .i64 r1.y1, .slice a1 l1 p1] := by
    refine Blk.grown ?_ G1 (fun e => by have := (hfr _ e.symm).1; omega)
    exact (by unfold Blk; repeat (first | exact blk_at _ _ _ (by first | omega | (simp; done) | (simp; omega)) | refine (blk_past _ _ _ (by first | omega | (simp; done) | (simp; omega))).trans ?_ | refine (heap_grow _ _ _ (by first | omega | (simp; done) | (simp; omega))).trans ?_ | refine (blk_drew _ _).trans ?_))
  have B1 : Blk w1 (w.heap.size + 1) 26 #[.int .i64 r2.x0, .int .i64 r2.y0, .int .i64 r2.x1, .int .i64 r2.y1, .slice a2 l2 p2] := by
    refine Blk.grown ?_ G1 (fun e => by have := (hfr _ e.symm).1; omega)
    exact (by unfold Blk; repeat (first | exact blk_at _ _ _ (by first | omega | (simp; done) | (simp; omega)) | refine (blk_past _ _ _ (by first | omega | (simp; done) | (simp; omega))).trans ?_ | refine (heap_grow _ _ _ (by first | omega | (simp; done) | (simp; omega))).trans ?_ | refine (blk_drew _ _).trans ?_))
  have B2 : Blk w1 (w.heap.size + 1 + 1) 23 #[.int .i64 s.x0, .int .i64 s.y0, .int .i64 s.x1, .int .i64 s.y1] := by
    refine Blk.grown ?_ G1 (fun e => by have := (hfr _ e.symm).1; omega)
    exact (by unfold Blk; repeat (first | exact blk_at _ _ _ (by first | omega | (simp; done) | (simp; omega)) | refine (blk_past _ _ _ (by first | omega | (simp; done) | (simp; omega))).trans ?_ | refine (heap_grow _ _ _ (by first | omega | (simp; done) | (simp; omega))).trans ?_ | refine (blk_drew _ _).trans ?_))
  have B3 : Blk w1 (w.heap.size + 1 + 1 + 1) 28 #[.int .u8 p.r, .int .u8 p.g, .int .u8 p.b, .int .u8 p.a] := by
    refine Blk.grown ?_ G1 (fun e => by have := (hfr _ e.symm).1; omega)
    exact (by unfold Blk; repeat (first | exact blk_at _ _ _ (by first | omega | (simp; done) | (simp; omega)) | refine (blk_past _ _ _ (by first | omega | (simp; done) | (simp; omega))).trans ?_ | refine (heap_grow _ _ _ (by first | omega | (simp; done) | (simp; omega))).trans ?_ | refine (blk_drew _ _).trans ?_))
  have Bf : Blk w1 (w.heap.size + 1 + 1 + 1 + 1 + gw.news.size) 26 #[.int .i64 r1.x0, .int .i64 r1.y0, .int .i64 r1.x1, .int .i64 r1.y1, .slice af lf pf] := by
    refine Blk.grown ?_ G1 (fun e => by have := (hfr _ e.symm).2; omega)
    exact (by unfold Blk; repeat (first | exact blk_at _ _ _ (by first | omega | (simp; done) | (simp; omega)) | refine (blk_past _ _ _ (by first | omega | (simp; done) | (simp; omega))).trans ?_ | refine (heap_grow _ _ _ (by first | omega | (simp; done) | (simp; omega))).trans ?_ | refine (blk_drew _ _).trans ?_))
  have GR : Grows w w1 := Grows.grown (w1 := _) (by repeat (first | exact Grows.refl _ | apply Grows.grow | apply Grows.alloc | apply Grows.drew)) G1 (fun k hk => by have := (hfr k hk).1; omega)
  have Y1 := Lib.hid (X1.out.grows GR)
  have Y2 := Lib.hid (X2.out.grows GR)
  have YF := Lib.hid HA
  obtain ⟨nf, hnf⟩ : ∃ n, n = w.heap.size + 1 + 1 + 1 + 1 + gw.news.size := ⟨_, rfl⟩
  rw [← hnf] at Bf ⊢
  have hbf : ∀ k, blkOf af = some k → w.heap.size + 1 + 1 + 1 + 1 ≤ k ∧ k < nf := fun k hk => by have := hfr k hk; omega
  have hfl : nf < w1.heap.size := Bf.lt
  have hfl' : w.heap.size + 1 + 1 + 1 < nf := by omega
  have Z0 := Lib.hid B0
  have Z1 := Lib.hid B1
  have Z2 := Lib.hid B2
  have Z3 := Lib.hid B3
  have Zf := Lib.hid Bf
  have GRh := Lib.hid GR
  obtain ⟨b0, b1, b2, b3, b4, bf⟩ := B0.c5
  have l0 := B0.lt
  clear G1 HA HO hfr hnf B0 B1 B2 B3 Bf GR HBf
  go_wp2_with fail
  refine (law05_copied r1 a1 l1 p1 F _ Y1 (by omega)).mono ?_
  rintro e w' ⟨ac, lc, pc, rfl, hgw, HBc⟩
  first | (obtain ⟨gw2, rfl⟩ := grows_of_grow hgw) | (obtain ⟨gw2, rfl⟩ := hgw)
  clear hgw
  obtain ⟨c0, c1, c2, c3', c4', cf⟩ := Z1.out.c5
  obtain ⟨s0, s1, s2, s3, sf⟩ := Z2.out.c4
  have l1' := Z1.out.lt
  have l2' := Z2.out.lt
  go_wp2_with fail
  have hbc : ∀ k, blkOf ac = some k → w1.heap.size ≤ k ∧ k < w1.heap.size + gw2.news.size := fun k hk => by
    obtain ⟨x, rfl, rfl⟩ := blkOf_some_iff hk
    have h1 := (HBc.out.2.1 x rfl).1
    have h2 := HBc.out.2.2 x rfl
    simp at h1
    omega
  refine Calls.mono (raster_Copy (w1.heap.size + gw2.news.size) r1 s r2 dx dy ac a2 lc pc l2 p2 F G _ ?_ ?_ ?_ (fun e => by have := (hbc _ e).2; omega) ?_ ?_ (by omega) (by omega) c3 hdx' hdy') ?_
  · show Blk _ _ _ _
    exact (by unfold Blk; repeat (first | exact blk_at _ _ _ (by first | omega | (simp; done) | (simp; omega)) | refine (blk_past _ _ _ (by first | omega | (simp; done) | (simp; omega))).trans ?_ | refine (heap_grow _ _ _ (by first | omega | (simp; done) | (simp; omega))).trans ?_ | refine (blk_drew _ _).trans ?_))
  · exact BufAt.grows HBc.out.1 (by repeat (first | exact Grows.refl _ | apply Grows.grow | apply Grows.alloc | apply Grows.drew))
  · exact HBc.out.2.1.grows (by repeat (first | exact Grows.refl _ | apply Grows.grow | apply Grows.alloc | apply Grows.drew))
  · exact BufAt.grows Y2.out (by repeat (first | exact Grows.refl _ | apply Grows.grow | apply Grows.alloc | apply Grows.drew))
  · intro h0 x y hx hy
    obtain ⟨b, off, e, hb, -⟩ := Y2.out.pix.cells h0
    rw [hx] at e; cases e
    have := (hbc y.block (by rw [hy]; rfl)).1
    show b ≠ _
    omega
  rintro e w2 ⟨rfl, G1, HA, HO⟩
  have G0 : w1.grownBy w2 (blkOf ac) := grows_grownBy (w1 := (grow w1 gw2).alloc (.cells #[.int .i64 r1.x0, .int .i64 r1.y0, .int .i64 r1.x1, .int .i64 r1.y1, .slice ac lc pc] 26)) (by repeat (first | exact Grows.refl _ | apply Grows.grow | apply Grows.alloc | apply Grows.drew)) G1
  have hrow : ∀ k, blkOf ac = some k → w1.heap.size ≤ k := fun k hk => (hbc k hk).1
  have B0 := Z0.out.grown G0 (fun e => by have := hrow _ e.symm; have := Z0.out.lt; omega)
  have B1 := Z1.out.grown G0 (fun e => by have := hrow _ e.symm; have := Z1.out.lt; omega)
  have B2 := Z2.out.grown G0 (fun e => by have := hrow _ e.symm; have := Z2.out.lt; omega)
  have B3 := Z3.out.grown G0 (fun e => by have := hrow _ e.symm; have := Z3.out.lt; omega)
  have Bf := Zf.out.grown G0 (fun e => by have := hrow _ e.symm; have := Zf.out.lt; omega)
  have Bc : Blk w2 (w1.heap.size + gw2.news.size) 26 #[.int .i64 r1.x0, .int .i64 r1.y0, .int .i64 r1.x1, .int .i64 r1.y1, .slice ac lc pc] := by
    refine Blk.grown ?_ G1 (fun e => by have := (hbc _ e.symm).2; omega)
    exact (by unfold Blk; repeat (first | exact blk_at _ _ _ (by first | omega | (simp; done) | (simp; omega)) | refine (blk_past _ _ _ (by first | omega | (simp; done) | (simp; omega))).trans ?_ | refine (heap_grow _ _ _ (by first | omega | (simp; done) | (simp; omega))).trans ?_ | refine (blk_drew _ _).trans ?_))
  have GR : Grows w1 w2 := Grows.grown (Grows.refl w1) G0 hrow
  obtain ⟨nc, hnc⟩ : ∃ n, n = w1.heap.size + gw2.news.size := ⟨_, rfl⟩
  rw [← hnc] at Bc ⊢
  have V1 := Lib.hid (Y1.out.grows GR)
  have V2 := Lib.hid (Y2.out.grows GR)
  have VF := Lib.hid (YF.out.grows GR)
  have VC := Lib.hid HA
  have GRR := Lib.hid (GRh.out.trans GR)
  clear b0 b1 b2 b3 b4 bf l0 c0 c1 c2 c3' c4' cf s0 s1 s2 s3 sf l1' l2' hbc G1 HA HO G0 hrow HBc GR hbf hfl hfl'
  obtain ⟨b0, b1, b2, b3, b4, bf⟩ := B0.c5
  obtain ⟨d0, d1, d2, d3, d4, df⟩ := B1.c5
  obtain ⟨s0, s1, s2, s3, sf⟩ := B2.c4
  obtain ⟨x0, x1, x2, x3, xf⟩ := B3.c4
  obtain ⟨f0, f1', f2', f3, f4, ff⟩ := Bf.c5
  obtain ⟨e0, e1, e2, e3, e4, ef⟩ := Bc.c5
  have l0 := B0.lt
  have l1' := B1.lt
  have l2' := B2.lt
  have l3' := B3.lt
  have lf' := Bf.lt
  have lc' := Bc.lt
  clear B0 B1 B2 B3 Bf Bc hnc Z0 Z1 Z2 Z3 Zf Y1 Y2 YF
  go_wp2
  refine wp_region_held_drew (S := (fun w' => w'.cell? ⟨w.heap.size, 0, none⟩ = some (.int .i64 r1.x0) ∧ w'.cell? ⟨w.heap.size, 1, none⟩ = some (.int .i64 r1.y0) ∧ w'.cell? ⟨w.heap.size, 2, none⟩ = some (.int .i64 r1.x1) ∧ w'.cell? ⟨w.heap.size, 3, none⟩ = some (.int .i64 r1.y1) ∧ w'.cell? ⟨w.heap.size, 4, none⟩ = some (.slice a1 l1 p1) ∧ w'.cell? ⟨w.heap.size + 1, 0, none⟩ = some (.int .i64 r2.x0) ∧ w'.cell? ⟨w.heap.size + 1, 1, none⟩ = some (.int .i64 r2.y0) ∧ w'.cell? ⟨w.heap.size + 1, 2, none⟩ = some (.int .i64 r2.x1) ∧ w'.cell? ⟨w.heap.size + 1, 3, none⟩ = some (.int .i64 r2.y1) ∧ w'.cell? ⟨w.heap.size + 1, 4, none⟩ = some (.slice a2 l2 p2) ∧ w'.cell? ⟨w.heap.size + 1 + 1, 0, none⟩ = some (.int .i64 s.x0) ∧ w'.cell? ⟨w.heap.size + 1 + 1, 1, none⟩ = some (.int .i64 s.y0) ∧ w'.cell? ⟨w.heap.size + 1 + 1, 2, none⟩ = some (.int .i64 s.x1) ∧ w'.cell? ⟨w.heap.size + 1 + 1, 3, none⟩ = some (.int .i64 s.y1) ∧ w'.cell? ⟨w.heap.size + 1 + 1 + 1, 0, none⟩ = some (.int .u8 p.r) ∧ w'.cell? ⟨w.heap.size + 1 + 1 + 1, 1, none⟩ = some (.int .u8 p.g) ∧ w'.cell? ⟨w.heap.size + 1 + 1 + 1, 2, none⟩ = some (.int .u8 p.b) ∧ w'.cell? ⟨w.heap.size + 1 + 1 + 1, 3, none⟩ = some (.int .u8 p.a) ∧ w'.cell? ⟨nf, 0, none⟩ = some (.int .i64 r1.x0) ∧ w'.cell? ⟨nf, 1, none⟩ = some (.int .i64 r1.y0) ∧ w'.cell? ⟨nf, 2, none⟩ = some (.int .i64 r1.x1) ∧ w'.cell? ⟨nf, 3, none⟩ = some (.int .i64 r1.y1) ∧ w'.cell? ⟨nf, 4, none⟩ = some (.slice af lf pf) ∧ w'.cell? ⟨nc, 0, none⟩ = some (.int .i64 r1.x0) ∧ w'.cell? ⟨nc, 1, none⟩ = some (.int .i64 r1.y0) ∧ w'.cell? ⟨nc, 2, none⟩ = some (.int .i64 r1.x1) ∧ w'.cell? ⟨nc, 3, none⟩ = some (.int .i64 r1.y1) ∧ w'.cell? ⟨nc, 4, none⟩ = some (.slice ac lc pc))) (by kernel_rfl) ?_ (fun hH => ?_)
  · (try dsimp only); go_simp
  refine held_take 0 (v := ?v0) rfl (by kernel_rfl) (by kernel_rfl) (by kernel_rfl) (fun _ _ _ h => h) (by rfl) hH ?y0 ?h0
  case y0 => intro wS hS; (try dsimp only at hS); go_simp; (try with_reducible rfl)
  try simp only [Act.put, List.setIfInBounds_toArray, List.set_cons_zero, List.set_cons_succ]
  refine held_take 1 (v := ?v1) rfl (by kernel_rfl) (by kernel_rfl) (by kernel_rfl) (fun _ _ _ h => h) (by rfl) hH ?y1 ?h1
  case y1 => intro wS hS; (try dsimp only at hS); go_simp; (try with_reducible rfl)
  try simp only [Act.put, List.setIfInBounds_toArray, List.set_cons_zero, List.set_cons_succ]
  refine held_take 2 (v := ?v2) rfl (by kernel_rfl) (by kernel_rfl) (by kernel_rfl) (fun _ _ _ h => h) (by rfl) hH ?y2 ?h2
  case y2 => intro wS hS; (try dsimp only at hS); go_simp; (try with_reducible rfl)
  try simp only [Act.put, List.setIfInBounds_toArray, List.set_cons_zero, List.set_cons_succ]
  refine held_take 3 (v := ?v3) rfl (by kernel_rfl) (by kernel_rfl) (by kernel_rfl) (fun _ _ _ h => h) (by rfl) hH ?y3 ?h3
  case y3 => intro wS hS; (try dsimp only at hS); go_simp; (try with_reducible rfl)
  try simp only [Act.put, List.setIfInBounds_toArray, List.set_cons_zero, List.set_cons_succ]
  refine wpAnyH_ready (rs := [4]) (by kernel_rfl) (by simp) ?_
  refine AllReadyH.cons rfl (fun K hK => ?_) AllReadyH.nil
  go_simp
  (go_at_call 19; (with_reducible refine Calls.mono (ref05_Fill r1 s a1 l1 p1 F p _ ?_ (by omega) hp) ?_); (exact BufAt.grows V1.out (by repeat (first | exact Grows.refl _ | apply Grows.grow | apply Grows.alloc | apply Grows.drew))); rintro e w' ⟨aq1, lq1, pq1, rfl, hgw, HQ1⟩; (first | (obtain ⟨gw, rfl⟩ := grows_of_grow hgw) | (obtain ⟨gw, rfl⟩ := hgw)); (try simp only [grow_drew] at HQ1))
  go_wp2_with fail
  clear hH
  refine hK.out _ _ ?_ (fun hH => ?_)
  · (try dsimp only); go_simp
  clear hK K
  try simp only [Act.put, List.setIfInBounds_toArray, List.set_cons_zero, List.set_cons_succ]
  refine wpAnyH_ready (rs := [5]) (by kernel_rfl) (by simp) ?_
  refine AllReadyH.cons rfl (fun K hK => ?_) AllReadyH.nil
  go_simp
  (go_at_call 18; (with_reducible refine Calls.mono (ref05_Same r1 af aq1 lf pf lq1 pq1 (fillF r1 s p F) _ ?_ ?_) ?_); (exact BufAt.grows VF.out (by repeat (first | exact Grows.refl _ | apply Grows.grow | apply Grows.alloc | apply Grows.drew))); (exact BufAt.grows HQ1.out.1 (by repeat (first | exact Grows.refl _ | apply Grows.grow | apply Grows.alloc | apply Grows.drew))); rintro e w' ⟨rfl, hgw⟩; first | (obtain ⟨gw, rfl⟩ := grows_of_grow hgw) | (obtain ⟨gw, rfl⟩ := hgw))
  go_wp2_with fail
  clear hH
  refine hK.out _ _ ?_ (fun hH => ?_)
  · (try dsimp only); go_simp
  clear hK K
  try simp only [Act.put, List.setIfInBounds_toArray, List.set_cons_zero, List.set_cons_succ]
  refine held_take 6 (v := ?v6) rfl (by kernel_rfl) (by kernel_rfl) (by kernel_rfl) (fun _ _ _ h => h) (by rfl) hH ?y6 ?h6
  case y6 => intro wS hS; (try dsimp only at hS); go_simp; (try with_reducible rfl)
  try simp only [Act.put, List.setIfInBounds_toArray, List.set_cons_zero, List.set_cons_succ]
  refine held_take 7 (v := ?v7) rfl (by kernel_rfl) (by kernel_rfl) (by kernel_rfl) (fun _ _ _ h => h) (by rfl) hH ?y7 ?h7
  case y7 => intro wS hS; (try dsimp only at hS); go_simp; (try with_reducible rfl)
  try simp only [Act.put, List.setIfInBounds_toArray, List.set_cons_zero, List.set_cons_succ]
  refine held_take 8 (v := ?v8) rfl (by kernel_rfl) (by kernel_rfl) (by kernel_rfl) (fun _ _ _ h => h) (by rfl) hH ?y8 ?h8
  case y8 => intro wS hS; (try dsimp only at hS); go_simp; (try with_reducible rfl)
  try simp only [Act.put, List.setIfInBounds_toArray, List.set_cons_zero, List.set_cons_succ]
  refine held_take 9 (v := ?v9) rfl (by kernel_rfl) (by kernel_rfl) (by kernel_rfl) (fun _ _ _ h => h) (by rfl) hH ?y9 ?h9
  case y9 => intro wS hS; (try dsimp only at hS); go_simp; (try with_reducible rfl)
  try simp only [Act.put, List.setIfInBounds_toArray, List.set_cons_zero, List.set_cons_succ]
  refine held_take 10 (v := ?v10) rfl (by kernel_rfl) (by kernel_rfl) (by kernel_rfl) (fun _ _ _ h => h) (by rfl) hH ?y10 ?h10
  case y10 => intro wS hS; (try dsimp only at hS); go_simp; (try with_reducible rfl)
  try simp only [Act.put, List.setIfInBounds_toArray, List.set_cons_zero, List.set_cons_succ]
  refine held_take 11 (v := ?v11) rfl (by kernel_rfl) (by kernel_rfl) (by kernel_rfl) (fun _ _ _ h => h) (by rfl) hH ?y11 ?h11
  case y11 => intro wS hS; (try dsimp only at hS); go_simp; (try with_reducible rfl)
  try simp only [Act.put, List.setIfInBounds_toArray, List.set_cons_zero, List.set_cons_succ]
  refine held_take 12 (v := ?v12) rfl (by kernel_rfl) (by kernel_rfl) (by kernel_rfl) (fun _ _ _ h => h) (by rfl) hH ?y12 ?h12
  case y12 => intro wS hS; (try dsimp only at hS); go_simp; (try with_reducible rfl)
  try simp only [Act.put, List.setIfInBounds_toArray, List.set_cons_zero, List.set_cons_succ]
  refine wpAnyH_ready (rs := [13]) (by kernel_rfl) (by simp) ?_
  refine AllReadyH.cons rfl (fun K hK => ?_) AllReadyH.nil
  go_simp
  (go_at_call 20; (with_reducible refine Calls.mono (ref05_Copy r1 r2 s dx dy a1 a2 l1 p1 l2 p2 F G _ ?_ ?_ (by omega) (by omega) hdx' hdy') ?_); (exact BufAt.grows V1.out (by repeat (first | exact Grows.refl _ | apply Grows.grow | apply Grows.alloc | apply Grows.drew))); (exact BufAt.grows V2.out (by repeat (first | exact Grows.refl _ | apply Grows.grow | apply Grows.alloc | apply Grows.drew))); rintro e w' ⟨aq2, lq2, pq2, rfl, hgw, HQ2⟩; (first | (obtain ⟨gw, rfl⟩ := grows_of_grow hgw) | (obtain ⟨gw, rfl⟩ := hgw)); (try simp only [grow_drew] at HQ2))
  go_wp2_with fail
  clear hH
  refine hK.out _ _ ?_ (fun hH => ?_)
  · (try dsimp only); go_simp
  clear hK K
  try simp only [Act.put, List.setIfInBounds_toArray, List.set_cons_zero, List.set_cons_succ]
  refine wpAnyH_ready (rs := [14]) (by kernel_rfl) (by simp) ?_
  refine AllReadyH.cons rfl (fun K hK => ?_) AllReadyH.nil
  go_simp
  (go_at_call 18; (with_reducible refine Calls.mono (ref05_Same r1 ac aq2 lc pc lq2 pq2 (copyF r1 s dx dy F G) _ ?_ ?_) ?_); (exact BufAt.grows VC.out (by repeat (first | exact Grows.refl _ | apply Grows.grow | apply Grows.alloc | apply Grows.drew))); (exact BufAt.grows HQ2.out.1 (by repeat (first | exact Grows.refl _ | apply Grows.grow | apply Grows.alloc | apply Grows.drew))); rintro e w' ⟨rfl, hgw⟩; first | (obtain ⟨gw, rfl⟩ := grows_of_grow hgw) | (obtain ⟨gw, rfl⟩ := hgw))
  go_wp2_with fail
  clear hH
  refine hK.out _ _ ?_ (fun hH => ?_)
  · (try dsimp only); go_simp
  clear hK K
  try simp only [Act.put, List.setIfInBounds_toArray, List.set_cons_zero, List.set_cons_succ]
  refine held_take 15 (v := ?v15) rfl (by kernel_rfl) (by kernel_rfl) (by kernel_rfl) (fun _ _ _ h => h) (by rfl) hH ?y15 ?h15
  case y15 => intro wS hS; (try dsimp only at hS); go_simp; (try with_reducible rfl)
  try simp only [Act.put, List.setIfInBounds_toArray, List.set_cons_zero, List.set_cons_succ]
  refine held_take 16 (v := ?v16) rfl (by kernel_rfl) (by kernel_rfl) (by kernel_rfl) (fun _ _ _ h => h) (by rfl) hH ?y16 ?h16
  case y16 => intro wS hS; (try dsimp only at hS); go_simp; (try with_reducible rfl)
  try simp only [Act.put, List.setIfInBounds_toArray, List.set_cons_zero, List.set_cons_succ]
  refine held_take 17 (v := ?v17) rfl (by kernel_rfl) (by kernel_rfl) (by kernel_rfl) (fun _ _ _ h => h) (by rfl) hH ?y17 ?h17
  case y17 => intro wS hS; (try dsimp only at hS); go_simp; (try with_reducible rfl)
  try simp only [Act.put, List.setIfInBounds_toArray, List.set_cons_zero, List.set_cons_succ]
  refine wpAnyH_ready (rs := [18]) (by kernel_rfl) (by simp) ?_
  refine AllReadyH.cons rfl (fun K hK => ?_) AllReadyH.nil
  go_simp
  (go_at_call 21; (with_reducible refine Calls.mono (ref05_LittleIs s 5000 _ _ c6) ?_); rintro e w' ⟨rfl, hgw⟩; first | (obtain ⟨gw, rfl⟩ := grows_of_grow hgw) | (obtain ⟨gw, rfl⟩ := hgw))
  go_wp2_with fail
  clear hH
  refine hK.out _ _ ?_ (fun hH => ?_)
  · (try dsimp only); go_simp
  clear hK K
  try simp only [Act.put, List.setIfInBounds_toArray, List.set_cons_zero, List.set_cons_succ]
  refine held_take 19 (v := ?v19) rfl (by kernel_rfl) (by kernel_rfl) (by kernel_rfl) (fun _ _ _ h => h) (by rfl) hH ?y19 ?h19
  case y19 => intro wS hS; (try dsimp only at hS); go_simp; (try with_reducible rfl)
  try simp only [Act.put, List.setIfInBounds_toArray, List.set_cons_zero, List.set_cons_succ]
  refine held_take 20 (v := ?v20) rfl (by kernel_rfl) (by kernel_rfl) (by kernel_rfl) (fun _ _ _ h => h) (by rfl) hH ?y20 ?h20
  case y20 => intro wS hS; (try dsimp only at hS); go_simp; (try with_reducible rfl)
  try simp only [Act.put, List.setIfInBounds_toArray, List.set_cons_zero, List.set_cons_succ]
  refine held_skip 21 rfl (by kernel_rfl) (by kernel_rfl) (by kernel_rfl) (fun _ _ _ h => h) (by rfl) hH ?_
  try simp only [Act.put, List.setIfInBounds_toArray, List.set_cons_zero, List.set_cons_succ]
  refine held_skip 22 rfl (by kernel_rfl) (by kernel_rfl) (by kernel_rfl) (fun _ _ _ h => h) (by rfl) hH ?_
  try simp only [Act.put, List.setIfInBounds_toArray, List.set_cons_zero, List.set_cons_succ]
  refine held_skip 23 rfl (by kernel_rfl) (by kernel_rfl) (by kernel_rfl) (fun _ _ _ h => h) (by rfl) hH ?_
  try simp only [Act.put, List.setIfInBounds_toArray, List.set_cons_zero, List.set_cons_succ]
  refine held_skip 24 rfl (by kernel_rfl) (by kernel_rfl) (by kernel_rfl) (fun _ _ _ h => h) (by rfl) hH ?_
  try simp only [Act.put, List.setIfInBounds_toArray, List.set_cons_zero, List.set_cons_succ]
  refine held_skip 25 rfl (by kernel_rfl) (by kernel_rfl) (by kernel_rfl) (fun _ _ _ h => h) (by rfl) hH ?_
  try simp only [Act.put, List.setIfInBounds_toArray, List.set_cons_zero, List.set_cons_succ]
  refine held_skip 26 rfl (by kernel_rfl) (by kernel_rfl) (by kernel_rfl) (fun _ _ _ h => h) (by rfl) hH ?_
  try simp only [Act.put, List.setIfInBounds_toArray, List.set_cons_zero, List.set_cons_succ]
  refine held_skip 27 rfl (by kernel_rfl) (by kernel_rfl) (by kernel_rfl) (fun _ _ _ h => h) (by rfl) hH ?_
  try simp only [Act.put, List.setIfInBounds_toArray, List.set_cons_zero, List.set_cons_succ]
  refine held_take 28 (v := ?v28) rfl (by kernel_rfl) (by kernel_rfl) (by kernel_rfl) (fun _ _ _ h => h) (by rfl) hH ?y28 ?h28
  case y28 => intro wS hS; (try dsimp only at hS); go_simp; (try with_reducible rfl)
  try simp only [Act.put, List.setIfInBounds_toArray, List.set_cons_zero, List.set_cons_succ]
  refine held_take 29 (v := ?v29) rfl (by kernel_rfl) (by kernel_rfl) (by kernel_rfl) (fun _ _ _ h => h) (by rfl) hH ?y29 ?h29
  case y29 => intro wS hS; (try dsimp only at hS); go_simp; (try with_reducible rfl)
  try simp only [Act.put, List.setIfInBounds_toArray, List.set_cons_zero, List.set_cons_succ]
  refine held_take 30 (v := ?v30) rfl (by kernel_rfl) (by kernel_rfl) (by kernel_rfl) (fun _ _ _ h => h) (by rfl) hH ?y30 ?h30
  case y30 => intro wS hS; (try dsimp only at hS); go_simp; (try with_reducible rfl)
  try simp only [Act.put, List.setIfInBounds_toArray, List.set_cons_zero, List.set_cons_succ]
  refine wpAnyH_done (by kernel_rfl) ?_ _
  go_wp2
  go_ret
  exact ⟨rfl, GRR.out.trans (by repeat (first | exact Grows.refl _ | apply Grows.grow | apply Grows.alloc | apply Grows.drew))⟩
end Go.Proofs.Ytldgodpenigphaa
