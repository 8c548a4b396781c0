/- The walks of raster.Right and of chapter 5's awake. -/
import Derived.Test.YtldgodpenigphaaRas3
import Derived.Test.YtldgodpenigphaaRef5M
namespace Go.Proofs.Ytldgodpenigphaa
open Go.RowKit
set_option linter.unusedVariables false

set_option maxHeartbeats 800000 in
theorem rect_withinAll (r : R) (w : World) (h : GoodR r) :
    Calls Try.prog 51 #[.agg #[.int .i64 r.x0, .int .i64 r.y0, .int .i64 r.x1, .int .i64 r.y1], .agg #[.int .i64 (-4398046511104), .int .i64 (-4398046511104), .int .i64 4398046511104, .int .i64 4398046511104]] w fun e w' => e = .returned (.bool true) ∧ Grows w w' := by
  have hb := h.bd
  cases he : emptyR r
  all_goals
    go_enter Try.func51, Try.ntmps51
    go_wp2_with ((first | (go_at_call 37; refine (rect_emptyR _ _).mono ?_; rintro e w' ⟨rfl, hgw⟩; first | (obtain ⟨gw, rfl⟩ := grows_of_grow hgw) | (obtain ⟨gw, rfl⟩ := hgw))))
    go_ret
    exact ⟨ret_b (by simp <;> omega), (by repeat (first | exact Grows.refl _ | apply Grows.grow | apply Grows.alloc | apply Grows.drew))⟩
set_option maxHeartbeats 400000 in
theorem rect_All (w : World) : Calls Try.prog 52 #[] w fun e w' => e = .returned (.agg #[.int .i64 (-4398046511104), .int .i64 (-4398046511104), .int .i64 4398046511104, .int .i64 4398046511104]) ∧ Grows w w' := by
  go_enter Try.func52, Try.ntmps52
  go_wp2
  refine bodyPost_ret (results_cell_row rfl _ _ _ 23 #[.int .i64 (-4398046511104), .int .i64 (-4398046511104), .int .i64 4398046511104, .int .i64 4398046511104] (0, 0) _ rfl ?_ Try.underlying23 rfl rect_info) rfl ⟨rfl, (by repeat (first | exact Grows.refl _ | apply Grows.grow | apply Grows.alloc | apply Grows.drew))⟩
  exact (by repeat (first | exact blk_at _ _ _ (by first | omega | (simp; done) | (simp; omega)) | refine (blk_past _ _ _ (by first | omega | (simp; done) | (simp; omega))).trans ?_ | refine (heap_grow _ _ _ (by first | omega | (simp; done) | (simp; omega))).trans ?_ | refine (blk_drew _ _).trans ?_))

set_option maxHeartbeats 1600000 in
theorem raster_Right (r : R) (a : Option Addr) (len cap : Nat) (w : World) (hg : GoodR r) (hne : emptyR r = false) (hc : len = cntR r) (hl : len ≤ cap) (hm : cap ≤ 9223372036854775807) (hs : cntR r ≤ 30000000000000) :
    Calls Try.prog 33 #[.agg #[.int .i64 r.x0, .int .i64 r.y0, .int .i64 r.x1, .int .i64 r.y1, .slice a len cap]] w fun e w' => e = .returned (.bool true) ∧ Grows w w' := by
  subst hc
  have HG := Lib.hid hg
  clear hg
  go_enter Try.func33, Try.ntmps33
  go_wp2_with ((first | (go_at_call 37; refine (rect_emptyR _ _).mono ?_; rintro e w' ⟨rfl, hgw⟩; first | (obtain ⟨gw, rfl⟩ := grows_of_grow hgw) | (obtain ⟨gw, rfl⟩ := hgw))))
  first | refine region_grow2 (by kernel_rfl) (by kernel_rfl) ?_ | refine region_grow (by kernel_rfl) (by kernel_rfl) ?_
  repeat (go_big_quiet_step ((first | (go_at_call 52; exact grow_of (rect_All _)) | (go_at_call 51; exact grow_of (rect_withinAll _ _ HG.out)) | (go_at_call 48; exact grow_of (rect_areaC _ _ HG.out (by omega))))))
  refine wpQuiet_nil ?_
  rintro _ ⟨gr, rfl⟩
  go_wp2
  go_ret
  exact ⟨rfl, (by repeat (first | exact Grows.refl _ | apply Grows.grow | apply Grows.alloc | apply Grows.drew))⟩

set_option maxHeartbeats 3200000 in
theorem awake05 (w : World) : Calls Try.prog 11 #[] w fun e w' => e = .returned (.bool true) ∧ Grows w w' := by
  obtain ⟨r0, hr0⟩ : ∃ r0 : R, r0 = ⟨1, 1, 3, 3⟩ := ⟨_, rfl⟩
  have hnew : ∀ w, Calls Try.prog 30 #[.agg #[.int .i64 1, .int .i64 1, .int .i64 3, .int .i64 3]] w (RetBuf w r0 noF) := fun w => by rw [hr0]; exact raster_New ⟨1, 1, 3, 3⟩ w (by decide) (by decide)
  have HNEW := Lib.hid hnew
  clear hnew
  have hgd : GoodR r0 := by rw [hr0]; exact good_some (r := ⟨1, 1, 3, 3⟩) (by decide)
  have hcn : cntR r0 = 4 := by rw [hr0]; decide
  have hee : emptyR r0 = false := by rw [hr0]; decide
  have HE := Lib.hid hr0
  clear hr0
  have HGD := Lib.hid hgd
  have HCN := Lib.hid hcn
  clear hgd hcn
  go_enter Try.func11, Try.ntmps11
  go_wp2_with ((go_at_call 30; refine (HNEW.out _).mono ?_; rintro e w' ⟨a1, l1, p1, rfl, hgw, HB1⟩; (first | (obtain ⟨gw, rfl⟩ := grows_of_grow hgw) | (obtain ⟨gw, rfl⟩ := hgw))))
  have hne : blkOf a1 ≠ some (w.heap.size + 1 + gw.news.size) := by
    intro e
    cases a1 with
    | none => cases e
    | some x => have := (HB1.out.2.1 x rfl).1; simp at this e; omega
  have hfr : ∀ k, blkOf a1 = some k → w.heap.size + 1 ≤ k := fun k hk => by
    cases a1 with
    | none => cases hk
    | some x => have := HB1.out.2.2 x rfl; simp at this hk; omega
  refine Calls.mono (raster_Put (w.heap.size + 1 + gw.news.size) r0 a1 l1 p1 noF 2 1 ⟨1, 2, 3, 4⟩ _ ?_ ?_ ?_ (by rw [HCN.out]; omega) ?_) ?_
  · show Blk _ _ _ _
    exact (by unfold Blk; repeat (first | exact blk_at _ _ _ (by first | omega | (simp; done) | (simp; omega)) | refine (blk_past _ _ _ (by first | omega | (simp; done) | (simp; omega))).trans ?_ | refine (heap_grow _ _ _ (by first | omega | (simp; done) | (simp; omega))).trans ?_ | refine (blk_drew _ _).trans ?_))
  · exact BufAt.grows HB1.out.1 (by repeat (first | exact Grows.refl _ | apply Grows.grow | apply Grows.alloc | apply Grows.drew))
  · exact HB1.out.2.1.grows (by repeat (first | exact Grows.refl _ | apply Grows.grow | apply Grows.alloc | apply Grows.drew))
  · simp [okP]
  rintro e w1 ⟨rfl, G1, HA, HO⟩
  have Bp : Blk w1 w.heap.size 28 #[.int .u8 1, .int .u8 2, .int .u8 3, .int .u8 4] := by
    refine Blk.grown ?_ G1 (fun e => ?_)
    · exact (by unfold Blk; repeat (first | exact blk_at _ _ _ (by first | omega | (simp; done) | (simp; omega)) | refine (blk_past _ _ _ (by first | omega | (simp; done) | (simp; omega))).trans ?_ | refine (heap_grow _ _ _ (by first | omega | (simp; done) | (simp; omega))).trans ?_ | refine (blk_drew _ _).trans ?_))
    · have := hfr _ e.symm; omega
  have Bo : Blk w1 (w.heap.size + 1 + gw.news.size) 26 #[.int .i64 r0.x0, .int .i64 r0.y0, .int .i64 r0.x1, .int .i64 r0.y1, .slice a1 l1 p1] := by
    refine Blk.grown ?_ G1 (fun e => hne e.symm)
    exact (by unfold Blk; repeat (first | exact blk_at _ _ _ (by first | omega | (simp; done) | (simp; omega)) | refine (blk_past _ _ _ (by first | omega | (simp; done) | (simp; omega))).trans ?_ | refine (heap_grow _ _ _ (by first | omega | (simp; done) | (simp; omega))).trans ?_ | refine (blk_drew _ _).trans ?_))
  have GR : Grows w w1 := Grows.grown (w1 := _) (by repeat (first | exact Grows.refl _ | apply Grows.grow | apply Grows.alloc | apply Grows.drew)) G1 (fun k hk => by have := hfr k hk; omega)
  obtain ⟨n, hn⟩ : ∃ n, n = w.heap.size + 1 + gw.news.size := ⟨_, rfl⟩
  rw [← hn] at Bo hne
  have H1 := Lib.hid (And.intro GR (And.intro Bp (And.intro Bo (And.intro HA (And.intro HO (And.intro hfr (And.intro hne hn)))))))
  obtain ⟨b0, b1, b2, b3, b4, bf⟩ := Bo.c5
  obtain ⟨d0, d1, d2, d3, df⟩ := Bp.c4
  have l0 := Bo.lt
  have l2 := Bp.lt
  clear GR Bp Bo HA HO hfr hne G1 HB1
  rw [← hn]
  clear hn
  go_wp2_with fail
  refine Calls.mono (raster_Put n r0 a1 l1 p1 _ 3 1 ⟨1, 2, 3, 4⟩ _ H1.out.2.2.1 H1.out.2.2.2.1 H1.out.2.2.2.2.1 (by rw [HCN.out]; omega) (by simp [okP])) ?_
  rintro e w2 ⟨rfl, G2, HA, HO⟩
  obtain ⟨GR, Bp, Bo, -, -, hfr, hne, hn⟩ := H1.out
  have Bp := Bp.grown G2 (fun e => by have := hfr _ e.symm; omega)
  have Bo := Bo.grown G2 (fun e => hne e.symm)
  have GR : Grows w w2 := GR.grown G2 (fun k hk => by have := hfr k hk; omega)
  obtain ⟨b0, b1, b2, b3, b4, bf⟩ := Bo.c5
  obtain ⟨d0, d1, d2, d3, df⟩ := Bp.c4
  have l0 := Bo.lt
  have l2 := Bp.lt
  obtain ⟨F, hF⟩ : ∃ F, F = putF r0 (putF r0 noF 2 1 ⟨1, 2, 3, 4⟩) 3 1 ⟨1, 2, 3, 4⟩ := ⟨_, rfl⟩
  rw [← hF] at HA
  have e1 : F 2 1 = ⟨1, 2, 3, 4⟩ := by rw [hF, HE.out]; rfl
  have e2 : F 3 1 = noP := by rw [hF, HE.out]; rfl
  have e3 : F (ptX r0 1) (ptY r0 1) = ⟨1, 2, 3, 4⟩ := by rw [hF, HE.out]; rfl
  have e4 : F (ptX r0 2) (ptY r0 2) = noP := by rw [hF, HE.out]; rfl
  have hl : l1 = 4 := HA.count.trans HCN.out
  subst hl
  have hm := HA.most
  obtain ⟨b, off, rfl, hb, -, x0, x1, x2, x3⟩ := HA.pix.px (k := 1) (by omega)
  obtain ⟨b', off', e, -, -, y0, y1, y2, y3⟩ := HA.pix.px (k := 2) (by omega)
  cases e
  simp only [e3, Nat.one_mul, Nat.add_assoc, Nat.reduceAdd] at x0 x1 x2 x3
  simp only [e4, noP, Nat.reduceMul, Nat.add_assoc, Nat.reduceAdd] at y0 y1 y2 y3
  have en : noP = ⟨0, 0, 0, 0⟩ := rfl
  have HSRC := Lib.hid HA
  have hcc : cntR r0 ≤ 30000000000000 := by rw [HCN.out]; omega
  have GR' := Lib.hid GR
  clear H1 HA HO Bp Bo G2 e3 e4 hF GR hn
  go_wp2
  first | refine region_grow2 (by kernel_rfl) (by kernel_rfl) ?_ | refine region_grow (by kernel_rfl) (by kernel_rfl) ?_
  repeat (go_big_quiet_step ((first | (go_at_call 32; exact grow_of (raster_At _ _ _ _ _ _ _ _ (Lib.hid (BufAt.grows HSRC.out (by repeat (first | exact Grows.refl _ | apply Grows.grow | apply Grows.alloc | apply Grows.drew)))) (by omega))) | (go_at_call 33; exact grow_of (raster_Right _ _ _ _ _ HGD.out hee HCN.out.symm (by omega) (by omega) (by omega))))))
  refine wpQuiet_nil ?_
  rintro _ ⟨gr, rfl⟩
  go_wp2
  go_ret
  exact ⟨rfl, GR'.out.trans (by repeat (first | exact Grows.refl _ | apply Grows.grow | apply Grows.alloc | apply Grows.drew))⟩
end Go.Proofs.Ytldgodpenigphaa
