/- The walks of layer 6 (mixing): the reference's Blend, a mode at a time. -/
import Derived.Test.YtklcmlbkhjcaiaaGreatDoorK13


namespace Go.Proofs.YtklcmlbkhjcaiaaGreatDoor
open Go.RowKit
set_option linter.unusedVariables false

theorem cut_min (n A : Int) (h : 0 ≤ A ∧ A ≤ 255) : cutT (min n A) = min (cutT n) A := by unfold cutT; omega
theorem max_as (x y : Int) : max x y = x + y - min x y := by omega

set_option maxHeartbeats 6400000 in
theorem ref06_blend_1 (pr pg pb pa qr qg qb qa : Int) (w : World) (hpr : 0 ≤ pr ∧ pr ≤ 255) (hpg : 0 ≤ pg ∧ pg ≤ 255) (hpb : 0 ≤ pb ∧ pb ≤ 255) (hpa : 0 ≤ pa ∧ pa ≤ 255) (hqr : 0 ≤ qr ∧ qr ≤ 255) (hqg : 0 ≤ qg ∧ qg ≤ 255) (hqb : 0 ≤ qb ∧ qb ≤ 255) (hqa : 0 ≤ qa ∧ qa ≤ 255) :
    Calls Tryz.prog 71 #[.int .i64 1, .agg #[.int .u8 pr, .int .u8 pg, .int .u8 pb, .int .u8 pa], .agg #[.int .u8 qr, .int .u8 qg, .int .u8 qb, .int .u8 qa]] w fun e w' => e = .returned (.agg #[.int .u8 (blendP 1 ⟨pr, pg, pb, pa⟩ ⟨qr, qg, qb, qa⟩).r, .int .u8 (blendP 1 ⟨pr, pg, pb, pa⟩ ⟨qr, qg, qb, qa⟩).g, .int .u8 (blendP 1 ⟨pr, pg, pb, pa⟩ ⟨qr, qg, qb, qa⟩).b, .int .u8 (blendP 1 ⟨pr, pg, pb, pa⟩ ⟨qr, qg, qb, qa⟩).a]) ∧ Grows w w' := by
  have hA := cutT_bd (pa + qa - mulT pa qa)
  have er : blendP 1 ⟨pr, pg, pb, pa⟩ ⟨qr, qg, qb, qa⟩ = ⟨cutT (min (mulT pr qr + (mulT pr (255 - qa) + mulT qr (255 - pa))) (cutT (pa + qa - mulT pa qa))), cutT (min (mulT pg qg + (mulT pg (255 - qa) + mulT qg (255 - pa))) (cutT (pa + qa - mulT pa qa))), cutT (min (mulT pb qb + (mulT pb (255 - qa) + mulT qb (255 - pa))) (cutT (pa + qa - mulT pa qa))), cutT (pa + qa - mulT pa qa)⟩ := by
    simp only [cut_min _ _ hA]
    simp [blendP, alphaV, colV, besideV]
  rw [er]
  clear er
  have sp := sub_bd pa hpa
  have sq := sub_bd qa hqa
  have mm := mulT_bd pa qa hpa.1 hpa.2 hqa.1 hqa.2
  have ar := mulT_bd qr (255 - pa) hqr.1 hqr.2 sp.1 sp.2
  have br := mulT_bd pr qa hpr.1 hpr.2 hqa.1 hqa.2
  have cr := mulT_bd pr (255 - qa) hpr.1 hpr.2 sq.1 sq.2
  have dr := mulT_bd qr pa hqr.1 hqr.2 hpa.1 hpa.2
  have er := mulT_bd pr qr hpr.1 hpr.2 hqr.1 hqr.2
  have ag := mulT_bd qg (255 - pa) hqg.1 hqg.2 sp.1 sp.2
  have bg := mulT_bd pg qa hpg.1 hpg.2 hqa.1 hqa.2
  have cg := mulT_bd pg (255 - qa) hpg.1 hpg.2 sq.1 sq.2
  have dg := mulT_bd qg pa hqg.1 hqg.2 hpa.1 hpa.2
  have eg := mulT_bd pg qg hpg.1 hpg.2 hqg.1 hqg.2
  have ab := mulT_bd qb (255 - pa) hqb.1 hqb.2 sp.1 sp.2
  have bb := mulT_bd pb qa hpb.1 hpb.2 hqa.1 hqa.2
  have cb := mulT_bd pb (255 - qa) hpb.1 hpb.2 sq.1 sq.2
  have db := mulT_bd qb pa hqb.1 hqb.2 hpa.1 hpa.2
  have eb := mulT_bd pb qb hpb.1 hpb.2 hqb.1 hqb.2
  go_enter Tryz.func71, Tryz.ntmps71
  go_wp2_with ((first | (go_at_call 103; refine (ref06_by _ _ _ (by omega) (by omega)).mono ?_; rintro e w' ⟨rfl, rfl⟩) | (go_at_call 100; refine (ref01_cut _ _ (by omega) (by omega)).mono ?_; rintro e w' ⟨rfl, rfl⟩)))
  refine wp_loop_rounds 4 ?_
  rw [rounds_succ]
  go_wp2
  first | refine region_grow2 (by kernel_rfl) (by kernel_rfl) ?_ | refine region_grow (by kernel_rfl) (by kernel_rfl) ?_
  repeat (go_big_quiet_step ((first | (go_at_call 103; exact grow_same (ref06_by _ _ _ (by omega) (by omega))))))
  refine wpQuiet_nil ?_
  rintro _ ⟨gr, rfl⟩
  go_wp2
  first | refine region_grow2 (by kernel_rfl) (by kernel_rfl) ?_ | refine region_grow (by kernel_rfl) (by kernel_rfl) ?_
  repeat (go_big_quiet_step ((first | (go_at_call 103; exact grow_same (ref06_by _ _ _ (by omega) (by omega))))))
  refine wpQuiet_nil ?_
  rintro _ ⟨gr, rfl⟩
  go_wp2
  first | refine region_grow2 (by kernel_rfl) (by kernel_rfl) ?_ | refine region_grow (by kernel_rfl) (by kernel_rfl) ?_
  repeat (go_big_quiet_step ((first | (go_at_call 103; exact grow_same (ref06_by _ _ _ (by omega) (by omega))))))
  refine wpQuiet_nil ?_
  rintro _ ⟨gr, rfl⟩
  go_wp2
  first | refine region_grow2 (by kernel_rfl) (by kernel_rfl) ?_ | refine region_grow (by kernel_rfl) (by kernel_rfl) ?_
  repeat (go_big_quiet_step (fail))
  refine wpQuiet_nil ?_
  rintro _ ⟨gr, rfl⟩
  go_wp2
  first | refine region_grow2 (by kernel_rfl) (by kernel_rfl) ?_ | refine region_grow (by kernel_rfl) (by kernel_rfl) ?_
  repeat (go_big_quiet_step ((first | (go_at_call 103; exact grow_same (ref06_by _ _ _ (by omega) (by omega))))))
  refine wpQuiet_nil ?_
  rintro _ ⟨gr, rfl⟩
  go_wp2_with ((first | (go_at_call 104; refine (ref06_less _ _ _ ).mono ?_; rintro e w' ⟨rfl, rfl⟩) | (go_at_call 100; refine (ref01_cut _ _ (by omega) (by omega)).mono ?_; rintro e w' ⟨rfl, rfl⟩)))
  rw [rounds_succ]
  go_wp2
  first | refine region_grow2 (by kernel_rfl) (by kernel_rfl) ?_ | refine region_grow (by kernel_rfl) (by kernel_rfl) ?_
  repeat (go_big_quiet_step ((first | (go_at_call 103; exact grow_same (ref06_by _ _ _ (by omega) (by omega))))))
  refine wpQuiet_nil ?_
  rintro _ ⟨gr, rfl⟩
  go_wp2
  first | refine region_grow2 (by kernel_rfl) (by kernel_rfl) ?_ | refine region_grow (by kernel_rfl) (by kernel_rfl) ?_
  repeat (go_big_quiet_step ((first | (go_at_call 103; exact grow_same (ref06_by _ _ _ (by omega) (by omega))))))
  refine wpQuiet_nil ?_
  rintro _ ⟨gr, rfl⟩
  go_wp2
  first | refine region_grow2 (by kernel_rfl) (by kernel_rfl) ?_ | refine region_grow (by kernel_rfl) (by kernel_rfl) ?_
  repeat (go_big_quiet_step ((first | (go_at_call 103; exact grow_same (ref06_by _ _ _ (by omega) (by omega))))))
  refine wpQuiet_nil ?_
  rintro _ ⟨gr, rfl⟩
  go_wp2
  first | refine region_grow2 (by kernel_rfl) (by kernel_rfl) ?_ | refine region_grow (by kernel_rfl) (by kernel_rfl) ?_
  repeat (go_big_quiet_step (fail))
  refine wpQuiet_nil ?_
  rintro _ ⟨gr, rfl⟩
  go_wp2
  first | refine region_grow2 (by kernel_rfl) (by kernel_rfl) ?_ | refine region_grow (by kernel_rfl) (by kernel_rfl) ?_
  repeat (go_big_quiet_step ((first | (go_at_call 103; exact grow_same (ref06_by _ _ _ (by omega) (by omega))))))
  refine wpQuiet_nil ?_
  rintro _ ⟨gr, rfl⟩
  go_wp2_with ((first | (go_at_call 104; refine (ref06_less _ _ _ ).mono ?_; rintro e w' ⟨rfl, rfl⟩) | (go_at_call 100; refine (ref01_cut _ _ (by omega) (by omega)).mono ?_; rintro e w' ⟨rfl, rfl⟩)))
  rw [rounds_succ]
  go_wp2
  first | refine region_grow2 (by kernel_rfl) (by kernel_rfl) ?_ | refine region_grow (by kernel_rfl) (by kernel_rfl) ?_
  repeat (go_big_quiet_step ((first | (go_at_call 103; exact grow_same (ref06_by _ _ _ (by omega) (by omega))))))
  refine wpQuiet_nil ?_
  rintro _ ⟨gr, rfl⟩
  go_wp2
  first | refine region_grow2 (by kernel_rfl) (by kernel_rfl) ?_ | refine region_grow (by kernel_rfl) (by kernel_rfl) ?_
  repeat (go_big_quiet_step ((first | (go_at_call 103; exact grow_same (ref06_by _ _ _ (by omega) (by omega))))))
  refine wpQuiet_nil ?_
  rintro _ ⟨gr, rfl⟩
  go_wp2
  first | refine region_grow2 (by kernel_rfl) (by kernel_rfl) ?_ | refine region_grow (by kernel_rfl) (by kernel_rfl) ?_
  repeat (go_big_quiet_step ((first | (go_at_call 103; exact grow_same (ref06_by _ _ _ (by omega) (by omega))))))
  refine wpQuiet_nil ?_
  rintro _ ⟨gr, rfl⟩
  go_wp2
  first | refine region_grow2 (by kernel_rfl) (by kernel_rfl) ?_ | refine region_grow (by kernel_rfl) (by kernel_rfl) ?_
  repeat (go_big_quiet_step (fail))
  refine wpQuiet_nil ?_
  rintro _ ⟨gr, rfl⟩
  go_wp2
  first | refine region_grow2 (by kernel_rfl) (by kernel_rfl) ?_ | refine region_grow (by kernel_rfl) (by kernel_rfl) ?_
  repeat (go_big_quiet_step ((first | (go_at_call 103; exact grow_same (ref06_by _ _ _ (by omega) (by omega))))))
  refine wpQuiet_nil ?_
  rintro _ ⟨gr, rfl⟩
  go_wp2_with ((first | (go_at_call 104; refine (ref06_less _ _ _ ).mono ?_; rintro e w' ⟨rfl, rfl⟩) | (go_at_call 100; refine (ref01_cut _ _ (by omega) (by omega)).mono ?_; rintro e w' ⟨rfl, rfl⟩)))
  rw [rounds_succ]
  go_wp2
  refine bodyPost_ret (results_cell_row rfl _ _ _ 37 #[.int .u8 (cutT (min (mulT pr qr + (mulT pr (255 - qa) + mulT qr (255 - pa))) (cutT (pa + qa - mulT pa qa)))), .int .u8 (cutT (min (mulT pg qg + (mulT pg (255 - qa) + mulT qg (255 - pa))) (cutT (pa + qa - mulT pa qa)))), .int .u8 (cutT (min (mulT pb qb + (mulT pb (255 - qa) + mulT qb (255 - pa))) (cutT (pa + qa - mulT pa qa)))), .int .u8 (cutT (pa + qa - mulT pa qa))] (0, 0) _ rfl ?_ Tryz.underlying37 rfl px_info) rfl ⟨rfl, (by repeat (first | exact Grows.refl _ | apply Grows.grow | apply Grows.alloc | apply Grows.drew))⟩
  exact (by repeat (first | exact blk_at _ _ _ (by first | omega | (simp; done) | (simp; omega)) | refine (blk_past _ _ _ (by first | omega | (simp; done) | (simp; omega))).trans ?_ | refine (heap_grow _ _ _ (by first | omega | (simp; done) | (simp; omega))).trans ?_ | refine (blk_drew _ _).trans ?_))

set_option maxHeartbeats 6400000 in
theorem ref06_blend_2 (pr pg pb pa qr qg qb qa : Int) (w : World) (hpr : 0 ≤ pr ∧ pr ≤ 255) (hpg : 0 ≤ pg ∧ pg ≤ 255) (hpb : 0 ≤ pb ∧ pb ≤ 255) (hpa : 0 ≤ pa ∧ pa ≤ 255) (hqr : 0 ≤ qr ∧ qr ≤ 255) (hqg : 0 ≤ qg ∧ qg ≤ 255) (hqb : 0 ≤ qb ∧ qb ≤ 255) (hqa : 0 ≤ qa ∧ qa ≤ 255) :
    Calls Tryz.prog 71 #[.int .i64 2, .agg #[.int .u8 pr, .int .u8 pg, .int .u8 pb, .int .u8 pa], .agg #[.int .u8 qr, .int .u8 qg, .int .u8 qb, .int .u8 qa]] w fun e w' => e = .returned (.agg #[.int .u8 (blendP 2 ⟨pr, pg, pb, pa⟩ ⟨qr, qg, qb, qa⟩).r, .int .u8 (blendP 2 ⟨pr, pg, pb, pa⟩ ⟨qr, qg, qb, qa⟩).g, .int .u8 (blendP 2 ⟨pr, pg, pb, pa⟩ ⟨qr, qg, qb, qa⟩).b, .int .u8 (blendP 2 ⟨pr, pg, pb, pa⟩ ⟨qr, qg, qb, qa⟩).a]) ∧ Grows w w' := by
  have hA := cutT_bd (pa + qa - mulT pa qa)
  have er : blendP 2 ⟨pr, pg, pb, pa⟩ ⟨qr, qg, qb, qa⟩ = ⟨cutT (min (pr + qr - mulT pr qr) (cutT (pa + qa - mulT pa qa))), cutT (min (pg + qg - mulT pg qg) (cutT (pa + qa - mulT pa qa))), cutT (min (pb + qb - mulT pb qb) (cutT (pa + qa - mulT pa qa))), cutT (pa + qa - mulT pa qa)⟩ := by
    simp only [cut_min _ _ hA]
    simp [blendP, alphaV, colV]
  rw [er]
  clear er
  have sp := sub_bd pa hpa
  have sq := sub_bd qa hqa
  have mm := mulT_bd pa qa hpa.1 hpa.2 hqa.1 hqa.2
  have ar := mulT_bd qr (255 - pa) hqr.1 hqr.2 sp.1 sp.2
  have br := mulT_bd pr qa hpr.1 hpr.2 hqa.1 hqa.2
  have cr := mulT_bd pr (255 - qa) hpr.1 hpr.2 sq.1 sq.2
  have dr := mulT_bd qr pa hqr.1 hqr.2 hpa.1 hpa.2
  have er := mulT_bd pr qr hpr.1 hpr.2 hqr.1 hqr.2
  have ag := mulT_bd qg (255 - pa) hqg.1 hqg.2 sp.1 sp.2
  have bg := mulT_bd pg qa hpg.1 hpg.2 hqa.1 hqa.2
  have cg := mulT_bd pg (255 - qa) hpg.1 hpg.2 sq.1 sq.2
  have dg := mulT_bd qg pa hqg.1 hqg.2 hpa.1 hpa.2
  have eg := mulT_bd pg qg hpg.1 hpg.2 hqg.1 hqg.2
  have ab := mulT_bd qb (255 - pa) hqb.1 hqb.2 sp.1 sp.2
  have bb := mulT_bd pb qa hpb.1 hpb.2 hqa.1 hqa.2
  have cb := mulT_bd pb (255 - qa) hpb.1 hpb.2 sq.1 sq.2
  have db := mulT_bd qb pa hqb.1 hqb.2 hpa.1 hpa.2
  have eb := mulT_bd pb qb hpb.1 hpb.2 hqb.1 hqb.2
  go_enter Tryz.func71, Tryz.ntmps71
  go_wp2_with ((first | (go_at_call 103; refine (ref06_by _ _ _ (by omega) (by omega)).mono ?_; rintro e w' ⟨rfl, rfl⟩) | (go_at_call 100; refine (ref01_cut _ _ (by omega) (by omega)).mono ?_; rintro e w' ⟨rfl, rfl⟩)))
  refine wp_loop_rounds 4 ?_
  rw [rounds_succ]
  go_wp2
  first | refine region_grow2 (by kernel_rfl) (by kernel_rfl) ?_ | refine region_grow (by kernel_rfl) (by kernel_rfl) ?_
  repeat (go_big_quiet_step ((first | (go_at_call 103; exact grow_same (ref06_by _ _ _ (by omega) (by omega))))))
  refine wpQuiet_nil ?_
  rintro _ ⟨gr, rfl⟩
  go_wp2
  first | refine region_grow2 (by kernel_rfl) (by kernel_rfl) ?_ | refine region_grow (by kernel_rfl) (by kernel_rfl) ?_
  repeat (go_big_quiet_step ((first | (go_at_call 103; exact grow_same (ref06_by _ _ _ (by omega) (by omega))))))
  refine wpQuiet_nil ?_
  rintro _ ⟨gr, rfl⟩
  go_wp2
  first | refine region_grow2 (by kernel_rfl) (by kernel_rfl) ?_ | refine region_grow (by kernel_rfl) (by kernel_rfl) ?_
  repeat (go_big_quiet_step ((first | (go_at_call 103; exact grow_same (ref06_by _ _ _ (by omega) (by omega))))))
  refine wpQuiet_nil ?_
  rintro _ ⟨gr, rfl⟩
  go_wp2
  first | refine region_grow2 (by kernel_rfl) (by kernel_rfl) ?_ | refine region_grow (by kernel_rfl) (by kernel_rfl) ?_
  repeat (go_big_quiet_step (fail))
  refine wpQuiet_nil ?_
  rintro _ ⟨gr, rfl⟩
  go_wp2
  first | refine region_grow2 (by kernel_rfl) (by kernel_rfl) ?_ | refine region_grow (by kernel_rfl) (by kernel_rfl) ?_
  repeat (go_big_quiet_step ((first | (go_at_call 103; exact grow_same (ref06_by _ _ _ (by omega) (by omega))))))
  refine wpQuiet_nil ?_
  rintro _ ⟨gr, rfl⟩
  go_wp2_with ((first | (go_at_call 104; refine (ref06_less _ _ _ ).mono ?_; rintro e w' ⟨rfl, rfl⟩) | (go_at_call 100; refine (ref01_cut _ _ (by omega) (by omega)).mono ?_; rintro e w' ⟨rfl, rfl⟩)))
  rw [rounds_succ]
  go_wp2
  first | refine region_grow2 (by kernel_rfl) (by kernel_rfl) ?_ | refine region_grow (by kernel_rfl) (by kernel_rfl) ?_
  repeat (go_big_quiet_step ((first | (go_at_call 103; exact grow_same (ref06_by _ _ _ (by omega) (by omega))))))
  refine wpQuiet_nil ?_
  rintro _ ⟨gr, rfl⟩
  go_wp2
  first | refine region_grow2 (by kernel_rfl) (by kernel_rfl) ?_ | refine region_grow (by kernel_rfl) (by kernel_rfl) ?_
  repeat (go_big_quiet_step ((first | (go_at_call 103; exact grow_same (ref06_by _ _ _ (by omega) (by omega))))))
  refine wpQuiet_nil ?_
  rintro _ ⟨gr, rfl⟩
  go_wp2
  first | refine region_grow2 (by kernel_rfl) (by kernel_rfl) ?_ | refine region_grow (by kernel_rfl) (by kernel_rfl) ?_
  repeat (go_big_quiet_step ((first | (go_at_call 103; exact grow_same (ref06_by _ _ _ (by omega) (by omega))))))
  refine wpQuiet_nil ?_
  rintro _ ⟨gr, rfl⟩
  go_wp2
  first | refine region_grow2 (by kernel_rfl) (by kernel_rfl) ?_ | refine region_grow (by kernel_rfl) (by kernel_rfl) ?_
  repeat (go_big_quiet_step (fail))
  refine wpQuiet_nil ?_
  rintro _ ⟨gr, rfl⟩
  go_wp2
  first | refine region_grow2 (by kernel_rfl) (by kernel_rfl) ?_ | refine region_grow (by kernel_rfl) (by kernel_rfl) ?_
  repeat (go_big_quiet_step ((first | (go_at_call 103; exact grow_same (ref06_by _ _ _ (by omega) (by omega))))))
  refine wpQuiet_nil ?_
  rintro _ ⟨gr, rfl⟩
  go_wp2_with ((first | (go_at_call 104; refine (ref06_less _ _ _ ).mono ?_; rintro e w' ⟨rfl, rfl⟩) | (go_at_call 100; refine (ref01_cut _ _ (by omega) (by omega)).mono ?_; rintro e w' ⟨rfl, rfl⟩)))
  rw [rounds_succ]
  go_wp2
  first | refine region_grow2 (by kernel_rfl) (by kernel_rfl) ?_ | refine region_grow (by kernel_rfl) (by kernel_rfl) ?_
  repeat (go_big_quiet_step ((first | (go_at_call 103; exact grow_same (ref06_by _ _ _ (by omega) (by omega))))))
  refine wpQuiet_nil ?_
  rintro _ ⟨gr, rfl⟩
  go_wp2
  first | refine region_grow2 (by kernel_rfl) (by kernel_rfl) ?_ | refine region_grow (by kernel_rfl) (by kernel_rfl) ?_
  repeat (go_big_quiet_step ((first | (go_at_call 103; exact grow_same (ref06_by _ _ _ (by omega) (by omega))))))
  refine wpQuiet_nil ?_
  rintro _ ⟨gr, rfl⟩
  go_wp2
  first | refine region_grow2 (by kernel_rfl) (by kernel_rfl) ?_ | refine region_grow (by kernel_rfl) (by kernel_rfl) ?_
  repeat (go_big_quiet_step ((first | (go_at_call 103; exact grow_same (ref06_by _ _ _ (by omega) (by omega))))))
  refine wpQuiet_nil ?_
  rintro _ ⟨gr, rfl⟩
  go_wp2
  first | refine region_grow2 (by kernel_rfl) (by kernel_rfl) ?_ | refine region_grow (by kernel_rfl) (by kernel_rfl) ?_
  repeat (go_big_quiet_step (fail))
  refine wpQuiet_nil ?_
  rintro _ ⟨gr, rfl⟩
  go_wp2
  first | refine region_grow2 (by kernel_rfl) (by kernel_rfl) ?_ | refine region_grow (by kernel_rfl) (by kernel_rfl) ?_
  repeat (go_big_quiet_step ((first | (go_at_call 103; exact grow_same (ref06_by _ _ _ (by omega) (by omega))))))
  refine wpQuiet_nil ?_
  rintro _ ⟨gr, rfl⟩
  go_wp2_with ((first | (go_at_call 104; refine (ref06_less _ _ _ ).mono ?_; rintro e w' ⟨rfl, rfl⟩) | (go_at_call 100; refine (ref01_cut _ _ (by omega) (by omega)).mono ?_; rintro e w' ⟨rfl, rfl⟩)))
  rw [rounds_succ]
  go_wp2
  refine bodyPost_ret (results_cell_row rfl _ _ _ 37 #[.int .u8 (cutT (min (pr + qr - mulT pr qr) (cutT (pa + qa - mulT pa qa)))), .int .u8 (cutT (min (pg + qg - mulT pg qg) (cutT (pa + qa - mulT pa qa)))), .int .u8 (cutT (min (pb + qb - mulT pb qb) (cutT (pa + qa - mulT pa qa)))), .int .u8 (cutT (pa + qa - mulT pa qa))] (0, 0) _ rfl ?_ Tryz.underlying37 rfl px_info) rfl ⟨rfl, (by repeat (first | exact Grows.refl _ | apply Grows.grow | apply Grows.alloc | apply Grows.drew))⟩
  exact (by repeat (first | exact blk_at _ _ _ (by first | omega | (simp; done) | (simp; omega)) | refine (blk_past _ _ _ (by first | omega | (simp; done) | (simp; omega))).trans ?_ | refine (heap_grow _ _ _ (by first | omega | (simp; done) | (simp; omega))).trans ?_ | refine (blk_drew _ _).trans ?_))

set_option maxHeartbeats 6400000 in
theorem ref06_blend_3 (pr pg pb pa qr qg qb qa : Int) (w : World) (hpr : 0 ≤ pr ∧ pr ≤ 255) (hpg : 0 ≤ pg ∧ pg ≤ 255) (hpb : 0 ≤ pb ∧ pb ≤ 255) (hpa : 0 ≤ pa ∧ pa ≤ 255) (hqr : 0 ≤ qr ∧ qr ≤ 255) (hqg : 0 ≤ qg ∧ qg ≤ 255) (hqb : 0 ≤ qb ∧ qb ≤ 255) (hqa : 0 ≤ qa ∧ qa ≤ 255) :
    Calls Tryz.prog 71 #[.int .i64 3, .agg #[.int .u8 pr, .int .u8 pg, .int .u8 pb, .int .u8 pa], .agg #[.int .u8 qr, .int .u8 qg, .int .u8 qb, .int .u8 qa]] w fun e w' => e = .returned (.agg #[.int .u8 (blendP 3 ⟨pr, pg, pb, pa⟩ ⟨qr, qg, qb, qa⟩).r, .int .u8 (blendP 3 ⟨pr, pg, pb, pa⟩ ⟨qr, qg, qb, qa⟩).g, .int .u8 (blendP 3 ⟨pr, pg, pb, pa⟩ ⟨qr, qg, qb, qa⟩).b, .int .u8 (blendP 3 ⟨pr, pg, pb, pa⟩ ⟨qr, qg, qb, qa⟩).a]) ∧ Grows w w' := by
  have hA := cutT_bd (pa + qa - mulT pa qa)
  have er : blendP 3 ⟨pr, pg, pb, pa⟩ ⟨qr, qg, qb, qa⟩ = ⟨cutT (min (min (mulT pr qa) (mulT qr pa) + (mulT pr (255 - qa) + mulT qr (255 - pa))) (cutT (pa + qa - mulT pa qa))), cutT (min (min (mulT pg qa) (mulT qg pa) + (mulT pg (255 - qa) + mulT qg (255 - pa))) (cutT (pa + qa - mulT pa qa))), cutT (min (min (mulT pb qa) (mulT qb pa) + (mulT pb (255 - qa) + mulT qb (255 - pa))) (cutT (pa + qa - mulT pa qa))), cutT (pa + qa - mulT pa qa)⟩ := by
    simp only [cut_min _ _ hA]
    simp [blendP, alphaV, colV, besideV]
  rw [er]
  clear er
  have sp := sub_bd pa hpa
  have sq := sub_bd qa hqa
  have mm := mulT_bd pa qa hpa.1 hpa.2 hqa.1 hqa.2
  have ar := mulT_bd qr (255 - pa) hqr.1 hqr.2 sp.1 sp.2
  have br := mulT_bd pr qa hpr.1 hpr.2 hqa.1 hqa.2
  have cr := mulT_bd pr (255 - qa) hpr.1 hpr.2 sq.1 sq.2
  have dr := mulT_bd qr pa hqr.1 hqr.2 hpa.1 hpa.2
  have er := mulT_bd pr qr hpr.1 hpr.2 hqr.1 hqr.2
  have ag := mulT_bd qg (255 - pa) hqg.1 hqg.2 sp.1 sp.2
  have bg := mulT_bd pg qa hpg.1 hpg.2 hqa.1 hqa.2
  have cg := mulT_bd pg (255 - qa) hpg.1 hpg.2 sq.1 sq.2
  have dg := mulT_bd qg pa hqg.1 hqg.2 hpa.1 hpa.2
  have eg := mulT_bd pg qg hpg.1 hpg.2 hqg.1 hqg.2
  have ab := mulT_bd qb (255 - pa) hqb.1 hqb.2 sp.1 sp.2
  have bb := mulT_bd pb qa hpb.1 hpb.2 hqa.1 hqa.2
  have cb := mulT_bd pb (255 - qa) hpb.1 hpb.2 sq.1 sq.2
  have db := mulT_bd qb pa hqb.1 hqb.2 hpa.1 hpa.2
  have eb := mulT_bd pb qb hpb.1 hpb.2 hqb.1 hqb.2
  go_enter Tryz.func71, Tryz.ntmps71
  go_wp2_with ((first | (go_at_call 103; refine (ref06_by _ _ _ (by omega) (by omega)).mono ?_; rintro e w' ⟨rfl, rfl⟩) | (go_at_call 100; refine (ref01_cut _ _ (by omega) (by omega)).mono ?_; rintro e w' ⟨rfl, rfl⟩)))
  refine wp_loop_rounds 4 ?_
  rw [rounds_succ]
  go_wp2
  first | refine region_grow2 (by kernel_rfl) (by kernel_rfl) ?_ | refine region_grow (by kernel_rfl) (by kernel_rfl) ?_
  repeat (go_big_quiet_step ((first | (go_at_call 103; exact grow_same (ref06_by _ _ _ (by omega) (by omega))))))
  refine wpQuiet_nil ?_
  rintro _ ⟨gr, rfl⟩
  go_wp2
  first | refine region_grow2 (by kernel_rfl) (by kernel_rfl) ?_ | refine region_grow (by kernel_rfl) (by kernel_rfl) ?_
  repeat (go_big_quiet_step ((first | (go_at_call 103; exact grow_same (ref06_by _ _ _ (by omega) (by omega))))))
  refine wpQuiet_nil ?_
  rintro _ ⟨gr, rfl⟩
  go_wp2
  first | refine region_grow2 (by kernel_rfl) (by kernel_rfl) ?_ | refine region_grow (by kernel_rfl) (by kernel_rfl) ?_
  repeat (go_big_quiet_step ((first | (go_at_call 103; exact grow_same (ref06_by _ _ _ (by omega) (by omega))))))
  refine wpQuiet_nil ?_
  rintro _ ⟨gr, rfl⟩
  go_wp2
  first | refine region_grow2 (by kernel_rfl) (by kernel_rfl) ?_ | refine region_grow (by kernel_rfl) (by kernel_rfl) ?_
  repeat (go_big_quiet_step (fail))
  refine wpQuiet_nil ?_
  rintro _ ⟨gr, rfl⟩
  go_wp2_with ((first | (go_at_call 104; refine (ref06_less _ _ _ ).mono ?_; rintro e w' ⟨rfl, rfl⟩) | (go_at_call 100; refine (ref01_cut _ _ (by omega) (by omega)).mono ?_; rintro e w' ⟨rfl, rfl⟩)))
  rw [rounds_succ]
  go_wp2
  first | refine region_grow2 (by kernel_rfl) (by kernel_rfl) ?_ | refine region_grow (by kernel_rfl) (by kernel_rfl) ?_
  repeat (go_big_quiet_step ((first | (go_at_call 103; exact grow_same (ref06_by _ _ _ (by omega) (by omega))))))
  refine wpQuiet_nil ?_
  rintro _ ⟨gr, rfl⟩
  go_wp2
  first | refine region_grow2 (by kernel_rfl) (by kernel_rfl) ?_ | refine region_grow (by kernel_rfl) (by kernel_rfl) ?_
  repeat (go_big_quiet_step ((first | (go_at_call 103; exact grow_same (ref06_by _ _ _ (by omega) (by omega))))))
  refine wpQuiet_nil ?_
  rintro _ ⟨gr, rfl⟩
  go_wp2
  first | refine region_grow2 (by kernel_rfl) (by kernel_rfl) ?_ | refine region_grow (by kernel_rfl) (by kernel_rfl) ?_
  repeat (go_big_quiet_step ((first | (go_at_call 103; exact grow_same (ref06_by _ _ _ (by omega) (by omega))))))
  refine wpQuiet_nil ?_
  rintro _ ⟨gr, rfl⟩
  go_wp2
  first | refine region_grow2 (by kernel_rfl) (by kernel_rfl) ?_ | refine region_grow (by kernel_rfl) (by kernel_rfl) ?_
  repeat (go_big_quiet_step (fail))
  refine wpQuiet_nil ?_
  rintro _ ⟨gr, rfl⟩
  go_wp2_with ((first | (go_at_call 104; refine (ref06_less _ _ _ ).mono ?_; rintro e w' ⟨rfl, rfl⟩) | (go_at_call 100; refine (ref01_cut _ _ (by omega) (by omega)).mono ?_; rintro e w' ⟨rfl, rfl⟩)))
  rw [rounds_succ]
  go_wp2
  first | refine region_grow2 (by kernel_rfl) (by kernel_rfl) ?_ | refine region_grow (by kernel_rfl) (by kernel_rfl) ?_
  repeat (go_big_quiet_step ((first | (go_at_call 103; exact grow_same (ref06_by _ _ _ (by omega) (by omega))))))
  refine wpQuiet_nil ?_
  rintro _ ⟨gr, rfl⟩
  go_wp2
  first | refine region_grow2 (by kernel_rfl) (by kernel_rfl) ?_ | refine region_grow (by kernel_rfl) (by kernel_rfl) ?_
  repeat (go_big_quiet_step ((first | (go_at_call 103; exact grow_same (ref06_by _ _ _ (by omega) (by omega))))))
  refine wpQuiet_nil ?_
  rintro _ ⟨gr, rfl⟩
  go_wp2
  first | refine region_grow2 (by kernel_rfl) (by kernel_rfl) ?_ | refine region_grow (by kernel_rfl) (by kernel_rfl) ?_
  repeat (go_big_quiet_step ((first | (go_at_call 103; exact grow_same (ref06_by _ _ _ (by omega) (by omega))))))
  refine wpQuiet_nil ?_
  rintro _ ⟨gr, rfl⟩
  go_wp2
  first | refine region_grow2 (by kernel_rfl) (by kernel_rfl) ?_ | refine region_grow (by kernel_rfl) (by kernel_rfl) ?_
  repeat (go_big_quiet_step (fail))
  refine wpQuiet_nil ?_
  rintro _ ⟨gr, rfl⟩
  go_wp2_with ((first | (go_at_call 104; refine (ref06_less _ _ _ ).mono ?_; rintro e w' ⟨rfl, rfl⟩) | (go_at_call 100; refine (ref01_cut _ _ (by omega) (by omega)).mono ?_; rintro e w' ⟨rfl, rfl⟩)))
  rw [rounds_succ]
  go_wp2
  refine bodyPost_ret (results_cell_row rfl _ _ _ 37 #[.int .u8 (cutT (min (min (mulT pr qa) (mulT qr pa) + (mulT pr (255 - qa) + mulT qr (255 - pa))) (cutT (pa + qa - mulT pa qa)))), .int .u8 (cutT (min (min (mulT pg qa) (mulT qg pa) + (mulT pg (255 - qa) + mulT qg (255 - pa))) (cutT (pa + qa - mulT pa qa)))), .int .u8 (cutT (min (min (mulT pb qa) (mulT qb pa) + (mulT pb (255 - qa) + mulT qb (255 - pa))) (cutT (pa + qa - mulT pa qa)))), .int .u8 (cutT (pa + qa - mulT pa qa))] (0, 0) _ rfl ?_ Tryz.underlying37 rfl px_info) rfl ⟨rfl, (by repeat (first | exact Grows.refl _ | apply Grows.grow | apply Grows.alloc | apply Grows.drew))⟩
  exact (by repeat (first | exact blk_at _ _ _ (by first | omega | (simp; done) | (simp; omega)) | refine (blk_past _ _ _ (by first | omega | (simp; done) | (simp; omega))).trans ?_ | refine (heap_grow _ _ _ (by first | omega | (simp; done) | (simp; omega))).trans ?_ | refine (blk_drew _ _).trans ?_))

set_option maxHeartbeats 6400000 in
theorem ref06_blend_4 (pr pg pb pa qr qg qb qa : Int) (w : World) (hpr : 0 ≤ pr ∧ pr ≤ 255) (hpg : 0 ≤ pg ∧ pg ≤ 255) (hpb : 0 ≤ pb ∧ pb ≤ 255) (hpa : 0 ≤ pa ∧ pa ≤ 255) (hqr : 0 ≤ qr ∧ qr ≤ 255) (hqg : 0 ≤ qg ∧ qg ≤ 255) (hqb : 0 ≤ qb ∧ qb ≤ 255) (hqa : 0 ≤ qa ∧ qa ≤ 255) :
    Calls Tryz.prog 71 #[.int .i64 4, .agg #[.int .u8 pr, .int .u8 pg, .int .u8 pb, .int .u8 pa], .agg #[.int .u8 qr, .int .u8 qg, .int .u8 qb, .int .u8 qa]] w fun e w' => e = .returned (.agg #[.int .u8 (blendP 4 ⟨pr, pg, pb, pa⟩ ⟨qr, qg, qb, qa⟩).r, .int .u8 (blendP 4 ⟨pr, pg, pb, pa⟩ ⟨qr, qg, qb, qa⟩).g, .int .u8 (blendP 4 ⟨pr, pg, pb, pa⟩ ⟨qr, qg, qb, qa⟩).b, .int .u8 (blendP 4 ⟨pr, pg, pb, pa⟩ ⟨qr, qg, qb, qa⟩).a]) ∧ Grows w w' := by
  have hA := cutT_bd (pa + qa - mulT pa qa)
  have er : blendP 4 ⟨pr, pg, pb, pa⟩ ⟨qr, qg, qb, qa⟩ = ⟨cutT (min (mulT pr qa + mulT qr pa - min (mulT pr qa) (mulT qr pa) + (mulT pr (255 - qa) + mulT qr (255 - pa))) (cutT (pa + qa - mulT pa qa))), cutT (min (mulT pg qa + mulT qg pa - min (mulT pg qa) (mulT qg pa) + (mulT pg (255 - qa) + mulT qg (255 - pa))) (cutT (pa + qa - mulT pa qa))), cutT (min (mulT pb qa + mulT qb pa - min (mulT pb qa) (mulT qb pa) + (mulT pb (255 - qa) + mulT qb (255 - pa))) (cutT (pa + qa - mulT pa qa))), cutT (pa + qa - mulT pa qa)⟩ := by
    simp only [cut_min _ _ hA]
    simp [blendP, alphaV, colV, besideV, max_as]
  rw [er]
  clear er
  have sp := sub_bd pa hpa
  have sq := sub_bd qa hqa
  have mm := mulT_bd pa qa hpa.1 hpa.2 hqa.1 hqa.2
  have ar := mulT_bd qr (255 - pa) hqr.1 hqr.2 sp.1 sp.2
  have br := mulT_bd pr qa hpr.1 hpr.2 hqa.1 hqa.2
  have cr := mulT_bd pr (255 - qa) hpr.1 hpr.2 sq.1 sq.2
  have dr := mulT_bd qr pa hqr.1 hqr.2 hpa.1 hpa.2
  have er := mulT_bd pr qr hpr.1 hpr.2 hqr.1 hqr.2
  have ag := mulT_bd qg (255 - pa) hqg.1 hqg.2 sp.1 sp.2
  have bg := mulT_bd pg qa hpg.1 hpg.2 hqa.1 hqa.2
  have cg := mulT_bd pg (255 - qa) hpg.1 hpg.2 sq.1 sq.2
  have dg := mulT_bd qg pa hqg.1 hqg.2 hpa.1 hpa.2
  have eg := mulT_bd pg qg hpg.1 hpg.2 hqg.1 hqg.2
  have ab := mulT_bd qb (255 - pa) hqb.1 hqb.2 sp.1 sp.2
  have bb := mulT_bd pb qa hpb.1 hpb.2 hqa.1 hqa.2
  have cb := mulT_bd pb (255 - qa) hpb.1 hpb.2 sq.1 sq.2
  have db := mulT_bd qb pa hqb.1 hqb.2 hpa.1 hpa.2
  have eb := mulT_bd pb qb hpb.1 hpb.2 hqb.1 hqb.2
  go_enter Tryz.func71, Tryz.ntmps71
  go_wp2_with ((first | (go_at_call 103; refine (ref06_by _ _ _ (by omega) (by omega)).mono ?_; rintro e w' ⟨rfl, rfl⟩) | (go_at_call 100; refine (ref01_cut _ _ (by omega) (by omega)).mono ?_; rintro e w' ⟨rfl, rfl⟩)))
  refine wp_loop_rounds 4 ?_
  rw [rounds_succ]
  go_wp2
  first | refine region_grow2 (by kernel_rfl) (by kernel_rfl) ?_ | refine region_grow (by kernel_rfl) (by kernel_rfl) ?_
  repeat (go_big_quiet_step ((first | (go_at_call 103; exact grow_same (ref06_by _ _ _ (by omega) (by omega))))))
  refine wpQuiet_nil ?_
  rintro _ ⟨gr, rfl⟩
  go_wp2
  first | refine region_grow2 (by kernel_rfl) (by kernel_rfl) ?_ | refine region_grow (by kernel_rfl) (by kernel_rfl) ?_
  repeat (go_big_quiet_step ((first | (go_at_call 103; exact grow_same (ref06_by _ _ _ (by omega) (by omega))))))
  refine wpQuiet_nil ?_
  rintro _ ⟨gr, rfl⟩
  go_wp2
  first | refine region_grow2 (by kernel_rfl) (by kernel_rfl) ?_ | refine region_grow (by kernel_rfl) (by kernel_rfl) ?_
  repeat (go_big_quiet_step ((first | (go_at_call 103; exact grow_same (ref06_by _ _ _ (by omega) (by omega))))))
  refine wpQuiet_nil ?_
  rintro _ ⟨gr, rfl⟩
  go_wp2
  first | refine region_grow2 (by kernel_rfl) (by kernel_rfl) ?_ | refine region_grow (by kernel_rfl) (by kernel_rfl) ?_
  repeat (go_big_quiet_step (fail))
  refine wpQuiet_nil ?_
  rintro _ ⟨gr, rfl⟩
  go_wp2_with ((first | (go_at_call 104; refine (ref06_less _ _ _ ).mono ?_; rintro e w' ⟨rfl, rfl⟩) | (go_at_call 100; refine (ref01_cut _ _ (by omega) (by omega)).mono ?_; rintro e w' ⟨rfl, rfl⟩)))
  rw [rounds_succ]
  go_wp2
  first | refine region_grow2 (by kernel_rfl) (by kernel_rfl) ?_ | refine region_grow (by kernel_rfl) (by kernel_rfl) ?_
  repeat (go_big_quiet_step ((first | (go_at_call 103; exact grow_same (ref06_by _ _ _ (by omega) (by omega))))))
  refine wpQuiet_nil ?_
  rintro _ ⟨gr, rfl⟩
  go_wp2
  first | refine region_grow2 (by kernel_rfl) (by kernel_rfl) ?_ | refine region_grow (by kernel_rfl) (by kernel_rfl) ?_
  repeat (go_big_quiet_step ((first | (go_at_call 103; exact grow_same (ref06_by _ _ _ (by omega) (by omega))))))
  refine wpQuiet_nil ?_
  rintro _ ⟨gr, rfl⟩
  go_wp2
  first | refine region_grow2 (by kernel_rfl) (by kernel_rfl) ?_ | refine region_grow (by kernel_rfl) (by kernel_rfl) ?_
  repeat (go_big_quiet_step ((first | (go_at_call 103; exact grow_same (ref06_by _ _ _ (by omega) (by omega))))))
  refine wpQuiet_nil ?_
  rintro _ ⟨gr, rfl⟩
  go_wp2
  first | refine region_grow2 (by kernel_rfl) (by kernel_rfl) ?_ | refine region_grow (by kernel_rfl) (by kernel_rfl) ?_
  repeat (go_big_quiet_step (fail))
  refine wpQuiet_nil ?_
  rintro _ ⟨gr, rfl⟩
  go_wp2_with ((first | (go_at_call 104; refine (ref06_less _ _ _ ).mono ?_; rintro e w' ⟨rfl, rfl⟩) | (go_at_call 100; refine (ref01_cut _ _ (by omega) (by omega)).mono ?_; rintro e w' ⟨rfl, rfl⟩)))
  rw [rounds_succ]
  go_wp2
  first | refine region_grow2 (by kernel_rfl) (by kernel_rfl) ?_ | refine region_grow (by kernel_rfl) (by kernel_rfl) ?_
  repeat (go_big_quiet_step ((first | (go_at_call 103; exact grow_same (ref06_by _ _ _ (by omega) (by omega))))))
  refine wpQuiet_nil ?_
  rintro _ ⟨gr, rfl⟩
  go_wp2
  first | refine region_grow2 (by kernel_rfl) (by kernel_rfl) ?_ | refine region_grow (by kernel_rfl) (by kernel_rfl) ?_
  repeat (go_big_quiet_step ((first | (go_at_call 103; exact grow_same (ref06_by _ _ _ (by omega) (by omega))))))
  refine wpQuiet_nil ?_
  rintro _ ⟨gr, rfl⟩
  go_wp2
  first | refine region_grow2 (by kernel_rfl) (by kernel_rfl) ?_ | refine region_grow (by kernel_rfl) (by kernel_rfl) ?_
  repeat (go_big_quiet_step ((first | (go_at_call 103; exact grow_same (ref06_by _ _ _ (by omega) (by omega))))))
  refine wpQuiet_nil ?_
  rintro _ ⟨gr, rfl⟩
  go_wp2
  first | refine region_grow2 (by kernel_rfl) (by kernel_rfl) ?_ | refine region_grow (by kernel_rfl) (by kernel_rfl) ?_
  repeat (go_big_quiet_step (fail))
  refine wpQuiet_nil ?_
  rintro _ ⟨gr, rfl⟩
  go_wp2_with ((first | (go_at_call 104; refine (ref06_less _ _ _ ).mono ?_; rintro e w' ⟨rfl, rfl⟩) | (go_at_call 100; refine (ref01_cut _ _ (by omega) (by omega)).mono ?_; rintro e w' ⟨rfl, rfl⟩)))
  rw [rounds_succ]
  go_wp2
  refine bodyPost_ret (results_cell_row rfl _ _ _ 37 #[.int .u8 (cutT (min (mulT pr qa + mulT qr pa - min (mulT pr qa) (mulT qr pa) + (mulT pr (255 - qa) + mulT qr (255 - pa))) (cutT (pa + qa - mulT pa qa)))), .int .u8 (cutT (min (mulT pg qa + mulT qg pa - min (mulT pg qa) (mulT qg pa) + (mulT pg (255 - qa) + mulT qg (255 - pa))) (cutT (pa + qa - mulT pa qa)))), .int .u8 (cutT (min (mulT pb qa + mulT qb pa - min (mulT pb qa) (mulT qb pa) + (mulT pb (255 - qa) + mulT qb (255 - pa))) (cutT (pa + qa - mulT pa qa)))), .int .u8 (cutT (pa + qa - mulT pa qa))] (0, 0) _ rfl ?_ Tryz.underlying37 rfl px_info) rfl ⟨rfl, (by repeat (first | exact Grows.refl _ | apply Grows.grow | apply Grows.alloc | apply Grows.drew))⟩
  exact (by repeat (first | exact blk_at _ _ _ (by first | omega | (simp; done) | (simp; omega)) | refine (blk_past _ _ _ (by first | omega | (simp; done) | (simp; omega))).trans ?_ | refine (heap_grow _ _ _ (by first | omega | (simp; done) | (simp; omega))).trans ?_ | refine (blk_drew _ _).trans ?_))

set_option maxHeartbeats 6400000 in
theorem ref06_blend_5 (pr pg pb pa qr qg qb qa : Int) (w : World) (hpr : 0 ≤ pr ∧ pr ≤ 255) (hpg : 0 ≤ pg ∧ pg ≤ 255) (hpb : 0 ≤ pb ∧ pb ≤ 255) (hpa : 0 ≤ pa ∧ pa ≤ 255) (hqr : 0 ≤ qr ∧ qr ≤ 255) (hqg : 0 ≤ qg ∧ qg ≤ 255) (hqb : 0 ≤ qb ∧ qb ≤ 255) (hqa : 0 ≤ qa ∧ qa ≤ 255) :
    Calls Tryz.prog 71 #[.int .i64 5, .agg #[.int .u8 pr, .int .u8 pg, .int .u8 pb, .int .u8 pa], .agg #[.int .u8 qr, .int .u8 qg, .int .u8 qb, .int .u8 qa]] w fun e w' => e = .returned (.agg #[.int .u8 (blendP 5 ⟨pr, pg, pb, pa⟩ ⟨qr, qg, qb, qa⟩).r, .int .u8 (blendP 5 ⟨pr, pg, pb, pa⟩ ⟨qr, qg, qb, qa⟩).g, .int .u8 (blendP 5 ⟨pr, pg, pb, pa⟩ ⟨qr, qg, qb, qa⟩).b, .int .u8 (blendP 5 ⟨pr, pg, pb, pa⟩ ⟨qr, qg, qb, qa⟩).a]) ∧ Grows w w' := by
  have hA := cutT_bd (pa + qa - mulT pa qa)
  have er : blendP 5 ⟨pr, pg, pb, pa⟩ ⟨qr, qg, qb, qa⟩ = ⟨cutT (min (pr + qr - 2 * min (mulT pr qa) (mulT qr pa)) (cutT (pa + qa - mulT pa qa))), cutT (min (pg + qg - 2 * min (mulT pg qa) (mulT qg pa)) (cutT (pa + qa - mulT pa qa))), cutT (min (pb + qb - 2 * min (mulT pb qa) (mulT qb pa)) (cutT (pa + qa - mulT pa qa))), cutT (pa + qa - mulT pa qa)⟩ := by
    simp only [cut_min _ _ hA]
    simp [blendP, alphaV, colV]
  rw [er]
  clear er
  have sp := sub_bd pa hpa
  have sq := sub_bd qa hqa
  have mm := mulT_bd pa qa hpa.1 hpa.2 hqa.1 hqa.2
  have ar := mulT_bd qr (255 - pa) hqr.1 hqr.2 sp.1 sp.2
  have br := mulT_bd pr qa hpr.1 hpr.2 hqa.1 hqa.2
  have cr := mulT_bd pr (255 - qa) hpr.1 hpr.2 sq.1 sq.2
  have dr := mulT_bd qr pa hqr.1 hqr.2 hpa.1 hpa.2
  have er := mulT_bd pr qr hpr.1 hpr.2 hqr.1 hqr.2
  have ag := mulT_bd qg (255 - pa) hqg.1 hqg.2 sp.1 sp.2
  have bg := mulT_bd pg qa hpg.1 hpg.2 hqa.1 hqa.2
  have cg := mulT_bd pg (255 - qa) hpg.1 hpg.2 sq.1 sq.2
  have dg := mulT_bd qg pa hqg.1 hqg.2 hpa.1 hpa.2
  have eg := mulT_bd pg qg hpg.1 hpg.2 hqg.1 hqg.2
  have ab := mulT_bd qb (255 - pa) hqb.1 hqb.2 sp.1 sp.2
  have bb := mulT_bd pb qa hpb.1 hpb.2 hqa.1 hqa.2
  have cb := mulT_bd pb (255 - qa) hpb.1 hpb.2 sq.1 sq.2
  have db := mulT_bd qb pa hqb.1 hqb.2 hpa.1 hpa.2
  have eb := mulT_bd pb qb hpb.1 hpb.2 hqb.1 hqb.2
  go_enter Tryz.func71, Tryz.ntmps71
  go_wp2_with ((first | (go_at_call 103; refine (ref06_by _ _ _ (by omega) (by omega)).mono ?_; rintro e w' ⟨rfl, rfl⟩) | (go_at_call 100; refine (ref01_cut _ _ (by omega) (by omega)).mono ?_; rintro e w' ⟨rfl, rfl⟩)))
  refine wp_loop_rounds 4 ?_
  rw [rounds_succ]
  go_wp2
  first | refine region_grow2 (by kernel_rfl) (by kernel_rfl) ?_ | refine region_grow (by kernel_rfl) (by kernel_rfl) ?_
  repeat (go_big_quiet_step ((first | (go_at_call 103; exact grow_same (ref06_by _ _ _ (by omega) (by omega))))))
  refine wpQuiet_nil ?_
  rintro _ ⟨gr, rfl⟩
  go_wp2
  first | refine region_grow2 (by kernel_rfl) (by kernel_rfl) ?_ | refine region_grow (by kernel_rfl) (by kernel_rfl) ?_
  repeat (go_big_quiet_step ((first | (go_at_call 103; exact grow_same (ref06_by _ _ _ (by omega) (by omega))))))
  refine wpQuiet_nil ?_
  rintro _ ⟨gr, rfl⟩
  go_wp2
  first | refine region_grow2 (by kernel_rfl) (by kernel_rfl) ?_ | refine region_grow (by kernel_rfl) (by kernel_rfl) ?_
  repeat (go_big_quiet_step ((first | (go_at_call 103; exact grow_same (ref06_by _ _ _ (by omega) (by omega))))))
  refine wpQuiet_nil ?_
  rintro _ ⟨gr, rfl⟩
  go_wp2
  first | refine region_grow2 (by kernel_rfl) (by kernel_rfl) ?_ | refine region_grow (by kernel_rfl) (by kernel_rfl) ?_
  repeat (go_big_quiet_step (fail))
  refine wpQuiet_nil ?_
  rintro _ ⟨gr, rfl⟩
  go_wp2_with ((first | (go_at_call 104; refine (ref06_less _ _ _ ).mono ?_; rintro e w' ⟨rfl, rfl⟩) | (go_at_call 100; refine (ref01_cut _ _ (by omega) (by omega)).mono ?_; rintro e w' ⟨rfl, rfl⟩)))
  rw [rounds_succ]
  go_wp2
  first | refine region_grow2 (by kernel_rfl) (by kernel_rfl) ?_ | refine region_grow (by kernel_rfl) (by kernel_rfl) ?_
  repeat (go_big_quiet_step ((first | (go_at_call 103; exact grow_same (ref06_by _ _ _ (by omega) (by omega))))))
  refine wpQuiet_nil ?_
  rintro _ ⟨gr, rfl⟩
  go_wp2
  first | refine region_grow2 (by kernel_rfl) (by kernel_rfl) ?_ | refine region_grow (by kernel_rfl) (by kernel_rfl) ?_
  repeat (go_big_quiet_step ((first | (go_at_call 103; exact grow_same (ref06_by _ _ _ (by omega) (by omega))))))
  refine wpQuiet_nil ?_
  rintro _ ⟨gr, rfl⟩
  go_wp2
  first | refine region_grow2 (by kernel_rfl) (by kernel_rfl) ?_ | refine region_grow (by kernel_rfl) (by kernel_rfl) ?_
  repeat (go_big_quiet_step ((first | (go_at_call 103; exact grow_same (ref06_by _ _ _ (by omega) (by omega))))))
  refine wpQuiet_nil ?_
  rintro _ ⟨gr, rfl⟩
  go_wp2
  first | refine region_grow2 (by kernel_rfl) (by kernel_rfl) ?_ | refine region_grow (by kernel_rfl) (by kernel_rfl) ?_
  repeat (go_big_quiet_step (fail))
  refine wpQuiet_nil ?_
  rintro _ ⟨gr, rfl⟩
  go_wp2_with ((first | (go_at_call 104; refine (ref06_less _ _ _ ).mono ?_; rintro e w' ⟨rfl, rfl⟩) | (go_at_call 100; refine (ref01_cut _ _ (by omega) (by omega)).mono ?_; rintro e w' ⟨rfl, rfl⟩)))
  rw [rounds_succ]
  go_wp2
  first | refine region_grow2 (by kernel_rfl) (by kernel_rfl) ?_ | refine region_grow (by kernel_rfl) (by kernel_rfl) ?_
  repeat (go_big_quiet_step ((first | (go_at_call 103; exact grow_same (ref06_by _ _ _ (by omega) (by omega))))))
  refine wpQuiet_nil ?_
  rintro _ ⟨gr, rfl⟩
  go_wp2
  first | refine region_grow2 (by kernel_rfl) (by kernel_rfl) ?_ | refine region_grow (by kernel_rfl) (by kernel_rfl) ?_
  repeat (go_big_quiet_step ((first | (go_at_call 103; exact grow_same (ref06_by _ _ _ (by omega) (by omega))))))
  refine wpQuiet_nil ?_
  rintro _ ⟨gr, rfl⟩
  go_wp2
  first | refine region_grow2 (by kernel_rfl) (by kernel_rfl) ?_ | refine region_grow (by kernel_rfl) (by kernel_rfl) ?_
  repeat (go_big_quiet_step ((first | (go_at_call 103; exact grow_same (ref06_by _ _ _ (by omega) (by omega))))))
  refine wpQuiet_nil ?_
  rintro _ ⟨gr, rfl⟩
  go_wp2
  first | refine region_grow2 (by kernel_rfl) (by kernel_rfl) ?_ | refine region_grow (by kernel_rfl) (by kernel_rfl) ?_
  repeat (go_big_quiet_step (fail))
  refine wpQuiet_nil ?_
  rintro _ ⟨gr, rfl⟩
  go_wp2_with ((first | (go_at_call 104; refine (ref06_less _ _ _ ).mono ?_; rintro e w' ⟨rfl, rfl⟩) | (go_at_call 100; refine (ref01_cut _ _ (by omega) (by omega)).mono ?_; rintro e w' ⟨rfl, rfl⟩)))
  rw [rounds_succ]
  go_wp2
  refine bodyPost_ret (results_cell_row rfl _ _ _ 37 #[.int .u8 (cutT (min (pr + qr - 2 * min (mulT pr qa) (mulT qr pa)) (cutT (pa + qa - mulT pa qa)))), .int .u8 (cutT (min (pg + qg - 2 * min (mulT pg qa) (mulT qg pa)) (cutT (pa + qa - mulT pa qa)))), .int .u8 (cutT (min (pb + qb - 2 * min (mulT pb qa) (mulT qb pa)) (cutT (pa + qa - mulT pa qa)))), .int .u8 (cutT (pa + qa - mulT pa qa))] (0, 0) _ rfl ?_ Tryz.underlying37 rfl px_info) rfl ⟨rfl, (by repeat (first | exact Grows.refl _ | apply Grows.grow | apply Grows.alloc | apply Grows.drew))⟩
  exact (by repeat (first | exact blk_at _ _ _ (by first | omega | (simp; done) | (simp; omega)) | refine (blk_past _ _ _ (by first | omega | (simp; done) | (simp; omega))).trans ?_ | refine (heap_grow _ _ _ (by first | omega | (simp; done) | (simp; omega))).trans ?_ | refine (blk_drew _ _).trans ?_))

set_option maxHeartbeats 6400000 in
theorem ref06_blend_6 (pr pg pb pa qr qg qb qa : Int) (w : World) (hpr : 0 ≤ pr ∧ pr ≤ 255) (hpg : 0 ≤ pg ∧ pg ≤ 255) (hpb : 0 ≤ pb ∧ pb ≤ 255) (hpa : 0 ≤ pa ∧ pa ≤ 255) (hqr : 0 ≤ qr ∧ qr ≤ 255) (hqg : 0 ≤ qg ∧ qg ≤ 255) (hqb : 0 ≤ qb ∧ qb ≤ 255) (hqa : 0 ≤ qa ∧ qa ≤ 255) :
    Calls Tryz.prog 71 #[.int .i64 6, .agg #[.int .u8 pr, .int .u8 pg, .int .u8 pb, .int .u8 pa], .agg #[.int .u8 qr, .int .u8 qg, .int .u8 qb, .int .u8 qa]] w fun e w' => e = .returned (.agg #[.int .u8 (blendP 6 ⟨pr, pg, pb, pa⟩ ⟨qr, qg, qb, qa⟩).r, .int .u8 (blendP 6 ⟨pr, pg, pb, pa⟩ ⟨qr, qg, qb, qa⟩).g, .int .u8 (blendP 6 ⟨pr, pg, pb, pa⟩ ⟨qr, qg, qb, qa⟩).b, .int .u8 (blendP 6 ⟨pr, pg, pb, pa⟩ ⟨qr, qg, qb, qa⟩).a]) ∧ Grows w w' := by
  have hA := cutT_bd (pa + qa)
  have er : blendP 6 ⟨pr, pg, pb, pa⟩ ⟨qr, qg, qb, qa⟩ = ⟨cutT (min (pr + qr) (cutT (pa + qa))), cutT (min (pg + qg) (cutT (pa + qa))), cutT (min (pb + qb) (cutT (pa + qa))), cutT (pa + qa)⟩ := by
    simp only [cut_min _ _ hA]
    simp [blendP, alphaV, colV]
  rw [er]
  clear er
  have sp := sub_bd pa hpa
  have sq := sub_bd qa hqa
  have mm := mulT_bd pa qa hpa.1 hpa.2 hqa.1 hqa.2
  have ar := mulT_bd qr (255 - pa) hqr.1 hqr.2 sp.1 sp.2
  have br := mulT_bd pr qa hpr.1 hpr.2 hqa.1 hqa.2
  have cr := mulT_bd pr (255 - qa) hpr.1 hpr.2 sq.1 sq.2
  have dr := mulT_bd qr pa hqr.1 hqr.2 hpa.1 hpa.2
  have er := mulT_bd pr qr hpr.1 hpr.2 hqr.1 hqr.2
  have ag := mulT_bd qg (255 - pa) hqg.1 hqg.2 sp.1 sp.2
  have bg := mulT_bd pg qa hpg.1 hpg.2 hqa.1 hqa.2
  have cg := mulT_bd pg (255 - qa) hpg.1 hpg.2 sq.1 sq.2
  have dg := mulT_bd qg pa hqg.1 hqg.2 hpa.1 hpa.2
  have eg := mulT_bd pg qg hpg.1 hpg.2 hqg.1 hqg.2
  have ab := mulT_bd qb (255 - pa) hqb.1 hqb.2 sp.1 sp.2
  have bb := mulT_bd pb qa hpb.1 hpb.2 hqa.1 hqa.2
  have cb := mulT_bd pb (255 - qa) hpb.1 hpb.2 sq.1 sq.2
  have db := mulT_bd qb pa hqb.1 hqb.2 hpa.1 hpa.2
  have eb := mulT_bd pb qb hpb.1 hpb.2 hqb.1 hqb.2
  go_enter Tryz.func71, Tryz.ntmps71
  go_wp2_with ((first | (go_at_call 103; refine (ref06_by _ _ _ (by omega) (by omega)).mono ?_; rintro e w' ⟨rfl, rfl⟩) | (go_at_call 100; refine (ref01_cut _ _ (by omega) (by omega)).mono ?_; rintro e w' ⟨rfl, rfl⟩)))
  refine wp_loop_rounds 4 ?_
  rw [rounds_succ]
  go_wp2
  first | refine region_grow2 (by kernel_rfl) (by kernel_rfl) ?_ | refine region_grow (by kernel_rfl) (by kernel_rfl) ?_
  repeat (go_big_quiet_step ((first | (go_at_call 103; exact grow_same (ref06_by _ _ _ (by omega) (by omega))))))
  refine wpQuiet_nil ?_
  rintro _ ⟨gr, rfl⟩
  go_wp2
  first | refine region_grow2 (by kernel_rfl) (by kernel_rfl) ?_ | refine region_grow (by kernel_rfl) (by kernel_rfl) ?_
  repeat (go_big_quiet_step ((first | (go_at_call 103; exact grow_same (ref06_by _ _ _ (by omega) (by omega))))))
  refine wpQuiet_nil ?_
  rintro _ ⟨gr, rfl⟩
  go_wp2
  first | refine region_grow2 (by kernel_rfl) (by kernel_rfl) ?_ | refine region_grow (by kernel_rfl) (by kernel_rfl) ?_
  repeat (go_big_quiet_step ((first | (go_at_call 103; exact grow_same (ref06_by _ _ _ (by omega) (by omega))))))
  refine wpQuiet_nil ?_
  rintro _ ⟨gr, rfl⟩
  go_wp2
  first | refine region_grow2 (by kernel_rfl) (by kernel_rfl) ?_ | refine region_grow (by kernel_rfl) (by kernel_rfl) ?_
  repeat (go_big_quiet_step (fail))
  refine wpQuiet_nil ?_
  rintro _ ⟨gr, rfl⟩
  go_wp2_with ((first | (go_at_call 104; refine (ref06_less _ _ _ ).mono ?_; rintro e w' ⟨rfl, rfl⟩) | (go_at_call 100; refine (ref01_cut _ _ (by omega) (by omega)).mono ?_; rintro e w' ⟨rfl, rfl⟩)))
  rw [rounds_succ]
  go_wp2
  first | refine region_grow2 (by kernel_rfl) (by kernel_rfl) ?_ | refine region_grow (by kernel_rfl) (by kernel_rfl) ?_
  repeat (go_big_quiet_step ((first | (go_at_call 103; exact grow_same (ref06_by _ _ _ (by omega) (by omega))))))
  refine wpQuiet_nil ?_
  rintro _ ⟨gr, rfl⟩
  go_wp2
  first | refine region_grow2 (by kernel_rfl) (by kernel_rfl) ?_ | refine region_grow (by kernel_rfl) (by kernel_rfl) ?_
  repeat (go_big_quiet_step ((first | (go_at_call 103; exact grow_same (ref06_by _ _ _ (by omega) (by omega))))))
  refine wpQuiet_nil ?_
  rintro _ ⟨gr, rfl⟩
  go_wp2
  first | refine region_grow2 (by kernel_rfl) (by kernel_rfl) ?_ | refine region_grow (by kernel_rfl) (by kernel_rfl) ?_
  repeat (go_big_quiet_step ((first | (go_at_call 103; exact grow_same (ref06_by _ _ _ (by omega) (by omega))))))
  refine wpQuiet_nil ?_
  rintro _ ⟨gr, rfl⟩
  go_wp2
  first | refine region_grow2 (by kernel_rfl) (by kernel_rfl) ?_ | refine region_grow (by kernel_rfl) (by kernel_rfl) ?_
  repeat (go_big_quiet_step (fail))
  refine wpQuiet_nil ?_
  rintro _ ⟨gr, rfl⟩
  go_wp2_with ((first | (go_at_call 104; refine (ref06_less _ _ _ ).mono ?_; rintro e w' ⟨rfl, rfl⟩) | (go_at_call 100; refine (ref01_cut _ _ (by omega) (by omega)).mono ?_; rintro e w' ⟨rfl, rfl⟩)))
  rw [rounds_succ]
  go_wp2
  first | refine region_grow2 (by kernel_rfl) (by kernel_rfl) ?_ | refine region_grow (by kernel_rfl) (by kernel_rfl) ?_
  repeat (go_big_quiet_step ((first | (go_at_call 103; exact grow_same (ref06_by _ _ _ (by omega) (by omega))))))
  refine wpQuiet_nil ?_
  rintro _ ⟨gr, rfl⟩
  go_wp2
  first | refine region_grow2 (by kernel_rfl) (by kernel_rfl) ?_ | refine region_grow (by kernel_rfl) (by kernel_rfl) ?_
  repeat (go_big_quiet_step ((first | (go_at_call 103; exact grow_same (ref06_by _ _ _ (by omega) (by omega))))))
  refine wpQuiet_nil ?_
  rintro _ ⟨gr, rfl⟩
  go_wp2
  first | refine region_grow2 (by kernel_rfl) (by kernel_rfl) ?_ | refine region_grow (by kernel_rfl) (by kernel_rfl) ?_
  repeat (go_big_quiet_step ((first | (go_at_call 103; exact grow_same (ref06_by _ _ _ (by omega) (by omega))))))
  refine wpQuiet_nil ?_
  rintro _ ⟨gr, rfl⟩
  go_wp2
  first | refine region_grow2 (by kernel_rfl) (by kernel_rfl) ?_ | refine region_grow (by kernel_rfl) (by kernel_rfl) ?_
  repeat (go_big_quiet_step (fail))
  refine wpQuiet_nil ?_
  rintro _ ⟨gr, rfl⟩
  go_wp2_with ((first | (go_at_call 104; refine (ref06_less _ _ _ ).mono ?_; rintro e w' ⟨rfl, rfl⟩) | (go_at_call 100; refine (ref01_cut _ _ (by omega) (by omega)).mono ?_; rintro e w' ⟨rfl, rfl⟩)))
  rw [rounds_succ]
  go_wp2
  refine bodyPost_ret (results_cell_row rfl _ _ _ 37 #[.int .u8 (cutT (min (pr + qr) (cutT (pa + qa)))), .int .u8 (cutT (min (pg + qg) (cutT (pa + qa)))), .int .u8 (cutT (min (pb + qb) (cutT (pa + qa)))), .int .u8 (cutT (pa + qa))] (0, 0) _ rfl ?_ Tryz.underlying37 rfl px_info) rfl ⟨rfl, (by repeat (first | exact Grows.refl _ | apply Grows.grow | apply Grows.alloc | apply Grows.drew))⟩
  exact (by repeat (first | exact blk_at _ _ _ (by first | omega | (simp; done) | (simp; omega)) | refine (blk_past _ _ _ (by first | omega | (simp; done) | (simp; omega))).trans ?_ | refine (heap_grow _ _ _ (by first | omega | (simp; done) | (simp; omega))).trans ?_ | refine (blk_drew _ _).trans ?_))

theorem ref06_blend (m pr pg pb pa qr qg qb qa : Int) (w : World) (hm : 0 ≤ m ∧ m ≤ 6) (hpr : 0 ≤ pr ∧ pr ≤ 255) (hpg : 0 ≤ pg ∧ pg ≤ 255) (hpb : 0 ≤ pb ∧ pb ≤ 255) (hpa : 0 ≤ pa ∧ pa ≤ 255) (hqr : 0 ≤ qr ∧ qr ≤ 255) (hqg : 0 ≤ qg ∧ qg ≤ 255) (hqb : 0 ≤ qb ∧ qb ≤ 255) (hqa : 0 ≤ qa ∧ qa ≤ 255) :
    Calls Tryz.prog 71 #[.int .i64 m, .agg #[.int .u8 pr, .int .u8 pg, .int .u8 pb, .int .u8 pa], .agg #[.int .u8 qr, .int .u8 qg, .int .u8 qb, .int .u8 qa]] w fun e w' => e = .returned (.agg #[.int .u8 (blendP m ⟨pr, pg, pb, pa⟩ ⟨qr, qg, qb, qa⟩).r, .int .u8 (blendP m ⟨pr, pg, pb, pa⟩ ⟨qr, qg, qb, qa⟩).g, .int .u8 (blendP m ⟨pr, pg, pb, pa⟩ ⟨qr, qg, qb, qa⟩).b, .int .u8 (blendP m ⟨pr, pg, pb, pa⟩ ⟨qr, qg, qb, qa⟩).a]) ∧ Grows w w' := by
  have hc : m = 0 ∨ m = 1 ∨ m = 2 ∨ m = 3 ∨ m = 4 ∨ m = 5 ∨ m = 6 := by omega
  rcases hc with rfl | rfl | rfl | rfl | rfl | rfl | rfl
  · have er : blendP 0 ⟨pr, pg, pb, pa⟩ ⟨qr, qg, qb, qa⟩ = compP 0 ⟨pr, pg, pb, pa⟩ ⟨qr, qg, qb, qa⟩ := by simp [blendP]
    rw [er]
    clear er
    go_enter Tryz.func71, Tryz.ntmps71
    go_wp2_with ((first | (go_at_call 72; refine (ref06_comp _ _ _ _ _ _ _ _ _ _ (by omega) (by omega) (by omega) (by omega) (by omega) (by omega) (by omega) (by omega) (by omega)).mono ?_; rintro e w' ⟨rfl, hgw⟩; first | (obtain ⟨gw, rfl⟩ := grows_of_grow hgw) | (obtain ⟨gw, rfl⟩ := hgw))))
    refine bodyPost_ret (results_cell_row rfl _ _ _ 37 #[.int .u8 ((compP 0 ⟨pr, pg, pb, pa⟩ ⟨qr, qg, qb, qa⟩).r), .int .u8 ((compP 0 ⟨pr, pg, pb, pa⟩ ⟨qr, qg, qb, qa⟩).g), .int .u8 ((compP 0 ⟨pr, pg, pb, pa⟩ ⟨qr, qg, qb, qa⟩).b), .int .u8 ((compP 0 ⟨pr, pg, pb, pa⟩ ⟨qr, qg, qb, qa⟩).a)] (0, 0) _ rfl ?_ Tryz.underlying37 rfl px_info) rfl ⟨rfl, (by repeat (first | exact Grows.refl _ | apply Grows.grow | apply Grows.alloc | apply Grows.drew))⟩
    exact (by repeat (first | exact blk_at _ _ _ (by first | omega | (simp; done) | (simp; omega)) | refine (blk_past _ _ _ (by first | omega | (simp; done) | (simp; omega))).trans ?_ | refine (heap_grow _ _ _ (by first | omega | (simp; done) | (simp; omega))).trans ?_ | refine (blk_drew _ _).trans ?_))
  · exact ref06_blend_1 pr pg pb pa qr qg qb qa w hpr hpg hpb hpa hqr hqg hqb hqa
  · exact ref06_blend_2 pr pg pb pa qr qg qb qa w hpr hpg hpb hpa hqr hqg hqb hqa
  · exact ref06_blend_3 pr pg pb pa qr qg qb qa w hpr hpg hpb hpa hqr hqg hqb hqa
  · exact ref06_blend_4 pr pg pb pa qr qg qb qa w hpr hpg hpb hpa hqr hqg hqb hqa
  · exact ref06_blend_5 pr pg pb pa qr qg qb qa w hpr hpg hpb hpa hqr hqg hqb hqa
  · exact ref06_blend_6 pr pg pb pa qr qg qb qa w hpr hpg hpb hpa hqr hqg hqb hqa

end Go.Proofs.YtklcmlbkhjcaiaaGreatDoor
