/- The walks of layer 6 (mixing): pixels by an operator; the reference's too. -/
import Derived.Test.YticeoppldlhehaaMixWF
namespace Go.Proofs.Yticeoppldlhehaa
open Go.RowKit
set_option linter.unusedVariables false

set_option maxHeartbeats 1600000 in
theorem mix_comp (op pr pg pb pa qr qg qb qa : Int) (w : World) (ho : 0 ≤ op ∧ op ≤ 5) (hpr : 0 ≤ pr ∧ pr ≤ 255) (hpg : 0 ≤ pg ∧ pg ≤ 255) (hpb : 0 ≤ pb ∧ pb ≤ 255) (hpa : 0 ≤ pa ∧ pa ≤ 255) (hqr : 0 ≤ qr ∧ qr ≤ 255) (hqg : 0 ≤ qg ∧ qg ≤ 255) (hqb : 0 ≤ qb ∧ qb ≤ 255) (hqa : 0 ≤ qa ∧ qa ≤ 255) :
    Calls Try.prog 48 #[.int .i64 op, .agg #[.int .u8 pr, .int .u8 pg, .int .u8 pb, .int .u8 pa], .agg #[.int .u8 qr, .int .u8 qg, .int .u8 qb, .int .u8 qa]] w fun e w' => e = .returned (.agg #[.int .u8 (compP op ⟨pr, pg, pb, pa⟩ ⟨qr, qg, qb, qa⟩).r, .int .u8 (compP op ⟨pr, pg, pb, pa⟩ ⟨qr, qg, qb, qa⟩).g, .int .u8 (compP op ⟨pr, pg, pb, pa⟩ ⟨qr, qg, qb, qa⟩).b, .int .u8 (compP op ⟨pr, pg, pb, pa⟩ ⟨qr, qg, qb, qa⟩).a]) ∧ Grows w w' := by
  have vr := compV_bd op pr qr pa qa hpr hqr hpa hqa
  have vg := compV_bd op pg qg pa qa hpg hqg hpa hqa
  have vb := compV_bd op pb qb pa qa hpb hqb hpa hqa
  have va := compV_bd op pa qa pa qa hpa hqa hpa hqa
  go_enter Try.func48, Try.ntmps48
  go_wp2
  refine wp_loop_rounds 5 ?_
  rw [rounds_succ]
  go_wp2
  first | refine region_grow_tail2 14 (by kernel_rfl) (by kernel_rfl) ?_ | refine region_grow_tail 14 (by kernel_rfl) (by kernel_rfl) ?_
  simp only [List.take_succ_cons, List.take_zero, List.drop_succ_cons, List.drop_zero]
  repeat (go_big_quiet_step ((first | (go_at_call 62; exact grow_same (mix_comp1 _ _ _ _ _ _ (by omega) (by omega) (by omega) (by omega) (by omega))) | (go_at_call 61; exact grow_same (tone_cut _ _ (by omega) (by omega))))))
  refine wpQuiet_nil ?_
  rintro _ ⟨gr, rfl⟩
  go_wp2
  rw [rounds_succ]
  go_wp2
  first | refine region_grow_tail2 14 (by kernel_rfl) (by kernel_rfl) ?_ | refine region_grow_tail 14 (by kernel_rfl) (by kernel_rfl) ?_
  simp only [List.take_succ_cons, List.take_zero, List.drop_succ_cons, List.drop_zero]
  repeat (go_big_quiet_step ((first | (go_at_call 62; exact grow_same (mix_comp1 _ _ _ _ _ _ (by omega) (by omega) (by omega) (by omega) (by omega))) | (go_at_call 61; exact grow_same (tone_cut _ _ (by omega) (by omega))))))
  refine wpQuiet_nil ?_
  rintro _ ⟨gr, rfl⟩
  go_wp2
  rw [rounds_succ]
  go_wp2
  first | refine region_grow_tail2 14 (by kernel_rfl) (by kernel_rfl) ?_ | refine region_grow_tail 14 (by kernel_rfl) (by kernel_rfl) ?_
  simp only [List.take_succ_cons, List.take_zero, List.drop_succ_cons, List.drop_zero]
  repeat (go_big_quiet_step ((first | (go_at_call 62; exact grow_same (mix_comp1 _ _ _ _ _ _ (by omega) (by omega) (by omega) (by omega) (by omega))) | (go_at_call 61; exact grow_same (tone_cut _ _ (by omega) (by omega))))))
  refine wpQuiet_nil ?_
  rintro _ ⟨gr, rfl⟩
  go_wp2
  rw [rounds_succ]
  go_wp2
  first | refine region_grow_tail2 14 (by kernel_rfl) (by kernel_rfl) ?_ | refine region_grow_tail 14 (by kernel_rfl) (by kernel_rfl) ?_
  simp only [List.take_succ_cons, List.take_zero, List.drop_succ_cons, List.drop_zero]
  repeat (go_big_quiet_step ((first | (go_at_call 62; exact grow_same (mix_comp1 _ _ _ _ _ _ (by omega) (by omega) (by omega) (by omega) (by omega))) | (go_at_call 61; exact grow_same (tone_cut _ _ (by omega) (by omega))))))
  refine wpQuiet_nil ?_
  rintro _ ⟨gr, rfl⟩
  go_wp2
  rw [rounds_succ]
  go_wp2
  refine bodyPost_ret (results_cell_row rfl _ _ _ 32 #[.int .u8 (cutT (compV op pr qr pa qa)), .int .u8 (cutT (compV op pg qg pa qa)), .int .u8 (cutT (compV op pb qb pa qa)), .int .u8 (cutT (compV op pa qa pa qa))] (0, 0) _ rfl ?_ Try.underlying32 rfl px_info) rfl ⟨rfl, (by repeat (first | exact Grows.refl _ | apply Grows.grow | apply Grows.alloc | apply Grows.drew))⟩
  exact (by repeat (first | exact blk_at _ _ _ (by first | omega | (simp; done) | (simp; omega)) | refine (blk_past _ _ _ (by first | omega | (simp; done) | (simp; omega))).trans ?_ | refine (heap_grow _ _ _ (by first | omega | (simp; done) | (simp; omega))).trans ?_ | refine (blk_drew _ _).trans ?_))

set_option maxHeartbeats 3200000 in
theorem ref06_comp_0 (pr pg pb pa qr qg qb qa : Int) (w : World) (hpr : 0 ≤ pr ∧ pr ≤ 255) (hpg : 0 ≤ pg ∧ pg ≤ 255) (hpb : 0 ≤ pb ∧ pb ≤ 255) (hpa : 0 ≤ pa ∧ pa ≤ 255) (hqr : 0 ≤ qr ∧ qr ≤ 255) (hqg : 0 ≤ qg ∧ qg ≤ 255) (hqb : 0 ≤ qb ∧ qb ≤ 255) (hqa : 0 ≤ qa ∧ qa ≤ 255) :
    Calls Try.prog 63 #[.int .i64 0, .agg #[.int .u8 pr, .int .u8 pg, .int .u8 pb, .int .u8 pa], .agg #[.int .u8 qr, .int .u8 qg, .int .u8 qb, .int .u8 qa]] w fun e w' => e = .returned (.agg #[.int .u8 (compP 0 ⟨pr, pg, pb, pa⟩ ⟨qr, qg, qb, qa⟩).r, .int .u8 (compP 0 ⟨pr, pg, pb, pa⟩ ⟨qr, qg, qb, qa⟩).g, .int .u8 (compP 0 ⟨pr, pg, pb, pa⟩ ⟨qr, qg, qb, qa⟩).b, .int .u8 (compP 0 ⟨pr, pg, pb, pa⟩ ⟨qr, qg, qb, qa⟩).a]) ∧ Grows w w' := by
  have er : compP 0 ⟨pr, pg, pb, pa⟩ ⟨qr, qg, qb, qa⟩ = ⟨cutT (pr + mulT qr (255 - pa)), cutT (pg + mulT qg (255 - pa)), cutT (pb + mulT qb (255 - pa)), cutT (pa + mulT qa (255 - pa))⟩ := by simp [compP, compV]
  rw [er]
  clear er
  have sp := sub_bd pa hpa
  have sq := sub_bd qa hqa
  have ar := mulT_bd qr (255 - pa) hqr.1 hqr.2 sp.1 sp.2
  have br := mulT_bd pr qa hpr.1 hpr.2 hqa.1 hqa.2
  have cr := mulT_bd pr (255 - qa) hpr.1 hpr.2 sq.1 sq.2
  have ag := mulT_bd qg (255 - pa) hqg.1 hqg.2 sp.1 sp.2
  have bg := mulT_bd pg qa hpg.1 hpg.2 hqa.1 hqa.2
  have cg := mulT_bd pg (255 - qa) hpg.1 hpg.2 sq.1 sq.2
  have ab := mulT_bd qb (255 - pa) hqb.1 hqb.2 sp.1 sp.2
  have bb := mulT_bd pb qa hpb.1 hpb.2 hqa.1 hqa.2
  have cb := mulT_bd pb (255 - qa) hpb.1 hpb.2 sq.1 sq.2
  have aa := mulT_bd qa (255 - pa) hqa.1 hqa.2 sp.1 sp.2
  have ba := mulT_bd pa qa hpa.1 hpa.2 hqa.1 hqa.2
  have ca := mulT_bd pa (255 - qa) hpa.1 hpa.2 sq.1 sq.2
  go_enter Try.func63, Try.ntmps63
  go_wp2
  refine wp_loop_rounds 5 ?_
  rw [rounds_succ]
  go_wp2
  first | refine region_grow2 (by kernel_rfl) (by kernel_rfl) ?_ | refine region_grow (by kernel_rfl) (by kernel_rfl) ?_
  repeat (go_big_quiet_step ((first | (go_at_call 73; exact grow_same (ref06_by _ _ _ (by omega) (by omega))))))
  refine wpQuiet_nil ?_
  rintro _ ⟨gr, rfl⟩
  go_wp2
  first | refine region_grow2 (by kernel_rfl) (by kernel_rfl) ?_ | refine region_grow (by kernel_rfl) (by kernel_rfl) ?_
  repeat (go_big_quiet_step ((first | (go_at_call 73; exact grow_same (ref06_by _ _ _ (by omega) (by omega))))))
  refine wpQuiet_nil ?_
  rintro _ ⟨gr, rfl⟩
  go_wp2
  first | refine region_grow2 (by kernel_rfl) (by kernel_rfl) ?_ | refine region_grow (by kernel_rfl) (by kernel_rfl) ?_
  repeat (go_big_quiet_step ((first | (go_at_call 73; exact grow_same (ref06_by _ _ _ (by omega) (by omega))))))
  refine wpQuiet_nil ?_
  rintro _ ⟨gr, rfl⟩
  go_wp2_with ((first | (go_at_call 74; refine (ref01_cut _ _ (by omega) (by omega)).mono ?_; rintro e w' ⟨rfl, rfl⟩)))
  rw [rounds_succ]
  go_wp2
  first | refine region_grow2 (by kernel_rfl) (by kernel_rfl) ?_ | refine region_grow (by kernel_rfl) (by kernel_rfl) ?_
  repeat (go_big_quiet_step ((first | (go_at_call 73; exact grow_same (ref06_by _ _ _ (by omega) (by omega))))))
  refine wpQuiet_nil ?_
  rintro _ ⟨gr, rfl⟩
  go_wp2
  first | refine region_grow2 (by kernel_rfl) (by kernel_rfl) ?_ | refine region_grow (by kernel_rfl) (by kernel_rfl) ?_
  repeat (go_big_quiet_step ((first | (go_at_call 73; exact grow_same (ref06_by _ _ _ (by omega) (by omega))))))
  refine wpQuiet_nil ?_
  rintro _ ⟨gr, rfl⟩
  go_wp2
  first | refine region_grow2 (by kernel_rfl) (by kernel_rfl) ?_ | refine region_grow (by kernel_rfl) (by kernel_rfl) ?_
  repeat (go_big_quiet_step ((first | (go_at_call 73; exact grow_same (ref06_by _ _ _ (by omega) (by omega))))))
  refine wpQuiet_nil ?_
  rintro _ ⟨gr, rfl⟩
  go_wp2_with ((first | (go_at_call 74; refine (ref01_cut _ _ (by omega) (by omega)).mono ?_; rintro e w' ⟨rfl, rfl⟩)))
  rw [rounds_succ]
  go_wp2
  first | refine region_grow2 (by kernel_rfl) (by kernel_rfl) ?_ | refine region_grow (by kernel_rfl) (by kernel_rfl) ?_
  repeat (go_big_quiet_step ((first | (go_at_call 73; exact grow_same (ref06_by _ _ _ (by omega) (by omega))))))
  refine wpQuiet_nil ?_
  rintro _ ⟨gr, rfl⟩
  go_wp2
  first | refine region_grow2 (by kernel_rfl) (by kernel_rfl) ?_ | refine region_grow (by kernel_rfl) (by kernel_rfl) ?_
  repeat (go_big_quiet_step ((first | (go_at_call 73; exact grow_same (ref06_by _ _ _ (by omega) (by omega))))))
  refine wpQuiet_nil ?_
  rintro _ ⟨gr, rfl⟩
  go_wp2
  first | refine region_grow2 (by kernel_rfl) (by kernel_rfl) ?_ | refine region_grow (by kernel_rfl) (by kernel_rfl) ?_
  repeat (go_big_quiet_step ((first | (go_at_call 73; exact grow_same (ref06_by _ _ _ (by omega) (by omega))))))
  refine wpQuiet_nil ?_
  rintro _ ⟨gr, rfl⟩
  go_wp2_with ((first | (go_at_call 74; refine (ref01_cut _ _ (by omega) (by omega)).mono ?_; rintro e w' ⟨rfl, rfl⟩)))
  rw [rounds_succ]
  go_wp2
  first | refine region_grow2 (by kernel_rfl) (by kernel_rfl) ?_ | refine region_grow (by kernel_rfl) (by kernel_rfl) ?_
  repeat (go_big_quiet_step ((first | (go_at_call 73; exact grow_same (ref06_by _ _ _ (by omega) (by omega))))))
  refine wpQuiet_nil ?_
  rintro _ ⟨gr, rfl⟩
  go_wp2
  first | refine region_grow2 (by kernel_rfl) (by kernel_rfl) ?_ | refine region_grow (by kernel_rfl) (by kernel_rfl) ?_
  repeat (go_big_quiet_step ((first | (go_at_call 73; exact grow_same (ref06_by _ _ _ (by omega) (by omega))))))
  refine wpQuiet_nil ?_
  rintro _ ⟨gr, rfl⟩
  go_wp2
  first | refine region_grow2 (by kernel_rfl) (by kernel_rfl) ?_ | refine region_grow (by kernel_rfl) (by kernel_rfl) ?_
  repeat (go_big_quiet_step ((first | (go_at_call 73; exact grow_same (ref06_by _ _ _ (by omega) (by omega))))))
  refine wpQuiet_nil ?_
  rintro _ ⟨gr, rfl⟩
  go_wp2_with ((first | (go_at_call 74; refine (ref01_cut _ _ (by omega) (by omega)).mono ?_; rintro e w' ⟨rfl, rfl⟩)))
  rw [rounds_succ]
  go_wp2
  refine bodyPost_ret (results_cell_row rfl _ _ _ 32 #[.int .u8 (cutT (pr + mulT qr (255 - pa))), .int .u8 (cutT (pg + mulT qg (255 - pa))), .int .u8 (cutT (pb + mulT qb (255 - pa))), .int .u8 (cutT (pa + mulT qa (255 - pa)))] (0, 0) _ rfl ?_ Try.underlying32 rfl px_info) rfl ⟨rfl, (by repeat (first | exact Grows.refl _ | apply Grows.grow | apply Grows.alloc | apply Grows.drew))⟩
  exact (by repeat (first | exact blk_at _ _ _ (by first | omega | (simp; done) | (simp; omega)) | refine (blk_past _ _ _ (by first | omega | (simp; done) | (simp; omega))).trans ?_ | refine (heap_grow _ _ _ (by first | omega | (simp; done) | (simp; omega))).trans ?_ | refine (blk_drew _ _).trans ?_))

set_option maxHeartbeats 3200000 in
theorem ref06_comp_1 (pr pg pb pa qr qg qb qa : Int) (w : World) (hpr : 0 ≤ pr ∧ pr ≤ 255) (hpg : 0 ≤ pg ∧ pg ≤ 255) (hpb : 0 ≤ pb ∧ pb ≤ 255) (hpa : 0 ≤ pa ∧ pa ≤ 255) (hqr : 0 ≤ qr ∧ qr ≤ 255) (hqg : 0 ≤ qg ∧ qg ≤ 255) (hqb : 0 ≤ qb ∧ qb ≤ 255) (hqa : 0 ≤ qa ∧ qa ≤ 255) :
    Calls Try.prog 63 #[.int .i64 1, .agg #[.int .u8 pr, .int .u8 pg, .int .u8 pb, .int .u8 pa], .agg #[.int .u8 qr, .int .u8 qg, .int .u8 qb, .int .u8 qa]] w fun e w' => e = .returned (.agg #[.int .u8 (compP 1 ⟨pr, pg, pb, pa⟩ ⟨qr, qg, qb, qa⟩).r, .int .u8 (compP 1 ⟨pr, pg, pb, pa⟩ ⟨qr, qg, qb, qa⟩).g, .int .u8 (compP 1 ⟨pr, pg, pb, pa⟩ ⟨qr, qg, qb, qa⟩).b, .int .u8 (compP 1 ⟨pr, pg, pb, pa⟩ ⟨qr, qg, qb, qa⟩).a]) ∧ Grows w w' := by
  have er : compP 1 ⟨pr, pg, pb, pa⟩ ⟨qr, qg, qb, qa⟩ = ⟨cutT (mulT pr qa), cutT (mulT pg qa), cutT (mulT pb qa), cutT (mulT pa qa)⟩ := by simp [compP, compV]
  rw [er]
  clear er
  have sp := sub_bd pa hpa
  have sq := sub_bd qa hqa
  have ar := mulT_bd qr (255 - pa) hqr.1 hqr.2 sp.1 sp.2
  have br := mulT_bd pr qa hpr.1 hpr.2 hqa.1 hqa.2
  have cr := mulT_bd pr (255 - qa) hpr.1 hpr.2 sq.1 sq.2
  have ag := mulT_bd qg (255 - pa) hqg.1 hqg.2 sp.1 sp.2
  have bg := mulT_bd pg qa hpg.1 hpg.2 hqa.1 hqa.2
  have cg := mulT_bd pg (255 - qa) hpg.1 hpg.2 sq.1 sq.2
  have ab := mulT_bd qb (255 - pa) hqb.1 hqb.2 sp.1 sp.2
  have bb := mulT_bd pb qa hpb.1 hpb.2 hqa.1 hqa.2
  have cb := mulT_bd pb (255 - qa) hpb.1 hpb.2 sq.1 sq.2
  have aa := mulT_bd qa (255 - pa) hqa.1 hqa.2 sp.1 sp.2
  have ba := mulT_bd pa qa hpa.1 hpa.2 hqa.1 hqa.2
  have ca := mulT_bd pa (255 - qa) hpa.1 hpa.2 sq.1 sq.2
  go_enter Try.func63, Try.ntmps63
  go_wp2
  refine wp_loop_rounds 5 ?_
  rw [rounds_succ]
  go_wp2
  first | refine region_grow2 (by kernel_rfl) (by kernel_rfl) ?_ | refine region_grow (by kernel_rfl) (by kernel_rfl) ?_
  repeat (go_big_quiet_step ((first | (go_at_call 73; exact grow_same (ref06_by _ _ _ (by omega) (by omega))))))
  refine wpQuiet_nil ?_
  rintro _ ⟨gr, rfl⟩
  go_wp2
  first | refine region_grow2 (by kernel_rfl) (by kernel_rfl) ?_ | refine region_grow (by kernel_rfl) (by kernel_rfl) ?_
  repeat (go_big_quiet_step ((first | (go_at_call 73; exact grow_same (ref06_by _ _ _ (by omega) (by omega))))))
  refine wpQuiet_nil ?_
  rintro _ ⟨gr, rfl⟩
  go_wp2
  first | refine region_grow2 (by kernel_rfl) (by kernel_rfl) ?_ | refine region_grow (by kernel_rfl) (by kernel_rfl) ?_
  repeat (go_big_quiet_step ((first | (go_at_call 73; exact grow_same (ref06_by _ _ _ (by omega) (by omega))))))
  refine wpQuiet_nil ?_
  rintro _ ⟨gr, rfl⟩
  go_wp2_with ((first | (go_at_call 74; refine (ref01_cut _ _ (by omega) (by omega)).mono ?_; rintro e w' ⟨rfl, rfl⟩)))
  rw [rounds_succ]
  go_wp2
  first | refine region_grow2 (by kernel_rfl) (by kernel_rfl) ?_ | refine region_grow (by kernel_rfl) (by kernel_rfl) ?_
  repeat (go_big_quiet_step ((first | (go_at_call 73; exact grow_same (ref06_by _ _ _ (by omega) (by omega))))))
  refine wpQuiet_nil ?_
  rintro _ ⟨gr, rfl⟩
  go_wp2
  first | refine region_grow2 (by kernel_rfl) (by kernel_rfl) ?_ | refine region_grow (by kernel_rfl) (by kernel_rfl) ?_
  repeat (go_big_quiet_step ((first | (go_at_call 73; exact grow_same (ref06_by _ _ _ (by omega) (by omega))))))
  refine wpQuiet_nil ?_
  rintro _ ⟨gr, rfl⟩
  go_wp2
  first | refine region_grow2 (by kernel_rfl) (by kernel_rfl) ?_ | refine region_grow (by kernel_rfl) (by kernel_rfl) ?_
  repeat (go_big_quiet_step ((first | (go_at_call 73; exact grow_same (ref06_by _ _ _ (by omega) (by omega))))))
  refine wpQuiet_nil ?_
  rintro _ ⟨gr, rfl⟩
  go_wp2_with ((first | (go_at_call 74; refine (ref01_cut _ _ (by omega) (by omega)).mono ?_; rintro e w' ⟨rfl, rfl⟩)))
  rw [rounds_succ]
  go_wp2
  first | refine region_grow2 (by kernel_rfl) (by kernel_rfl) ?_ | refine region_grow (by kernel_rfl) (by kernel_rfl) ?_
  repeat (go_big_quiet_step ((first | (go_at_call 73; exact grow_same (ref06_by _ _ _ (by omega) (by omega))))))
  refine wpQuiet_nil ?_
  rintro _ ⟨gr, rfl⟩
  go_wp2
  first | refine region_grow2 (by kernel_rfl) (by kernel_rfl) ?_ | refine region_grow (by kernel_rfl) (by kernel_rfl) ?_
  repeat (go_big_quiet_step ((first | (go_at_call 73; exact grow_same (ref06_by _ _ _ (by omega) (by omega))))))
  refine wpQuiet_nil ?_
  rintro _ ⟨gr, rfl⟩
  go_wp2
  first | refine region_grow2 (by kernel_rfl) (by kernel_rfl) ?_ | refine region_grow (by kernel_rfl) (by kernel_rfl) ?_
  repeat (go_big_quiet_step ((first | (go_at_call 73; exact grow_same (ref06_by _ _ _ (by omega) (by omega))))))
  refine wpQuiet_nil ?_
  rintro _ ⟨gr, rfl⟩
  go_wp2_with ((first | (go_at_call 74; refine (ref01_cut _ _ (by omega) (by omega)).mono ?_; rintro e w' ⟨rfl, rfl⟩)))
  rw [rounds_succ]
  go_wp2
  first | refine region_grow2 (by kernel_rfl) (by kernel_rfl) ?_ | refine region_grow (by kernel_rfl) (by kernel_rfl) ?_
  repeat (go_big_quiet_step ((first | (go_at_call 73; exact grow_same (ref06_by _ _ _ (by omega) (by omega))))))
  refine wpQuiet_nil ?_
  rintro _ ⟨gr, rfl⟩
  go_wp2
  first | refine region_grow2 (by kernel_rfl) (by kernel_rfl) ?_ | refine region_grow (by kernel_rfl) (by kernel_rfl) ?_
  repeat (go_big_quiet_step ((first | (go_at_call 73; exact grow_same (ref06_by _ _ _ (by omega) (by omega))))))
  refine wpQuiet_nil ?_
  rintro _ ⟨gr, rfl⟩
  go_wp2
  first | refine region_grow2 (by kernel_rfl) (by kernel_rfl) ?_ | refine region_grow (by kernel_rfl) (by kernel_rfl) ?_
  repeat (go_big_quiet_step ((first | (go_at_call 73; exact grow_same (ref06_by _ _ _ (by omega) (by omega))))))
  refine wpQuiet_nil ?_
  rintro _ ⟨gr, rfl⟩
  go_wp2_with ((first | (go_at_call 74; refine (ref01_cut _ _ (by omega) (by omega)).mono ?_; rintro e w' ⟨rfl, rfl⟩)))
  rw [rounds_succ]
  go_wp2
  refine bodyPost_ret (results_cell_row rfl _ _ _ 32 #[.int .u8 (cutT (mulT pr qa)), .int .u8 (cutT (mulT pg qa)), .int .u8 (cutT (mulT pb qa)), .int .u8 (cutT (mulT pa qa))] (0, 0) _ rfl ?_ Try.underlying32 rfl px_info) rfl ⟨rfl, (by repeat (first | exact Grows.refl _ | apply Grows.grow | apply Grows.alloc | apply Grows.drew))⟩
  exact (by repeat (first | exact blk_at _ _ _ (by first | omega | (simp; done) | (simp; omega)) | refine (blk_past _ _ _ (by first | omega | (simp; done) | (simp; omega))).trans ?_ | refine (heap_grow _ _ _ (by first | omega | (simp; done) | (simp; omega))).trans ?_ | refine (blk_drew _ _).trans ?_))

set_option maxHeartbeats 3200000 in
theorem ref06_comp_2 (pr pg pb pa qr qg qb qa : Int) (w : World) (hpr : 0 ≤ pr ∧ pr ≤ 255) (hpg : 0 ≤ pg ∧ pg ≤ 255) (hpb : 0 ≤ pb ∧ pb ≤ 255) (hpa : 0 ≤ pa ∧ pa ≤ 255) (hqr : 0 ≤ qr ∧ qr ≤ 255) (hqg : 0 ≤ qg ∧ qg ≤ 255) (hqb : 0 ≤ qb ∧ qb ≤ 255) (hqa : 0 ≤ qa ∧ qa ≤ 255) :
    Calls Try.prog 63 #[.int .i64 2, .agg #[.int .u8 pr, .int .u8 pg, .int .u8 pb, .int .u8 pa], .agg #[.int .u8 qr, .int .u8 qg, .int .u8 qb, .int .u8 qa]] w fun e w' => e = .returned (.agg #[.int .u8 (compP 2 ⟨pr, pg, pb, pa⟩ ⟨qr, qg, qb, qa⟩).r, .int .u8 (compP 2 ⟨pr, pg, pb, pa⟩ ⟨qr, qg, qb, qa⟩).g, .int .u8 (compP 2 ⟨pr, pg, pb, pa⟩ ⟨qr, qg, qb, qa⟩).b, .int .u8 (compP 2 ⟨pr, pg, pb, pa⟩ ⟨qr, qg, qb, qa⟩).a]) ∧ Grows w w' := by
  have er : compP 2 ⟨pr, pg, pb, pa⟩ ⟨qr, qg, qb, qa⟩ = ⟨cutT (mulT pr (255 - qa)), cutT (mulT pg (255 - qa)), cutT (mulT pb (255 - qa)), cutT (mulT pa (255 - qa))⟩ := by simp [compP, compV]
  rw [er]
  clear er
  have sp := sub_bd pa hpa
  have sq := sub_bd qa hqa
  have ar := mulT_bd qr (255 - pa) hqr.1 hqr.2 sp.1 sp.2
  have br := mulT_bd pr qa hpr.1 hpr.2 hqa.1 hqa.2
  have cr := mulT_bd pr (255 - qa) hpr.1 hpr.2 sq.1 sq.2
  have ag := mulT_bd qg (255 - pa) hqg.1 hqg.2 sp.1 sp.2
  have bg := mulT_bd pg qa hpg.1 hpg.2 hqa.1 hqa.2
  have cg := mulT_bd pg (255 - qa) hpg.1 hpg.2 sq.1 sq.2
  have ab := mulT_bd qb (255 - pa) hqb.1 hqb.2 sp.1 sp.2
  have bb := mulT_bd pb qa hpb.1 hpb.2 hqa.1 hqa.2
  have cb := mulT_bd pb (255 - qa) hpb.1 hpb.2 sq.1 sq.2
  have aa := mulT_bd qa (255 - pa) hqa.1 hqa.2 sp.1 sp.2
  have ba := mulT_bd pa qa hpa.1 hpa.2 hqa.1 hqa.2
  have ca := mulT_bd pa (255 - qa) hpa.1 hpa.2 sq.1 sq.2
  go_enter Try.func63, Try.ntmps63
  go_wp2
  refine wp_loop_rounds 5 ?_
  rw [rounds_succ]
  go_wp2
  first | refine region_grow2 (by kernel_rfl) (by kernel_rfl) ?_ | refine region_grow (by kernel_rfl) (by kernel_rfl) ?_
  repeat (go_big_quiet_step ((first | (go_at_call 73; exact grow_same (ref06_by _ _ _ (by omega) (by omega))))))
  refine wpQuiet_nil ?_
  rintro _ ⟨gr, rfl⟩
  go_wp2
  first | refine region_grow2 (by kernel_rfl) (by kernel_rfl) ?_ | refine region_grow (by kernel_rfl) (by kernel_rfl) ?_
  repeat (go_big_quiet_step ((first | (go_at_call 73; exact grow_same (ref06_by _ _ _ (by omega) (by omega))))))
  refine wpQuiet_nil ?_
  rintro _ ⟨gr, rfl⟩
  go_wp2
  first | refine region_grow2 (by kernel_rfl) (by kernel_rfl) ?_ | refine region_grow (by kernel_rfl) (by kernel_rfl) ?_
  repeat (go_big_quiet_step ((first | (go_at_call 73; exact grow_same (ref06_by _ _ _ (by omega) (by omega))))))
  refine wpQuiet_nil ?_
  rintro _ ⟨gr, rfl⟩
  go_wp2_with ((first | (go_at_call 74; refine (ref01_cut _ _ (by omega) (by omega)).mono ?_; rintro e w' ⟨rfl, rfl⟩)))
  rw [rounds_succ]
  go_wp2
  first | refine region_grow2 (by kernel_rfl) (by kernel_rfl) ?_ | refine region_grow (by kernel_rfl) (by kernel_rfl) ?_
  repeat (go_big_quiet_step ((first | (go_at_call 73; exact grow_same (ref06_by _ _ _ (by omega) (by omega))))))
  refine wpQuiet_nil ?_
  rintro _ ⟨gr, rfl⟩
  go_wp2
  first | refine region_grow2 (by kernel_rfl) (by kernel_rfl) ?_ | refine region_grow (by kernel_rfl) (by kernel_rfl) ?_
  repeat (go_big_quiet_step ((first | (go_at_call 73; exact grow_same (ref06_by _ _ _ (by omega) (by omega))))))
  refine wpQuiet_nil ?_
  rintro _ ⟨gr, rfl⟩
  go_wp2
  first | refine region_grow2 (by kernel_rfl) (by kernel_rfl) ?_ | refine region_grow (by kernel_rfl) (by kernel_rfl) ?_
  repeat (go_big_quiet_step ((first | (go_at_call 73; exact grow_same (ref06_by _ _ _ (by omega) (by omega))))))
  refine wpQuiet_nil ?_
  rintro _ ⟨gr, rfl⟩
  go_wp2_with ((first | (go_at_call 74; refine (ref01_cut _ _ (by omega) (by omega)).mono ?_; rintro e w' ⟨rfl, rfl⟩)))
  rw [rounds_succ]
  go_wp2
  first | refine region_grow2 (by kernel_rfl) (by kernel_rfl) ?_ | refine region_grow (by kernel_rfl) (by kernel_rfl) ?_
  repeat (go_big_quiet_step ((first | (go_at_call 73; exact grow_same (ref06_by _ _ _ (by omega) (by omega))))))
  refine wpQuiet_nil ?_
  rintro _ ⟨gr, rfl⟩
  go_wp2
  first | refine region_grow2 (by kernel_rfl) (by kernel_rfl) ?_ | refine region_grow (by kernel_rfl) (by kernel_rfl) ?_
  repeat (go_big_quiet_step ((first | (go_at_call 73; exact grow_same (ref06_by _ _ _ (by omega) (by omega))))))
  refine wpQuiet_nil ?_
  rintro _ ⟨gr, rfl⟩
  go_wp2
  first | refine region_grow2 (by kernel_rfl) (by kernel_rfl) ?_ | refine region_grow (by kernel_rfl) (by kernel_rfl) ?_
  repeat (go_big_quiet_step ((first | (go_at_call 73; exact grow_same (ref06_by _ _ _ (by omega) (by omega))))))
  refine wpQuiet_nil ?_
  rintro _ ⟨gr, rfl⟩
  go_wp2_with ((first | (go_at_call 74; refine (ref01_cut _ _ (by omega) (by omega)).mono ?_; rintro e w' ⟨rfl, rfl⟩)))
  rw [rounds_succ]
  go_wp2
  first | refine region_grow2 (by kernel_rfl) (by kernel_rfl) ?_ | refine region_grow (by kernel_rfl) (by kernel_rfl) ?_
  repeat (go_big_quiet_step ((first | (go_at_call 73; exact grow_same (ref06_by _ _ _ (by omega) (by omega))))))
  refine wpQuiet_nil ?_
  rintro _ ⟨gr, rfl⟩
  go_wp2
  first | refine region_grow2 (by kernel_rfl) (by kernel_rfl) ?_ | refine region_grow (by kernel_rfl) (by kernel_rfl) ?_
  repeat (go_big_quiet_step ((first | (go_at_call 73; exact grow_same (ref06_by _ _ _ (by omega) (by omega))))))
  refine wpQuiet_nil ?_
  rintro _ ⟨gr, rfl⟩
  go_wp2
  first | refine region_grow2 (by kernel_rfl) (by kernel_rfl) ?_ | refine region_grow (by kernel_rfl) (by kernel_rfl) ?_
  repeat (go_big_quiet_step ((first | (go_at_call 73; exact grow_same (ref06_by _ _ _ (by omega) (by omega))))))
  refine wpQuiet_nil ?_
  rintro _ ⟨gr, rfl⟩
  go_wp2_with ((first | (go_at_call 74; refine (ref01_cut _ _ (by omega) (by omega)).mono ?_; rintro e w' ⟨rfl, rfl⟩)))
  rw [rounds_succ]
  go_wp2
  refine bodyPost_ret (results_cell_row rfl _ _ _ 32 #[.int .u8 (cutT (mulT pr (255 - qa))), .int .u8 (cutT (mulT pg (255 - qa))), .int .u8 (cutT (mulT pb (255 - qa))), .int .u8 (cutT (mulT pa (255 - qa)))] (0, 0) _ rfl ?_ Try.underlying32 rfl px_info) rfl ⟨rfl, (by repeat (first | exact Grows.refl _ | apply Grows.grow | apply Grows.alloc | apply Grows.drew))⟩
  exact (by repeat (first | exact blk_at _ _ _ (by first | omega | (simp; done) | (simp; omega)) | refine (blk_past _ _ _ (by first | omega | (simp; done) | (simp; omega))).trans ?_ | refine (heap_grow _ _ _ (by first | omega | (simp; done) | (simp; omega))).trans ?_ | refine (blk_drew _ _).trans ?_))

set_option maxHeartbeats 3200000 in
theorem ref06_comp_3 (pr pg pb pa qr qg qb qa : Int) (w : World) (hpr : 0 ≤ pr ∧ pr ≤ 255) (hpg : 0 ≤ pg ∧ pg ≤ 255) (hpb : 0 ≤ pb ∧ pb ≤ 255) (hpa : 0 ≤ pa ∧ pa ≤ 255) (hqr : 0 ≤ qr ∧ qr ≤ 255) (hqg : 0 ≤ qg ∧ qg ≤ 255) (hqb : 0 ≤ qb ∧ qb ≤ 255) (hqa : 0 ≤ qa ∧ qa ≤ 255) :
    Calls Try.prog 63 #[.int .i64 3, .agg #[.int .u8 pr, .int .u8 pg, .int .u8 pb, .int .u8 pa], .agg #[.int .u8 qr, .int .u8 qg, .int .u8 qb, .int .u8 qa]] w fun e w' => e = .returned (.agg #[.int .u8 (compP 3 ⟨pr, pg, pb, pa⟩ ⟨qr, qg, qb, qa⟩).r, .int .u8 (compP 3 ⟨pr, pg, pb, pa⟩ ⟨qr, qg, qb, qa⟩).g, .int .u8 (compP 3 ⟨pr, pg, pb, pa⟩ ⟨qr, qg, qb, qa⟩).b, .int .u8 (compP 3 ⟨pr, pg, pb, pa⟩ ⟨qr, qg, qb, qa⟩).a]) ∧ Grows w w' := by
  have er : compP 3 ⟨pr, pg, pb, pa⟩ ⟨qr, qg, qb, qa⟩ = ⟨cutT (mulT pr qa + mulT qr (255 - pa)), cutT (mulT pg qa + mulT qg (255 - pa)), cutT (mulT pb qa + mulT qb (255 - pa)), cutT (mulT pa qa + mulT qa (255 - pa))⟩ := by simp [compP, compV]
  rw [er]
  clear er
  have sp := sub_bd pa hpa
  have sq := sub_bd qa hqa
  have ar := mulT_bd qr (255 - pa) hqr.1 hqr.2 sp.1 sp.2
  have br := mulT_bd pr qa hpr.1 hpr.2 hqa.1 hqa.2
  have cr := mulT_bd pr (255 - qa) hpr.1 hpr.2 sq.1 sq.2
  have ag := mulT_bd qg (255 - pa) hqg.1 hqg.2 sp.1 sp.2
  have bg := mulT_bd pg qa hpg.1 hpg.2 hqa.1 hqa.2
  have cg := mulT_bd pg (255 - qa) hpg.1 hpg.2 sq.1 sq.2
  have ab := mulT_bd qb (255 - pa) hqb.1 hqb.2 sp.1 sp.2
  have bb := mulT_bd pb qa hpb.1 hpb.2 hqa.1 hqa.2
  have cb := mulT_bd pb (255 - qa) hpb.1 hpb.2 sq.1 sq.2
  have aa := mulT_bd qa (255 - pa) hqa.1 hqa.2 sp.1 sp.2
  have ba := mulT_bd pa qa hpa.1 hpa.2 hqa.1 hqa.2
  have ca := mulT_bd pa (255 - qa) hpa.1 hpa.2 sq.1 sq.2
  go_enter Try.func63, Try.ntmps63
  go_wp2
  refine wp_loop_rounds 5 ?_
  rw [rounds_succ]
  go_wp2
  first | refine region_grow2 (by kernel_rfl) (by kernel_rfl) ?_ | refine region_grow (by kernel_rfl) (by kernel_rfl) ?_
  repeat (go_big_quiet_step ((first | (go_at_call 73; exact grow_same (ref06_by _ _ _ (by omega) (by omega))))))
  refine wpQuiet_nil ?_
  rintro _ ⟨gr, rfl⟩
  go_wp2
  first | refine region_grow2 (by kernel_rfl) (by kernel_rfl) ?_ | refine region_grow (by kernel_rfl) (by kernel_rfl) ?_
  repeat (go_big_quiet_step ((first | (go_at_call 73; exact grow_same (ref06_by _ _ _ (by omega) (by omega))))))
  refine wpQuiet_nil ?_
  rintro _ ⟨gr, rfl⟩
  go_wp2
  first | refine region_grow2 (by kernel_rfl) (by kernel_rfl) ?_ | refine region_grow (by kernel_rfl) (by kernel_rfl) ?_
  repeat (go_big_quiet_step ((first | (go_at_call 73; exact grow_same (ref06_by _ _ _ (by omega) (by omega))))))
  refine wpQuiet_nil ?_
  rintro _ ⟨gr, rfl⟩
  go_wp2_with ((first | (go_at_call 74; refine (ref01_cut _ _ (by omega) (by omega)).mono ?_; rintro e w' ⟨rfl, rfl⟩)))
  rw [rounds_succ]
  go_wp2
  first | refine region_grow2 (by kernel_rfl) (by kernel_rfl) ?_ | refine region_grow (by kernel_rfl) (by kernel_rfl) ?_
  repeat (go_big_quiet_step ((first | (go_at_call 73; exact grow_same (ref06_by _ _ _ (by omega) (by omega))))))
  refine wpQuiet_nil ?_
  rintro _ ⟨gr, rfl⟩
  go_wp2
  first | refine region_grow2 (by kernel_rfl) (by kernel_rfl) ?_ | refine region_grow (by kernel_rfl) (by kernel_rfl) ?_
  repeat (go_big_quiet_step ((first | (go_at_call 73; exact grow_same (ref06_by _ _ _ (by omega) (by omega))))))
  refine wpQuiet_nil ?_
  rintro _ ⟨gr, rfl⟩
  go_wp2
  first | refine region_grow2 (by kernel_rfl) (by kernel_rfl) ?_ | refine region_grow (by kernel_rfl) (by kernel_rfl) ?_
  repeat (go_big_quiet_step ((first | (go_at_call 73; exact grow_same (ref06_by _ _ _ (by omega) (by omega))))))
  refine wpQuiet_nil ?_
  rintro _ ⟨gr, rfl⟩
  go_wp2_with ((first | (go_at_call 74; refine (ref01_cut _ _ (by omega) (by omega)).mono ?_; rintro e w' ⟨rfl, rfl⟩)))
  rw [rounds_succ]
  go_wp2
  first | refine region_grow2 (by kernel_rfl) (by kernel_rfl) ?_ | refine region_grow (by kernel_rfl) (by kernel_rfl) ?_
  repeat (go_big_quiet_step ((first | (go_at_call 73; exact grow_same (ref06_by _ _ _ (by omega) (by omega))))))
  refine wpQuiet_nil ?_
  rintro _ ⟨gr, rfl⟩
  go_wp2
  first | refine region_grow2 (by kernel_rfl) (by kernel_rfl) ?_ | refine region_grow (by kernel_rfl) (by kernel_rfl) ?_
  repeat (go_big_quiet_step ((first | (go_at_call 73; exact grow_same (ref06_by _ _ _ (by omega) (by omega))))))
  refine wpQuiet_nil ?_
  rintro _ ⟨gr, rfl⟩
  go_wp2
  first | refine region_grow2 (by kernel_rfl) (by kernel_rfl) ?_ | refine region_grow (by kernel_rfl) (by kernel_rfl) ?_
  repeat (go_big_quiet_step ((first | (go_at_call 73; exact grow_same (ref06_by _ _ _ (by omega) (by omega))))))
  refine wpQuiet_nil ?_
  rintro _ ⟨gr, rfl⟩
  go_wp2_with ((first | (go_at_call 74; refine (ref01_cut _ _ (by omega) (by omega)).mono ?_; rintro e w' ⟨rfl, rfl⟩)))
  rw [rounds_succ]
  go_wp2
  first | refine region_grow2 (by kernel_rfl) (by kernel_rfl) ?_ | refine region_grow (by kernel_rfl) (by kernel_rfl) ?_
  repeat (go_big_quiet_step ((first | (go_at_call 73; exact grow_same (ref06_by _ _ _ (by omega) (by omega))))))
  refine wpQuiet_nil ?_
  rintro _ ⟨gr, rfl⟩
  go_wp2
  first | refine region_grow2 (by kernel_rfl) (by kernel_rfl) ?_ | refine region_grow (by kernel_rfl) (by kernel_rfl) ?_
  repeat (go_big_quiet_step ((first | (go_at_call 73; exact grow_same (ref06_by _ _ _ (by omega) (by omega))))))
  refine wpQuiet_nil ?_
  rintro _ ⟨gr, rfl⟩
  go_wp2
  first | refine region_grow2 (by kernel_rfl) (by kernel_rfl) ?_ | refine region_grow (by kernel_rfl) (by kernel_rfl) ?_
  repeat (go_big_quiet_step ((first | (go_at_call 73; exact grow_same (ref06_by _ _ _ (by omega) (by omega))))))
  refine wpQuiet_nil ?_
  rintro _ ⟨gr, rfl⟩
  go_wp2_with ((first | (go_at_call 74; refine (ref01_cut _ _ (by omega) (by omega)).mono ?_; rintro e w' ⟨rfl, rfl⟩)))
  rw [rounds_succ]
  go_wp2
  refine bodyPost_ret (results_cell_row rfl _ _ _ 32 #[.int .u8 (cutT (mulT pr qa + mulT qr (255 - pa))), .int .u8 (cutT (mulT pg qa + mulT qg (255 - pa))), .int .u8 (cutT (mulT pb qa + mulT qb (255 - pa))), .int .u8 (cutT (mulT pa qa + mulT qa (255 - pa)))] (0, 0) _ rfl ?_ Try.underlying32 rfl px_info) rfl ⟨rfl, (by repeat (first | exact Grows.refl _ | apply Grows.grow | apply Grows.alloc | apply Grows.drew))⟩
  exact (by repeat (first | exact blk_at _ _ _ (by first | omega | (simp; done) | (simp; omega)) | refine (blk_past _ _ _ (by first | omega | (simp; done) | (simp; omega))).trans ?_ | refine (heap_grow _ _ _ (by first | omega | (simp; done) | (simp; omega))).trans ?_ | refine (blk_drew _ _).trans ?_))

set_option maxHeartbeats 3200000 in
theorem ref06_comp_4 (pr pg pb pa qr qg qb qa : Int) (w : World) (hpr : 0 ≤ pr ∧ pr ≤ 255) (hpg : 0 ≤ pg ∧ pg ≤ 255) (hpb : 0 ≤ pb ∧ pb ≤ 255) (hpa : 0 ≤ pa ∧ pa ≤ 255) (hqr : 0 ≤ qr ∧ qr ≤ 255) (hqg : 0 ≤ qg ∧ qg ≤ 255) (hqb : 0 ≤ qb ∧ qb ≤ 255) (hqa : 0 ≤ qa ∧ qa ≤ 255) :
    Calls Try.prog 63 #[.int .i64 4, .agg #[.int .u8 pr, .int .u8 pg, .int .u8 pb, .int .u8 pa], .agg #[.int .u8 qr, .int .u8 qg, .int .u8 qb, .int .u8 qa]] w fun e w' => e = .returned (.agg #[.int .u8 (compP 4 ⟨pr, pg, pb, pa⟩ ⟨qr, qg, qb, qa⟩).r, .int .u8 (compP 4 ⟨pr, pg, pb, pa⟩ ⟨qr, qg, qb, qa⟩).g, .int .u8 (compP 4 ⟨pr, pg, pb, pa⟩ ⟨qr, qg, qb, qa⟩).b, .int .u8 (compP 4 ⟨pr, pg, pb, pa⟩ ⟨qr, qg, qb, qa⟩).a]) ∧ Grows w w' := by
  have er : compP 4 ⟨pr, pg, pb, pa⟩ ⟨qr, qg, qb, qa⟩ = ⟨cutT (mulT pr (255 - qa) + mulT qr (255 - pa)), cutT (mulT pg (255 - qa) + mulT qg (255 - pa)), cutT (mulT pb (255 - qa) + mulT qb (255 - pa)), cutT (mulT pa (255 - qa) + mulT qa (255 - pa))⟩ := by simp [compP, compV]
  rw [er]
  clear er
  have sp := sub_bd pa hpa
  have sq := sub_bd qa hqa
  have ar := mulT_bd qr (255 - pa) hqr.1 hqr.2 sp.1 sp.2
  have br := mulT_bd pr qa hpr.1 hpr.2 hqa.1 hqa.2
  have cr := mulT_bd pr (255 - qa) hpr.1 hpr.2 sq.1 sq.2
  have ag := mulT_bd qg (255 - pa) hqg.1 hqg.2 sp.1 sp.2
  have bg := mulT_bd pg qa hpg.1 hpg.2 hqa.1 hqa.2
  have cg := mulT_bd pg (255 - qa) hpg.1 hpg.2 sq.1 sq.2
  have ab := mulT_bd qb (255 - pa) hqb.1 hqb.2 sp.1 sp.2
  have bb := mulT_bd pb qa hpb.1 hpb.2 hqa.1 hqa.2
  have cb := mulT_bd pb (255 - qa) hpb.1 hpb.2 sq.1 sq.2
  have aa := mulT_bd qa (255 - pa) hqa.1 hqa.2 sp.1 sp.2
  have ba := mulT_bd pa qa hpa.1 hpa.2 hqa.1 hqa.2
  have ca := mulT_bd pa (255 - qa) hpa.1 hpa.2 sq.1 sq.2
  go_enter Try.func63, Try.ntmps63
  go_wp2
  refine wp_loop_rounds 5 ?_
  rw [rounds_succ]
  go_wp2
  first | refine region_grow2 (by kernel_rfl) (by kernel_rfl) ?_ | refine region_grow (by kernel_rfl) (by kernel_rfl) ?_
  repeat (go_big_quiet_step ((first | (go_at_call 73; exact grow_same (ref06_by _ _ _ (by omega) (by omega))))))
  refine wpQuiet_nil ?_
  rintro _ ⟨gr, rfl⟩
  go_wp2
  first | refine region_grow2 (by kernel_rfl) (by kernel_rfl) ?_ | refine region_grow (by kernel_rfl) (by kernel_rfl) ?_
  repeat (go_big_quiet_step ((first | (go_at_call 73; exact grow_same (ref06_by _ _ _ (by omega) (by omega))))))
  refine wpQuiet_nil ?_
  rintro _ ⟨gr, rfl⟩
  go_wp2
  first | refine region_grow2 (by kernel_rfl) (by kernel_rfl) ?_ | refine region_grow (by kernel_rfl) (by kernel_rfl) ?_
  repeat (go_big_quiet_step ((first | (go_at_call 73; exact grow_same (ref06_by _ _ _ (by omega) (by omega))))))
  refine wpQuiet_nil ?_
  rintro _ ⟨gr, rfl⟩
  go_wp2_with ((first | (go_at_call 74; refine (ref01_cut _ _ (by omega) (by omega)).mono ?_; rintro e w' ⟨rfl, rfl⟩)))
  rw [rounds_succ]
  go_wp2
  first | refine region_grow2 (by kernel_rfl) (by kernel_rfl) ?_ | refine region_grow (by kernel_rfl) (by kernel_rfl) ?_
  repeat (go_big_quiet_step ((first | (go_at_call 73; exact grow_same (ref06_by _ _ _ (by omega) (by omega))))))
  refine wpQuiet_nil ?_
  rintro _ ⟨gr, rfl⟩
  go_wp2
  first | refine region_grow2 (by kernel_rfl) (by kernel_rfl) ?_ | refine region_grow (by kernel_rfl) (by kernel_rfl) ?_
  repeat (go_big_quiet_step ((first | (go_at_call 73; exact grow_same (ref06_by _ _ _ (by omega) (by omega))))))
  refine wpQuiet_nil ?_
  rintro _ ⟨gr, rfl⟩
  go_wp2
  first | refine region_grow2 (by kernel_rfl) (by kernel_rfl) ?_ | refine region_grow (by kernel_rfl) (by kernel_rfl) ?_
  repeat (go_big_quiet_step ((first | (go_at_call 73; exact grow_same (ref06_by _ _ _ (by omega) (by omega))))))
  refine wpQuiet_nil ?_
  rintro _ ⟨gr, rfl⟩
  go_wp2_with ((first | (go_at_call 74; refine (ref01_cut _ _ (by omega) (by omega)).mono ?_; rintro e w' ⟨rfl, rfl⟩)))
  rw [rounds_succ]
  go_wp2
  first | refine region_grow2 (by kernel_rfl) (by kernel_rfl) ?_ | refine region_grow (by kernel_rfl) (by kernel_rfl) ?_
  repeat (go_big_quiet_step ((first | (go_at_call 73; exact grow_same (ref06_by _ _ _ (by omega) (by omega))))))
  refine wpQuiet_nil ?_
  rintro _ ⟨gr, rfl⟩
  go_wp2
  first | refine region_grow2 (by kernel_rfl) (by kernel_rfl) ?_ | refine region_grow (by kernel_rfl) (by kernel_rfl) ?_
  repeat (go_big_quiet_step ((first | (go_at_call 73; exact grow_same (ref06_by _ _ _ (by omega) (by omega))))))
  refine wpQuiet_nil ?_
  rintro _ ⟨gr, rfl⟩
  go_wp2
  first | refine region_grow2 (by kernel_rfl) (by kernel_rfl) ?_ | refine region_grow (by kernel_rfl) (by kernel_rfl) ?_
  repeat (go_big_quiet_step ((first | (go_at_call 73; exact grow_same (ref06_by _ _ _ (by omega) (by omega))))))
  refine wpQuiet_nil ?_
  rintro _ ⟨gr, rfl⟩
  go_wp2_with ((first | (go_at_call 74; refine (ref01_cut _ _ (by omega) (by omega)).mono ?_; rintro e w' ⟨rfl, rfl⟩)))
  rw [rounds_succ]
  go_wp2
  first | refine region_grow2 (by kernel_rfl) (by kernel_rfl) ?_ | refine region_grow (by kernel_rfl) (by kernel_rfl) ?_
  repeat (go_big_quiet_step ((first | (go_at_call 73; exact grow_same (ref06_by _ _ _ (by omega) (by omega))))))
  refine wpQuiet_nil ?_
  rintro _ ⟨gr, rfl⟩
  go_wp2
  first | refine region_grow2 (by kernel_rfl) (by kernel_rfl) ?_ | refine region_grow (by kernel_rfl) (by kernel_rfl) ?_
  repeat (go_big_quiet_step ((first | (go_at_call 73; exact grow_same (ref06_by _ _ _ (by omega) (by omega))))))
  refine wpQuiet_nil ?_
  rintro _ ⟨gr, rfl⟩
  go_wp2
  first | refine region_grow2 (by kernel_rfl) (by kernel_rfl) ?_ | refine region_grow (by kernel_rfl) (by kernel_rfl) ?_
  repeat (go_big_quiet_step ((first | (go_at_call 73; exact grow_same (ref06_by _ _ _ (by omega) (by omega))))))
  refine wpQuiet_nil ?_
  rintro _ ⟨gr, rfl⟩
  go_wp2_with ((first | (go_at_call 74; refine (ref01_cut _ _ (by omega) (by omega)).mono ?_; rintro e w' ⟨rfl, rfl⟩)))
  rw [rounds_succ]
  go_wp2
  refine bodyPost_ret (results_cell_row rfl _ _ _ 32 #[.int .u8 (cutT (mulT pr (255 - qa) + mulT qr (255 - pa))), .int .u8 (cutT (mulT pg (255 - qa) + mulT qg (255 - pa))), .int .u8 (cutT (mulT pb (255 - qa) + mulT qb (255 - pa))), .int .u8 (cutT (mulT pa (255 - qa) + mulT qa (255 - pa)))] (0, 0) _ rfl ?_ Try.underlying32 rfl px_info) rfl ⟨rfl, (by repeat (first | exact Grows.refl _ | apply Grows.grow | apply Grows.alloc | apply Grows.drew))⟩
  exact (by repeat (first | exact blk_at _ _ _ (by first | omega | (simp; done) | (simp; omega)) | refine (blk_past _ _ _ (by first | omega | (simp; done) | (simp; omega))).trans ?_ | refine (heap_grow _ _ _ (by first | omega | (simp; done) | (simp; omega))).trans ?_ | refine (blk_drew _ _).trans ?_))

set_option maxHeartbeats 3200000 in
theorem ref06_comp_5 (pr pg pb pa qr qg qb qa : Int) (w : World) (hpr : 0 ≤ pr ∧ pr ≤ 255) (hpg : 0 ≤ pg ∧ pg ≤ 255) (hpb : 0 ≤ pb ∧ pb ≤ 255) (hpa : 0 ≤ pa ∧ pa ≤ 255) (hqr : 0 ≤ qr ∧ qr ≤ 255) (hqg : 0 ≤ qg ∧ qg ≤ 255) (hqb : 0 ≤ qb ∧ qb ≤ 255) (hqa : 0 ≤ qa ∧ qa ≤ 255) :
    Calls Try.prog 63 #[.int .i64 5, .agg #[.int .u8 pr, .int .u8 pg, .int .u8 pb, .int .u8 pa], .agg #[.int .u8 qr, .int .u8 qg, .int .u8 qb, .int .u8 qa]] w fun e w' => e = .returned (.agg #[.int .u8 (compP 5 ⟨pr, pg, pb, pa⟩ ⟨qr, qg, qb, qa⟩).r, .int .u8 (compP 5 ⟨pr, pg, pb, pa⟩ ⟨qr, qg, qb, qa⟩).g, .int .u8 (compP 5 ⟨pr, pg, pb, pa⟩ ⟨qr, qg, qb, qa⟩).b, .int .u8 (compP 5 ⟨pr, pg, pb, pa⟩ ⟨qr, qg, qb, qa⟩).a]) ∧ Grows w w' := by
  have er : compP 5 ⟨pr, pg, pb, pa⟩ ⟨qr, qg, qb, qa⟩ = ⟨cutT (0), cutT (0), cutT (0), cutT (0)⟩ := by simp [compP, compV]
  rw [er]
  clear er
  have sp := sub_bd pa hpa
  have sq := sub_bd qa hqa
  have ar := mulT_bd qr (255 - pa) hqr.1 hqr.2 sp.1 sp.2
  have br := mulT_bd pr qa hpr.1 hpr.2 hqa.1 hqa.2
  have cr := mulT_bd pr (255 - qa) hpr.1 hpr.2 sq.1 sq.2
  have ag := mulT_bd qg (255 - pa) hqg.1 hqg.2 sp.1 sp.2
  have bg := mulT_bd pg qa hpg.1 hpg.2 hqa.1 hqa.2
  have cg := mulT_bd pg (255 - qa) hpg.1 hpg.2 sq.1 sq.2
  have ab := mulT_bd qb (255 - pa) hqb.1 hqb.2 sp.1 sp.2
  have bb := mulT_bd pb qa hpb.1 hpb.2 hqa.1 hqa.2
  have cb := mulT_bd pb (255 - qa) hpb.1 hpb.2 sq.1 sq.2
  have aa := mulT_bd qa (255 - pa) hqa.1 hqa.2 sp.1 sp.2
  have ba := mulT_bd pa qa hpa.1 hpa.2 hqa.1 hqa.2
  have ca := mulT_bd pa (255 - qa) hpa.1 hpa.2 sq.1 sq.2
  go_enter Try.func63, Try.ntmps63
  go_wp2
  refine wp_loop_rounds 5 ?_
  rw [rounds_succ]
  go_wp2
  first | refine region_grow2 (by kernel_rfl) (by kernel_rfl) ?_ | refine region_grow (by kernel_rfl) (by kernel_rfl) ?_
  repeat (go_big_quiet_step ((first | (go_at_call 73; exact grow_same (ref06_by _ _ _ (by omega) (by omega))))))
  refine wpQuiet_nil ?_
  rintro _ ⟨gr, rfl⟩
  go_wp2
  first | refine region_grow2 (by kernel_rfl) (by kernel_rfl) ?_ | refine region_grow (by kernel_rfl) (by kernel_rfl) ?_
  repeat (go_big_quiet_step ((first | (go_at_call 73; exact grow_same (ref06_by _ _ _ (by omega) (by omega))))))
  refine wpQuiet_nil ?_
  rintro _ ⟨gr, rfl⟩
  go_wp2
  first | refine region_grow2 (by kernel_rfl) (by kernel_rfl) ?_ | refine region_grow (by kernel_rfl) (by kernel_rfl) ?_
  repeat (go_big_quiet_step ((first | (go_at_call 73; exact grow_same (ref06_by _ _ _ (by omega) (by omega))))))
  refine wpQuiet_nil ?_
  rintro _ ⟨gr, rfl⟩
  go_wp2_with ((first | (go_at_call 74; refine (ref01_cut _ _ (by omega) (by omega)).mono ?_; rintro e w' ⟨rfl, rfl⟩)))
  rw [rounds_succ]
  go_wp2
  first | refine region_grow2 (by kernel_rfl) (by kernel_rfl) ?_ | refine region_grow (by kernel_rfl) (by kernel_rfl) ?_
  repeat (go_big_quiet_step ((first | (go_at_call 73; exact grow_same (ref06_by _ _ _ (by omega) (by omega))))))
  refine wpQuiet_nil ?_
  rintro _ ⟨gr, rfl⟩
  go_wp2
  first | refine region_grow2 (by kernel_rfl) (by kernel_rfl) ?_ | refine region_grow (by kernel_rfl) (by kernel_rfl) ?_
  repeat (go_big_quiet_step ((first | (go_at_call 73; exact grow_same (ref06_by _ _ _ (by omega) (by omega))))))
  refine wpQuiet_nil ?_
  rintro _ ⟨gr, rfl⟩
  go_wp2
  first | refine region_grow2 (by kernel_rfl) (by kernel_rfl) ?_ | refine region_grow (by kernel_rfl) (by kernel_rfl) ?_
  repeat (go_big_quiet_step ((first | (go_at_call 73; exact grow_same (ref06_by _ _ _ (by omega) (by omega))))))
  refine wpQuiet_nil ?_
  rintro _ ⟨gr, rfl⟩
  go_wp2_with ((first | (go_at_call 74; refine (ref01_cut _ _ (by omega) (by omega)).mono ?_; rintro e w' ⟨rfl, rfl⟩)))
  rw [rounds_succ]
  go_wp2
  first | refine region_grow2 (by kernel_rfl) (by kernel_rfl) ?_ | refine region_grow (by kernel_rfl) (by kernel_rfl) ?_
  repeat (go_big_quiet_step ((first | (go_at_call 73; exact grow_same (ref06_by _ _ _ (by omega) (by omega))))))
  refine wpQuiet_nil ?_
  rintro _ ⟨gr, rfl⟩
  go_wp2
  first | refine region_grow2 (by kernel_rfl) (by kernel_rfl) ?_ | refine region_grow (by kernel_rfl) (by kernel_rfl) ?_
  repeat (go_big_quiet_step ((first | (go_at_call 73; exact grow_same (ref06_by _ _ _ (by omega) (by omega))))))
  refine wpQuiet_nil ?_
  rintro _ ⟨gr, rfl⟩
  go_wp2
  first | refine region_grow2 (by kernel_rfl) (by kernel_rfl) ?_ | refine region_grow (by kernel_rfl) (by kernel_rfl) ?_
  repeat (go_big_quiet_step ((first | (go_at_call 73; exact grow_same (ref06_by _ _ _ (by omega) (by omega))))))
  refine wpQuiet_nil ?_
  rintro _ ⟨gr, rfl⟩
  go_wp2_with ((first | (go_at_call 74; refine (ref01_cut _ _ (by omega) (by omega)).mono ?_; rintro e w' ⟨rfl, rfl⟩)))
  rw [rounds_succ]
  go_wp2
  first | refine region_grow2 (by kernel_rfl) (by kernel_rfl) ?_ | refine region_grow (by kernel_rfl) (by kernel_rfl) ?_
  repeat (go_big_quiet_step ((first | (go_at_call 73; exact grow_same (ref06_by _ _ _ (by omega) (by omega))))))
  refine wpQuiet_nil ?_
  rintro _ ⟨gr, rfl⟩
  go_wp2
  first | refine region_grow2 (by kernel_rfl) (by kernel_rfl) ?_ | refine region_grow (by kernel_rfl) (by kernel_rfl) ?_
  repeat (go_big_quiet_step ((first | (go_at_call 73; exact grow_same (ref06_by _ _ _ (by omega) (by omega))))))
  refine wpQuiet_nil ?_
  rintro _ ⟨gr, rfl⟩
  go_wp2
  first | refine region_grow2 (by kernel_rfl) (by kernel_rfl) ?_ | refine region_grow (by kernel_rfl) (by kernel_rfl) ?_
  repeat (go_big_quiet_step ((first | (go_at_call 73; exact grow_same (ref06_by _ _ _ (by omega) (by omega))))))
  refine wpQuiet_nil ?_
  rintro _ ⟨gr, rfl⟩
  go_wp2_with ((first | (go_at_call 74; refine (ref01_cut _ _ (by omega) (by omega)).mono ?_; rintro e w' ⟨rfl, rfl⟩)))
  rw [rounds_succ]
  go_wp2
  refine bodyPost_ret (results_cell_row rfl _ _ _ 32 #[.int .u8 (cutT (0)), .int .u8 (cutT (0)), .int .u8 (cutT (0)), .int .u8 (cutT (0))] (0, 0) _ rfl ?_ Try.underlying32 rfl px_info) rfl ⟨rfl, (by repeat (first | exact Grows.refl _ | apply Grows.grow | apply Grows.alloc | apply Grows.drew))⟩
  exact (by repeat (first | exact blk_at _ _ _ (by first | omega | (simp; done) | (simp; omega)) | refine (blk_past _ _ _ (by first | omega | (simp; done) | (simp; omega))).trans ?_ | refine (heap_grow _ _ _ (by first | omega | (simp; done) | (simp; omega))).trans ?_ | refine (blk_drew _ _).trans ?_))

theorem ref06_comp (op pr pg pb pa qr qg qb qa : Int) (w : World) (ho : 0 ≤ op ∧ op ≤ 5) (hpr : 0 ≤ pr ∧ pr ≤ 255) (hpg : 0 ≤ pg ∧ pg ≤ 255) (hpb : 0 ≤ pb ∧ pb ≤ 255) (hpa : 0 ≤ pa ∧ pa ≤ 255) (hqr : 0 ≤ qr ∧ qr ≤ 255) (hqg : 0 ≤ qg ∧ qg ≤ 255) (hqb : 0 ≤ qb ∧ qb ≤ 255) (hqa : 0 ≤ qa ∧ qa ≤ 255) :
    Calls Try.prog 63 #[.int .i64 op, .agg #[.int .u8 pr, .int .u8 pg, .int .u8 pb, .int .u8 pa], .agg #[.int .u8 qr, .int .u8 qg, .int .u8 qb, .int .u8 qa]] w fun e w' => e = .returned (.agg #[.int .u8 (compP op ⟨pr, pg, pb, pa⟩ ⟨qr, qg, qb, qa⟩).r, .int .u8 (compP op ⟨pr, pg, pb, pa⟩ ⟨qr, qg, qb, qa⟩).g, .int .u8 (compP op ⟨pr, pg, pb, pa⟩ ⟨qr, qg, qb, qa⟩).b, .int .u8 (compP op ⟨pr, pg, pb, pa⟩ ⟨qr, qg, qb, qa⟩).a]) ∧ Grows w w' := by
  have hc : op = 0 ∨ op = 1 ∨ op = 2 ∨ op = 3 ∨ op = 4 ∨ op = 5 := by omega
  rcases hc with rfl | rfl | rfl | rfl | rfl | rfl
  · exact ref06_comp_0 pr pg pb pa qr qg qb qa w hpr hpg hpb hpa hqr hqg hqb hqa
  · exact ref06_comp_1 pr pg pb pa qr qg qb qa w hpr hpg hpb hpa hqr hqg hqb hqa
  · exact ref06_comp_2 pr pg pb pa qr qg qb qa w hpr hpg hpb hpa hqr hqg hqb hqa
  · exact ref06_comp_3 pr pg pb pa qr qg qb qa w hpr hpg hpb hpa hqr hqg hqb hqa
  · exact ref06_comp_4 pr pg pb pa qr qg qb qa w hpr hpg hpb hpa hqr hqg hqb hqa
  · exact ref06_comp_5 pr pg pb pa qr qg qb qa w hpr hpg hpb hpa hqr hqg hqb hqa

end Go.Proofs.Yticeoppldlhehaa
