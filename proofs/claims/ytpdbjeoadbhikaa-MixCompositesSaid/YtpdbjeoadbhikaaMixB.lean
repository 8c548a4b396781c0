/- The walks of layer 6 (mixing): pixels by a mode; with an opacity; and the law's question. -/
import Derived.Test.YtpdbjeoadbhikaaMixC
namespace Go.Proofs.Ytpdbjeoadbhikaa
open Go.RowKit
set_option linter.unusedVariables false

set_option maxHeartbeats 3200000 in
theorem mix_blend (m pr pg pb pa qr qg qb qa : Int) (w : World) (hm : 0 ≤ m ∧ m ≤ 6) (hpr : 0 ≤ pr ∧ pr ≤ 255) (hpg : 0 ≤ pg ∧ pg ≤ 255) (hpb : 0 ≤ pb ∧ pb ≤ 255) (hpa : 0 ≤ pa ∧ pa ≤ 255) (hqr : 0 ≤ qr ∧ qr ≤ 255) (hqg : 0 ≤ qg ∧ qg ≤ 255) (hqb : 0 ≤ qb ∧ qb ≤ 255) (hqa : 0 ≤ qa ∧ qa ≤ 255) :
    Calls Try.prog 13 #[.int .i64 m, .agg #[.int .u8 pr, .int .u8 pg, .int .u8 pb, .int .u8 pa], .agg #[.int .u8 qr, .int .u8 qg, .int .u8 qb, .int .u8 qa]] w fun e w' => e = .returned (.agg #[.int .u8 (blendP m ⟨pr, pg, pb, pa⟩ ⟨qr, qg, qb, qa⟩).r, .int .u8 (blendP m ⟨pr, pg, pb, pa⟩ ⟨qr, qg, qb, qa⟩).g, .int .u8 (blendP m ⟨pr, pg, pb, pa⟩ ⟨qr, qg, qb, qa⟩).b, .int .u8 (blendP m ⟨pr, pg, pb, pa⟩ ⟨qr, qg, qb, qa⟩).a]) ∧ Grows w w' := by
  by_cases h0 : m = 0
  · subst h0
    have er : blendP 0 ⟨pr, pg, pb, pa⟩ ⟨qr, qg, qb, qa⟩ = compP 0 ⟨pr, pg, pb, pa⟩ ⟨qr, qg, qb, qa⟩ := by simp [blendP]
    rw [er]
    clear er
    go_enter Try.func13, Try.ntmps13
    go_wp2_with ((first | (go_at_call 11; refine (mix_comp _ _ _ _ _ _ _ _ _ _ (by omega) (by omega) (by omega) (by omega) (by omega) (by omega) (by omega) (by omega) (by omega)).mono ?_; rintro e w' ⟨rfl, hgw⟩; first | (obtain ⟨gw, rfl⟩ := grows_of_grow hgw) | (obtain ⟨gw, rfl⟩ := hgw))))
    refine bodyPost_ret (results_cell_row rfl _ _ _ 23 #[.int .u8 ((compP 0 ⟨pr, pg, pb, pa⟩ ⟨qr, qg, qb, qa⟩).r), .int .u8 ((compP 0 ⟨pr, pg, pb, pa⟩ ⟨qr, qg, qb, qa⟩).g), .int .u8 ((compP 0 ⟨pr, pg, pb, pa⟩ ⟨qr, qg, qb, qa⟩).b), .int .u8 ((compP 0 ⟨pr, pg, pb, pa⟩ ⟨qr, qg, qb, qa⟩).a)] (0, 0) _ rfl ?_ Try.underlying23 rfl px_info) rfl ⟨rfl, (by repeat (first | exact Grows.refl _ | apply Grows.grow | apply Grows.alloc | apply Grows.drew))⟩
    exact (by repeat (first | exact blk_at _ _ _ (by first | omega | (simp; done) | (simp; omega)) | refine (blk_past _ _ _ (by first | omega | (simp; done) | (simp; omega))).trans ?_ | refine (heap_grow _ _ _ (by first | omega | (simp; done) | (simp; omega))).trans ?_ | refine (blk_drew _ _).trans ?_))
  · have hb0 : (m == 0) = false := by simp; omega
    have vr := colV_bd m pr qr pa qa hpr hqr hpa hqa
    have kr := cutT_bd (colV m pr qr pa qa)
    have vg := colV_bd m pg qg pa qa hpg hqg hpa hqa
    have kg := cutT_bd (colV m pg qg pa qa)
    have vb := colV_bd m pb qb pa qa hpb hqb hpa hqa
    have kb := cutT_bd (colV m pb qb pa qa)
    have mm := mulT_bd pa qa hpa.1 hpa.2 hqa.1 hqa.2
    have hmn : ∀ a b : Int, (@ite Int (b < a) (Int.decLt b a) b a) = min a b := fun a b => by show (if b < a then b else a) = min a b; split <;> omega
    by_cases h6 : m = 6
    · have h6b : (m != 6) = false := by simp [h6]
      have er : blendP m ⟨pr, pg, pb, pa⟩ ⟨qr, qg, qb, qa⟩ = ⟨min (cutT (colV m pr qr pa qa)) (cutT (pa + qa)), min (cutT (colV m pg qg pa qa)) (cutT (pa + qa)), min (cutT (colV m pb qb pa qa)) (cutT (pa + qa)), cutT (pa + qa)⟩ := by simp [blendP, alphaV, h6]
      rw [er]
      clear er
      have ka := cutT_bd (pa + qa)
      have hm1 : 1 ≤ m ∧ m ≤ 6 := by omega
      clear h0 h6
      go_enter Try.func13, Try.ntmps13
      go_wp2_with ((first | (go_at_call 23; refine (mix_mul _ _ _ (by omega) (by omega)).mono ?_; rintro e w' ⟨rfl, rfl⟩) | (go_at_call 19; refine (tone_cut _ _ (by omega) (by omega)).mono ?_; rintro e w' ⟨rfl, rfl⟩)))
      refine wp_loop_rounds 4 ?_
      rw [rounds_succ]
      go_wp2
      first | refine region_grow2 (by kernel_rfl) (by kernel_rfl) ?_ | refine region_grow (by kernel_rfl) (by kernel_rfl) ?_
      repeat (go_big_quiet_step ((first | (go_at_call 24; exact grow_same (mix_colour _ _ _ _ _ _ (by omega) (by omega) (by omega) (by omega) (by omega))))))
      refine wpQuiet_nil ?_
      rintro _ ⟨gr, rfl⟩
      go_wp2
      first | refine region_grow_tail2 6 (by kernel_rfl) (by kernel_rfl) ?_ | refine region_grow_tail 6 (by kernel_rfl) (by kernel_rfl) ?_
      simp only [List.take_succ_cons, List.take_zero, List.drop_succ_cons, List.drop_zero]
      repeat (go_big_quiet_step ((first | (go_at_call 19; exact grow_same (tone_cut _ _ (by omega) (by omega))))))
      refine wpQuiet_nil ?_
      rintro _ ⟨gr, rfl⟩
      go_wp2
      rw [rounds_succ]
      go_wp2
      first | refine region_grow2 (by kernel_rfl) (by kernel_rfl) ?_ | refine region_grow (by kernel_rfl) (by kernel_rfl) ?_
      repeat (go_big_quiet_step ((first | (go_at_call 24; exact grow_same (mix_colour _ _ _ _ _ _ (by omega) (by omega) (by omega) (by omega) (by omega))))))
      refine wpQuiet_nil ?_
      rintro _ ⟨gr, rfl⟩
      go_wp2
      first | refine region_grow_tail2 6 (by kernel_rfl) (by kernel_rfl) ?_ | refine region_grow_tail 6 (by kernel_rfl) (by kernel_rfl) ?_
      simp only [List.take_succ_cons, List.take_zero, List.drop_succ_cons, List.drop_zero]
      repeat (go_big_quiet_step ((first | (go_at_call 19; exact grow_same (tone_cut _ _ (by omega) (by omega))))))
      refine wpQuiet_nil ?_
      rintro _ ⟨gr, rfl⟩
      go_wp2
      rw [rounds_succ]
      go_wp2
      first | refine region_grow2 (by kernel_rfl) (by kernel_rfl) ?_ | refine region_grow (by kernel_rfl) (by kernel_rfl) ?_
      repeat (go_big_quiet_step ((first | (go_at_call 24; exact grow_same (mix_colour _ _ _ _ _ _ (by omega) (by omega) (by omega) (by omega) (by omega))))))
      refine wpQuiet_nil ?_
      rintro _ ⟨gr, rfl⟩
      go_wp2
      first | refine region_grow_tail2 6 (by kernel_rfl) (by kernel_rfl) ?_ | refine region_grow_tail 6 (by kernel_rfl) (by kernel_rfl) ?_
      simp only [List.take_succ_cons, List.take_zero, List.drop_succ_cons, List.drop_zero]
      repeat (go_big_quiet_step ((first | (go_at_call 19; exact grow_same (tone_cut _ _ (by omega) (by omega))))))
      refine wpQuiet_nil ?_
      rintro _ ⟨gr, rfl⟩
      go_wp2
      rw [rounds_succ]
      go_wp2
      refine bodyPost_ret (results_cell_row rfl _ _ _ 23 #[.int .u8 (min (cutT (colV m pr qr pa qa)) (cutT (pa + qa))), .int .u8 (min (cutT (colV m pg qg pa qa)) (cutT (pa + qa))), .int .u8 (min (cutT (colV m pb qb pa qa)) (cutT (pa + qa))), .int .u8 (cutT (pa + qa))] (0, 0) _ rfl ?_ Try.underlying23 rfl px_info) rfl ⟨rfl, (by repeat (first | exact Grows.refl _ | apply Grows.grow | apply Grows.alloc | apply Grows.drew))⟩
      exact (by repeat (first | exact blk_at _ _ _ (by first | omega | (simp; done) | (simp; omega)) | refine (blk_past _ _ _ (by first | omega | (simp; done) | (simp; omega))).trans ?_ | refine (heap_grow _ _ _ (by first | omega | (simp; done) | (simp; omega))).trans ?_ | refine (blk_drew _ _).trans ?_))
    · have h6b : (m != 6) = true := by simp [h6]
      have er : blendP m ⟨pr, pg, pb, pa⟩ ⟨qr, qg, qb, qa⟩ = ⟨min (cutT (colV m pr qr pa qa)) (cutT (pa + qa - mulT pa qa)), min (cutT (colV m pg qg pa qa)) (cutT (pa + qa - mulT pa qa)), min (cutT (colV m pb qb pa qa)) (cutT (pa + qa - mulT pa qa)), cutT (pa + qa - mulT pa qa)⟩ := by simp [blendP, alphaV, h0, h6]
      rw [er]
      clear er
      have ka := cutT_bd (pa + qa - mulT pa qa)
      have hm1 : 1 ≤ m ∧ m ≤ 6 := by omega
      clear h0 h6
      go_enter Try.func13, Try.ntmps13
      go_wp2_with ((first | (go_at_call 23; refine (mix_mul _ _ _ (by omega) (by omega)).mono ?_; rintro e w' ⟨rfl, rfl⟩) | (go_at_call 19; refine (tone_cut _ _ (by omega) (by omega)).mono ?_; rintro e w' ⟨rfl, rfl⟩)))
      refine wp_loop_rounds 4 ?_
      rw [rounds_succ]
      go_wp2
      first | refine region_grow2 (by kernel_rfl) (by kernel_rfl) ?_ | refine region_grow (by kernel_rfl) (by kernel_rfl) ?_
      repeat (go_big_quiet_step ((first | (go_at_call 24; exact grow_same (mix_colour _ _ _ _ _ _ (by omega) (by omega) (by omega) (by omega) (by omega))))))
      refine wpQuiet_nil ?_
      rintro _ ⟨gr, rfl⟩
      go_wp2
      first | refine region_grow_tail2 6 (by kernel_rfl) (by kernel_rfl) ?_ | refine region_grow_tail 6 (by kernel_rfl) (by kernel_rfl) ?_
      simp only [List.take_succ_cons, List.take_zero, List.drop_succ_cons, List.drop_zero]
      repeat (go_big_quiet_step ((first | (go_at_call 19; exact grow_same (tone_cut _ _ (by omega) (by omega))))))
      refine wpQuiet_nil ?_
      rintro _ ⟨gr, rfl⟩
      go_wp2
      rw [rounds_succ]
      go_wp2
      first | refine region_grow2 (by kernel_rfl) (by kernel_rfl) ?_ | refine region_grow (by kernel_rfl) (by kernel_rfl) ?_
      repeat (go_big_quiet_step ((first | (go_at_call 24; exact grow_same (mix_colour _ _ _ _ _ _ (by omega) (by omega) (by omega) (by omega) (by omega))))))
      refine wpQuiet_nil ?_
      rintro _ ⟨gr, rfl⟩
      go_wp2
      first | refine region_grow_tail2 6 (by kernel_rfl) (by kernel_rfl) ?_ | refine region_grow_tail 6 (by kernel_rfl) (by kernel_rfl) ?_
      simp only [List.take_succ_cons, List.take_zero, List.drop_succ_cons, List.drop_zero]
      repeat (go_big_quiet_step ((first | (go_at_call 19; exact grow_same (tone_cut _ _ (by omega) (by omega))))))
      refine wpQuiet_nil ?_
      rintro _ ⟨gr, rfl⟩
      go_wp2
      rw [rounds_succ]
      go_wp2
      first | refine region_grow2 (by kernel_rfl) (by kernel_rfl) ?_ | refine region_grow (by kernel_rfl) (by kernel_rfl) ?_
      repeat (go_big_quiet_step ((first | (go_at_call 24; exact grow_same (mix_colour _ _ _ _ _ _ (by omega) (by omega) (by omega) (by omega) (by omega))))))
      refine wpQuiet_nil ?_
      rintro _ ⟨gr, rfl⟩
      go_wp2
      first | refine region_grow_tail2 6 (by kernel_rfl) (by kernel_rfl) ?_ | refine region_grow_tail 6 (by kernel_rfl) (by kernel_rfl) ?_
      simp only [List.take_succ_cons, List.take_zero, List.drop_succ_cons, List.drop_zero]
      repeat (go_big_quiet_step ((first | (go_at_call 19; exact grow_same (tone_cut _ _ (by omega) (by omega))))))
      refine wpQuiet_nil ?_
      rintro _ ⟨gr, rfl⟩
      go_wp2
      rw [rounds_succ]
      go_wp2
      refine bodyPost_ret (results_cell_row rfl _ _ _ 23 #[.int .u8 (min (cutT (colV m pr qr pa qa)) (cutT (pa + qa - mulT pa qa))), .int .u8 (min (cutT (colV m pg qg pa qa)) (cutT (pa + qa - mulT pa qa))), .int .u8 (min (cutT (colV m pb qb pa qa)) (cutT (pa + qa - mulT pa qa))), .int .u8 (cutT (pa + qa - mulT pa qa))] (0, 0) _ rfl ?_ Try.underlying23 rfl px_info) rfl ⟨rfl, (by repeat (first | exact Grows.refl _ | apply Grows.grow | apply Grows.alloc | apply Grows.drew))⟩
      exact (by repeat (first | exact blk_at _ _ _ (by first | omega | (simp; done) | (simp; omega)) | refine (blk_past _ _ _ (by first | omega | (simp; done) | (simp; omega))).trans ?_ | refine (heap_grow _ _ _ (by first | omega | (simp; done) | (simp; omega))).trans ?_ | refine (blk_drew _ _).trans ?_))

