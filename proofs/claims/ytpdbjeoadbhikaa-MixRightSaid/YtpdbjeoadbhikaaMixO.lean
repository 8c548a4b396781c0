/- The walks of layer 6 (mixing): with an opacity; the law's question; its awake. -/
import Derived.Test.YtpdbjeoadbhikaaMixB
import Derived.Test.YtpdbjeoadbhikaaMixBR
namespace Go.Proofs.Ytpdbjeoadbhikaa
open Go.RowKit
set_option linter.unusedVariables false

set_option maxHeartbeats 1600000 in
theorem mix_onto (m k pr pg pb pa qr qg qb qa : Int) (w : World) (hm : 0 ≤ m ∧ m ≤ 6) (hk : 0 ≤ k ∧ k ≤ 255) (hpr : 0 ≤ pr ∧ pr ≤ 255) (hpg : 0 ≤ pg ∧ pg ≤ 255) (hpb : 0 ≤ pb ∧ pb ≤ 255) (hpa : 0 ≤ pa ∧ pa ≤ 255) (hqr : 0 ≤ qr ∧ qr ≤ 255) (hqg : 0 ≤ qg ∧ qg ≤ 255) (hqb : 0 ≤ qb ∧ qb ≤ 255) (hqa : 0 ≤ qa ∧ qa ≤ 255) :
    Calls Try.prog 15 #[.int .i64 m, .int .u8 k, .agg #[.int .u8 pr, .int .u8 pg, .int .u8 pb, .int .u8 pa], .agg #[.int .u8 qr, .int .u8 qg, .int .u8 qb, .int .u8 qa]] w fun e w' => e = .returned (.agg #[.int .u8 (ontoP m k ⟨pr, pg, pb, pa⟩ ⟨qr, qg, qb, qa⟩).r, .int .u8 (ontoP m k ⟨pr, pg, pb, pa⟩ ⟨qr, qg, qb, qa⟩).g, .int .u8 (ontoP m k ⟨pr, pg, pb, pa⟩ ⟨qr, qg, qb, qa⟩).b, .int .u8 (ontoP m k ⟨pr, pg, pb, pa⟩ ⟨qr, qg, qb, qa⟩).a]) ∧ Grows w w' := by
  have sr := mulT_bd pr k hpr.1 hpr.2 hk.1 hk.2
  have sg := mulT_bd pg k hpg.1 hpg.2 hk.1 hk.2
  have sb := mulT_bd pb k hpb.1 hpb.2 hk.1 hk.2
  have sa := mulT_bd pa k hpa.1 hpa.2 hk.1 hk.2
  have er : ontoP m k ⟨pr, pg, pb, pa⟩ ⟨qr, qg, qb, qa⟩ = (blendP m ⟨mulT pr k, mulT pg k, mulT pb k, mulT pa k⟩ ⟨qr, qg, qb, qa⟩) := rfl
  rw [er]
  clear er
  go_enter Try.func15, Try.ntmps15
  go_wp2
  first | refine region_grow_tail2 6 (by kernel_rfl) (by kernel_rfl) ?_ | refine region_grow_tail 6 (by kernel_rfl) (by kernel_rfl) ?_
  simp only [List.take_succ_cons, List.take_zero, List.drop_succ_cons, List.drop_zero]
  repeat (go_big_quiet_step ((first | (go_at_call 26; exact grow_of (tone_scale _ _ _ _ _ _ (by omega) (by omega) (by omega) (by omega) (by omega))) | (go_at_call 13; exact grow_of (mix_blend _ _ _ _ _ _ _ _ _ _ (by omega) (by omega) (by omega) (by omega) (by omega) (by omega) (by omega) (by omega) (by omega))))))
  refine wpQuiet_nil ?_
  rintro _ ⟨gr, rfl⟩
  go_wp2
  refine bodyPost_ret (results_cell_row rfl _ _ _ 23 #[.int .u8 ((blendP m ⟨mulT pr k, mulT pg k, mulT pb k, mulT pa k⟩ ⟨qr, qg, qb, qa⟩).r), .int .u8 ((blendP m ⟨mulT pr k, mulT pg k, mulT pb k, mulT pa k⟩ ⟨qr, qg, qb, qa⟩).g), .int .u8 ((blendP m ⟨mulT pr k, mulT pg k, mulT pb k, mulT pa k⟩ ⟨qr, qg, qb, qa⟩).b), .int .u8 ((blendP m ⟨mulT pr k, mulT pg k, mulT pb k, mulT pa k⟩ ⟨qr, qg, qb, qa⟩).a)] (0, 0) _ rfl ?_ Try.underlying23 rfl px_info) rfl ⟨rfl, (by repeat (first | exact Grows.refl _ | apply Grows.grow | apply Grows.alloc | apply Grows.drew))⟩
  exact (by repeat (first | exact blk_at _ _ _ (by first | omega | (simp; done) | (simp; omega)) | refine (blk_past _ _ _ (by first | omega | (simp; done) | (simp; omega))).trans ?_ | refine (heap_grow _ _ _ (by first | omega | (simp; done) | (simp; omega))).trans ?_ | refine (blk_drew _ _).trans ?_))

set_option maxHeartbeats 1600000 in
theorem ref06_onto (m k pr pg pb pa qr qg qb qa : Int) (w : World) (hm : 0 ≤ m ∧ m ≤ 6) (hk : 0 ≤ k ∧ k ≤ 255) (hpr : 0 ≤ pr ∧ pr ≤ 255) (hpg : 0 ≤ pg ∧ pg ≤ 255) (hpb : 0 ≤ pb ∧ pb ≤ 255) (hpa : 0 ≤ pa ∧ pa ≤ 255) (hqr : 0 ≤ qr ∧ qr ≤ 255) (hqg : 0 ≤ qg ∧ qg ≤ 255) (hqb : 0 ≤ qb ∧ qb ≤ 255) (hqa : 0 ≤ qa ∧ qa ≤ 255) :
    Calls Try.prog 16 #[.int .i64 m, .int .u8 k, .agg #[.int .u8 pr, .int .u8 pg, .int .u8 pb, .int .u8 pa], .agg #[.int .u8 qr, .int .u8 qg, .int .u8 qb, .int .u8 qa]] w fun e w' => e = .returned (.agg #[.int .u8 (ontoP m k ⟨pr, pg, pb, pa⟩ ⟨qr, qg, qb, qa⟩).r, .int .u8 (ontoP m k ⟨pr, pg, pb, pa⟩ ⟨qr, qg, qb, qa⟩).g, .int .u8 (ontoP m k ⟨pr, pg, pb, pa⟩ ⟨qr, qg, qb, qa⟩).b, .int .u8 (ontoP m k ⟨pr, pg, pb, pa⟩ ⟨qr, qg, qb, qa⟩).a]) ∧ Grows w w' := by
  have sr := mulT_bd pr k hpr.1 hpr.2 hk.1 hk.2
  have sg := mulT_bd pg k hpg.1 hpg.2 hk.1 hk.2
  have sb := mulT_bd pb k hpb.1 hpb.2 hk.1 hk.2
  have sa := mulT_bd pa k hpa.1 hpa.2 hk.1 hk.2
  have er : ontoP m k ⟨pr, pg, pb, pa⟩ ⟨qr, qg, qb, qa⟩ = (blendP m ⟨mulT pr k, mulT pg k, mulT pb k, mulT pa k⟩ ⟨qr, qg, qb, qa⟩) := rfl
  rw [er]
  clear er
  go_enter Try.func16, Try.ntmps16
  go_wp2
  first | refine region_grow_tail2 6 (by kernel_rfl) (by kernel_rfl) ?_ | refine region_grow_tail 6 (by kernel_rfl) (by kernel_rfl) ?_
  simp only [List.take_succ_cons, List.take_zero, List.drop_succ_cons, List.drop_zero]
  repeat (go_big_quiet_step ((first | (go_at_call 27; exact grow_of (ref01_scale _ _ _ _ _ _ (by omega) (by omega) (by omega) (by omega) (by omega))) | (go_at_call 14; exact grow_of (ref06_blend _ _ _ _ _ _ _ _ _ _ (by omega) (by omega) (by omega) (by omega) (by omega) (by omega) (by omega) (by omega) (by omega))))))
  refine wpQuiet_nil ?_
  rintro _ ⟨gr, rfl⟩
  go_wp2
  refine bodyPost_ret (results_cell_row rfl _ _ _ 23 #[.int .u8 ((blendP m ⟨mulT pr k, mulT pg k, mulT pb k, mulT pa k⟩ ⟨qr, qg, qb, qa⟩).r), .int .u8 ((blendP m ⟨mulT pr k, mulT pg k, mulT pb k, mulT pa k⟩ ⟨qr, qg, qb, qa⟩).g), .int .u8 ((blendP m ⟨mulT pr k, mulT pg k, mulT pb k, mulT pa k⟩ ⟨qr, qg, qb, qa⟩).b), .int .u8 ((blendP m ⟨mulT pr k, mulT pg k, mulT pb k, mulT pa k⟩ ⟨qr, qg, qb, qa⟩).a)] (0, 0) _ rfl ?_ Try.underlying23 rfl px_info) rfl ⟨rfl, (by repeat (first | exact Grows.refl _ | apply Grows.grow | apply Grows.alloc | apply Grows.drew))⟩
  exact (by repeat (first | exact blk_at _ _ _ (by first | omega | (simp; done) | (simp; omega)) | refine (blk_past _ _ _ (by first | omega | (simp; done) | (simp; omega))).trans ?_ | refine (heap_grow _ _ _ (by first | omega | (simp; done) | (simp; omega))).trans ?_ | refine (blk_drew _ _).trans ?_))

set_option maxHeartbeats 1600000 in
theorem law06_right (pr pg pb pa qr qg qb qa : Int) (w : World) (hpr : 0 ≤ pr ∧ pr ≤ 255) (hpg : 0 ≤ pg ∧ pg ≤ 255) (hpb : 0 ≤ pb ∧ pb ≤ 255) (hpa : 0 ≤ pa ∧ pa ≤ 255) (hqr : 0 ≤ qr ∧ qr ≤ 255) (hqg : 0 ≤ qg ∧ qg ≤ 255) (hqb : 0 ≤ qb ∧ qb ≤ 255) (hqa : 0 ≤ qa ∧ qa ≤ 255) :
    Calls Try.prog 9 #[.agg #[.int .u8 pr, .int .u8 pg, .int .u8 pb, .int .u8 pa], .agg #[.int .u8 qr, .int .u8 qg, .int .u8 qb, .int .u8 qa]] w fun e w' => e = .returned (.bool (rightT pr pg pb pa && rightT qr qg qb qa)) ∧ Grows w w' := by
  cases h : rightT pr pg pb pa <;> cases k : rightT qr qg qb qa
  all_goals
    go_enter Try.func9, Try.ntmps9
    go_wp2_with ((first | (go_at_call 17; refine (ref01_right _ _ _ _ _ (by omega) (by omega) (by omega) (by omega)).mono ?_; rintro e w' ⟨rfl, hgw⟩; first | (obtain ⟨gw, rfl⟩ := grows_of_grow hgw) | (obtain ⟨gw, rfl⟩ := hgw))))
    go_ret
    exact ⟨rfl, (by repeat (first | exact Grows.refl _ | apply Grows.grow | apply Grows.alloc | apply Grows.drew))⟩

set_option maxHeartbeats 1600000 in
theorem awake06  (w : World) :
    Calls Try.prog 10 #[] w fun e w' => e = .returned (.bool true) ∧ Grows w w' := by
  have e1r : (blendP 1 ⟨255, 0, 0, 255⟩ ⟨128, 128, 128, 255⟩).r = 128 := by decide
  have e1g : (blendP 1 ⟨255, 0, 0, 255⟩ ⟨128, 128, 128, 255⟩).g = 0 := by decide
  have e1b : (blendP 1 ⟨255, 0, 0, 255⟩ ⟨128, 128, 128, 255⟩).b = 0 := by decide
  have e1a : (blendP 1 ⟨255, 0, 0, 255⟩ ⟨128, 128, 128, 255⟩).a = 255 := by decide
  have e2r : (compP 1 ⟨9, 9, 9, 9⟩ ⟨0, 0, 0, 128⟩).r = 5 := by decide
  have e2g : (compP 1 ⟨9, 9, 9, 9⟩ ⟨0, 0, 0, 128⟩).g = 5 := by decide
  have e2b : (compP 1 ⟨9, 9, 9, 9⟩ ⟨0, 0, 0, 128⟩).b = 5 := by decide
  have e2a : (compP 1 ⟨9, 9, 9, 9⟩ ⟨0, 0, 0, 128⟩).a = 5 := by decide
  have e3r : (ontoP 0 0 ⟨9, 9, 9, 9⟩ ⟨1, 2, 3, 4⟩).r = 1 := by decide
  have e3g : (ontoP 0 0 ⟨9, 9, 9, 9⟩ ⟨1, 2, 3, 4⟩).g = 2 := by decide
  have e3b : (ontoP 0 0 ⟨9, 9, 9, 9⟩ ⟨1, 2, 3, 4⟩).b = 3 := by decide
  have e3a : (ontoP 0 0 ⟨9, 9, 9, 9⟩ ⟨1, 2, 3, 4⟩).a = 4 := by decide
  go_enter Try.func10, Try.ntmps10
  go_wp2_with ((first | (go_at_call 13; refine (mix_blend _ _ _ _ _ _ _ _ _ _ (by omega) (by omega) (by omega) (by omega) (by omega) (by omega) (by omega) (by omega) (by omega)).mono ?_; rintro e w' ⟨rfl, hgw⟩; first | (obtain ⟨gw, rfl⟩ := grows_of_grow hgw) | (obtain ⟨gw, rfl⟩ := hgw)) | (go_at_call 11; refine (mix_comp _ _ _ _ _ _ _ _ _ _ (by omega) (by omega) (by omega) (by omega) (by omega) (by omega) (by omega) (by omega) (by omega)).mono ?_; rintro e w' ⟨rfl, hgw⟩; first | (obtain ⟨gw, rfl⟩ := grows_of_grow hgw) | (obtain ⟨gw, rfl⟩ := hgw)) | (go_at_call 15; refine (mix_onto _ _ _ _ _ _ _ _ _ _ _ (by omega) (by omega) (by omega) (by omega) (by omega) (by omega) (by omega) (by omega) (by omega) (by omega)).mono ?_; rintro e w' ⟨rfl, hgw⟩; first | (obtain ⟨gw, rfl⟩ := grows_of_grow hgw) | (obtain ⟨gw, rfl⟩ := hgw))))
  go_ret
  exact ⟨rfl, (by repeat (first | exact Grows.refl _ | apply Grows.grow | apply Grows.alloc | apply Grows.drew))⟩

end Go.Proofs.Ytpdbjeoadbhikaa
