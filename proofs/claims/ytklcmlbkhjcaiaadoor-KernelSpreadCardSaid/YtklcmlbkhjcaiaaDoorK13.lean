/- The walks of layer 6 (mixing), the leaves: values by an operator, colours by a mode. -/
import Derived.Test.YtklcmlbkhjcaiaaDoorK6
import Derived.Test.YtklcmlbkhjcaiaaDoorK3
import Derived.Test.YtklcmlbkhjcaiaaDoorK1
import Derived.Test.YtklcmlbkhjcaiaaDoorRas





namespace Go.Proofs.YtklcmlbkhjcaiaaDoor
open Go.RowKit
set_option linter.unusedVariables false


set_option maxHeartbeats 800000 in
theorem mix_mul (a b : Int) (w : World) (ha : 0 ≤ a ∧ a ≤ 255) (hb : 0 ≤ b ∧ b ≤ 255) :
    Calls Tryd.prog 103 #[.int .u8 a, .int .u8 b] w fun e w' => e = .returned (.int .i64 (mulT a b)) ∧ w = w' := by
  have hm := mulT_bd a b ha.1 ha.2 hb.1 hb.2
  go_enter Tryd.func103, Tryd.ntmps103
  go_wp2_with ((first | (go_at_call 92; refine (tone_mul _ _ _ (by omega) (by omega) (by omega) (by omega)).mono ?_; rintro e w' ⟨rfl, rfl⟩)))
  go_ret
  exact ⟨rfl, rfl⟩


set_option maxHeartbeats 1600000 in
theorem mix_comp1 (op a b t u : Int) (w : World) (ho : 0 ≤ op ∧ op ≤ 5) (ha : 0 ≤ a ∧ a ≤ 255) (hb : 0 ≤ b ∧ b ≤ 255) (ht : 0 ≤ t ∧ t ≤ 255) (hu : 0 ≤ u ∧ u ≤ 255) :
    Calls Tryd.prog 94 #[.int .i64 op, .int .u8 a, .int .u8 b, .int .u8 t, .int .u8 u] w fun e w' => e = .returned (.int .i64 (compV op a b t u)) ∧ w = w' := by
  have m1 := mulT_bd b (255 - t) hb.1 hb.2 (sub_bd t ht).1 (sub_bd t ht).2
  have m2 := mulT_bd a u ha.1 ha.2 hu.1 hu.2
  have m3 := mulT_bd a (255 - u) ha.1 ha.2 (sub_bd u hu).1 (sub_bd u hu).2
  have m4 := mulT_bd b t hb.1 hb.2 ht.1 ht.2
  have m5 := mulT_bd a b ha.1 ha.2 hb.1 hb.2
  have hc : op = 0 ∨ op = 1 ∨ op = 2 ∨ op = 3 ∨ op = 4 ∨ op = 5 := by omega
  rcases hc with rfl | rfl | rfl | rfl | rfl | rfl
  all_goals
    go_enter Tryd.func94, Tryd.ntmps94
    go_wp2_with ((first | (go_at_call 103; refine (mix_mul _ _ _ (by omega) (by omega)).mono ?_; rintro e w' ⟨rfl, rfl⟩)))
    go_ret
    exact ⟨ret_int (by simp [compV]), rfl⟩

set_option maxHeartbeats 800000 in
theorem mix_beside (a b t u : Int) (w : World) (ha : 0 ≤ a ∧ a ≤ 255) (hb : 0 ≤ b ∧ b ≤ 255) (ht : 0 ≤ t ∧ t ≤ 255) (hu : 0 ≤ u ∧ u ≤ 255) :
    Calls Tryd.prog 111 #[.int .u8 a, .int .u8 b, .int .u8 t, .int .u8 u] w fun e w' => e = .returned (.int .i64 (besideV a b t u)) ∧ w = w' := by
  have m1 := mulT_bd b (255 - t) hb.1 hb.2 (sub_bd t ht).1 (sub_bd t ht).2
  have m2 := mulT_bd a u ha.1 ha.2 hu.1 hu.2
  have m3 := mulT_bd a (255 - u) ha.1 ha.2 (sub_bd u hu).1 (sub_bd u hu).2
  have m4 := mulT_bd b t hb.1 hb.2 ht.1 ht.2
  have m5 := mulT_bd a b ha.1 ha.2 hb.1 hb.2
  go_enter Tryd.func111, Tryd.ntmps111
  go_wp2_with ((first | (go_at_call 103; refine (mix_mul _ _ _ (by omega) (by omega)).mono ?_; rintro e w' ⟨rfl, rfl⟩)))
  go_ret
  exact ⟨rfl, rfl⟩

theorem besideV_bd (a b t u : Int) (ha : 0 ≤ a ∧ a ≤ 255) (hb : 0 ≤ b ∧ b ≤ 255) (ht : 0 ≤ t ∧ t ≤ 255) (hu : 0 ≤ u ∧ u ≤ 255) : 0 ≤ besideV a b t u ∧ besideV a b t u ≤ 510 := by
  have m1 := mulT_bd b (255 - t) hb.1 hb.2 (sub_bd t ht).1 (sub_bd t ht).2
  have m2 := mulT_bd a u ha.1 ha.2 hu.1 hu.2
  have m3 := mulT_bd a (255 - u) ha.1 ha.2 (sub_bd u hu).1 (sub_bd u hu).2
  have m4 := mulT_bd b t hb.1 hb.2 ht.1 ht.2
  have m5 := mulT_bd a b ha.1 ha.2 hb.1 hb.2
  unfold besideV
  omega

set_option maxHeartbeats 3200000 in
theorem mix_colour (m a b t u : Int) (w : World) (hm : 1 ≤ m ∧ m ≤ 6) (ha : 0 ≤ a ∧ a ≤ 255) (hb : 0 ≤ b ∧ b ≤ 255) (ht : 0 ≤ t ∧ t ≤ 255) (hu : 0 ≤ u ∧ u ≤ 255) :
    Calls Tryd.prog 107 #[.int .i64 m, .int .u8 a, .int .u8 b, .int .u8 t, .int .u8 u] w fun e w' => e = .returned (.int .i64 (colV m a b t u)) ∧ w = w' := by
  have m1 := mulT_bd b (255 - t) hb.1 hb.2 (sub_bd t ht).1 (sub_bd t ht).2
  have m2 := mulT_bd a u ha.1 ha.2 hu.1 hu.2
  have m3 := mulT_bd a (255 - u) ha.1 ha.2 (sub_bd u hu).1 (sub_bd u hu).2
  have m4 := mulT_bd b t hb.1 hb.2 ht.1 ht.2
  have m5 := mulT_bd a b ha.1 ha.2 hb.1 hb.2
  have m6 := besideV_bd a b t u ha hb ht hu
  have hc : m = 1 ∨ m = 2 ∨ m = 3 ∨ m = 4 ∨ m = 5 ∨ m = 6 := by omega
  rcases hc with rfl | rfl | rfl | rfl | rfl | rfl
  all_goals
    go_enter Tryd.func107, Tryd.ntmps107
    go_wp2_with ((first | (go_at_call 103; refine (mix_mul _ _ _ (by omega) (by omega)).mono ?_; rintro e w' ⟨rfl, rfl⟩) | (go_at_call 111; refine (mix_beside _ _ _ _ _ (by omega) (by omega) (by omega) (by omega)).mono ?_; rintro e w' ⟨rfl, rfl⟩)))
    all_goals
      go_ret
      exact ⟨ret_int (by simp only [colV]; simp <;> omega), rfl⟩


end Go.Proofs.YtklcmlbkhjcaiaaDoor
/- The walks of layer 6 (mixing): pixels by an operator; the reference's too. -/

namespace Go.Proofs.YtklcmlbkhjcaiaaDoor
open Go.RowKit
set_option linter.unusedVariables false

set_option maxHeartbeats 1600000 in
theorem mix_comp (op pr pg pb pa qr qg qb qa : Int) (w : World) (ho : 0 ≤ op ∧ op ≤ 5) (hpr : 0 ≤ pr ∧ pr ≤ 255) (hpg : 0 ≤ pg ∧ pg ≤ 255) (hpb : 0 ≤ pb ∧ pb ≤ 255) (hpa : 0 ≤ pa ∧ pa ≤ 255) (hqr : 0 ≤ qr ∧ qr ≤ 255) (hqg : 0 ≤ qg ∧ qg ≤ 255) (hqb : 0 ≤ qb ∧ qb ≤ 255) (hqa : 0 ≤ qa ∧ qa ≤ 255) :
    Calls Tryd.prog 69 #[.int .i64 op, .agg #[.int .u8 pr, .int .u8 pg, .int .u8 pb, .int .u8 pa], .agg #[.int .u8 qr, .int .u8 qg, .int .u8 qb, .int .u8 qa]] w fun e w' => e = .returned (.agg #[.int .u8 (compP op ⟨pr, pg, pb, pa⟩ ⟨qr, qg, qb, qa⟩).r, .int .u8 (compP op ⟨pr, pg, pb, pa⟩ ⟨qr, qg, qb, qa⟩).g, .int .u8 (compP op ⟨pr, pg, pb, pa⟩ ⟨qr, qg, qb, qa⟩).b, .int .u8 (compP op ⟨pr, pg, pb, pa⟩ ⟨qr, qg, qb, qa⟩).a]) ∧ Grows w w' := by
  have vr := compV_bd op pr qr pa qa hpr hqr hpa hqa
  have vg := compV_bd op pg qg pa qa hpg hqg hpa hqa
  have vb := compV_bd op pb qb pa qa hpb hqb hpa hqa
  have va := compV_bd op pa qa pa qa hpa hqa hpa hqa
  go_enter Tryd.func69, Tryd.ntmps69
  go_wp2
  refine wp_loop_rounds 5 ?_
  rw [rounds_succ]
  go_wp2
  first | refine region_grow_tail2 14 (by kernel_rfl) (by kernel_rfl) ?_ | refine region_grow_tail 14 (by kernel_rfl) (by kernel_rfl) ?_
  simp only [List.take_succ_cons, List.take_zero, List.drop_succ_cons, List.drop_zero]
  repeat (go_big_quiet_step ((first | (go_at_call 94; exact grow_same (mix_comp1 _ _ _ _ _ _ (by omega) (by omega) (by omega) (by omega) (by omega))) | (go_at_call 93; exact grow_same (tone_cut _ _ (by omega) (by omega))))))
  refine wpQuiet_nil ?_
  rintro _ ⟨gr, rfl⟩
  go_wp2
  rw [rounds_succ]
  go_wp2
  first | refine region_grow_tail2 14 (by kernel_rfl) (by kernel_rfl) ?_ | refine region_grow_tail 14 (by kernel_rfl) (by kernel_rfl) ?_
  simp only [List.take_succ_cons, List.take_zero, List.drop_succ_cons, List.drop_zero]
  repeat (go_big_quiet_step ((first | (go_at_call 94; exact grow_same (mix_comp1 _ _ _ _ _ _ (by omega) (by omega) (by omega) (by omega) (by omega))) | (go_at_call 93; exact grow_same (tone_cut _ _ (by omega) (by omega))))))
  refine wpQuiet_nil ?_
  rintro _ ⟨gr, rfl⟩
  go_wp2
  rw [rounds_succ]
  go_wp2
  first | refine region_grow_tail2 14 (by kernel_rfl) (by kernel_rfl) ?_ | refine region_grow_tail 14 (by kernel_rfl) (by kernel_rfl) ?_
  simp only [List.take_succ_cons, List.take_zero, List.drop_succ_cons, List.drop_zero]
  repeat (go_big_quiet_step ((first | (go_at_call 94; exact grow_same (mix_comp1 _ _ _ _ _ _ (by omega) (by omega) (by omega) (by omega) (by omega))) | (go_at_call 93; exact grow_same (tone_cut _ _ (by omega) (by omega))))))
  refine wpQuiet_nil ?_
  rintro _ ⟨gr, rfl⟩
  go_wp2
  rw [rounds_succ]
  go_wp2
  first | refine region_grow_tail2 14 (by kernel_rfl) (by kernel_rfl) ?_ | refine region_grow_tail 14 (by kernel_rfl) (by kernel_rfl) ?_
  simp only [List.take_succ_cons, List.take_zero, List.drop_succ_cons, List.drop_zero]
  repeat (go_big_quiet_step ((first | (go_at_call 94; exact grow_same (mix_comp1 _ _ _ _ _ _ (by omega) (by omega) (by omega) (by omega) (by omega))) | (go_at_call 93; exact grow_same (tone_cut _ _ (by omega) (by omega))))))
  refine wpQuiet_nil ?_
  rintro _ ⟨gr, rfl⟩
  go_wp2
  rw [rounds_succ]
  go_wp2
  refine bodyPost_ret (results_cell_row rfl _ _ _ 40 #[.int .u8 (cutT (compV op pr qr pa qa)), .int .u8 (cutT (compV op pg qg pa qa)), .int .u8 (cutT (compV op pb qb pa qa)), .int .u8 (cutT (compV op pa qa pa qa))] (0, 0) _ rfl ?_ Tryd.underlying40 rfl px_info) rfl ⟨rfl, (by repeat (first | exact Grows.refl _ | apply Grows.grow | apply Grows.alloc | apply Grows.drew))⟩
  exact (by repeat (first | exact blk_at _ _ _ (by first | omega | (simp; done) | (simp; omega)) | refine (blk_past _ _ _ (by first | omega | (simp; done) | (simp; omega))).trans ?_ | refine (heap_grow _ _ _ (by first | omega | (simp; done) | (simp; omega))).trans ?_ | refine (blk_drew _ _).trans ?_))


end Go.Proofs.YtklcmlbkhjcaiaaDoor

/- The walks of layer 6 (mixing): pixels by a mode; with an opacity; and the law's question. -/

namespace Go.Proofs.YtklcmlbkhjcaiaaDoor
open Go.RowKit
set_option linter.unusedVariables false

@[simp, go_sem] theorem build_px3 (w : World) (k : IntKind) (n : Int) : (bSem 40 #[(3, .int k n)]).run Tryd.prog w = .ok (.agg #[.int .u8 0, .int .u8 0, .int .u8 0, .int k n]) w := by kernel_rfl
set_option maxRecDepth 100000 in
set_option maxHeartbeats 3200000 in
theorem mix_blend (m pr pg pb pa qr qg qb qa : Int) (w : World) (hm : 0 ≤ m ∧ m ≤ 6) (hpr : 0 ≤ pr ∧ pr ≤ 255) (hpg : 0 ≤ pg ∧ pg ≤ 255) (hpb : 0 ≤ pb ∧ pb ≤ 255) (hpa : 0 ≤ pa ∧ pa ≤ 255) (hqr : 0 ≤ qr ∧ qr ≤ 255) (hqg : 0 ≤ qg ∧ qg ≤ 255) (hqb : 0 ≤ qb ∧ qb ≤ 255) (hqa : 0 ≤ qa ∧ qa ≤ 255) :
    Calls Tryd.prog 96 #[.int .i64 m, .agg #[.int .u8 pr, .int .u8 pg, .int .u8 pb, .int .u8 pa], .agg #[.int .u8 qr, .int .u8 qg, .int .u8 qb, .int .u8 qa]] w fun e w' => e = .returned (.agg #[.int .u8 (blendP m ⟨pr, pg, pb, pa⟩ ⟨qr, qg, qb, qa⟩).r, .int .u8 (blendP m ⟨pr, pg, pb, pa⟩ ⟨qr, qg, qb, qa⟩).g, .int .u8 (blendP m ⟨pr, pg, pb, pa⟩ ⟨qr, qg, qb, qa⟩).b, .int .u8 (blendP m ⟨pr, pg, pb, pa⟩ ⟨qr, qg, qb, qa⟩).a]) ∧ Grows w w' := by
  by_cases h0 : m = 0
  · subst h0
    have er : blendP 0 ⟨pr, pg, pb, pa⟩ ⟨qr, qg, qb, qa⟩ = compP 0 ⟨pr, pg, pb, pa⟩ ⟨qr, qg, qb, qa⟩ := by simp [blendP]
    rw [er]
    clear er
    go_enter Tryd.func96, Tryd.ntmps96
    go_wp2_with ((first | (go_at_call 69; refine (mix_comp _ _ _ _ _ _ _ _ _ _ (by omega) (by omega) (by omega) (by omega) (by omega) (by omega) (by omega) (by omega) (by omega)).mono ?_; rintro e w' ⟨rfl, hgw⟩; first | (obtain ⟨gw, rfl⟩ := grows_of_grow hgw) | (obtain ⟨gw, rfl⟩ := hgw))))
    refine bodyPost_ret (results_cell_row rfl _ _ _ 40 #[.int .u8 ((compP 0 ⟨pr, pg, pb, pa⟩ ⟨qr, qg, qb, qa⟩).r), .int .u8 ((compP 0 ⟨pr, pg, pb, pa⟩ ⟨qr, qg, qb, qa⟩).g), .int .u8 ((compP 0 ⟨pr, pg, pb, pa⟩ ⟨qr, qg, qb, qa⟩).b), .int .u8 ((compP 0 ⟨pr, pg, pb, pa⟩ ⟨qr, qg, qb, qa⟩).a)] (0, 0) _ rfl ?_ Tryd.underlying40 rfl px_info) rfl ⟨rfl, (by repeat (first | exact Grows.refl _ | apply Grows.grow | apply Grows.alloc | apply Grows.drew))⟩
    exact (by repeat (first | exact blk_at _ _ _ (by first | omega | (simp; done) | (simp; omega)) | refine (blk_past _ _ _ (by first | omega | (simp; done) | (simp; omega))).trans ?_ | refine (heap_grow _ _ _ (by first | omega | (simp; done) | (simp; omega))).trans ?_ | refine (blk_drew _ _).trans ?_))
  · have hb0 : (m == 0) = false := by simp; omega
    have vr := colV_bd m pr qr pa qa hpr hqr hpa hqa
    have kr := cutT_bd (colV m pr qr pa qa)
    have vg := colV_bd m pg qg pa qa hpg hqg hpa hqa
    have kg := cutT_bd (colV m pg qg pa qa)
    have vb := colV_bd m pb qb pa qa hpb hqb hpa hqa
    have kb := cutT_bd (colV m pb qb pa qa)
    have mm := mulT_bd pa qa hpa.1 hpa.2 hqa.1 hqa.2
    have hmn : ∀ a b : Int, (@ite Int (b < a) (Int.decLt b a) b a) = min a b := fun a b => by show (if b < a then b else a) = min a b; split <;> omega
    by_cases h6 : m = 6
    · have h6b : (m != 6) = false := by simp [h6]
      have er : blendP m ⟨pr, pg, pb, pa⟩ ⟨qr, qg, qb, qa⟩ = ⟨min (cutT (colV m pr qr pa qa)) (cutT (pa + qa)), min (cutT (colV m pg qg pa qa)) (cutT (pa + qa)), min (cutT (colV m pb qb pa qa)) (cutT (pa + qa)), cutT (pa + qa)⟩ := by simp [blendP, alphaV, h6]
      rw [er]
      clear er
      have ka := cutT_bd (pa + qa)
      have hm1 : 1 ≤ m ∧ m ≤ 6 := by omega
      clear h0 h6
      go_enter Tryd.func96, Tryd.ntmps96
      go_wp2_with ((first | (go_at_call 103; refine (mix_mul _ _ _ (by omega) (by omega)).mono ?_; rintro e w' ⟨rfl, rfl⟩) | (go_at_call 93; refine (tone_cut _ _ (by omega) (by omega)).mono ?_; rintro e w' ⟨rfl, rfl⟩)))
      refine wp_loop_rounds 4 ?_
      rw [rounds_succ]
      go_wp2
      first | refine region_grow2 (by kernel_rfl) (by kernel_rfl) ?_ | refine region_grow (by kernel_rfl) (by kernel_rfl) ?_
      repeat (go_big_quiet_step ((first | (go_at_call 107; exact grow_same (mix_colour _ _ _ _ _ _ (by omega) (by omega) (by omega) (by omega) (by omega))))))
      refine wpQuiet_nil ?_
      rintro _ ⟨gr, rfl⟩
      go_wp2
      first | refine region_grow_tail2 6 (by kernel_rfl) (by kernel_rfl) ?_ | refine region_grow_tail 6 (by kernel_rfl) (by kernel_rfl) ?_
      simp only [List.take_succ_cons, List.take_zero, List.drop_succ_cons, List.drop_zero]
      repeat (go_big_quiet_step ((first | (go_at_call 93; exact grow_same (tone_cut _ _ (by omega) (by omega))))))
      refine wpQuiet_nil ?_
      rintro _ ⟨gr, rfl⟩
      go_wp2
      rw [rounds_succ]
      go_wp2
      first | refine region_grow2 (by kernel_rfl) (by kernel_rfl) ?_ | refine region_grow (by kernel_rfl) (by kernel_rfl) ?_
      repeat (go_big_quiet_step ((first | (go_at_call 107; exact grow_same (mix_colour _ _ _ _ _ _ (by omega) (by omega) (by omega) (by omega) (by omega))))))
      refine wpQuiet_nil ?_
      rintro _ ⟨gr, rfl⟩
      go_wp2
      first | refine region_grow_tail2 6 (by kernel_rfl) (by kernel_rfl) ?_ | refine region_grow_tail 6 (by kernel_rfl) (by kernel_rfl) ?_
      simp only [List.take_succ_cons, List.take_zero, List.drop_succ_cons, List.drop_zero]
      repeat (go_big_quiet_step ((first | (go_at_call 93; exact grow_same (tone_cut _ _ (by omega) (by omega))))))
      refine wpQuiet_nil ?_
      rintro _ ⟨gr, rfl⟩
      go_wp2
      rw [rounds_succ]
      go_wp2
      first | refine region_grow2 (by kernel_rfl) (by kernel_rfl) ?_ | refine region_grow (by kernel_rfl) (by kernel_rfl) ?_
      repeat (go_big_quiet_step ((first | (go_at_call 107; exact grow_same (mix_colour _ _ _ _ _ _ (by omega) (by omega) (by omega) (by omega) (by omega))))))
      refine wpQuiet_nil ?_
      rintro _ ⟨gr, rfl⟩
      go_wp2
      first | refine region_grow_tail2 6 (by kernel_rfl) (by kernel_rfl) ?_ | refine region_grow_tail 6 (by kernel_rfl) (by kernel_rfl) ?_
      simp only [List.take_succ_cons, List.take_zero, List.drop_succ_cons, List.drop_zero]
      repeat (go_big_quiet_step ((first | (go_at_call 93; exact grow_same (tone_cut _ _ (by omega) (by omega))))))
      refine wpQuiet_nil ?_
      rintro _ ⟨gr, rfl⟩
      go_wp2
      rw [rounds_succ]
      go_wp2
      refine bodyPost_ret (results_cell_row rfl _ _ _ 40 #[.int .u8 (min (cutT (colV m pr qr pa qa)) (cutT (pa + qa))), .int .u8 (min (cutT (colV m pg qg pa qa)) (cutT (pa + qa))), .int .u8 (min (cutT (colV m pb qb pa qa)) (cutT (pa + qa))), .int .u8 (cutT (pa + qa))] (0, 0) _ rfl ?_ Tryd.underlying40 rfl px_info) rfl ⟨rfl, (by repeat (first | exact Grows.refl _ | apply Grows.grow | apply Grows.alloc | apply Grows.drew))⟩
      exact (by repeat (first | exact blk_at _ _ _ (by first | omega | (simp; done) | (simp; omega)) | refine (blk_past _ _ _ (by first | omega | (simp; done) | (simp; omega))).trans ?_ | refine (heap_grow _ _ _ (by first | omega | (simp; done) | (simp; omega))).trans ?_ | refine (blk_drew _ _).trans ?_))
    · have h6b : (m != 6) = true := by simp [h6]
      have er : blendP m ⟨pr, pg, pb, pa⟩ ⟨qr, qg, qb, qa⟩ = ⟨min (cutT (colV m pr qr pa qa)) (cutT (pa + qa - mulT pa qa)), min (cutT (colV m pg qg pa qa)) (cutT (pa + qa - mulT pa qa)), min (cutT (colV m pb qb pa qa)) (cutT (pa + qa - mulT pa qa)), cutT (pa + qa - mulT pa qa)⟩ := by simp [blendP, alphaV, h0, h6]
      rw [er]
      clear er
      have ka := cutT_bd (pa + qa - mulT pa qa)
      have hm1 : 1 ≤ m ∧ m ≤ 6 := by omega
      clear h0 h6
      go_enter Tryd.func96, Tryd.ntmps96
      go_wp2_with ((first | (go_at_call 103; refine (mix_mul _ _ _ (by omega) (by omega)).mono ?_; rintro e w' ⟨rfl, rfl⟩) | (go_at_call 93; refine (tone_cut _ _ (by omega) (by omega)).mono ?_; rintro e w' ⟨rfl, rfl⟩)))
      refine wp_loop_rounds 4 ?_
      rw [rounds_succ]
      go_wp2
      first | refine region_grow2 (by kernel_rfl) (by kernel_rfl) ?_ | refine region_grow (by kernel_rfl) (by kernel_rfl) ?_
      repeat (go_big_quiet_step ((first | (go_at_call 107; exact grow_same (mix_colour _ _ _ _ _ _ (by omega) (by omega) (by omega) (by omega) (by omega))))))
      refine wpQuiet_nil ?_
      rintro _ ⟨gr, rfl⟩
      go_wp2
      first | refine region_grow_tail2 6 (by kernel_rfl) (by kernel_rfl) ?_ | refine region_grow_tail 6 (by kernel_rfl) (by kernel_rfl) ?_
      simp only [List.take_succ_cons, List.take_zero, List.drop_succ_cons, List.drop_zero]
      repeat (go_big_quiet_step ((first | (go_at_call 93; exact grow_same (tone_cut _ _ (by omega) (by omega))))))
      refine wpQuiet_nil ?_
      rintro _ ⟨gr, rfl⟩
      go_wp2
      rw [rounds_succ]
      go_wp2
      first | refine region_grow2 (by kernel_rfl) (by kernel_rfl) ?_ | refine region_grow (by kernel_rfl) (by kernel_rfl) ?_
      repeat (go_big_quiet_step ((first | (go_at_call 107; exact grow_same (mix_colour _ _ _ _ _ _ (by omega) (by omega) (by omega) (by omega) (by omega))))))
      refine wpQuiet_nil ?_
      rintro _ ⟨gr, rfl⟩
      go_wp2
      first | refine region_grow_tail2 6 (by kernel_rfl) (by kernel_rfl) ?_ | refine region_grow_tail 6 (by kernel_rfl) (by kernel_rfl) ?_
      simp only [List.take_succ_cons, List.take_zero, List.drop_succ_cons, List.drop_zero]
      repeat (go_big_quiet_step ((first | (go_at_call 93; exact grow_same (tone_cut _ _ (by omega) (by omega))))))
      refine wpQuiet_nil ?_
      rintro _ ⟨gr, rfl⟩
      go_wp2
      rw [rounds_succ]
      go_wp2
      first | refine region_grow2 (by kernel_rfl) (by kernel_rfl) ?_ | refine region_grow (by kernel_rfl) (by kernel_rfl) ?_
      repeat (go_big_quiet_step ((first | (go_at_call 107; exact grow_same (mix_colour _ _ _ _ _ _ (by omega) (by omega) (by omega) (by omega) (by omega))))))
      refine wpQuiet_nil ?_
      rintro _ ⟨gr, rfl⟩
      go_wp2
      first | refine region_grow_tail2 6 (by kernel_rfl) (by kernel_rfl) ?_ | refine region_grow_tail 6 (by kernel_rfl) (by kernel_rfl) ?_
      simp only [List.take_succ_cons, List.take_zero, List.drop_succ_cons, List.drop_zero]
      repeat (go_big_quiet_step ((first | (go_at_call 93; exact grow_same (tone_cut _ _ (by omega) (by omega))))))
      refine wpQuiet_nil ?_
      rintro _ ⟨gr, rfl⟩
      go_wp2
      rw [rounds_succ]
      go_wp2
      refine bodyPost_ret (results_cell_row rfl _ _ _ 40 #[.int .u8 (min (cutT (colV m pr qr pa qa)) (cutT (pa + qa - mulT pa qa))), .int .u8 (min (cutT (colV m pg qg pa qa)) (cutT (pa + qa - mulT pa qa))), .int .u8 (min (cutT (colV m pb qb pa qa)) (cutT (pa + qa - mulT pa qa))), .int .u8 (cutT (pa + qa - mulT pa qa))] (0, 0) _ rfl ?_ Tryd.underlying40 rfl px_info) rfl ⟨rfl, (by repeat (first | exact Grows.refl _ | apply Grows.grow | apply Grows.alloc | apply Grows.drew))⟩
      exact (by repeat (first | exact blk_at _ _ _ (by first | omega | (simp; done) | (simp; omega)) | refine (blk_past _ _ _ (by first | omega | (simp; done) | (simp; omega))).trans ?_ | refine (heap_grow _ _ _ (by first | omega | (simp; done) | (simp; omega))).trans ?_ | refine (blk_drew _ _).trans ?_))

