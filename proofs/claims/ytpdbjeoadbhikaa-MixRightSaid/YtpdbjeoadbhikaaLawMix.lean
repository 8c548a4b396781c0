/- The walks of chapter 6's laws: each returns true and lets the world only grow. -/
import Derived.Test.YtpdbjeoadbhikaaMixO
import Derived.Test.YtpdbjeoadbhikaaPxI
namespace Go.Proofs.Ytpdbjeoadbhikaa
open Go.RowKit
set_option linter.unusedVariables false

theorem p4_right (r g b a : Int) (h : rightT r g b a = true) : (⟨r, g, b, a⟩ : P4).Right := (rightT_iff r g b a).1 h
theorem right_p4 (p : P4) (h : p.Right) : rightT p.r p.g p.b p.a = true := (rightT_iff _ _ _ _).2 h
set_option maxHeartbeats 6400000 in
theorem mixComposites_walk (op pr pg pb pa qr qg qb qa : Int) (w : World) (hop : 0 ≤ op ∧ op ≤ 255) (hpr : 0 ≤ pr ∧ pr ≤ 255) (hpg : 0 ≤ pg ∧ pg ≤ 255) (hpb : 0 ≤ pb ∧ pb ≤ 255) (hpa : 0 ≤ pa ∧ pa ≤ 255) (hqr : 0 ≤ qr ∧ qr ≤ 255) (hqg : 0 ≤ qg ∧ qg ≤ 255) (hqb : 0 ≤ qb ∧ qb ≤ 255) (hqa : 0 ≤ qa ∧ qa ≤ 255) :
    Calls Try.prog 3 #[.int .u8 op, .agg #[.int .u8 pr, .int .u8 pg, .int .u8 pb, .int .u8 pa], .agg #[.int .u8 qr, .int .u8 qg, .int .u8 qb, .int .u8 qa]] w fun e w' => e = .returned (.bool true) ∧ Grows w w' := by
  cases hp : rightT pr pg pb pa
  · go_enter Try.func3, Try.ntmps3
    go_wp2_with ((first | (go_at_call 9; refine (law06_right _ _ _ _ _ _ _ _ _ (by omega) (by omega) (by omega) (by omega) (by omega) (by omega) (by omega) (by omega)).mono ?_; rintro e w' ⟨rfl, hgw⟩; first | (obtain ⟨gw, rfl⟩ := grows_of_grow hgw) | (obtain ⟨gw, rfl⟩ := hgw)) | (go_at_call 10; refine (awake06 _ ).mono ?_; rintro e w' ⟨rfl, hgw⟩; first | (obtain ⟨gw, rfl⟩ := grows_of_grow hgw) | (obtain ⟨gw, rfl⟩ := hgw))))
    go_ret
    exact ⟨rfl, (by repeat (first | exact Grows.refl _ | apply Grows.grow | apply Grows.alloc | apply Grows.drew))⟩
  cases hq : rightT qr qg qb qa
  · go_enter Try.func3, Try.ntmps3
    go_wp2_with ((first | (go_at_call 9; refine (law06_right _ _ _ _ _ _ _ _ _ (by omega) (by omega) (by omega) (by omega) (by omega) (by omega) (by omega) (by omega)).mono ?_; rintro e w' ⟨rfl, hgw⟩; first | (obtain ⟨gw, rfl⟩ := grows_of_grow hgw) | (obtain ⟨gw, rfl⟩ := hgw)) | (go_at_call 10; refine (awake06 _ ).mono ?_; rintro e w' ⟨rfl, hgw⟩; first | (obtain ⟨gw, rfl⟩ := grows_of_grow hgw) | (obtain ⟨gw, rfl⟩ := hgw))))
    go_ret
    exact ⟨rfl, (by repeat (first | exact Grows.refl _ | apply Grows.grow | apply Grows.alloc | apply Grows.drew))⟩
  go_enter Try.func3, Try.ntmps3
  go_wp2_with ((first | (go_at_call 9; refine (law06_right _ _ _ _ _ _ _ _ _ (by omega) (by omega) (by omega) (by omega) (by omega) (by omega) (by omega) (by omega)).mono ?_; rintro e w' ⟨rfl, hgw⟩; first | (obtain ⟨gw, rfl⟩ := grows_of_grow hgw) | (obtain ⟨gw, rfl⟩ := hgw))))
  first | refine region_grow2 (by kernel_rfl) (by kernel_rfl) ?_ | refine region_grow (by kernel_rfl) (by kernel_rfl) ?_
  repeat (go_big_quiet_step ((first | (go_at_call 11; exact grow_of (mix_comp _ _ _ _ _ _ _ _ _ _ (by omega) (by omega) (by omega) (by omega) (by omega) (by omega) (by omega) (by omega) (by omega))) | (go_at_call 12; exact grow_of (ref06_comp _ _ _ _ _ _ _ _ _ _ (by omega) (by omega) (by omega) (by omega) (by omega) (by omega) (by omega) (by omega) (by omega))) | (go_at_call 10; exact grow_of (awake06 _ )))))
  refine wpQuiet_nil ?_
  rintro _ ⟨gr, rfl⟩
  go_wp2
  go_ret
  exact ⟨rfl, (by repeat (first | exact Grows.refl _ | apply Grows.grow | apply Grows.alloc | apply Grows.drew))⟩

set_option maxHeartbeats 6400000 in
theorem mixBlends_walk (m k pr pg pb pa qr qg qb qa : Int) (w : World) (hm : 0 ≤ m ∧ m ≤ 255) (hk : 0 ≤ k ∧ k ≤ 255) (hpr : 0 ≤ pr ∧ pr ≤ 255) (hpg : 0 ≤ pg ∧ pg ≤ 255) (hpb : 0 ≤ pb ∧ pb ≤ 255) (hpa : 0 ≤ pa ∧ pa ≤ 255) (hqr : 0 ≤ qr ∧ qr ≤ 255) (hqg : 0 ≤ qg ∧ qg ≤ 255) (hqb : 0 ≤ qb ∧ qb ≤ 255) (hqa : 0 ≤ qa ∧ qa ≤ 255) :
    Calls Try.prog 4 #[.int .u8 m, .int .u8 k, .agg #[.int .u8 pr, .int .u8 pg, .int .u8 pb, .int .u8 pa], .agg #[.int .u8 qr, .int .u8 qg, .int .u8 qb, .int .u8 qa]] w fun e w' => e = .returned (.bool true) ∧ Grows w w' := by
  cases hp : rightT pr pg pb pa
  · go_enter Try.func4, Try.ntmps4
    go_wp2_with ((first | (go_at_call 9; refine (law06_right _ _ _ _ _ _ _ _ _ (by omega) (by omega) (by omega) (by omega) (by omega) (by omega) (by omega) (by omega)).mono ?_; rintro e w' ⟨rfl, hgw⟩; first | (obtain ⟨gw, rfl⟩ := grows_of_grow hgw) | (obtain ⟨gw, rfl⟩ := hgw)) | (go_at_call 10; refine (awake06 _ ).mono ?_; rintro e w' ⟨rfl, hgw⟩; first | (obtain ⟨gw, rfl⟩ := grows_of_grow hgw) | (obtain ⟨gw, rfl⟩ := hgw))))
    go_ret
    exact ⟨rfl, (by repeat (first | exact Grows.refl _ | apply Grows.grow | apply Grows.alloc | apply Grows.drew))⟩
  cases hq : rightT qr qg qb qa
  · go_enter Try.func4, Try.ntmps4
    go_wp2_with ((first | (go_at_call 9; refine (law06_right _ _ _ _ _ _ _ _ _ (by omega) (by omega) (by omega) (by omega) (by omega) (by omega) (by omega) (by omega)).mono ?_; rintro e w' ⟨rfl, hgw⟩; first | (obtain ⟨gw, rfl⟩ := grows_of_grow hgw) | (obtain ⟨gw, rfl⟩ := hgw)) | (go_at_call 10; refine (awake06 _ ).mono ?_; rintro e w' ⟨rfl, hgw⟩; first | (obtain ⟨gw, rfl⟩ := grows_of_grow hgw) | (obtain ⟨gw, rfl⟩ := hgw))))
    go_ret
    exact ⟨rfl, (by repeat (first | exact Grows.refl _ | apply Grows.grow | apply Grows.alloc | apply Grows.drew))⟩
  go_enter Try.func4, Try.ntmps4
  go_wp2_with ((first | (go_at_call 9; refine (law06_right _ _ _ _ _ _ _ _ _ (by omega) (by omega) (by omega) (by omega) (by omega) (by omega) (by omega) (by omega)).mono ?_; rintro e w' ⟨rfl, hgw⟩; first | (obtain ⟨gw, rfl⟩ := grows_of_grow hgw) | (obtain ⟨gw, rfl⟩ := hgw))))
  first | refine region_grow2 (by kernel_rfl) (by kernel_rfl) ?_ | refine region_grow (by kernel_rfl) (by kernel_rfl) ?_
  repeat (go_big_quiet_step ((first | (go_at_call 13; exact grow_of (mix_blend _ _ _ _ _ _ _ _ _ _ (by omega) (by omega) (by omega) (by omega) (by omega) (by omega) (by omega) (by omega) (by omega))) | (go_at_call 14; exact grow_of (ref06_blend _ _ _ _ _ _ _ _ _ _ (by omega) (by omega) (by omega) (by omega) (by omega) (by omega) (by omega) (by omega) (by omega))) | (go_at_call 15; exact grow_of (mix_onto _ _ _ _ _ _ _ _ _ _ _ (by omega) (by omega) (by omega) (by omega) (by omega) (by omega) (by omega) (by omega) (by omega) (by omega))) | (go_at_call 16; exact grow_of (ref06_onto _ _ _ _ _ _ _ _ _ _ _ (by omega) (by omega) (by omega) (by omega) (by omega) (by omega) (by omega) (by omega) (by omega) (by omega))) | (go_at_call 10; exact grow_of (awake06 _ )))))
  refine wpQuiet_nil ?_
  rintro _ ⟨gr, rfl⟩
  go_wp2
  go_ret
  exact ⟨rfl, (by repeat (first | exact Grows.refl _ | apply Grows.grow | apply Grows.alloc | apply Grows.drew))⟩

set_option maxHeartbeats 6400000 in
theorem mixRight_walk (k o pr pg pb pa qr qg qb qa : Int) (w : World) (hk : 0 ≤ k ∧ k ≤ 255) (ho : 0 ≤ o ∧ o ≤ 255) (hpr : 0 ≤ pr ∧ pr ≤ 255) (hpg : 0 ≤ pg ∧ pg ≤ 255) (hpb : 0 ≤ pb ∧ pb ≤ 255) (hpa : 0 ≤ pa ∧ pa ≤ 255) (hqr : 0 ≤ qr ∧ qr ≤ 255) (hqg : 0 ≤ qg ∧ qg ≤ 255) (hqb : 0 ≤ qb ∧ qb ≤ 255) (hqa : 0 ≤ qa ∧ qa ≤ 255) :
    Calls Try.prog 8 #[.int .u8 k, .int .u8 o, .agg #[.int .u8 pr, .int .u8 pg, .int .u8 pb, .int .u8 pa], .agg #[.int .u8 qr, .int .u8 qg, .int .u8 qb, .int .u8 qa]] w fun e w' => e = .returned (.bool true) ∧ Grows w w' := by
  cases hp : rightT pr pg pb pa
  · go_enter Try.func8, Try.ntmps8
    go_wp2_with ((first | (go_at_call 9; refine (law06_right _ _ _ _ _ _ _ _ _ (by omega) (by omega) (by omega) (by omega) (by omega) (by omega) (by omega) (by omega)).mono ?_; rintro e w' ⟨rfl, hgw⟩; first | (obtain ⟨gw, rfl⟩ := grows_of_grow hgw) | (obtain ⟨gw, rfl⟩ := hgw)) | (go_at_call 10; refine (awake06 _ ).mono ?_; rintro e w' ⟨rfl, hgw⟩; first | (obtain ⟨gw, rfl⟩ := grows_of_grow hgw) | (obtain ⟨gw, rfl⟩ := hgw))))
    go_ret
    exact ⟨rfl, (by repeat (first | exact Grows.refl _ | apply Grows.grow | apply Grows.alloc | apply Grows.drew))⟩
  cases hq : rightT qr qg qb qa
  · go_enter Try.func8, Try.ntmps8
    go_wp2_with ((first | (go_at_call 9; refine (law06_right _ _ _ _ _ _ _ _ _ (by omega) (by omega) (by omega) (by omega) (by omega) (by omega) (by omega) (by omega)).mono ?_; rintro e w' ⟨rfl, hgw⟩; first | (obtain ⟨gw, rfl⟩ := grows_of_grow hgw) | (obtain ⟨gw, rfl⟩ := hgw)) | (go_at_call 10; refine (awake06 _ ).mono ?_; rintro e w' ⟨rfl, hgw⟩; first | (obtain ⟨gw, rfl⟩ := grows_of_grow hgw) | (obtain ⟨gw, rfl⟩ := hgw))))
    go_ret
    exact ⟨rfl, (by repeat (first | exact Grows.refl _ | apply Grows.grow | apply Grows.alloc | apply Grows.drew))⟩
  have c1 : (0 ≤ (compP (k % 6) ⟨pr, pg, pb, pa⟩ ⟨qr, qg, qb, qa⟩).r ∧ (compP (k % 6) ⟨pr, pg, pb, pa⟩ ⟨qr, qg, qb, qa⟩).r ≤ 255) ∧ (0 ≤ (compP (k % 6) ⟨pr, pg, pb, pa⟩ ⟨qr, qg, qb, qa⟩).g ∧ (compP (k % 6) ⟨pr, pg, pb, pa⟩ ⟨qr, qg, qb, qa⟩).g ≤ 255) ∧ (0 ≤ (compP (k % 6) ⟨pr, pg, pb, pa⟩ ⟨qr, qg, qb, qa⟩).b ∧ (compP (k % 6) ⟨pr, pg, pb, pa⟩ ⟨qr, qg, qb, qa⟩).b ≤ 255) ∧ (0 ≤ (compP (k % 6) ⟨pr, pg, pb, pa⟩ ⟨qr, qg, qb, qa⟩).a ∧ (compP (k % 6) ⟨pr, pg, pb, pa⟩ ⟨qr, qg, qb, qa⟩).a ≤ 255) := compP_bytes _ _ _
  have c2 : (0 ≤ (blendP (k % 7) ⟨pr, pg, pb, pa⟩ ⟨qr, qg, qb, qa⟩).r ∧ (blendP (k % 7) ⟨pr, pg, pb, pa⟩ ⟨qr, qg, qb, qa⟩).r ≤ 255) ∧ (0 ≤ (blendP (k % 7) ⟨pr, pg, pb, pa⟩ ⟨qr, qg, qb, qa⟩).g ∧ (blendP (k % 7) ⟨pr, pg, pb, pa⟩ ⟨qr, qg, qb, qa⟩).g ≤ 255) ∧ (0 ≤ (blendP (k % 7) ⟨pr, pg, pb, pa⟩ ⟨qr, qg, qb, qa⟩).b ∧ (blendP (k % 7) ⟨pr, pg, pb, pa⟩ ⟨qr, qg, qb, qa⟩).b ≤ 255) ∧ (0 ≤ (blendP (k % 7) ⟨pr, pg, pb, pa⟩ ⟨qr, qg, qb, qa⟩).a ∧ (blendP (k % 7) ⟨pr, pg, pb, pa⟩ ⟨qr, qg, qb, qa⟩).a ≤ 255) := blendP_bytes _ _ _
  have c3 : (0 ≤ (ontoP (k % 7) o ⟨pr, pg, pb, pa⟩ ⟨qr, qg, qb, qa⟩).r ∧ (ontoP (k % 7) o ⟨pr, pg, pb, pa⟩ ⟨qr, qg, qb, qa⟩).r ≤ 255) ∧ (0 ≤ (ontoP (k % 7) o ⟨pr, pg, pb, pa⟩ ⟨qr, qg, qb, qa⟩).g ∧ (ontoP (k % 7) o ⟨pr, pg, pb, pa⟩ ⟨qr, qg, qb, qa⟩).g ≤ 255) ∧ (0 ≤ (ontoP (k % 7) o ⟨pr, pg, pb, pa⟩ ⟨qr, qg, qb, qa⟩).b ∧ (ontoP (k % 7) o ⟨pr, pg, pb, pa⟩ ⟨qr, qg, qb, qa⟩).b ≤ 255) ∧ (0 ≤ (ontoP (k % 7) o ⟨pr, pg, pb, pa⟩ ⟨qr, qg, qb, qa⟩).a ∧ (ontoP (k % 7) o ⟨pr, pg, pb, pa⟩ ⟨qr, qg, qb, qa⟩).a ≤ 255) := blendP_bytes _ _ _
  have r1 : rightT (compP (k % 6) ⟨pr, pg, pb, pa⟩ ⟨qr, qg, qb, qa⟩).r (compP (k % 6) ⟨pr, pg, pb, pa⟩ ⟨qr, qg, qb, qa⟩).g (compP (k % 6) ⟨pr, pg, pb, pa⟩ ⟨qr, qg, qb, qa⟩).b (compP (k % 6) ⟨pr, pg, pb, pa⟩ ⟨qr, qg, qb, qa⟩).a = true := right_p4 _ (compP_right _ _ _ ⟨hpr, hpg, hpb, hpa⟩ ⟨hqr, hqg, hqb, hqa⟩ (p4_right _ _ _ _ hp) (p4_right _ _ _ _ hq))
  have r2 : rightT (blendP (k % 7) ⟨pr, pg, pb, pa⟩ ⟨qr, qg, qb, qa⟩).r (blendP (k % 7) ⟨pr, pg, pb, pa⟩ ⟨qr, qg, qb, qa⟩).g (blendP (k % 7) ⟨pr, pg, pb, pa⟩ ⟨qr, qg, qb, qa⟩).b (blendP (k % 7) ⟨pr, pg, pb, pa⟩ ⟨qr, qg, qb, qa⟩).a = true := right_p4 _ (blendP_right _ _ _ ⟨hpr, hpg, hpb, hpa⟩ ⟨hqr, hqg, hqb, hqa⟩ (p4_right _ _ _ _ hp) (p4_right _ _ _ _ hq))
  have r3 : rightT (ontoP (k % 7) o ⟨pr, pg, pb, pa⟩ ⟨qr, qg, qb, qa⟩).r (ontoP (k % 7) o ⟨pr, pg, pb, pa⟩ ⟨qr, qg, qb, qa⟩).g (ontoP (k % 7) o ⟨pr, pg, pb, pa⟩ ⟨qr, qg, qb, qa⟩).b (ontoP (k % 7) o ⟨pr, pg, pb, pa⟩ ⟨qr, qg, qb, qa⟩).a = true := right_p4 _ (blendP_right _ _ _ (scaleP_bytes ⟨pr, pg, pb, pa⟩ o ⟨hpr, hpg, hpb, hpa⟩ ho) ⟨hqr, hqg, hqb, hqa⟩ (scaleP_right ⟨pr, pg, pb, pa⟩ o ho.1 (p4_right _ _ _ _ hp)) (p4_right _ _ _ _ hq))
  go_enter Try.func8, Try.ntmps8
  go_wp2_with ((first | (go_at_call 9; refine (law06_right _ _ _ _ _ _ _ _ _ (by omega) (by omega) (by omega) (by omega) (by omega) (by omega) (by omega) (by omega)).mono ?_; rintro e w' ⟨rfl, hgw⟩; first | (obtain ⟨gw, rfl⟩ := grows_of_grow hgw) | (obtain ⟨gw, rfl⟩ := hgw)) | (go_at_call 11; refine (mix_comp _ _ _ _ _ _ _ _ _ _ (by omega) (by omega) (by omega) (by omega) (by omega) (by omega) (by omega) (by omega) (by omega)).mono ?_; rintro e w' ⟨rfl, hgw⟩; first | (obtain ⟨gw, rfl⟩ := grows_of_grow hgw) | (obtain ⟨gw, rfl⟩ := hgw)) | (go_at_call 13; refine (mix_blend _ _ _ _ _ _ _ _ _ _ (by omega) (by omega) (by omega) (by omega) (by omega) (by omega) (by omega) (by omega) (by omega)).mono ?_; rintro e w' ⟨rfl, hgw⟩; first | (obtain ⟨gw, rfl⟩ := grows_of_grow hgw) | (obtain ⟨gw, rfl⟩ := hgw)) | (go_at_call 15; refine (mix_onto _ _ _ _ _ _ _ _ _ _ _ (by omega) (by omega) (by omega) (by omega) (by omega) (by omega) (by omega) (by omega) (by omega) (by omega)).mono ?_; rintro e w' ⟨rfl, hgw⟩; first | (obtain ⟨gw, rfl⟩ := grows_of_grow hgw) | (obtain ⟨gw, rfl⟩ := hgw)) | (go_at_call 18; refine (tone_right_yes _ _ _ _ _ (by omega) (by omega) (by omega) (by omega) (by assumption)).mono ?_; rintro e w' ⟨rfl, hgw⟩; first | (obtain ⟨gw, rfl⟩ := grows_of_grow hgw) | (obtain ⟨gw, rfl⟩ := hgw)) | (go_at_call 10; refine (awake06 _ ).mono ?_; rintro e w' ⟨rfl, hgw⟩; first | (obtain ⟨gw, rfl⟩ := grows_of_grow hgw) | (obtain ⟨gw, rfl⟩ := hgw))))
  go_ret
  exact ⟨rfl, (by repeat (first | exact Grows.refl _ | apply Grows.grow | apply Grows.alloc | apply Grows.drew))⟩

set_option maxHeartbeats 6400000 in
theorem mixTurned_walk (m pr pg pb pa qr qg qb qa : Int) (w : World) (hm : 0 ≤ m ∧ m ≤ 255) (hpr : 0 ≤ pr ∧ pr ≤ 255) (hpg : 0 ≤ pg ∧ pg ≤ 255) (hpb : 0 ≤ pb ∧ pb ≤ 255) (hpa : 0 ≤ pa ∧ pa ≤ 255) (hqr : 0 ≤ qr ∧ qr ≤ 255) (hqg : 0 ≤ qg ∧ qg ≤ 255) (hqb : 0 ≤ qb ∧ qb ≤ 255) (hqa : 0 ≤ qa ∧ qa ≤ 255) :
    Calls Try.prog 6 #[.int .u8 m, .agg #[.int .u8 pr, .int .u8 pg, .int .u8 pb, .int .u8 pa], .agg #[.int .u8 qr, .int .u8 qg, .int .u8 qb, .int .u8 qa]] w fun e w' => e = .returned (.bool true) ∧ Grows w w' := by
  cases hp : rightT pr pg pb pa
  · go_enter Try.func6, Try.ntmps6
    go_wp2_with ((first | (go_at_call 9; refine (law06_right _ _ _ _ _ _ _ _ _ (by omega) (by omega) (by omega) (by omega) (by omega) (by omega) (by omega) (by omega)).mono ?_; rintro e w' ⟨rfl, hgw⟩; first | (obtain ⟨gw, rfl⟩ := grows_of_grow hgw) | (obtain ⟨gw, rfl⟩ := hgw)) | (go_at_call 10; refine (awake06 _ ).mono ?_; rintro e w' ⟨rfl, hgw⟩; first | (obtain ⟨gw, rfl⟩ := grows_of_grow hgw) | (obtain ⟨gw, rfl⟩ := hgw))))
    go_ret
    exact ⟨rfl, (by repeat (first | exact Grows.refl _ | apply Grows.grow | apply Grows.alloc | apply Grows.drew))⟩
  cases hq : rightT qr qg qb qa
  · go_enter Try.func6, Try.ntmps6
    go_wp2_with ((first | (go_at_call 9; refine (law06_right _ _ _ _ _ _ _ _ _ (by omega) (by omega) (by omega) (by omega) (by omega) (by omega) (by omega) (by omega)).mono ?_; rintro e w' ⟨rfl, hgw⟩; first | (obtain ⟨gw, rfl⟩ := grows_of_grow hgw) | (obtain ⟨gw, rfl⟩ := hgw)) | (go_at_call 10; refine (awake06 _ ).mono ?_; rintro e w' ⟨rfl, hgw⟩; first | (obtain ⟨gw, rfl⟩ := grows_of_grow hgw) | (obtain ⟨gw, rfl⟩ := hgw))))
    go_ret
    exact ⟨rfl, (by repeat (first | exact Grows.refl _ | apply Grows.grow | apply Grows.alloc | apply Grows.drew))⟩
  have t1 : blendP (1 + m % 6) ⟨pr, pg, pb, pa⟩ ⟨qr, qg, qb, qa⟩ = blendP (1 + m % 6) ⟨qr, qg, qb, qa⟩ ⟨pr, pg, pb, pa⟩ := blend_turned _ _ _ (by omega)
  have t2 : compP 4 ⟨pr, pg, pb, pa⟩ ⟨qr, qg, qb, qa⟩ = compP 4 ⟨qr, qg, qb, qa⟩ ⟨pr, pg, pb, pa⟩ := xor_turned _ _
  have T1 := Lib.hid t1
  have T2 := Lib.hid t2
  clear t1 t2
  go_enter Try.func6, Try.ntmps6
  go_wp2_with ((first | (go_at_call 9; refine (law06_right _ _ _ _ _ _ _ _ _ (by omega) (by omega) (by omega) (by omega) (by omega) (by omega) (by omega) (by omega)).mono ?_; rintro e w' ⟨rfl, hgw⟩; first | (obtain ⟨gw, rfl⟩ := grows_of_grow hgw) | (obtain ⟨gw, rfl⟩ := hgw))))
  have t1 := T1.out
  have t2 := T2.out
  first | refine region_grow2 (by kernel_rfl) (by kernel_rfl) ?_ | refine region_grow (by kernel_rfl) (by kernel_rfl) ?_
  repeat (go_big_quiet_step ((first | (go_at_call 13; exact grow_of (mix_blend _ _ _ _ _ _ _ _ _ _ (by omega) (by omega) (by omega) (by omega) (by omega) (by omega) (by omega) (by omega) (by omega))) | (go_at_call 11; exact grow_of (mix_comp _ _ _ _ _ _ _ _ _ _ (by omega) (by omega) (by omega) (by omega) (by omega) (by omega) (by omega) (by omega) (by omega))) | (go_at_call 10; exact grow_of (awake06 _ )))))
  refine wpQuiet_nil ?_
  rintro _ ⟨gr, rfl⟩
  go_wp2
  go_ret
  exact ⟨rfl, (by repeat (first | exact Grows.refl _ | apply Grows.grow | apply Grows.alloc | apply Grows.drew))⟩

set_option maxHeartbeats 6400000 in
theorem mixFull_walk (m pr pg pb pa qr qg qb qa : Int) (w : World) (hm : 0 ≤ m ∧ m ≤ 255) (hpr : 0 ≤ pr ∧ pr ≤ 255) (hpg : 0 ≤ pg ∧ pg ≤ 255) (hpb : 0 ≤ pb ∧ pb ≤ 255) (hpa : 0 ≤ pa ∧ pa ≤ 255) (hqr : 0 ≤ qr ∧ qr ≤ 255) (hqg : 0 ≤ qg ∧ qg ≤ 255) (hqb : 0 ≤ qb ∧ qb ≤ 255) (hqa : 0 ≤ qa ∧ qa ≤ 255) :
    Calls Try.prog 7 #[.int .u8 m, .agg #[.int .u8 pr, .int .u8 pg, .int .u8 pb, .int .u8 pa], .agg #[.int .u8 qr, .int .u8 qg, .int .u8 qb, .int .u8 qa]] w fun e w' => e = .returned (.bool true) ∧ Grows w w' := by
  cases hp : rightT pr pg pb pa
  · go_enter Try.func7, Try.ntmps7
    go_wp2_with ((first | (go_at_call 9; refine (law06_right _ _ _ _ _ _ _ _ _ (by omega) (by omega) (by omega) (by omega) (by omega) (by omega) (by omega) (by omega)).mono ?_; rintro e w' ⟨rfl, hgw⟩; first | (obtain ⟨gw, rfl⟩ := grows_of_grow hgw) | (obtain ⟨gw, rfl⟩ := hgw)) | (go_at_call 10; refine (awake06 _ ).mono ?_; rintro e w' ⟨rfl, hgw⟩; first | (obtain ⟨gw, rfl⟩ := grows_of_grow hgw) | (obtain ⟨gw, rfl⟩ := hgw))))
    go_ret
    exact ⟨rfl, (by repeat (first | exact Grows.refl _ | apply Grows.grow | apply Grows.alloc | apply Grows.drew))⟩
  cases hq : rightT qr qg qb qa
  · go_enter Try.func7, Try.ntmps7
    go_wp2_with ((first | (go_at_call 9; refine (law06_right _ _ _ _ _ _ _ _ _ (by omega) (by omega) (by omega) (by omega) (by omega) (by omega) (by omega) (by omega)).mono ?_; rintro e w' ⟨rfl, hgw⟩; first | (obtain ⟨gw, rfl⟩ := grows_of_grow hgw) | (obtain ⟨gw, rfl⟩ := hgw)) | (go_at_call 10; refine (awake06 _ ).mono ?_; rintro e w' ⟨rfl, hgw⟩; first | (obtain ⟨gw, rfl⟩ := grows_of_grow hgw) | (obtain ⟨gw, rfl⟩ := hgw))))
    go_ret
    exact ⟨rfl, (by repeat (first | exact Grows.refl _ | apply Grows.grow | apply Grows.alloc | apply Grows.drew))⟩
  have f1 : compP 0 ⟨pr, pg, pb, 255⟩ ⟨qr, qg, qb, qa⟩ = ⟨pr, pg, pb, 255⟩ := over_full _ _ ⟨hpr, hpg, hpb, by simp⟩ rfl
  have f0 : blendP 0 ⟨pr, pg, pb, 255⟩ ⟨qr, qg, qb, qa⟩ = ⟨pr, pg, pb, 255⟩ := by simp [blendP, f1]
  have f2 : (blendP (m % 7) ⟨qr, qg, qb, qa⟩ ⟨pr, pg, pb, 255⟩).a = 255 := blend_full_under _ _ _ ⟨hqr, hqg, hqb, hqa⟩ ⟨hpr, hpg, hpb, by simp⟩ rfl
  have f3 : (blendP (m % 7) ⟨pr, pg, pb, 255⟩ ⟨qr, qg, qb, qa⟩).a = 255 := blend_full_top _ _ _ ⟨hpr, hpg, hpb, by simp⟩ ⟨hqr, hqg, hqb, hqa⟩ rfl
  clear f1
  go_enter Try.func7, Try.ntmps7
  go_wp2_with ((first | (go_at_call 9; refine (law06_right _ _ _ _ _ _ _ _ _ (by omega) (by omega) (by omega) (by omega) (by omega) (by omega) (by omega) (by omega)).mono ?_; rintro e w' ⟨rfl, hgw⟩; first | (obtain ⟨gw, rfl⟩ := grows_of_grow hgw) | (obtain ⟨gw, rfl⟩ := hgw))))
  first | refine region_grow2 (by kernel_rfl) (by kernel_rfl) ?_ | refine region_grow (by kernel_rfl) (by kernel_rfl) ?_
  repeat (go_big_quiet_step ((first | (go_at_call 13; exact grow_of (mix_blend _ _ _ _ _ _ _ _ _ _ (by omega) (by omega) (by omega) (by omega) (by omega) (by omega) (by omega) (by omega) (by omega))) | (go_at_call 10; exact grow_of (awake06 _ )))))
  refine wpQuiet_nil ?_
  rintro _ ⟨gr, rfl⟩
  go_wp2
  go_ret
  exact ⟨rfl, (by repeat (first | exact Grows.refl _ | apply Grows.grow | apply Grows.alloc | apply Grows.drew))⟩

set_option maxHeartbeats 6400000 in
theorem mixNothing_walk (k pr pg pb pa : Int) (w : World) (hk : 0 ≤ k ∧ k ≤ 255) (hpr : 0 ≤ pr ∧ pr ≤ 255) (hpg : 0 ≤ pg ∧ pg ≤ 255) (hpb : 0 ≤ pb ∧ pb ≤ 255) (hpa : 0 ≤ pa ∧ pa ≤ 255) :
    Calls Try.prog 5 #[.int .u8 k, .agg #[.int .u8 pr, .int .u8 pg, .int .u8 pb, .int .u8 pa]] w fun e w' => e = .returned (.bool true) ∧ Grows w w' := by
  cases hp : rightT pr pg pb pa
  · go_enter Try.func5, Try.ntmps5
    go_wp2_with ((first | (go_at_call 17; refine (ref01_right _ _ _ _ _ (by omega) (by omega) (by omega) (by omega)).mono ?_; rintro e w' ⟨rfl, hgw⟩; first | (obtain ⟨gw, rfl⟩ := grows_of_grow hgw) | (obtain ⟨gw, rfl⟩ := hgw)) | (go_at_call 10; refine (awake06 _ ).mono ?_; rintro e w' ⟨rfl, hgw⟩; first | (obtain ⟨gw, rfl⟩ := grows_of_grow hgw) | (obtain ⟨gw, rfl⟩ := hgw))))
    go_ret
    exact ⟨rfl, (by repeat (first | exact Grows.refl _ | apply Grows.grow | apply Grows.alloc | apply Grows.drew))⟩
  have n1 : blendP (k % 7) ⟨0, 0, 0, 0⟩ ⟨pr, pg, pb, pa⟩ = ⟨pr, pg, pb, pa⟩ := blend_none_top _ _ ⟨hpr, hpg, hpb, hpa⟩ (p4_right _ _ _ _ hp)
  have n2 : blendP (k % 7) ⟨pr, pg, pb, pa⟩ ⟨0, 0, 0, 0⟩ = ⟨pr, pg, pb, pa⟩ := blend_none_under _ _ ⟨hpr, hpg, hpb, hpa⟩ (p4_right _ _ _ _ hp)
  have n3 : compP 5 ⟨pr, pg, pb, pa⟩ ⟨pr, pg, pb, pa⟩ = ⟨0, 0, 0, 0⟩ := compP_clear _ _
  have hc : k % 6 = 0 ∨ k % 6 = 1 ∨ k % 6 = 2 ∨ k % 6 = 3 ∨ k % 6 = 4 ∨ k % 6 = 5 := by omega
  rcases hc with hc | hc | hc | hc | hc | hc
  · have n4 : compP 0 ⟨0, 0, 0, 0⟩ ⟨pr, pg, pb, pa⟩ = ⟨pr, pg, pb, pa⟩ := compP_none_top _ _ (by omega) ⟨hpr, hpg, hpb, hpa⟩
    have n5 : compP 0 ⟨pr, pg, pb, pa⟩ ⟨0, 0, 0, 0⟩ = ⟨pr, pg, pb, pa⟩ := compP_none_under _ _ (by omega) ⟨hpr, hpg, hpb, hpa⟩
    go_enter Try.func5, Try.ntmps5
    go_wp2_with ((first | (go_at_call 17; refine (ref01_right _ _ _ _ _ (by omega) (by omega) (by omega) (by omega)).mono ?_; rintro e w' ⟨rfl, hgw⟩; first | (obtain ⟨gw, rfl⟩ := grows_of_grow hgw) | (obtain ⟨gw, rfl⟩ := hgw))))
    first | refine region_grow2 (by kernel_rfl) (by kernel_rfl) ?_ | refine region_grow (by kernel_rfl) (by kernel_rfl) ?_
    repeat (go_big_quiet_step ((first | (go_at_call 13; exact grow_of (mix_blend _ _ _ _ _ _ _ _ _ _ (by omega) (by omega) (by omega) (by omega) (by omega) (by omega) (by omega) (by omega) (by omega))) | (go_at_call 11; exact grow_of (mix_comp _ _ _ _ _ _ _ _ _ _ (by omega) (by omega) (by omega) (by omega) (by omega) (by omega) (by omega) (by omega) (by omega))))))
    refine wpQuiet_nil ?_
    rintro _ ⟨gr, rfl⟩
    go_wp2
    first | refine region_grow2 (by kernel_rfl) (by kernel_rfl) ?_ | refine region_grow (by kernel_rfl) (by kernel_rfl) ?_
    repeat (go_big_quiet_step ((first | (go_at_call 11; exact grow_of (mix_comp _ _ _ _ _ _ _ _ _ _ (by omega) (by omega) (by omega) (by omega) (by omega) (by omega) (by omega) (by omega) (by omega))) | (go_at_call 10; exact grow_of (awake06 _ )))))
    refine wpQuiet_nil ?_
    rintro _ ⟨gr, rfl⟩
    go_wp2
    go_ret
    exact ⟨rfl, (by repeat (first | exact Grows.refl _ | apply Grows.grow | apply Grows.alloc | apply Grows.drew))⟩
  · have n4 : compP 1 ⟨0, 0, 0, 0⟩ ⟨pr, pg, pb, pa⟩ = ⟨0, 0, 0, 0⟩ := compP_none_gone _ _ (by omega)
    go_enter Try.func5, Try.ntmps5
    go_wp2_with ((first | (go_at_call 17; refine (ref01_right _ _ _ _ _ (by omega) (by omega) (by omega) (by omega)).mono ?_; rintro e w' ⟨rfl, hgw⟩; first | (obtain ⟨gw, rfl⟩ := grows_of_grow hgw) | (obtain ⟨gw, rfl⟩ := hgw))))
    first | refine region_grow2 (by kernel_rfl) (by kernel_rfl) ?_ | refine region_grow (by kernel_rfl) (by kernel_rfl) ?_
    repeat (go_big_quiet_step ((first | (go_at_call 13; exact grow_of (mix_blend _ _ _ _ _ _ _ _ _ _ (by omega) (by omega) (by omega) (by omega) (by omega) (by omega) (by omega) (by omega) (by omega))) | (go_at_call 11; exact grow_of (mix_comp _ _ _ _ _ _ _ _ _ _ (by omega) (by omega) (by omega) (by omega) (by omega) (by omega) (by omega) (by omega) (by omega))))))
    refine wpQuiet_nil ?_
    rintro _ ⟨gr, rfl⟩
    go_wp2
    first | refine region_grow2 (by kernel_rfl) (by kernel_rfl) ?_ | refine region_grow (by kernel_rfl) (by kernel_rfl) ?_
    repeat (go_big_quiet_step ((first | (go_at_call 11; exact grow_of (mix_comp _ _ _ _ _ _ _ _ _ _ (by omega) (by omega) (by omega) (by omega) (by omega) (by omega) (by omega) (by omega) (by omega))) | (go_at_call 10; exact grow_of (awake06 _ )))))
    refine wpQuiet_nil ?_
    rintro _ ⟨gr, rfl⟩
    go_wp2
    go_ret
    exact ⟨rfl, (by repeat (first | exact Grows.refl _ | apply Grows.grow | apply Grows.alloc | apply Grows.drew))⟩
  · have n4 : compP 2 ⟨0, 0, 0, 0⟩ ⟨pr, pg, pb, pa⟩ = ⟨0, 0, 0, 0⟩ := compP_none_gone _ _ (by omega)
    go_enter Try.func5, Try.ntmps5
    go_wp2_with ((first | (go_at_call 17; refine (ref01_right _ _ _ _ _ (by omega) (by omega) (by omega) (by omega)).mono ?_; rintro e w' ⟨rfl, hgw⟩; first | (obtain ⟨gw, rfl⟩ := grows_of_grow hgw) | (obtain ⟨gw, rfl⟩ := hgw))))
    first | refine region_grow2 (by kernel_rfl) (by kernel_rfl) ?_ | refine region_grow (by kernel_rfl) (by kernel_rfl) ?_
    repeat (go_big_quiet_step ((first | (go_at_call 13; exact grow_of (mix_blend _ _ _ _ _ _ _ _ _ _ (by omega) (by omega) (by omega) (by omega) (by omega) (by omega) (by omega) (by omega) (by omega))) | (go_at_call 11; exact grow_of (mix_comp _ _ _ _ _ _ _ _ _ _ (by omega) (by omega) (by omega) (by omega) (by omega) (by omega) (by omega) (by omega) (by omega))))))
    refine wpQuiet_nil ?_
    rintro _ ⟨gr, rfl⟩
    go_wp2
    first | refine region_grow2 (by kernel_rfl) (by kernel_rfl) ?_ | refine region_grow (by kernel_rfl) (by kernel_rfl) ?_
    repeat (go_big_quiet_step ((first | (go_at_call 11; exact grow_of (mix_comp _ _ _ _ _ _ _ _ _ _ (by omega) (by omega) (by omega) (by omega) (by omega) (by omega) (by omega) (by omega) (by omega))) | (go_at_call 10; exact grow_of (awake06 _ )))))
    refine wpQuiet_nil ?_
    rintro _ ⟨gr, rfl⟩
    go_wp2
    go_ret
    exact ⟨rfl, (by repeat (first | exact Grows.refl _ | apply Grows.grow | apply Grows.alloc | apply Grows.drew))⟩
  · have n4 : compP 3 ⟨0, 0, 0, 0⟩ ⟨pr, pg, pb, pa⟩ = ⟨pr, pg, pb, pa⟩ := compP_none_top _ _ (by omega) ⟨hpr, hpg, hpb, hpa⟩
    go_enter Try.func5, Try.ntmps5
    go_wp2_with ((first | (go_at_call 17; refine (ref01_right _ _ _ _ _ (by omega) (by omega) (by omega) (by omega)).mono ?_; rintro e w' ⟨rfl, hgw⟩; first | (obtain ⟨gw, rfl⟩ := grows_of_grow hgw) | (obtain ⟨gw, rfl⟩ := hgw))))
    first | refine region_grow2 (by kernel_rfl) (by kernel_rfl) ?_ | refine region_grow (by kernel_rfl) (by kernel_rfl) ?_
    repeat (go_big_quiet_step ((first | (go_at_call 13; exact grow_of (mix_blend _ _ _ _ _ _ _ _ _ _ (by omega) (by omega) (by omega) (by omega) (by omega) (by omega) (by omega) (by omega) (by omega))) | (go_at_call 11; exact grow_of (mix_comp _ _ _ _ _ _ _ _ _ _ (by omega) (by omega) (by omega) (by omega) (by omega) (by omega) (by omega) (by omega) (by omega))))))
    refine wpQuiet_nil ?_
    rintro _ ⟨gr, rfl⟩
    go_wp2
    first | refine region_grow2 (by kernel_rfl) (by kernel_rfl) ?_ | refine region_grow (by kernel_rfl) (by kernel_rfl) ?_
    repeat (go_big_quiet_step ((first | (go_at_call 11; exact grow_of (mix_comp _ _ _ _ _ _ _ _ _ _ (by omega) (by omega) (by omega) (by omega) (by omega) (by omega) (by omega) (by omega) (by omega))) | (go_at_call 10; exact grow_of (awake06 _ )))))
    refine wpQuiet_nil ?_
    rintro _ ⟨gr, rfl⟩
    go_wp2
    go_ret
    exact ⟨rfl, (by repeat (first | exact Grows.refl _ | apply Grows.grow | apply Grows.alloc | apply Grows.drew))⟩
  · have n4 : compP 4 ⟨0, 0, 0, 0⟩ ⟨pr, pg, pb, pa⟩ = ⟨pr, pg, pb, pa⟩ := compP_none_top _ _ (by omega) ⟨hpr, hpg, hpb, hpa⟩
    have n5 : compP 4 ⟨pr, pg, pb, pa⟩ ⟨0, 0, 0, 0⟩ = ⟨pr, pg, pb, pa⟩ := compP_none_under _ _ (by omega) ⟨hpr, hpg, hpb, hpa⟩
    go_enter Try.func5, Try.ntmps5
    go_wp2_with ((first | (go_at_call 17; refine (ref01_right _ _ _ _ _ (by omega) (by omega) (by omega) (by omega)).mono ?_; rintro e w' ⟨rfl, hgw⟩; first | (obtain ⟨gw, rfl⟩ := grows_of_grow hgw) | (obtain ⟨gw, rfl⟩ := hgw))))
    first | refine region_grow2 (by kernel_rfl) (by kernel_rfl) ?_ | refine region_grow (by kernel_rfl) (by kernel_rfl) ?_
    repeat (go_big_quiet_step ((first | (go_at_call 13; exact grow_of (mix_blend _ _ _ _ _ _ _ _ _ _ (by omega) (by omega) (by omega) (by omega) (by omega) (by omega) (by omega) (by omega) (by omega))) | (go_at_call 11; exact grow_of (mix_comp _ _ _ _ _ _ _ _ _ _ (by omega) (by omega) (by omega) (by omega) (by omega) (by omega) (by omega) (by omega) (by omega))))))
    refine wpQuiet_nil ?_
    rintro _ ⟨gr, rfl⟩
    go_wp2
    first | refine region_grow2 (by kernel_rfl) (by kernel_rfl) ?_ | refine region_grow (by kernel_rfl) (by kernel_rfl) ?_
    repeat (go_big_quiet_step ((first | (go_at_call 11; exact grow_of (mix_comp _ _ _ _ _ _ _ _ _ _ (by omega) (by omega) (by omega) (by omega) (by omega) (by omega) (by omega) (by omega) (by omega))) | (go_at_call 10; exact grow_of (awake06 _ )))))
    refine wpQuiet_nil ?_
    rintro _ ⟨gr, rfl⟩
    go_wp2
    go_ret
    exact ⟨rfl, (by repeat (first | exact Grows.refl _ | apply Grows.grow | apply Grows.alloc | apply Grows.drew))⟩
  · have n4 : compP 5 ⟨0, 0, 0, 0⟩ ⟨pr, pg, pb, pa⟩ = ⟨0, 0, 0, 0⟩ := compP_none_gone _ _ (by omega)
    go_enter Try.func5, Try.ntmps5
    go_wp2_with ((first | (go_at_call 17; refine (ref01_right _ _ _ _ _ (by omega) (by omega) (by omega) (by omega)).mono ?_; rintro e w' ⟨rfl, hgw⟩; first | (obtain ⟨gw, rfl⟩ := grows_of_grow hgw) | (obtain ⟨gw, rfl⟩ := hgw))))
    first | refine region_grow2 (by kernel_rfl) (by kernel_rfl) ?_ | refine region_grow (by kernel_rfl) (by kernel_rfl) ?_
    repeat (go_big_quiet_step ((first | (go_at_call 13; exact grow_of (mix_blend _ _ _ _ _ _ _ _ _ _ (by omega) (by omega) (by omega) (by omega) (by omega) (by omega) (by omega) (by omega) (by omega))) | (go_at_call 11; exact grow_of (mix_comp _ _ _ _ _ _ _ _ _ _ (by omega) (by omega) (by omega) (by omega) (by omega) (by omega) (by omega) (by omega) (by omega))))))
    refine wpQuiet_nil ?_
    rintro _ ⟨gr, rfl⟩
    go_wp2
    first | refine region_grow2 (by kernel_rfl) (by kernel_rfl) ?_ | refine region_grow (by kernel_rfl) (by kernel_rfl) ?_
    repeat (go_big_quiet_step ((first | (go_at_call 11; exact grow_of (mix_comp _ _ _ _ _ _ _ _ _ _ (by omega) (by omega) (by omega) (by omega) (by omega) (by omega) (by omega) (by omega) (by omega))) | (go_at_call 10; exact grow_of (awake06 _ )))))
    refine wpQuiet_nil ?_
    rintro _ ⟨gr, rfl⟩
    go_wp2
    go_ret
    exact ⟨rfl, (by repeat (first | exact Grows.refl _ | apply Grows.grow | apply Grows.alloc | apply Grows.drew))⟩

end Go.Proofs.Ytpdbjeoadbhikaa
