/- The walks of chapter 3's laws: each returns true and lets the world only grow. -/
import Derived.Test.YtghcpjahieaepaaRectM
namespace Go.Proofs.Ytghcpjahieaepaa
open Go.RowKit
set_option linter.unusedVariables false

set_option maxHeartbeats 1600000 in
theorem awake03 (w : World) : Calls Try.prog 31 #[] w fun e w' => e = .returned (.bool true) ∧ Grows w w' := by
  have e1 : meetR ⟨0, 0, 4, 4⟩ ⟨2, 2, 9, 9⟩ = ⟨2, 2, 4, 4⟩ := rfl
  have e2 : joinR ⟨0, 0, 1, 1⟩ ⟨5, 5, 6, 6⟩ = ⟨0, 0, 6, 6⟩ := rfl
  have e3 : growR ⟨0, 0, 1, 1⟩ 1 2 3 4 = ⟨-1, -2, 4, 5⟩ := rfl
  have e4 : areaR ⟨1, 1, 3, 4⟩ = 6 := by decide
  have e5 : hasR ⟨0, 0, 2, 2⟩ 1 1 = true := by decide
  have e6 : hasR ⟨0, 0, 2, 2⟩ 2 1 = false := by decide
  go_enter Try.func31, Try.ntmps31
  go_wp2_with ((first | (go_at_call 47; refine (law03_of _ _ _ _ _ ).mono ?_; rintro e w' ⟨rfl, hgw⟩; first | (obtain ⟨gw, rfl⟩ := grows_of_grow hgw) | (obtain ⟨gw, rfl⟩ := hgw)) | (go_at_call 33; refine (rect_meet _ _ _ _ _ _ _ _ _ ).mono ?_; rintro e w' ⟨rfl, hgw⟩; first | (obtain ⟨gw, rfl⟩ := grows_of_grow hgw) | (obtain ⟨gw, rfl⟩ := hgw)) | (go_at_call 34; refine (rect_join _ _ _ _ _ _ _ _ _ ).mono ?_; rintro e w' ⟨rfl, hgw⟩; first | (obtain ⟨gw, rfl⟩ := grows_of_grow hgw) | (obtain ⟨gw, rfl⟩ := hgw)) | (go_at_call 45; refine (rect_grow _ _ _ _ _ _ _ _ _ (by omega) (by omega) (by omega) (by omega) (by omega) (by omega) (by omega) (by omega)).mono ?_; rintro e w' ⟨rfl, hgw⟩; first | (obtain ⟨gw, rfl⟩ := grows_of_grow hgw) | (obtain ⟨gw, rfl⟩ := hgw)) | (go_at_call 32; refine (rect_area _ _ _ _ _ (by omega) (by omega) (by omega) (by omega)).mono ?_; rintro e w' ⟨rfl, hgw⟩; first | (obtain ⟨gw, rfl⟩ := grows_of_grow hgw) | (obtain ⟨gw, rfl⟩ := hgw)) | (go_at_call 43; refine (rect_has _ _ _ _ _ _ _ ).mono ?_; rintro e w' ⟨rfl, hgw⟩; first | (obtain ⟨gw, rfl⟩ := grows_of_grow hgw) | (obtain ⟨gw, rfl⟩ := hgw))))
  go_ret
  exact ⟨rfl, (by repeat (first | exact Grows.refl _ | apply Grows.grow | apply Grows.alloc | apply Grows.drew))⟩

set_option maxHeartbeats 4000000 in
theorem rectAreas_walk (a0 a1 a2 a3 b0 b1 b2 b3 : Int) (w : World) (h0 : -9223372036854775808 ≤ a0 ∧ a0 ≤ 9223372036854775807) (h1 : -9223372036854775808 ≤ a1 ∧ a1 ≤ 9223372036854775807) (h2 : -9223372036854775808 ≤ a2 ∧ a2 ≤ 9223372036854775807) (h3 : -9223372036854775808 ≤ a3 ∧ a3 ≤ 9223372036854775807)
    (k0 : -9223372036854775808 ≤ b0 ∧ b0 ≤ 9223372036854775807) (k1 : -9223372036854775808 ≤ b1 ∧ b1 ≤ 9223372036854775807) (k2 : -9223372036854775808 ≤ b2 ∧ b2 ≤ 9223372036854775807) (k3 : -9223372036854775808 ≤ b3 ∧ b3 ≤ 9223372036854775807) :
    Calls Try.prog 8 #[.agg #[.int .i64 a0, .int .i64 a1, .int .i64 a2, .int .i64 a3], .agg #[.int .i64 b0, .int .i64 b1, .int .i64 b2, .int .i64 b3]] w fun e w' => e = .returned (.bool true) ∧ Grows w w' := by
  cases ha : rightR (⟨a0, a1, a2, a3⟩ : R)
  · go_enter Try.func8, Try.ntmps8
    go_wp2_with ((first | (go_at_call 30; refine (ref03_right _ _ _ _ _ ).mono ?_; rintro e w' ⟨rfl, hgw⟩; first | (obtain ⟨gw, rfl⟩ := grows_of_grow hgw) | (obtain ⟨gw, rfl⟩ := hgw)) | (go_at_call 31; refine (awake03 _ ).mono ?_; rintro e w' ⟨rfl, hgw⟩; first | (obtain ⟨gw, rfl⟩ := grows_of_grow hgw) | (obtain ⟨gw, rfl⟩ := hgw))))
    go_ret
    exact ⟨rfl, (by repeat (first | exact Grows.refl _ | apply Grows.grow | apply Grows.alloc | apply Grows.drew))⟩
  cases hb : rightR (⟨b0, b1, b2, b3⟩ : R)
  · go_enter Try.func8, Try.ntmps8
    go_wp2_with ((first | (go_at_call 30; refine (ref03_right _ _ _ _ _ ).mono ?_; rintro e w' ⟨rfl, hgw⟩; first | (obtain ⟨gw, rfl⟩ := grows_of_grow hgw) | (obtain ⟨gw, rfl⟩ := hgw)) | (go_at_call 31; refine (awake03 _ ).mono ?_; rintro e w' ⟨rfl, hgw⟩; first | (obtain ⟨gw, rfl⟩ := grows_of_grow hgw) | (obtain ⟨gw, rfl⟩ := hgw))))
    go_ret
    exact ⟨rfl, (by repeat (first | exact Grows.refl _ | apply Grows.grow | apply Grows.alloc | apply Grows.drew))⟩
  have ra := (rightR_iff _).1 ha
  have rb := (rightR_iff _).1 hb
  simp only at ra rb
  clear h0 h1 h2 h3 k0 k1 k2 k3
  have mf := meetR_fits ⟨a0, a1, a2, a3⟩ ⟨b0, b1, b2, b3⟩ ha hb
  have jf := joinR_fits ⟨a0, a1, a2, a3⟩ ⟨b0, b1, b2, b3⟩ ha hb
  have aa := areaR_bd ⟨a0, a1, a2, a3⟩
  have ab := areaR_bd ⟨b0, b1, b2, b3⟩
  have am : 0 ≤ areaR ⟨(meetR ⟨a0, a1, a2, a3⟩ ⟨b0, b1, b2, b3⟩).x0, (meetR ⟨a0, a1, a2, a3⟩ ⟨b0, b1, b2, b3⟩).y0, (meetR ⟨a0, a1, a2, a3⟩ ⟨b0, b1, b2, b3⟩).x1, (meetR ⟨a0, a1, a2, a3⟩ ⟨b0, b1, b2, b3⟩).y1⟩ ∧ areaR ⟨(meetR ⟨a0, a1, a2, a3⟩ ⟨b0, b1, b2, b3⟩).x0, (meetR ⟨a0, a1, a2, a3⟩ ⟨b0, b1, b2, b3⟩).y0, (meetR ⟨a0, a1, a2, a3⟩ ⟨b0, b1, b2, b3⟩).x1, (meetR ⟨a0, a1, a2, a3⟩ ⟨b0, b1, b2, b3⟩).y1⟩ ≤ 2305843009213693952 := areaR_bd (meetR ⟨a0, a1, a2, a3⟩ ⟨b0, b1, b2, b3⟩)
  have hm : areaR ⟨(meetR ⟨a0, a1, a2, a3⟩ ⟨b0, b1, b2, b3⟩).x0, (meetR ⟨a0, a1, a2, a3⟩ ⟨b0, b1, b2, b3⟩).y0, (meetR ⟨a0, a1, a2, a3⟩ ⟨b0, b1, b2, b3⟩).x1, (meetR ⟨a0, a1, a2, a3⟩ ⟨b0, b1, b2, b3⟩).y1⟩ ≤ areaR ⟨a0, a1, a2, a3⟩ ∧ areaR ⟨(meetR ⟨a0, a1, a2, a3⟩ ⟨b0, b1, b2, b3⟩).x0, (meetR ⟨a0, a1, a2, a3⟩ ⟨b0, b1, b2, b3⟩).y0, (meetR ⟨a0, a1, a2, a3⟩ ⟨b0, b1, b2, b3⟩).x1, (meetR ⟨a0, a1, a2, a3⟩ ⟨b0, b1, b2, b3⟩).y1⟩ ≤ areaR ⟨b0, b1, b2, b3⟩ := area_meet_le ⟨a0, a1, a2, a3⟩ ⟨b0, b1, b2, b3⟩
  by_cases hj : areaR ⟨(joinR ⟨a0, a1, a2, a3⟩ ⟨b0, b1, b2, b3⟩).x0, (joinR ⟨a0, a1, a2, a3⟩ ⟨b0, b1, b2, b3⟩).y0, (joinR ⟨a0, a1, a2, a3⟩ ⟨b0, b1, b2, b3⟩).x1, (joinR ⟨a0, a1, a2, a3⟩ ⟨b0, b1, b2, b3⟩).y1⟩ < 2305843009213693952
  · have hl : areaR ⟨a0, a1, a2, a3⟩ + areaR ⟨b0, b1, b2, b3⟩ - areaR ⟨(meetR ⟨a0, a1, a2, a3⟩ ⟨b0, b1, b2, b3⟩).x0, (meetR ⟨a0, a1, a2, a3⟩ ⟨b0, b1, b2, b3⟩).y0, (meetR ⟨a0, a1, a2, a3⟩ ⟨b0, b1, b2, b3⟩).x1, (meetR ⟨a0, a1, a2, a3⟩ ⟨b0, b1, b2, b3⟩).y1⟩ ≤ areaR ⟨(joinR ⟨a0, a1, a2, a3⟩ ⟨b0, b1, b2, b3⟩).x0, (joinR ⟨a0, a1, a2, a3⟩ ⟨b0, b1, b2, b3⟩).y0, (joinR ⟨a0, a1, a2, a3⟩ ⟨b0, b1, b2, b3⟩).x1, (joinR ⟨a0, a1, a2, a3⟩ ⟨b0, b1, b2, b3⟩).y1⟩ := area_join _ _ hj
    have hz := areaR_zero ⟨a0, a1, a2, a3⟩
    go_enter Try.func8, Try.ntmps8
    go_wp2_with ((first | (go_at_call 30; refine (ref03_right _ _ _ _ _ ).mono ?_; rintro e w' ⟨rfl, hgw⟩; first | (obtain ⟨gw, rfl⟩ := grows_of_grow hgw) | (obtain ⟨gw, rfl⟩ := hgw)) | (go_at_call 33; refine (rect_meet _ _ _ _ _ _ _ _ _ ).mono ?_; rintro e w' ⟨rfl, hgw⟩; first | (obtain ⟨gw, rfl⟩ := grows_of_grow hgw) | (obtain ⟨gw, rfl⟩ := hgw)) | (go_at_call 34; refine (rect_join _ _ _ _ _ _ _ _ _ ).mono ?_; rintro e w' ⟨rfl, hgw⟩; first | (obtain ⟨gw, rfl⟩ := grows_of_grow hgw) | (obtain ⟨gw, rfl⟩ := hgw)) | (go_at_call 32; refine (rect_area _ _ _ _ _ (by omega) (by omega) (by omega) (by omega)).mono ?_; rintro e w' ⟨rfl, hgw⟩; first | (obtain ⟨gw, rfl⟩ := grows_of_grow hgw) | (obtain ⟨gw, rfl⟩ := hgw))))
    first | refine region_grow2 (by kernel_rfl) (by kernel_rfl) ?_ | refine region_grow (by kernel_rfl) (by kernel_rfl) ?_
    repeat (go_big_quiet_step ((first | (go_at_call 32; exact grow_of (rect_area _ _ _ _ _ (by omega) (by omega) (by omega) (by omega))) | (go_at_call 34; exact grow_of (rect_join _ _ _ _ _ _ _ _ _ )) | (go_at_call 35; exact grow_of (rect_empty _ _ _ _ _ )) | (go_at_call 31; exact grow_of (awake03 _ )))))
    refine wpQuiet_nil ?_
    rintro _ ⟨gr, rfl⟩
    go_wp2
    go_ret
    exact ⟨rfl, (by repeat (first | exact Grows.refl _ | apply Grows.grow | apply Grows.alloc | apply Grows.drew))⟩
  · go_enter Try.func8, Try.ntmps8
    go_wp2_with ((first | (go_at_call 30; refine (ref03_right _ _ _ _ _ ).mono ?_; rintro e w' ⟨rfl, hgw⟩; first | (obtain ⟨gw, rfl⟩ := grows_of_grow hgw) | (obtain ⟨gw, rfl⟩ := hgw)) | (go_at_call 33; refine (rect_meet _ _ _ _ _ _ _ _ _ ).mono ?_; rintro e w' ⟨rfl, hgw⟩; first | (obtain ⟨gw, rfl⟩ := grows_of_grow hgw) | (obtain ⟨gw, rfl⟩ := hgw)) | (go_at_call 34; refine (rect_join _ _ _ _ _ _ _ _ _ ).mono ?_; rintro e w' ⟨rfl, hgw⟩; first | (obtain ⟨gw, rfl⟩ := grows_of_grow hgw) | (obtain ⟨gw, rfl⟩ := hgw)) | (go_at_call 32; refine (rect_area _ _ _ _ _ (by omega) (by omega) (by omega) (by omega)).mono ?_; rintro e w' ⟨rfl, hgw⟩; first | (obtain ⟨gw, rfl⟩ := grows_of_grow hgw) | (obtain ⟨gw, rfl⟩ := hgw)) | (go_at_call 31; refine (awake03 _ ).mono ?_; rintro e w' ⟨rfl, hgw⟩; first | (obtain ⟨gw, rfl⟩ := grows_of_grow hgw) | (obtain ⟨gw, rfl⟩ := hgw))))
    go_ret
    exact ⟨rfl, (by repeat (first | exact Grows.refl _ | apply Grows.grow | apply Grows.alloc | apply Grows.drew))⟩
end Go.Proofs.Ytghcpjahieaepaa
