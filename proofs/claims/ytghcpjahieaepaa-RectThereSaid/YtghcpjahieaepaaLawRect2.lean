/- The walk of chapter 3's law RectThere. -/
import Derived.Test.YtghcpjahieaepaaLawRect
namespace Go.Proofs.Ytghcpjahieaepaa
open Go.RowKit
set_option linter.unusedVariables false

set_option maxRecDepth 100000 in
set_option maxHeartbeats 16000000 in
theorem rectThere_walk (a0 a1 a2 a3 x y dx dy d : Int) (w : World) (q0 : -9223372036854775808 ≤ a0 ∧ a0 ≤ 9223372036854775807) (q1 : -9223372036854775808 ≤ a1 ∧ a1 ≤ 9223372036854775807) (q2 : -9223372036854775808 ≤ a2 ∧ a2 ≤ 9223372036854775807) (q3 : -9223372036854775808 ≤ a3 ∧ a3 ≤ 9223372036854775807) (q4 : -9223372036854775808 ≤ x ∧ x ≤ 9223372036854775807) (q5 : -9223372036854775808 ≤ y ∧ y ≤ 9223372036854775807) (q6 : -9223372036854775808 ≤ dx ∧ dx ≤ 9223372036854775807) (q7 : -9223372036854775808 ≤ dy ∧ dy ≤ 9223372036854775807) (q8 : -9223372036854775808 ≤ d ∧ d ≤ 9223372036854775807) :
    Calls Try.prog 14 #[.agg #[.int .i64 a0, .int .i64 a1, .int .i64 a2, .int .i64 a3], .int .i64 x, .int .i64 y, .int .i64 dx, .int .i64 dy, .int .i64 d] w fun e w' => e = .returned (.bool true) ∧ Grows w w' := by
  by_cases hs : (-1048576 < a0 ∧ -1048576 < a1 ∧ a2 < 1048576 ∧ a3 < 1048576) ∧ (-1048576 < dx ∧ dx < 1048576 ∧ -1048576 < dy ∧ dy < 1048576) ∧ (-1048576 < x ∧ x < 1048576 ∧ -1048576 < y ∧ y < 1048576) ∧ (a0 ≤ 1048576 ∧ a1 ≤ 1048576 ∧ -1048576 ≤ a2 ∧ -1048576 ≤ a3) ∧ 0 ≤ d ∧ d ≤ 1000
  · obtain ⟨⟨s0, s1, s2, s3⟩, ⟨s4, s5, s6, s7⟩, ⟨s8, s9, s10, s11⟩, ⟨s12, s13, s14, s15⟩, s16, s17⟩ := hs
    have f1 := has_move a0 a1 a2 a3 x y dx dy ⟨s0, s12⟩ ⟨s1, s13⟩ ⟨s14, s2⟩ ⟨s15, s3⟩ ⟨s4, s5⟩ ⟨s6, s7⟩
    have f2 := has_grow a0 a1 a2 a3 x y d ⟨s0, s12⟩ ⟨s1, s13⟩ ⟨s14, s2⟩ ⟨s15, s3⟩ ⟨s16, s17⟩
    clear q0 q1 q2 q3 q4 q5 q6 q7 q8
    go_enter Try.func14, Try.ntmps14
    go_wp2_with ((first | (go_at_call 35; refine (rect_empty _ _ _ _ _ ).mono ?_; rintro e w' ⟨rfl, hgw⟩; first | (obtain ⟨gw, rfl⟩ := grows_of_grow hgw) | (obtain ⟨gw, rfl⟩ := hgw))))
    first | refine region_grow2 (by kernel_rfl) (by kernel_rfl) ?_ | refine region_grow (by kernel_rfl) (by kernel_rfl) ?_
    repeat (go_big_quiet_step ((first | (go_at_call 44; exact grow_of (rect_move _ _ _ _ _ _ _ (by omega) (by omega) (by omega) (by omega) (by omega) (by omega))) | (go_at_call 43; exact grow_of (rect_has _ _ _ _ _ _ _ )))))
    refine wpQuiet_nil ?_
    rintro _ ⟨gr, rfl⟩
    go_wp2_with ((first | (go_at_call 35; refine (rect_empty _ _ _ _ _ ).mono ?_; rintro e w' ⟨rfl, hgw⟩; first | (obtain ⟨gw, rfl⟩ := grows_of_grow hgw) | (obtain ⟨gw, rfl⟩ := hgw)) | (go_at_call 45; refine (rect_grow _ _ _ _ _ _ _ _ _ (by omega) (by omega) (by omega) (by omega) (by omega) (by omega) (by omega) (by omega)).mono ?_; rintro e w' ⟨rfl, hgw⟩; first | (obtain ⟨gw, rfl⟩ := grows_of_grow hgw) | (obtain ⟨gw, rfl⟩ := hgw)) | (go_at_call 43; refine (rect_has _ _ _ _ _ _ _ ).mono ?_; rintro e w' ⟨rfl, hgw⟩; first | (obtain ⟨gw, rfl⟩ := grows_of_grow hgw) | (obtain ⟨gw, rfl⟩ := hgw)) | (go_at_call 31; refine (awake03 _ ).mono ?_; rintro e w' ⟨rfl, hgw⟩; first | (obtain ⟨gw, rfl⟩ := grows_of_grow hgw) | (obtain ⟨gw, rfl⟩ := hgw))))
    all_goals
      go_ret
      exact ⟨ret_b (by first | rfl | (simp; omega)), (by repeat (first | exact Grows.refl _ | apply Grows.grow | apply Grows.alloc | apply Grows.drew))⟩
  · clear q0 q1 q2 q3 q4 q5 q6 q7 q8
    go_enter Try.func14, Try.ntmps14
    go_wp2_with ((first | (go_at_call 31; refine (awake03 _ ).mono ?_; rintro e w' ⟨rfl, hgw⟩; first | (obtain ⟨gw, rfl⟩ := grows_of_grow hgw) | (obtain ⟨gw, rfl⟩ := hgw))))
    all_goals
      go_ret
      exact ⟨rfl, (by repeat (first | exact Grows.refl _ | apply Grows.grow | apply Grows.alloc | apply Grows.drew))⟩
end Go.Proofs.Ytghcpjahieaepaa
