/- The walks of layer 6 (mixing), the leaves: values by an operator, colours by a mode. -/
import Derived.Test.YtpdbjeoadbhikaaToneR
import Derived.Test.YtpdbjeoadbhikaaPx
import Derived.Test.YtpdbjeoadbhikaaMixL
namespace Go.Proofs.Ytpdbjeoadbhikaa
open Go.RowKit
set_option linter.unusedVariables false

theorem px_info : (Try.prog.info? 23).map (·.size) = some 4 := by kernel_rfl

set_option maxHeartbeats 800000 in
theorem mix_mul (a b : Int) (w : World) (ha : 0 ≤ a ∧ a ≤ 255) (hb : 0 ≤ b ∧ b ≤ 255) :
    Calls Try.prog 23 #[.int .u8 a, .int .u8 b] w fun e w' => e = .returned (.int .i64 (mulT a b)) ∧ w = w' := by
  have hm := mulT_bd a b ha.1 ha.2 hb.1 hb.2
  go_enter Try.func23, Try.ntmps23
  go_wp2_with ((first | (go_at_call 29; refine (tone_mul _ _ _ (by omega) (by omega) (by omega) (by omega)).mono ?_; rintro e w' ⟨rfl, rfl⟩)))
  go_ret
  exact ⟨rfl, rfl⟩

set_option maxHeartbeats 800000 in
theorem ref06_by (a b : Int) (w : World) (ha : 0 ≤ a ∧ a ≤ 255) (hb : 0 ≤ b ∧ b ≤ 255) :
    Calls Try.prog 21 #[.int .u8 a, .int .u8 b] w fun e w' => e = .returned (.int .i64 (mulT a b)) ∧ w = w' := by
  have hm := mulT_bd a b ha.1 ha.2 hb.1 hb.2
  go_enter Try.func21, Try.ntmps21
  go_wp2_with ((first | (go_at_call 28; refine (ref01_mul _ _ _ (by omega) (by omega) (by omega) (by omega)).mono ?_; rintro e w' ⟨rfl, rfl⟩)))
  go_ret
  exact ⟨rfl, rfl⟩

set_option maxHeartbeats 1600000 in
theorem mix_comp1 (op a b t u : Int) (w : World) (ho : 0 ≤ op ∧ op ≤ 5) (ha : 0 ≤ a ∧ a ≤ 255) (hb : 0 ≤ b ∧ b ≤ 255) (ht : 0 ≤ t ∧ t ≤ 255) (hu : 0 ≤ u ∧ u ≤ 255) :
    Calls Try.prog 20 #[.int .i64 op, .int .u8 a, .int .u8 b, .int .u8 t, .int .u8 u] w fun e w' => e = .returned (.int .i64 (compV op a b t u)) ∧ w = w' := by
  have m1 := mulT_bd b (255 - t) hb.1 hb.2 (sub_bd t ht).1 (sub_bd t ht).2
  have m2 := mulT_bd a u ha.1 ha.2 hu.1 hu.2
  have m3 := mulT_bd a (255 - u) ha.1 ha.2 (sub_bd u hu).1 (sub_bd u hu).2
  have m4 := mulT_bd b t hb.1 hb.2 ht.1 ht.2
  have m5 := mulT_bd a b ha.1 ha.2 hb.1 hb.2
  have hc : op = 0 ∨ op = 1 ∨ op = 2 ∨ op = 3 ∨ op = 4 ∨ op = 5 := by omega
  rcases hc with rfl | rfl | rfl | rfl | rfl | rfl
  all_goals
    go_enter Try.func20, Try.ntmps20
    go_wp2_with ((first | (go_at_call 23; refine (mix_mul _ _ _ (by omega) (by omega)).mono ?_; rintro e w' ⟨rfl, rfl⟩)))
    go_ret
    exact ⟨ret_int (by simp [compV]), rfl⟩

set_option maxHeartbeats 800000 in
theorem mix_beside (a b t u : Int) (w : World) (ha : 0 ≤ a ∧ a ≤ 255) (hb : 0 ≤ b ∧ b ≤ 255) (ht : 0 ≤ t ∧ t ≤ 255) (hu : 0 ≤ u ∧ u ≤ 255) :
    Calls Try.prog 30 #[.int .u8 a, .int .u8 b, .int .u8 t, .int .u8 u] w fun e w' => e = .returned (.int .i64 (besideV a b t u)) ∧ w = w' := by
  have m1 := mulT_bd b (255 - t) hb.1 hb.2 (sub_bd t ht).1 (sub_bd t ht).2
  have m2 := mulT_bd a u ha.1 ha.2 hu.1 hu.2
  have m3 := mulT_bd a (255 - u) ha.1 ha.2 (sub_bd u hu).1 (sub_bd u hu).2
  have m4 := mulT_bd b t hb.1 hb.2 ht.1 ht.2
  have m5 := mulT_bd a b ha.1 ha.2 hb.1 hb.2
  go_enter Try.func30, Try.ntmps30
  go_wp2_with ((first | (go_at_call 23; refine (mix_mul _ _ _ (by omega) (by omega)).mono ?_; rintro e w' ⟨rfl, rfl⟩)))
  go_ret
  exact ⟨rfl, rfl⟩

theorem besideV_bd (a b t u : Int) (ha : 0 ≤ a ∧ a ≤ 255) (hb : 0 ≤ b ∧ b ≤ 255) (ht : 0 ≤ t ∧ t ≤ 255) (hu : 0 ≤ u ∧ u ≤ 255) : 0 ≤ besideV a b t u ∧ besideV a b t u ≤ 510 := by
  have m1 := mulT_bd b (255 - t) hb.1 hb.2 (sub_bd t ht).1 (sub_bd t ht).2
  have m2 := mulT_bd a u ha.1 ha.2 hu.1 hu.2
  have m3 := mulT_bd a (255 - u) ha.1 ha.2 (sub_bd u hu).1 (sub_bd u hu).2
  have m4 := mulT_bd b t hb.1 hb.2 ht.1 ht.2
  have m5 := mulT_bd a b ha.1 ha.2 hb.1 hb.2
  unfold besideV
  omega

set_option maxHeartbeats 3200000 in
theorem mix_colour (m a b t u : Int) (w : World) (hm : 1 ≤ m ∧ m ≤ 6) (ha : 0 ≤ a ∧ a ≤ 255) (hb : 0 ≤ b ∧ b ≤ 255) (ht : 0 ≤ t ∧ t ≤ 255) (hu : 0 ≤ u ∧ u ≤ 255) :
    Calls Try.prog 24 #[.int .i64 m, .int .u8 a, .int .u8 b, .int .u8 t, .int .u8 u] w fun e w' => e = .returned (.int .i64 (colV m a b t u)) ∧ w = w' := by
  have m1 := mulT_bd b (255 - t) hb.1 hb.2 (sub_bd t ht).1 (sub_bd t ht).2
  have m2 := mulT_bd a u ha.1 ha.2 hu.1 hu.2
  have m3 := mulT_bd a (255 - u) ha.1 ha.2 (sub_bd u hu).1 (sub_bd u hu).2
  have m4 := mulT_bd b t hb.1 hb.2 ht.1 ht.2
  have m5 := mulT_bd a b ha.1 ha.2 hb.1 hb.2
  have m6 := besideV_bd a b t u ha hb ht hu
  have hc : m = 1 ∨ m = 2 ∨ m = 3 ∨ m = 4 ∨ m = 5 ∨ m = 6 := by omega
  rcases hc with rfl | rfl | rfl | rfl | rfl | rfl
  all_goals
    go_enter Try.func24, Try.ntmps24
    go_wp2_with ((first | (go_at_call 23; refine (mix_mul _ _ _ (by omega) (by omega)).mono ?_; rintro e w' ⟨rfl, rfl⟩) | (go_at_call 30; refine (mix_beside _ _ _ _ _ (by omega) (by omega) (by omega) (by omega)).mono ?_; rintro e w' ⟨rfl, rfl⟩)))
    all_goals
      go_ret
      exact ⟨ret_int (by simp only [colV]; simp <;> omega), rfl⟩

set_option maxHeartbeats 800000 in
theorem ref06_less (a b : Int) (w : World) :
    Calls Try.prog 25 #[.int .i64 a, .int .i64 b] w fun e w' => e = .returned (.int .i64 (min a b)) ∧ w = w' := by
  go_enter Try.func25, Try.ntmps25
  go_wp2
  all_goals
    go_ret
    exact ⟨ret_int (by omega), rfl⟩

end Go.Proofs.Ytpdbjeoadbhikaa
