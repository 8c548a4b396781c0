/- The walks of layer 6 (mixing), the leaves: values by an operator, colours by a mode. -/
import Derived.Test.YticeoppldlhehaaToneR
import Derived.Test.YticeoppldlhehaaPx
import Derived.Test.YticeoppldlhehaaMixLF
import Derived.Test.YticeoppldlhehaaRas
namespace Go.Proofs.Yticeoppldlhehaa
open Go.RowKit
set_option linter.unusedVariables false


set_option maxHeartbeats 800000 in
theorem mix_mul (a b : Int) (w : World) (ha : 0 ≤ a ∧ a ≤ 255) (hb : 0 ≤ b ∧ b ≤ 255) :
    Calls Try.prog 72 #[.int .u8 a, .int .u8 b] w fun e w' => e = .returned (.int .i64 (mulT a b)) ∧ w = w' := by
  have hm := mulT_bd a b ha.1 ha.2 hb.1 hb.2
  go_enter Try.func72, Try.ntmps72
  go_wp2_with ((first | (go_at_call 69; refine (tone_mul _ _ _ (by omega) (by omega) (by omega) (by omega)).mono ?_; rintro e w' ⟨rfl, rfl⟩)))
  go_ret
  exact ⟨rfl, rfl⟩

set_option maxHeartbeats 800000 in
theorem ref06_by (a b : Int) (w : World) (ha : 0 ≤ a ∧ a ≤ 255) (hb : 0 ≤ b ∧ b ≤ 255) :
    Calls Try.prog 73 #[.int .u8 a, .int .u8 b] w fun e w' => e = .returned (.int .i64 (mulT a b)) ∧ w = w' := by
  have hm := mulT_bd a b ha.1 ha.2 hb.1 hb.2
  go_enter Try.func73, Try.ntmps73
  go_wp2_with ((first | (go_at_call 71; refine (ref01_mul _ _ _ (by omega) (by omega) (by omega) (by omega)).mono ?_; rintro e w' ⟨rfl, rfl⟩)))
  go_ret
  exact ⟨rfl, rfl⟩

set_option maxHeartbeats 1600000 in
theorem mix_comp1 (op a b t u : Int) (w : World) (ho : 0 ≤ op ∧ op ≤ 5) (ha : 0 ≤ a ∧ a ≤ 255) (hb : 0 ≤ b ∧ b ≤ 255) (ht : 0 ≤ t ∧ t ≤ 255) (hu : 0 ≤ u ∧ u ≤ 255) :
    Calls Try.prog 62 #[.int .i64 op, .int .u8 a, .int .u8 b, .int .u8 t, .int .u8 u] w fun e w' => e = .returned (.int .i64 (compV op a b t u)) ∧ w = w' := by
  have m1 := mulT_bd b (255 - t) hb.1 hb.2 (sub_bd t ht).1 (sub_bd t ht).2
  have m2 := mulT_bd a u ha.1 ha.2 hu.1 hu.2
  have m3 := mulT_bd a (255 - u) ha.1 ha.2 (sub_bd u hu).1 (sub_bd u hu).2
  have m4 := mulT_bd b t hb.1 hb.2 ht.1 ht.2
  have m5 := mulT_bd a b ha.1 ha.2 hb.1 hb.2
  have hc : op = 0 ∨ op = 1 ∨ op = 2 ∨ op = 3 ∨ op = 4 ∨ op = 5 := by omega
  rcases hc with rfl | rfl | rfl | rfl | rfl | rfl
  all_goals
    go_enter Try.func62, Try.ntmps62
    go_wp2_with ((first | (go_at_call 72; refine (mix_mul _ _ _ (by omega) (by omega)).mono ?_; rintro e w' ⟨rfl, rfl⟩)))
    go_ret
    exact ⟨ret_int (by simp [compV]), rfl⟩


theorem besideV_bd (a b t u : Int) (ha : 0 ≤ a ∧ a ≤ 255) (hb : 0 ≤ b ∧ b ≤ 255) (ht : 0 ≤ t ∧ t ≤ 255) (hu : 0 ≤ u ∧ u ≤ 255) : 0 ≤ besideV a b t u ∧ besideV a b t u ≤ 510 := by
  have m1 := mulT_bd b (255 - t) hb.1 hb.2 (sub_bd t ht).1 (sub_bd t ht).2
  have m2 := mulT_bd a u ha.1 ha.2 hu.1 hu.2
  have m3 := mulT_bd a (255 - u) ha.1 ha.2 (sub_bd u hu).1 (sub_bd u hu).2
  have m4 := mulT_bd b t hb.1 hb.2 ht.1 ht.2
  have m5 := mulT_bd a b ha.1 ha.2 hb.1 hb.2
  unfold besideV
  omega



end Go.Proofs.Yticeoppldlhehaa
