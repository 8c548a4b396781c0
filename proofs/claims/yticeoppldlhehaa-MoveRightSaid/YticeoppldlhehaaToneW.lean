/- The walks of the tones' functions: tone.Mul, Div, Cut and the references' Mul, Div, Cut return what the plain functions say, for every two tones (0 to 255). -/
import Derived.Test.YticeoppldlhehaaRows
import Derived.Test.YticeoppldlhehaaToneL
import Derived.WalkKit
import Derived.WalkSpells
import Derived.WalkLawsBesides
import Derived.Lib.Hide
import Derived.BigQuiet
import Derived.Test.YticeoppldlhehaaWorld
namespace Go.Proofs.Yticeoppldlhehaa
open Go.RowKit
set_option linter.unusedVariables false

theorem ret_int {k : IntKind} {a b : Int} (h : a = b) : Ending.returned (.int k a) = .returned (.int k b) := by rw [h]
theorem ret_bool {a b : Bool} (h : a = b) : Ending.returned (.bool a) = .returned (.bool b) := by rw [h]

/-- A contract that leaves the world as it is, the caller's world on the right. -/
theorem same_left {P : Program} {f : FuncId} {args : Array Value} {w : World} {v : Value} (h : Calls P f args w fun e w' => e = .returned v ∧ w = w') : Calls P f args w fun e w'' => e = .returned v ∧ w'' = w :=
  h.mono fun _ _ hh => ⟨hh.1, hh.2.symm⟩

set_option maxHeartbeats 400000 in
theorem tone_mul (a b : Int) (w : World) (ha : 0 ≤ a) (ha' : a ≤ 255) (hb : 0 ≤ b) (hb' : b ≤ 255) :
    Calls Try.prog 69 #[.int .u8 a, .int .u8 b] w fun e w' => e = .returned (.int .u8 (mulT a b)) ∧ w = w' := by
  have h1 := prod_nonneg a b ha hb
  have h2 := prod_le a b ha ha' hb hb'
  go_enter Try.func69, Try.ntmps69
  go_wp2
  go_ret
  exact ⟨rfl, rfl⟩

set_option maxHeartbeats 400000 in
theorem ref01_mul (a b : Int) (w : World) (ha : 0 ≤ a) (ha' : a ≤ 255) (hb : 0 ≤ b) (hb' : b ≤ 255) :
    Calls Try.prog 71 #[.int .u8 a, .int .u8 b] w fun e w' => e = .returned (.int .u8 (mulT a b)) ∧ w = w' := by
  have h1 := prod_nonneg a b ha hb
  have h2 := prod_le a b ha ha' hb hb'
  have hn := ref_mul a b ha ha' hb hb'
  have HN := Lib.hid hn
  clear hn
  go_enter Try.func71, Try.ntmps71
  go_wp2
  all_goals
    go_ret
    have hn := HN.out
    exact ⟨ret_int (by generalize a * b = p at *; omega), rfl⟩



set_option maxHeartbeats 400000 in
theorem tone_cut (n : Int) (w : World) (h1 : -9223372036854775808 ≤ n) (h2 : n ≤ 9223372036854775807) :
    Calls Try.prog 61 #[.int .i64 n] w fun e w' => e = .returned (.int .u8 (cutT n)) ∧ w = w' := by
  go_enter Try.func61, Try.ntmps61
  go_wp2
  all_goals
    go_ret
    exact ⟨ret_int (by unfold cutT; omega), rfl⟩

set_option maxHeartbeats 400000 in
theorem ref01_cut (n : Int) (w : World) (h1 : -9223372036854775808 ≤ n) (h2 : n ≤ 9223372036854775807) :
    Calls Try.prog 74 #[.int .i64 n] w fun e w' => e = .returned (.int .u8 (cutT n)) ∧ w = w' := by
  go_enter Try.func74, Try.ntmps74
  go_wp2
  all_goals
    go_ret
    exact ⟨ret_int (by unfold cutT; omega), rfl⟩

set_option maxHeartbeats 400000 in
theorem tone_scale (r g b a k : Int) (w : World) (hr : 0 ≤ r ∧ r ≤ 255) (hg : 0 ≤ g ∧ g ≤ 255) (hb : 0 ≤ b ∧ b ≤ 255) (ha : 0 ≤ a ∧ a ≤ 255) (hk : 0 ≤ k ∧ k ≤ 255) :
    Calls Try.prog 53 #[.agg #[.int .u8 r, .int .u8 g, .int .u8 b, .int .u8 a], .int .u8 k] w fun e w' => e = .returned (.agg #[.int .u8 (mulT r k), .int .u8 (mulT g k), .int .u8 (mulT b k), .int .u8 (mulT a k)]) ∧ Grows w w' := by
  go_enter Try.func53, Try.ntmps53
  go_wp2
  refine wp_loop_rounds 5 ?_
  repeat (rw [rounds_succ]; go_wp2_with (go_at_call 69; refine (tone_mul _ _ _ (by omega) (by omega) (by omega) (by omega)).mono ?_; rintro e w' ⟨rfl, rfl⟩))
  refine bodyPost_ret (v := .agg #[.int .u8 (mulT r k), .int .u8 (mulT g k), .int .u8 (mulT b k), .int .u8 (mulT a k)]) (by simp [results, Try.results53, go_sem]) rfl ⟨rfl, ?_⟩
  exact (((Grows.refl _).alloc _).alloc _)

set_option maxHeartbeats 400000 in
theorem ref01_scale (r g b a k : Int) (w : World) (hr : 0 ≤ r ∧ r ≤ 255) (hg : 0 ≤ g ∧ g ≤ 255) (hb : 0 ≤ b ∧ b ≤ 255) (ha : 0 ≤ a ∧ a ≤ 255) (hk : 0 ≤ k ∧ k ≤ 255) :
    Calls Try.prog 55 #[.agg #[.int .u8 r, .int .u8 g, .int .u8 b, .int .u8 a], .int .u8 k] w fun e w' => e = .returned (.agg #[.int .u8 (mulT r k), .int .u8 (mulT g k), .int .u8 (mulT b k), .int .u8 (mulT a k)]) ∧ Grows w w' := by
  go_enter Try.func55, Try.ntmps55
  go_wp2
  refine region_grow_tail 17 (by kernel_rfl) (by kernel_rfl) ?_
  simp only [List.take_succ_cons, List.take_zero, List.drop_succ_cons, List.drop_zero]
  repeat (go_big_quiet_step ((go_at_call 71; exact grow_same (ref01_mul _ _ _ (by omega) (by omega) (by omega) (by omega)))))
  refine wpQuiet_nil ?_
  rintro _ ⟨g0, rfl⟩
  go_wp2
  refine bodyPost_ret (v := .agg #[.int .u8 (mulT r k), .int .u8 (mulT g k), .int .u8 (mulT b k), .int .u8 (mulT a k)]) (by simp [results, Try.results55, go_sem]) rfl ⟨rfl, ?_⟩
  exact ((((Grows.refl _).alloc _).alloc _).grow _)





end Go.Proofs.Yticeoppldlhehaa
