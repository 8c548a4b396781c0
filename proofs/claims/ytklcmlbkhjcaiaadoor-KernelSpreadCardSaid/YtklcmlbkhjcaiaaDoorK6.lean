/- The walks of the tones' functions: tone.Mul, Div, Cut and the references' Mul, Div, Cut return what the plain functions say, for every two tones (0 to 255). -/
import Derived.Test.YtklcmlbkhjcaiaaDoorRows
import Derived.Test.YtklcmlbkhjcaiaaDoorK1
import Derived.WalkKit
import Derived.WalkSpells
import Derived.WalkLawsBesides
import Derived.Lib.Hide
import Derived.BigQuiet
import Derived.Test.YtklcmlbkhjcaiaaDoorWorld









namespace Go.Proofs.YtklcmlbkhjcaiaaDoor
open Go.RowKit
set_option linter.unusedVariables false

theorem ret_int {k : IntKind} {a b : Int} (h : a = b) : Ending.returned (.int k a) = .returned (.int k b) := by rw [h]
theorem ret_bool {a b : Bool} (h : a = b) : Ending.returned (.bool a) = .returned (.bool b) := by rw [h]

/-- A contract that leaves the world as it is, the caller's world on the right. -/
theorem same_left {P : Program} {f : FuncId} {args : Array Value} {w : World} {v : Value} (h : Calls P f args w fun e w' => e = .returned v ∧ w = w') : Calls P f args w fun e w'' => e = .returned v ∧ w'' = w :=
  h.mono fun _ _ hh => ⟨hh.1, hh.2.symm⟩

set_option maxHeartbeats 400000 in
theorem tone_mul (a b : Int) (w : World) (ha : 0 ≤ a) (ha' : a ≤ 255) (hb : 0 ≤ b) (hb' : b ≤ 255) :
    Calls Tryd.prog 92 #[.int .u8 a, .int .u8 b] w fun e w' => e = .returned (.int .u8 (mulT a b)) ∧ w = w' := by
  have h1 := prod_nonneg a b ha hb
  have h2 := prod_le a b ha ha' hb hb'
  go_enter Tryd.func92, Tryd.ntmps92
  go_wp2
  go_ret
  exact ⟨rfl, rfl⟩

set_option maxHeartbeats 400000 in
theorem ref01_mul (a b : Int) (w : World) (ha : 0 ≤ a) (ha' : a ≤ 255) (hb : 0 ≤ b) (hb' : b ≤ 255) :
    Calls Tryd.prog 99 #[.int .u8 a, .int .u8 b] w fun e w' => e = .returned (.int .u8 (mulT a b)) ∧ w = w' := by
  have h1 := prod_nonneg a b ha hb
  have h2 := prod_le a b ha ha' hb hb'
  have hn := ref_mul a b ha ha' hb hb'
  have HN := Lib.hid hn
  clear hn
  go_enter Tryd.func99, Tryd.ntmps99
  go_wp2
  all_goals
    go_ret
    have hn := HN.out
    exact ⟨ret_int (by generalize a * b = p at *; omega), rfl⟩

set_option maxHeartbeats 400000 in
theorem tone_div (c a : Int) (w : World) (hc : 0 ≤ c) (hc' : c ≤ 255) (ha : 0 ≤ a) (ha' : a ≤ 255) :
    Calls Tryd.prog 110 #[.int .u8 c, .int .u8 a] w fun e w' => e = .returned (.int .u8 (divT c a)) ∧ w = w' := by
  by_cases h0 : a = 0
  · subst h0
    go_enter Tryd.func110, Tryd.ntmps110
    go_wp2
    go_ret
    exact ⟨ret_int (by simp [divT]), rfl⟩
  · have h1 : (a == 0) = false := by simp; omega
    have h2 : 0 ≤ (c * 255 * 2 + a) / (2 * a) := Int.ediv_nonneg (by omega) (by omega)
    have h3 : (c * 255 * 2 + a) / (2 * a) ≤ 130305 := by
      have : (c * 255 * 2 + a) / (2 * a) ≤ c * 255 * 2 + a := Int.ediv_le_self _ (by omega)
      omega
    have h4 : 0 < 2 * a := by omega
    go_enter Tryd.func110, Tryd.ntmps110
    go_wp2
    all_goals
      go_ret
      exact ⟨ret_int (by unfold divT; rw [if_neg h0]; omega), rfl⟩

set_option maxHeartbeats 400000 in
theorem ref01_div (c a : Int) (w : World) (hc : 0 ≤ c) (hc' : c ≤ 255) (ha : 0 ≤ a) (ha' : a ≤ 255) :
    Calls Tryd.prog 98 #[.int .u8 c, .int .u8 a] w fun e w' => e = .returned (.int .u8 (divT c a)) ∧ w = w' := by
  by_cases h0 : a = 0
  · subst h0
    go_enter Tryd.func98, Tryd.ntmps98
    go_wp2
    go_ret
    exact ⟨ret_int (by simp [divT]), rfl⟩
  · have h1 : (a == 0) = false := by simp; omega
    have h2 : 0 ≤ 255 * c / a := Int.ediv_nonneg (by omega) (by omega)
    have h3 : 255 * c / a ≤ 65025 := by
      have : 255 * c / a ≤ 255 * c := Int.ediv_le_self _ (by omega)
      omega
    have h4 : 0 < a := by omega
    have h5 : 0 ≤ a * (255 * c / a) := Int.mul_nonneg ha h2
    have h6 : a * (255 * c / a) ≤ 255 * c := Int.mul_ediv_self_le (by omega)
    have hn := ref_div c a hc hc' h4 ha'
    have HN := Lib.hid hn
    clear hn
    go_enter Tryd.func98, Tryd.ntmps98
    go_wp2
    all_goals
      go_ret
      have hn := HN.out
      exact ⟨ret_int (by generalize a * (255 * c / a) = p at *; omega), rfl⟩

set_option maxHeartbeats 400000 in
theorem tone_cut (n : Int) (w : World) (h1 : -9223372036854775808 ≤ n) (h2 : n ≤ 9223372036854775807) :
    Calls Tryd.prog 93 #[.int .i64 n] w fun e w' => e = .returned (.int .u8 (cutT n)) ∧ w = w' := by
  go_enter Tryd.func93, Tryd.ntmps93
  go_wp2
  all_goals
    go_ret
    exact ⟨ret_int (by unfold cutT; omega), rfl⟩

set_option maxHeartbeats 400000 in
theorem ref01_cut (n : Int) (w : World) (h1 : -9223372036854775808 ≤ n) (h2 : n ≤ 9223372036854775807) :
    Calls Tryd.prog 74 #[.int .i64 n] w fun e w' => e = .returned (.int .u8 (cutT n)) ∧ w = w' := by
  go_enter Tryd.func74, Tryd.ntmps74
  go_wp2
  all_goals
    go_ret
    exact ⟨ret_int (by unfold cutT; omega), rfl⟩

set_option maxHeartbeats 400000 in
theorem tone_scale (r g b a k : Int) (w : World) (hr : 0 ≤ r ∧ r ≤ 255) (hg : 0 ≤ g ∧ g ≤ 255) (hb : 0 ≤ b ∧ b ≤ 255) (ha : 0 ≤ a ∧ a ≤ 255) (hk : 0 ≤ k ∧ k ≤ 255) :
    Calls Tryd.prog 68 #[.agg #[.int .u8 r, .int .u8 g, .int .u8 b, .int .u8 a], .int .u8 k] w fun e w' => e = .returned (.agg #[.int .u8 (mulT r k), .int .u8 (mulT g k), .int .u8 (mulT b k), .int .u8 (mulT a k)]) ∧ Grows w w' := by
  go_enter Tryd.func68, Tryd.ntmps68
  go_wp2
  refine wp_loop_rounds 5 ?_
  repeat (rw [rounds_succ]; go_wp2_with (go_at_call 92; refine (tone_mul _ _ _ (by omega) (by omega) (by omega) (by omega)).mono ?_; rintro e w' ⟨rfl, rfl⟩))
  refine bodyPost_ret (v := .agg #[.int .u8 (mulT r k), .int .u8 (mulT g k), .int .u8 (mulT b k), .int .u8 (mulT a k)]) (by simp [results, Tryd.results68, go_sem]) rfl ⟨rfl, ?_⟩
  exact (((Grows.refl _).alloc _).alloc _)


set_option maxHeartbeats 400000 in
theorem tone_plain (r g b a : Int) (w : World) (hr : 0 ≤ r ∧ r ≤ 255) (hg : 0 ≤ g ∧ g ≤ 255) (hb : 0 ≤ b ∧ b ≤ 255) (ha : 0 ≤ a ∧ a ≤ 255) :
    Calls Tryd.prog 104 #[.agg #[.int .u8 r, .int .u8 g, .int .u8 b, .int .u8 a]] w fun e w' => e = .returned (.agg #[.int .u8 (divT r a), .int .u8 (divT g a), .int .u8 (divT b a), .int .u8 a]) ∧ Grows w w' := by
  go_enter Tryd.func104, Tryd.ntmps104
  go_wp2
  refine wp_loop_rounds 4 ?_
  rw [rounds_succ]
  go_wp2
  refine region_grow_tail 7 (by kernel_rfl) (by kernel_rfl) ?_
  simp only [List.take_succ_cons, List.take_zero, List.drop_succ_cons, List.drop_zero]
  repeat (go_big_quiet_step ((go_at_call 110; exact grow_same (tone_div _ _ _ (by omega) (by omega) (by omega) (by omega)))))
  refine wpQuiet_nil ?_
  rintro _ ⟨g0, rfl⟩
  go_wp2
  rw [rounds_succ]
  go_wp2
  refine region_grow_tail 7 (by kernel_rfl) (by kernel_rfl) ?_
  simp only [List.take_succ_cons, List.take_zero, List.drop_succ_cons, List.drop_zero]
  repeat (go_big_quiet_step ((go_at_call 110; exact grow_same (tone_div _ _ _ (by omega) (by omega) (by omega) (by omega)))))
  refine wpQuiet_nil ?_
  rintro _ ⟨g1, rfl⟩
  go_wp2
  rw [rounds_succ]
  go_wp2
  refine region_grow_tail 7 (by kernel_rfl) (by kernel_rfl) ?_
  simp only [List.take_succ_cons, List.take_zero, List.drop_succ_cons, List.drop_zero]
  repeat (go_big_quiet_step ((go_at_call 110; exact grow_same (tone_div _ _ _ (by omega) (by omega) (by omega) (by omega)))))
  refine wpQuiet_nil ?_
  rintro _ ⟨g2, rfl⟩
  go_wp2
  rw [rounds_succ]
  go_wp2
  refine bodyPost_ret (v := .agg #[.int .u8 (divT r a), .int .u8 (divT g a), .int .u8 (divT b a), .int .u8 a]) (by simp [results, Tryd.results104, go_sem]) rfl ⟨rfl, ?_⟩
  exact ((((((Grows.refl _).alloc _).alloc _).grow _).grow _).grow _)

set_option maxHeartbeats 400000 in
theorem ref01_plain (r g b a : Int) (w : World) (hr : 0 ≤ r ∧ r ≤ 255) (hg : 0 ≤ g ∧ g ≤ 255) (hb : 0 ≤ b ∧ b ≤ 255) (ha : 0 ≤ a ∧ a ≤ 255) :
    Calls Tryd.prog 73 #[.agg #[.int .u8 r, .int .u8 g, .int .u8 b, .int .u8 a]] w fun e w' => e = .returned (.agg #[.int .u8 (divT r a), .int .u8 (divT g a), .int .u8 (divT b a), .int .u8 a]) ∧ Grows w w' := by
  go_enter Tryd.func73, Tryd.ntmps73
  go_wp2
  refine region_grow_tail 18 (by kernel_rfl) (by kernel_rfl) ?_
  simp only [List.take_succ_cons, List.take_zero, List.drop_succ_cons, List.drop_zero]
  repeat (go_big_quiet_step ((go_at_call 98; exact grow_same (ref01_div _ _ _ (by omega) (by omega) (by omega) (by omega)))))
  refine wpQuiet_nil ?_
  rintro _ ⟨g0, rfl⟩
  go_wp2
  refine bodyPost_ret (v := .agg #[.int .u8 (divT r a), .int .u8 (divT g a), .int .u8 (divT b a), .int .u8 a]) (by simp [results, Tryd.results73, go_sem]) rfl ⟨rfl, ?_⟩
  exact ((((Grows.refl _).alloc _).alloc _).grow _)

set_option maxHeartbeats 400000 in
theorem tone_thick (r g b a : Int) (w : World) (hr : 0 ≤ r ∧ r ≤ 255) (hg : 0 ≤ g ∧ g ≤ 255) (hb : 0 ≤ b ∧ b ≤ 255) (ha : 0 ≤ a ∧ a ≤ 255) :
    Calls Tryd.prog 106 #[.agg #[.int .u8 r, .int .u8 g, .int .u8 b, .int .u8 a]] w fun e w' => e = .returned (.agg #[.int .u8 (mulT r a), .int .u8 (mulT g a), .int .u8 (mulT b a), .int .u8 a]) ∧ Grows w w' := by
  go_enter Tryd.func106, Tryd.ntmps106
  go_wp2
  refine wp_loop_rounds 4 ?_
  rw [rounds_succ]
  go_wp2
  refine region_grow_tail 7 (by kernel_rfl) (by kernel_rfl) ?_
  simp only [List.take_succ_cons, List.take_zero, List.drop_succ_cons, List.drop_zero]
  repeat (go_big_quiet_step ((go_at_call 92; exact grow_same (tone_mul _ _ _ (by omega) (by omega) (by omega) (by omega)))))
  refine wpQuiet_nil ?_
  rintro _ ⟨g0, rfl⟩
  go_wp2
  rw [rounds_succ]
  go_wp2
  refine region_grow_tail 7 (by kernel_rfl) (by kernel_rfl) ?_
  simp only [List.take_succ_cons, List.take_zero, List.drop_succ_cons, List.drop_zero]
  repeat (go_big_quiet_step ((go_at_call 92; exact grow_same (tone_mul _ _ _ (by omega) (by omega) (by omega) (by omega)))))
  refine wpQuiet_nil ?_
  rintro _ ⟨g1, rfl⟩
  go_wp2
  rw [rounds_succ]
  go_wp2
  refine region_grow_tail 7 (by kernel_rfl) (by kernel_rfl) ?_
  simp only [List.take_succ_cons, List.take_zero, List.drop_succ_cons, List.drop_zero]
  repeat (go_big_quiet_step ((go_at_call 92; exact grow_same (tone_mul _ _ _ (by omega) (by omega) (by omega) (by omega)))))
  refine wpQuiet_nil ?_
  rintro _ ⟨g2, rfl⟩
  go_wp2
  rw [rounds_succ]
  go_wp2
  refine bodyPost_ret (v := .agg #[.int .u8 (mulT r a), .int .u8 (mulT g a), .int .u8 (mulT b a), .int .u8 a]) (by simp [results, Tryd.results106, go_sem]) rfl ⟨rfl, ?_⟩
  exact ((((((Grows.refl _).alloc _).alloc _).grow _).grow _).grow _)

set_option maxHeartbeats 400000 in
theorem ref01_thick (r g b a : Int) (w : World) (hr : 0 ≤ r ∧ r ≤ 255) (hg : 0 ≤ g ∧ g ≤ 255) (hb : 0 ≤ b ∧ b ≤ 255) (ha : 0 ≤ a ∧ a ≤ 255) :
    Calls Tryd.prog 76 #[.agg #[.int .u8 r, .int .u8 g, .int .u8 b, .int .u8 a]] w fun e w' => e = .returned (.agg #[.int .u8 (mulT r a), .int .u8 (mulT g a), .int .u8 (mulT b a), .int .u8 a]) ∧ Grows w w' := by
  go_enter Tryd.func76, Tryd.ntmps76
  go_wp2
  refine region_grow_tail 18 (by kernel_rfl) (by kernel_rfl) ?_
  simp only [List.take_succ_cons, List.take_zero, List.drop_succ_cons, List.drop_zero]
  repeat (go_big_quiet_step ((go_at_call 99; exact grow_same (ref01_mul _ _ _ (by omega) (by omega) (by omega) (by omega)))))
  refine wpQuiet_nil ?_
  rintro _ ⟨g0, rfl⟩
  go_wp2
  refine bodyPost_ret (v := .agg #[.int .u8 (mulT r a), .int .u8 (mulT g a), .int .u8 (mulT b a), .int .u8 a]) (by simp [results, Tryd.results76, go_sem]) rfl ⟨rfl, ?_⟩
  exact ((((Grows.refl _).alloc _).alloc _).grow _)

end Go.Proofs.YtklcmlbkhjcaiaaDoor
/- The walks of the tones' questions: is a pixel right? (tone.Right and the reference's.) -/

namespace Go.Proofs.YtklcmlbkhjcaiaaDoor
open Go.RowKit
set_option linter.unusedVariables false

set_option maxHeartbeats 400000 in
theorem ref01_right (r g b a : Int) (w : World) (hr : 0 ≤ r ∧ r ≤ 255) (hg : 0 ≤ g ∧ g ≤ 255) (hb : 0 ≤ b ∧ b ≤ 255) (ha : 0 ≤ a ∧ a ≤ 255) :
    Calls Tryd.prog 15 #[.agg #[.int .u8 r, .int .u8 g, .int .u8 b, .int .u8 a]] w fun e w' => e = .returned (.bool (rightT r g b a)) ∧ Grows w w' := by
  go_enter Tryd.func15, Tryd.ntmps15
  go_wp2
  refine wp_loop_rounds 4 ?_
  rw [rounds_succ]
  go_wp2
  refine region_grow (by kernel_rfl) (by kernel_rfl) ?_
  repeat (go_big_quiet_step (fail))
  refine wpQuiet_nil ?_
  rintro _ ⟨g0, rfl⟩
  go_wp2
  all_goals try (go_ret; exact ⟨ret_bool (by simp only [rightT]; simp; omega), ((Grows.refl _).alloc _).grow _⟩)
  rw [rounds_succ]
  go_wp2
  refine region_grow (by kernel_rfl) (by kernel_rfl) ?_
  repeat (go_big_quiet_step (fail))
  refine wpQuiet_nil ?_
  rintro _ ⟨g1, rfl⟩
  go_wp2
  all_goals try (go_ret; exact ⟨ret_bool (by simp only [rightT]; simp; omega), (((Grows.refl _).alloc _).grow _).grow _⟩)
  rw [rounds_succ]
  go_wp2
  refine region_grow (by kernel_rfl) (by kernel_rfl) ?_
  repeat (go_big_quiet_step (fail))
  refine wpQuiet_nil ?_
  rintro _ ⟨g2, rfl⟩
  go_wp2
  all_goals try (go_ret; exact ⟨ret_bool (by simp only [rightT]; simp; omega), ((((Grows.refl _).alloc _).grow _).grow _).grow _⟩)
  rw [rounds_succ]
  go_wp2
  go_ret
  exact ⟨ret_bool (by simp only [rightT]; simp; omega), ((((Grows.refl _).alloc _).grow _).grow _).grow _⟩

end Go.Proofs.YtklcmlbkhjcaiaaDoor
