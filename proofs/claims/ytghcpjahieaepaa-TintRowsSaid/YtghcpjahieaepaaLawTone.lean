/- The walks of chapter 1's laws: each returns true and lets the world only grow. -/
import Derived.Test.YtghcpjahieaepaaToneR
import Derived.Test.YtghcpjahieaepaaPx
namespace Go.Proofs.Ytghcpjahieaepaa
open Go.RowKit
set_option linter.unusedVariables false

set_option maxHeartbeats 800000 in
theorem awake01 (w : World) : Calls Try.prog 16 #[] w fun e w' => e = .returned (.bool true) ∧ Grows w w' := by
  have e1 : mulT 128 128 = 64 := by decide
  have e2 : mulT 255 7 = 7 := by decide
  have e3 : divT 64 128 = 128 := by decide
  have e4 : divT 5 0 = 0 := by decide
  have e5 : divT 9 3 = 255 := by decide
  have e6 : divT 0 128 = 0 := by decide
  have e7 : rightT 2 0 0 1 = false := by decide
  go_enter Try.func16, Try.ntmps16
  go_wp2_with ((first | (go_at_call 15; refine (tone_mul _ _ _ (by omega) (by omega) (by omega) (by omega)).mono ?_; rintro e w' ⟨rfl, rfl⟩) | (go_at_call 17; refine (tone_div _ _ _ (by omega) (by omega) (by omega) (by omega)).mono ?_; rintro e w' ⟨rfl, rfl⟩) | (go_at_call 26; refine (tone_plain _ _ _ _ _ (by omega) (by omega) (by omega) (by omega)).mono ?_; rintro e w' ⟨rfl, hgw⟩; first | (obtain ⟨gw, rfl⟩ := grows_of_grow hgw) | (obtain ⟨gw, rfl⟩ := hgw)) | (go_at_call 22; refine (tone_right _ _ _ _ _ (by omega) (by omega) (by omega) (by omega)).mono ?_; rintro e w' ⟨rfl, hgw⟩; first | (obtain ⟨gw, rfl⟩ := grows_of_grow hgw) | (obtain ⟨gw, rfl⟩ := hgw))))
  go_ret
  exact ⟨rfl, (by repeat (first | exact Grows.refl _ | apply Grows.grow | apply Grows.alloc | apply Grows.drew))⟩

set_option maxHeartbeats 800000 in
theorem toneNear_walk (a b : Int) (w : World) (ha : 0 ≤ a ∧ a ≤ 255) (hb : 0 ≤ b ∧ b ≤ 255) :
    Calls Try.prog 3 #[.int .u8 a, .int .u8 b] w fun e w' => e = .returned (.bool true) ∧ Grows w w' := by
  have h0 := mulT_bd a b ha.1 ha.2 hb.1 hb.2
  have h1 := prod_nonneg a b ha.1 hb.1
  have h2 := prod_le a b ha.1 ha.2 hb.1 hb.2
  have h3 := mulT_near a b
  have h4 := mulT_comm b a
  have h5 := mulT_255 a
  have h6 := mulT_0 a
  go_enter Try.func3, Try.ntmps3
  go_wp2_with ((first | (go_at_call 15; refine (tone_mul _ _ _ (by omega) (by omega) (by omega) (by omega)).mono ?_; rintro e w' ⟨rfl, rfl⟩) | (go_at_call 16; refine (awake01 _ ).mono ?_; rintro e w' ⟨rfl, hgw⟩; first | (obtain ⟨gw, rfl⟩ := grows_of_grow hgw) | (obtain ⟨gw, rfl⟩ := hgw))))
  go_ret
  exact ⟨rfl, (by repeat (first | exact Grows.refl _ | apply Grows.grow | apply Grows.alloc | apply Grows.drew))⟩

set_option maxHeartbeats 800000 in
theorem toneRises_walk (a b c : Int) (w : World) (ha : 0 ≤ a ∧ a ≤ 255) (hb : 0 ≤ b ∧ b ≤ 255) (hc : 0 ≤ c ∧ c ≤ 255) :
    Calls Try.prog 4 #[.int .u8 a, .int .u8 b, .int .u8 c] w fun e w' => e = .returned (.bool true) ∧ Grows w w' := by
  by_cases hab : b < a
  · have h0 := mulT_mono b a c (by omega) hc.1
    have h1 := divT_mono b a c (by omega) hc.1
    have h2 := mulT_le b c hb.1 hc.2
    go_enter Try.func4, Try.ntmps4
    go_wp2_with ((first | (go_at_call 15; refine (tone_mul _ _ _ (by omega) (by omega) (by omega) (by omega)).mono ?_; rintro e w' ⟨rfl, rfl⟩) | (go_at_call 17; refine (tone_div _ _ _ (by omega) (by omega) (by omega) (by omega)).mono ?_; rintro e w' ⟨rfl, rfl⟩) | (go_at_call 16; refine (awake01 _ ).mono ?_; rintro e w' ⟨rfl, hgw⟩; first | (obtain ⟨gw, rfl⟩ := grows_of_grow hgw) | (obtain ⟨gw, rfl⟩ := hgw))))
    go_ret
    exact ⟨rfl, (by repeat (first | exact Grows.refl _ | apply Grows.grow | apply Grows.alloc | apply Grows.drew))⟩
  · have h0 := mulT_mono a b c (by omega) hc.1
    have h1 := divT_mono a b c (by omega) hc.1
    have h2 := mulT_le a c ha.1 hc.2
    go_enter Try.func4, Try.ntmps4
    go_wp2_with ((first | (go_at_call 15; refine (tone_mul _ _ _ (by omega) (by omega) (by omega) (by omega)).mono ?_; rintro e w' ⟨rfl, rfl⟩) | (go_at_call 17; refine (tone_div _ _ _ (by omega) (by omega) (by omega) (by omega)).mono ?_; rintro e w' ⟨rfl, rfl⟩) | (go_at_call 16; refine (awake01 _ ).mono ?_; rintro e w' ⟨rfl, hgw⟩; first | (obtain ⟨gw, rfl⟩ := grows_of_grow hgw) | (obtain ⟨gw, rfl⟩ := hgw))))
    go_ret
    exact ⟨rfl, (by repeat (first | exact Grows.refl _ | apply Grows.grow | apply Grows.alloc | apply Grows.drew))⟩

set_option maxHeartbeats 800000 in
theorem toneProducts_walk (a b n : Int) (w : World) (ha : 0 ≤ a ∧ a ≤ 255) (hb : 0 ≤ b ∧ b ≤ 255) (hn : -9223372036854775808 ≤ n ∧ n ≤ 9223372036854775807) :
    Calls Try.prog 5 #[.int .u8 a, .int .u8 b, .int .i64 n] w fun e w' => e = .returned (.bool true) ∧ Grows w w' := by
  go_enter Try.func5, Try.ntmps5
  go_wp2_with ((first | (go_at_call 15; refine (tone_mul _ _ _ (by omega) (by omega) (by omega) (by omega)).mono ?_; rintro e w' ⟨rfl, rfl⟩) | (go_at_call 17; refine (tone_div _ _ _ (by omega) (by omega) (by omega) (by omega)).mono ?_; rintro e w' ⟨rfl, rfl⟩) | (go_at_call 20; refine (tone_cut _ _ (by omega) (by omega)).mono ?_; rintro e w' ⟨rfl, rfl⟩) | (go_at_call 18; refine (ref01_mul _ _ _ (by omega) (by omega) (by omega) (by omega)).mono ?_; rintro e w' ⟨rfl, rfl⟩) | (go_at_call 19; refine (ref01_div _ _ _ (by omega) (by omega) (by omega) (by omega)).mono ?_; rintro e w' ⟨rfl, rfl⟩) | (go_at_call 21; refine (ref01_cut _ _ (by omega) (by omega)).mono ?_; rintro e w' ⟨rfl, rfl⟩) | (go_at_call 16; refine (awake01 _ ).mono ?_; rintro e w' ⟨rfl, hgw⟩; first | (obtain ⟨gw, rfl⟩ := grows_of_grow hgw) | (obtain ⟨gw, rfl⟩ := hgw))))
  go_ret
  exact ⟨rfl, (by repeat (first | exact Grows.refl _ | apply Grows.grow | apply Grows.alloc | apply Grows.drew))⟩

set_option maxHeartbeats 800000 in
theorem tonePixels_walk (r g b a k : Int) (w : World) (hr : 0 ≤ r ∧ r ≤ 255) (hg : 0 ≤ g ∧ g ≤ 255) (hb : 0 ≤ b ∧ b ≤ 255) (ha : 0 ≤ a ∧ a ≤ 255) (hk : 0 ≤ k ∧ k ≤ 255) :
    Calls Try.prog 6 #[.agg #[.int .u8 r, .int .u8 g, .int .u8 b, .int .u8 a], .int .u8 k] w fun e w' => e = .returned (.bool true) ∧ Grows w w' := by
  go_enter Try.func6, Try.ntmps6
  go_wp2
  first | refine region_grow2 (by kernel_rfl) (by kernel_rfl) ?_ | refine region_grow (by kernel_rfl) (by kernel_rfl) ?_
  repeat (go_big_quiet_step ((first | (go_at_call 22; exact grow_of (tone_right _ _ _ _ _ (by omega) (by omega) (by omega) (by omega))) | (go_at_call 23; exact grow_of (ref01_right _ _ _ _ _ (by omega) (by omega) (by omega) (by omega))) | (go_at_call 24; exact grow_of (tone_scale _ _ _ _ _ _ (by omega) (by omega) (by omega) (by omega) (by omega))) | (go_at_call 25; exact grow_of (ref01_scale _ _ _ _ _ _ (by omega) (by omega) (by omega) (by omega) (by omega))) | (go_at_call 26; exact grow_of (tone_plain _ _ _ _ _ (by omega) (by omega) (by omega) (by omega))) | (go_at_call 27; exact grow_of (ref01_plain _ _ _ _ _ (by omega) (by omega) (by omega) (by omega))) | (go_at_call 28; exact grow_of (tone_thick _ _ _ _ _ (by omega) (by omega) (by omega) (by omega))) | (go_at_call 29; exact grow_of (ref01_thick _ _ _ _ _ (by omega) (by omega) (by omega) (by omega))) | (go_at_call 16; exact grow_of (awake01 _ )))))
  refine wpQuiet_nil ?_
  rintro _ ⟨gr, rfl⟩
  go_wp2
  go_ret
  exact ⟨rfl, (by repeat (first | exact Grows.refl _ | apply Grows.grow | apply Grows.alloc | apply Grows.drew))⟩

theorem rightT_thick (r g b a : Int) (hr : 0 ≤ r ∧ r ≤ 255) (hg : 0 ≤ g ∧ g ≤ 255) (hb : 0 ≤ b ∧ b ≤ 255) (ha : 0 ≤ a ∧ a ≤ 255) : rightT (mulT r a) (mulT g a) (mulT b a) a = true := by
  have h := fun x (hx : 0 ≤ x ∧ x ≤ 255) => (by rw [mulT_comm]; exact mulT_le a x ha.1 hx.2 : mulT x a ≤ a)
  rw [rightT_iff]
  exact ⟨h r hr, h g hg, h b hb⟩
theorem rightT_scale (r g b a k : Int) (hk : 0 ≤ k) (h : rightT r g b a = true) : rightT (mulT r k) (mulT g k) (mulT b k) (mulT a k) = true := by
  rw [rightT_iff] at h ⊢
  exact ⟨mulT_mono _ _ _ h.1 hk, mulT_mono _ _ _ h.2.1 hk, mulT_mono _ _ _ h.2.2 hk⟩

set_option maxHeartbeats 800000 in
theorem toneRight_walk (r g b a k : Int) (w : World) (hr : 0 ≤ r ∧ r ≤ 255) (hg : 0 ≤ g ∧ g ≤ 255) (hb : 0 ≤ b ∧ b ≤ 255) (ha : 0 ≤ a ∧ a ≤ 255) (hk : 0 ≤ k ∧ k ≤ 255) :
    Calls Try.prog 7 #[.agg #[.int .u8 r, .int .u8 g, .int .u8 b, .int .u8 a], .int .u8 k] w fun e w' => e = .returned (.bool true) ∧ Grows w w' := by
  have t1 := rightT_thick r g b a hr hg hb ha
  have t2 := mulT_bd r a hr.1 hr.2 ha.1 ha.2
  have t3 := mulT_bd g a hg.1 hg.2 ha.1 ha.2
  have t4 := mulT_bd b a hb.1 hb.2 ha.1 ha.2
  have m1 := mulT_255 r
  have m2 := mulT_255 g
  have m3 := mulT_255 b
  have m4 := mulT_255 a
  by_cases hR : rightT r g b a = true
  · have hS := rightT_scale r g b a k hk.1 hR
    have s1 := mulT_bd r k hr.1 hr.2 hk.1 hk.2
    have s2 := mulT_bd g k hg.1 hg.2 hk.1 hk.2
    have s3 := mulT_bd b k hb.1 hb.2 hk.1 hk.2
    have s4 := mulT_bd a k ha.1 ha.2 hk.1 hk.2
    have d1 := divT_bd r a hr.1 ha.1
    have d2 := divT_bd g a hg.1 ha.1
    have d3 := divT_bd b a hb.1 ha.1
    have hl := (rightT_iff r g b a).1 hR
    have p1 := mulT_divT r a hr.1 hl.1 ha.2
    have p2 := mulT_divT g a hg.1 hl.2.1 ha.2
    have p3 := mulT_divT b a hb.1 hl.2.2 ha.2
    go_enter Try.func7, Try.ntmps7
    go_wp2
    first | refine region_grow2 (by kernel_rfl) (by kernel_rfl) ?_ | refine region_grow (by kernel_rfl) (by kernel_rfl) ?_
    repeat (go_big_quiet_step ((first | (go_at_call 22; exact grow_of (tone_right _ _ _ _ _ (by omega) (by omega) (by omega) (by omega))) | (go_at_call 24; exact grow_of (tone_scale _ _ _ _ _ _ (by omega) (by omega) (by omega) (by omega) (by omega))) | (go_at_call 28; exact grow_of (tone_thick _ _ _ _ _ (by omega) (by omega) (by omega) (by omega))) | (go_at_call 16; exact grow_of (awake01 _ )))))
    refine wpQuiet_nil ?_
    rintro _ ⟨gr, rfl⟩
    go_wp2_with ((first | (go_at_call 22; refine (tone_right _ _ _ _ _ (by omega) (by omega) (by omega) (by omega)).mono ?_; rintro e w' ⟨rfl, hgw⟩; first | (obtain ⟨gw, rfl⟩ := grows_of_grow hgw) | (obtain ⟨gw, rfl⟩ := hgw))))
    first | refine region_grow2 (by kernel_rfl) (by kernel_rfl) ?_ | refine region_grow (by kernel_rfl) (by kernel_rfl) ?_
    repeat (go_big_quiet_step ((first | (go_at_call 22; exact grow_of (tone_right_yes _ _ _ _ _ (by omega) (by omega) (by omega) (by omega) (by assumption))) | (go_at_call 24; exact grow_of (tone_scale _ _ _ _ _ _ (by omega) (by omega) (by omega) (by omega) (by omega))) | (go_at_call 28; exact grow_of (tone_thick _ _ _ _ _ (by omega) (by omega) (by omega) (by omega))) | (go_at_call 26; exact grow_of (tone_plain _ _ _ _ _ (by omega) (by omega) (by omega) (by omega))) | (go_at_call 16; exact grow_of (awake01 _ )))))
    refine wpQuiet_nil ?_
    rintro _ ⟨gr, rfl⟩
    go_wp2
    go_ret
    exact ⟨rfl, (by repeat (first | exact Grows.refl _ | apply Grows.grow | apply Grows.alloc | apply Grows.drew))⟩
  · have hR' : rightT r g b a = false := by simpa using hR
    clear hR
    go_enter Try.func7, Try.ntmps7
    go_wp2
    first | refine region_grow2 (by kernel_rfl) (by kernel_rfl) ?_ | refine region_grow (by kernel_rfl) (by kernel_rfl) ?_
    repeat (go_big_quiet_step ((first | (go_at_call 22; exact grow_of (tone_right _ _ _ _ _ (by omega) (by omega) (by omega) (by omega))) | (go_at_call 24; exact grow_of (tone_scale _ _ _ _ _ _ (by omega) (by omega) (by omega) (by omega) (by omega))) | (go_at_call 28; exact grow_of (tone_thick _ _ _ _ _ (by omega) (by omega) (by omega) (by omega))) | (go_at_call 16; exact grow_of (awake01 _ )))))
    refine wpQuiet_nil ?_
    rintro _ ⟨gr, rfl⟩
    go_wp2_with ((first | (go_at_call 22; refine (tone_right _ _ _ _ _ (by omega) (by omega) (by omega) (by omega)).mono ?_; rintro e w' ⟨rfl, hgw⟩; first | (obtain ⟨gw, rfl⟩ := grows_of_grow hgw) | (obtain ⟨gw, rfl⟩ := hgw))))
    go_ret
    exact ⟨rfl, (by repeat (first | exact Grows.refl _ | apply Grows.grow | apply Grows.alloc | apply Grows.drew))⟩
end Go.Proofs.Ytghcpjahieaepaa
