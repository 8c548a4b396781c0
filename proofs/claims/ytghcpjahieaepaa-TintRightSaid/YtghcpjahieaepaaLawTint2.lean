/- The walk of chapter 7's law TintRight. -/
import Derived.Test.YtghcpjahieaepaaLawTint
import Derived.Deep.RegionHeld3
namespace Go.Proofs.Ytghcpjahieaepaa
open Go.RowKit
set_option linter.unusedVariables false

theorem size_alloc1 (w : World) (o : Obj) : (w.alloc o).heap.size = w.heap.size + 1 := by unfold World.alloc; exact Array.size_push _

set_option maxHeartbeats 6400000 in
theorem tintRight_walk (a0 : Option Addr) (len cap : Nat) (zs : List Int) (r g b a : Int) (w : World) (h : IsRow .i64 w a0 len cap zs)
    (hr : 0 ≤ r ∧ r ≤ 255) (hg : 0 ≤ g ∧ g ≤ 255) (hb : 0 ≤ b ∧ b ≤ 255) (ha : 0 ≤ a ∧ a ≤ 255) :
    Calls Try.prog 13 #[.slice a0 len cap, .agg #[.int .u8 r, .int .u8 g, .int .u8 b, .int .u8 a]] w fun e w' => e = .returned (.bool true) ∧ Grows w w' := by
  have hcap := h.cap_le
  have HR := Lib.hid h
  by_cases hl : 100 < len
  · clear h HR
    go_enter Try.func13, Try.ntmps13
    go_wp2_with ((first | (go_at_call 36; refine (awake07 _ ).mono ?_; rintro e w' ⟨rfl, hgw⟩; first | (obtain ⟨gw, rfl⟩ := grows_of_grow hgw) | (obtain ⟨gw, rfl⟩ := hgw))))
    go_ret
    exact ⟨rfl, (by repeat (first | exact Grows.refl _ | apply Grows.grow | apply Grows.alloc | apply Grows.drew))⟩
  · have hl' : ¬ (100 < (len : Int)) := by omega
    by_cases hM : matB zs len = true
    · obtain ⟨rfl, bb, off, m, rfl, hm, _⟩ := mat_of_row h hM
      have HM : Hid (Mat w bb off cap m) := hm
      clear h hm hl'
      by_cases hT : rightT r g b a = true
      · have ht := tint_right_of m r g b a
        have v0 : 0 ≤ tint0 m r g b a ∧ tint0 m r g b a ≤ 255 := mulT_bd _ _ (rowV_bd ..).1 (rowV_bd ..).2 (rowV_bd ..).1 (rowV_bd ..).2
        have v1 : 0 ≤ tint1 m r g b a ∧ tint1 m r g b a ≤ 255 := mulT_bd _ _ (rowV_bd ..).1 (rowV_bd ..).2 (rowV_bd ..).1 (rowV_bd ..).2
        have v2 : 0 ≤ tint2 m r g b a ∧ tint2 m r g b a ≤ 255 := mulT_bd _ _ (rowV_bd ..).1 (rowV_bd ..).2 (rowV_bd ..).1 (rowV_bd ..).2
        have v3 : 0 ≤ tint3 m r g b a ∧ tint3 m r g b a ≤ 255 := rowV_bd ..
        obtain ⟨s0, s1, s2, s3⟩ := tint_same r g b a hr hg hb ha hT
        go_enter Try.func13, Try.ntmps13
        go_wp2_with ((first | (go_at_call 36; refine (awake07 _ ).mono ?_; rintro e w' ⟨rfl, hgw⟩; first | (obtain ⟨gw, rfl⟩ := grows_of_grow hgw) | (obtain ⟨gw, rfl⟩ := hgw)) | (go_at_call 23; refine (ref01_right _ _ _ _ _ (by omega) (by omega) (by omega) (by omega)).mono ?_; rintro e w' ⟨rfl, hgw⟩; first | (obtain ⟨gw, rfl⟩ := grows_of_grow hgw) | (obtain ⟨gw, rfl⟩ := hgw)) | (go_at_call 37; refine (tint_right _ _ _ zs _ (HR.out.grows (by repeat (first | exact Grows.refl _ | apply Grows.grow | apply Grows.alloc | apply Grows.drew)))).mono ?_; rintro e w' ⟨rfl, rfl⟩) | (go_at_call 38; refine (ref07_right _ _ _ zs _ (HR.out.grows (by repeat (first | exact Grows.refl _ | apply Grows.grow | apply Grows.alloc | apply Grows.drew)))).mono ?_; rintro e w' ⟨rfl, rfl⟩)))
        go_region_held3 (fun w' => w'.cell? ⟨w.heap.size, 0, none⟩ = some (.int .u8 r) ∧ w'.cell? ⟨w.heap.size, 1, none⟩ = some (.int .u8 g) ∧ w'.cell? ⟨w.heap.size, 2, none⟩ = some (.int .u8 b) ∧ w'.cell? ⟨w.heap.size, 3, none⟩ = some (.int .u8 a)) (simp) (first
          | (first | (go_at_call 36; refine (awake07 _ ).mono ?_; rintro e w' ⟨rfl, hgw⟩; first | (obtain ⟨gw, rfl⟩ := grows_of_grow hgw) | (obtain ⟨gw, rfl⟩ := hgw)))
          | (first | (go_at_call 42; refine (law07_same _).mono ?_; rintro e w' ⟨rfl, hgw, hmm⟩; (try simp only [size_grow] at hmm); replace hmm := Lib.hid hmm; first | (obtain ⟨gw, rfl⟩ := grows_of_grow hgw) | (obtain ⟨gw, rfl⟩ := hgw)))
          | (go_at_call 39; have hq := hmm.out; simp only [size_alloc1] at hq; with_reducible refine (tint_pixel sameM _ _ _ _ _ _ _ _ hq (by omega) (by omega) (by omega) (by omega)).mono ?_; rintro e w' ⟨rfl, hgw⟩; obtain ⟨gw, rfl⟩ := grows_of_grow hgw)
          | (go_at_call 39; with_reducible refine (tint_pixel m _ _ _ _ _ _ _ _ (Mat.grows HM.out (by repeat (first | exact Grows.refl _ | apply Grows.grow | apply Grows.alloc | apply Grows.drew))) (by omega) (by omega) (by omega) (by omega)).mono ?_; rintro e w' ⟨rfl, hgw⟩; obtain ⟨gw, rfl⟩ := grows_of_grow hgw)
          | (first | (go_at_call 22; refine (tone_right_yes _ _ _ _ _ (by omega) (by omega) (by omega) (by omega) (by assumption)).mono ?_; rintro e w' ⟨rfl, hgw⟩; first | (obtain ⟨gw, rfl⟩ := grows_of_grow hgw) | (obtain ⟨gw, rfl⟩ := hgw))))
        all_goals
          go_wp2
          go_ret
          exact ⟨rfl, (by repeat (first | exact Grows.refl _ | apply Grows.grow | apply Grows.alloc | apply Grows.drew))⟩
      · have hT : rightT r g b a = false := by simpa using hT
        go_enter Try.func13, Try.ntmps13
        go_wp2_with ((first | (go_at_call 36; refine (awake07 _ ).mono ?_; rintro e w' ⟨rfl, hgw⟩; first | (obtain ⟨gw, rfl⟩ := grows_of_grow hgw) | (obtain ⟨gw, rfl⟩ := hgw)) | (go_at_call 23; refine (ref01_right _ _ _ _ _ (by omega) (by omega) (by omega) (by omega)).mono ?_; rintro e w' ⟨rfl, hgw⟩; first | (obtain ⟨gw, rfl⟩ := grows_of_grow hgw) | (obtain ⟨gw, rfl⟩ := hgw)) | (go_at_call 37; refine (tint_right _ _ _ zs _ (HR.out.grows (by repeat (first | exact Grows.refl _ | apply Grows.grow | apply Grows.alloc | apply Grows.drew)))).mono ?_; rintro e w' ⟨rfl, rfl⟩) | (go_at_call 38; refine (ref07_right _ _ _ zs _ (HR.out.grows (by repeat (first | exact Grows.refl _ | apply Grows.grow | apply Grows.alloc | apply Grows.drew)))).mono ?_; rintro e w' ⟨rfl, rfl⟩)))
        go_ret
        exact ⟨rfl, (by repeat (first | exact Grows.refl _ | apply Grows.grow | apply Grows.alloc | apply Grows.drew))⟩
    · have hM : matB zs len = false := by simpa using hM
      clear h
      go_enter Try.func13, Try.ntmps13
      go_wp2_with ((first | (go_at_call 36; refine (awake07 _ ).mono ?_; rintro e w' ⟨rfl, hgw⟩; first | (obtain ⟨gw, rfl⟩ := grows_of_grow hgw) | (obtain ⟨gw, rfl⟩ := hgw)) | (go_at_call 23; refine (ref01_right _ _ _ _ _ (by omega) (by omega) (by omega) (by omega)).mono ?_; rintro e w' ⟨rfl, hgw⟩; first | (obtain ⟨gw, rfl⟩ := grows_of_grow hgw) | (obtain ⟨gw, rfl⟩ := hgw)) | (go_at_call 37; refine (tint_right _ _ _ zs _ (HR.out.grows (by repeat (first | exact Grows.refl _ | apply Grows.grow | apply Grows.alloc | apply Grows.drew)))).mono ?_; rintro e w' ⟨rfl, rfl⟩) | (go_at_call 38; refine (ref07_right _ _ _ zs _ (HR.out.grows (by repeat (first | exact Grows.refl _ | apply Grows.grow | apply Grows.alloc | apply Grows.drew)))).mono ?_; rintro e w' ⟨rfl, rfl⟩)))
      go_ret
      exact ⟨rfl, (by repeat (first | exact Grows.refl _ | apply Grows.grow | apply Grows.alloc | apply Grows.drew))⟩
end Go.Proofs.Ytghcpjahieaepaa
