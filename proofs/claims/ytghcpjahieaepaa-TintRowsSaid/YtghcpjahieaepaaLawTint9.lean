/- The walk of chapter 7's law TintRows: its cases. -/
import Derived.Test.YtghcpjahieaepaaLawTint6
import Derived.Test.YtghcpjahieaepaaLawTint7
import Derived.Test.YtghcpjahieaepaaLawTint8
namespace Go.Proofs.Ytghcpjahieaepaa
open Go.RowKit
set_option linter.unusedVariables false

set_option maxHeartbeats 6400000 in
theorem tintRows_walk (a1 : Option Addr) (len1 cap1 : Nat) (zs1 : List Int) (a2 : Option Addr) (len2 cap2 : Nat) (zs2 : List Int) (r g b a row : Int) (w : World) (h1 : IsRow .i64 w a1 len1 cap1 zs1) (h2 : IsRow .i64 w a2 len2 cap2 zs2)
    (hr : 0 ≤ r ∧ r ≤ 255) (hg : 0 ≤ g ∧ g ≤ 255) (hb : 0 ≤ b ∧ b ≤ 255) (ha : 0 ≤ a ∧ a ≤ 255) (hrow : 0 ≤ row ∧ row ≤ 255) :
    Calls Try.prog 10 #[.slice a1 len1 cap1, .slice a2 len2 cap2, .agg #[.int .u8 r, .int .u8 g, .int .u8 b, .int .u8 a], .int .u8 row] w fun e w' => e = .returned (.bool true) ∧ Grows w w' := by
  have hcap1 := h1.cap_le
  have hcap2 := h2.cap_le
  have HR1 := Lib.hid h1
  have HR2 := Lib.hid h2
  by_cases hl1 : 100 < len1
  · clear h1 h2 HR1 HR2
    go_enter Try.func10, Try.ntmps10
    go_wp2_with ((first | (go_at_call 36; refine (awake07 _ ).mono ?_; rintro e w' ⟨rfl, hgw⟩; first | (obtain ⟨gw, rfl⟩ := grows_of_grow hgw) | (obtain ⟨gw, rfl⟩ := hgw))))
    go_ret
    exact ⟨rfl, (by repeat (first | exact Grows.refl _ | apply Grows.grow | apply Grows.alloc | apply Grows.drew))⟩
  · have hl1' : ¬ (100 < (len1 : Int)) := by omega
    by_cases hl2 : 100 < len2
    · clear h1 h2 HR1 HR2
      go_enter Try.func10, Try.ntmps10
      go_wp2_with ((first | (go_at_call 36; refine (awake07 _ ).mono ?_; rintro e w' ⟨rfl, hgw⟩; first | (obtain ⟨gw, rfl⟩ := grows_of_grow hgw) | (obtain ⟨gw, rfl⟩ := hgw))))
      go_ret
      exact ⟨rfl, (by repeat (first | exact Grows.refl _ | apply Grows.grow | apply Grows.alloc | apply Grows.drew))⟩
    · have hl2' : ¬ (100 < (len2 : Int)) := by omega
      by_cases hM1 : matB zs1 len1 = true
      · by_cases hM2 : matB zs2 len2 = true
        · by_cases hT : rightT r g b a = true
          · obtain ⟨rfl, b1, off1, m, rfl, hm1, -⟩ := mat_of_row h1 hM1
            obtain ⟨rfl, b2, off2, o, rfl, hm2, -⟩ := mat_of_row h2 hM2
            rcases (by omega : row % 3 = 0 ∨ row % 3 = 1 ∨ row % 3 = 2) with hk | hk | hk
            · exact tintRows_0 b1 off1 cap1 b2 off2 cap2 m o r g b a row w zs1 zs2 HR1 HR2 (Lib.hid hM1) (Lib.hid hM2) (Lib.hid hm1) (Lib.hid hm2) hT hrow hk hr hg hb ha
            · exact tintRows_1 b1 off1 cap1 b2 off2 cap2 m o r g b a row w zs1 zs2 HR1 HR2 (Lib.hid hM1) (Lib.hid hM2) (Lib.hid hm1) (Lib.hid hm2) hT hrow hk hr hg hb ha
            · exact tintRows_2 b1 off1 cap1 b2 off2 cap2 m o r g b a row w zs1 zs2 HR1 HR2 (Lib.hid hM1) (Lib.hid hM2) (Lib.hid hm1) (Lib.hid hm2) hT hrow hk hr hg hb ha
          · have hT : rightT r g b a = false := by simpa using hT
            replace hM1 := Lib.hid hM1
            replace hM2 := Lib.hid hM2
            clear h1 h2
            go_enter Try.func10, Try.ntmps10
            go_wp2_with ((first
              | (go_at_call 38; (with_reducible refine (ref07_rightIs _ _ _ zs1 _ (IsRow.grows HR1.out (by repeat (first | exact Grows.refl _ | apply Grows.grow | apply Grows.alloc | apply Grows.drew))) _ hM1.out).mono ?_); rintro e w' ⟨rfl, rfl⟩)
              | (go_at_call 38; (with_reducible refine (ref07_rightIs _ _ _ zs2 _ (IsRow.grows HR2.out (by repeat (first | exact Grows.refl _ | apply Grows.grow | apply Grows.alloc | apply Grows.drew))) _ hM2.out).mono ?_); rintro e w' ⟨rfl, rfl⟩)
              | (first | (go_at_call 36; refine (awake07 _ ).mono ?_; rintro e w' ⟨rfl, hgw⟩; first | (obtain ⟨gw, rfl⟩ := grows_of_grow hgw) | (obtain ⟨gw, rfl⟩ := hgw))) | (first | (go_at_call 23; refine (ref01_right _ _ _ _ _ (by omega) (by omega) (by omega) (by omega)).mono ?_; rintro e w' ⟨rfl, hgw⟩; first | (obtain ⟨gw, rfl⟩ := grows_of_grow hgw) | (obtain ⟨gw, rfl⟩ := hgw)))))
            go_ret
            exact ⟨rfl, (by repeat (first | exact Grows.refl _ | apply Grows.grow | apply Grows.alloc | apply Grows.drew))⟩
        · have hM2 : matB zs2 len2 = false := by simpa using hM2
          replace hM1 := Lib.hid hM1
          replace hM2 := Lib.hid hM2
          clear h1 h2
          go_enter Try.func10, Try.ntmps10
          go_wp2_with ((first
            | (go_at_call 38; (with_reducible refine (ref07_rightIs _ _ _ zs1 _ (IsRow.grows HR1.out (by repeat (first | exact Grows.refl _ | apply Grows.grow | apply Grows.alloc | apply Grows.drew))) _ hM1.out).mono ?_); rintro e w' ⟨rfl, rfl⟩)
            | (go_at_call 38; (with_reducible refine (ref07_rightIs _ _ _ zs2 _ (IsRow.grows HR2.out (by repeat (first | exact Grows.refl _ | apply Grows.grow | apply Grows.alloc | apply Grows.drew))) _ hM2.out).mono ?_); rintro e w' ⟨rfl, rfl⟩)
            | (first | (go_at_call 36; refine (awake07 _ ).mono ?_; rintro e w' ⟨rfl, hgw⟩; first | (obtain ⟨gw, rfl⟩ := grows_of_grow hgw) | (obtain ⟨gw, rfl⟩ := hgw))) | (first | (go_at_call 23; refine (ref01_right _ _ _ _ _ (by omega) (by omega) (by omega) (by omega)).mono ?_; rintro e w' ⟨rfl, hgw⟩; first | (obtain ⟨gw, rfl⟩ := grows_of_grow hgw) | (obtain ⟨gw, rfl⟩ := hgw)))))
          go_ret
          exact ⟨rfl, (by repeat (first | exact Grows.refl _ | apply Grows.grow | apply Grows.alloc | apply Grows.drew))⟩
      · have hM1 : matB zs1 len1 = false := by simpa using hM1
        replace hM1 := Lib.hid hM1
        clear h1 h2
        go_enter Try.func10, Try.ntmps10
        go_wp2_with ((first
          | (go_at_call 38; (with_reducible refine (ref07_rightIs _ _ _ zs1 _ (IsRow.grows HR1.out (by repeat (first | exact Grows.refl _ | apply Grows.grow | apply Grows.alloc | apply Grows.drew))) _ hM1.out).mono ?_); rintro e w' ⟨rfl, rfl⟩)
          | (first | (go_at_call 36; refine (awake07 _ ).mono ?_; rintro e w' ⟨rfl, hgw⟩; first | (obtain ⟨gw, rfl⟩ := grows_of_grow hgw) | (obtain ⟨gw, rfl⟩ := hgw))) | (first | (go_at_call 23; refine (ref01_right _ _ _ _ _ (by omega) (by omega) (by omega) (by omega)).mono ?_; rintro e w' ⟨rfl, hgw⟩; first | (obtain ⟨gw, rfl⟩ := grows_of_grow hgw) | (obtain ⟨gw, rfl⟩ := hgw)))))
        go_ret
        exact ⟨rfl, (by repeat (first | exact Grows.refl _ | apply Grows.grow | apply Grows.alloc | apply Grows.drew))⟩
end Go.Proofs.Ytghcpjahieaepaa
