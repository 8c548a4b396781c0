/- The walk of layer 7's awake. -/
import Derived.Test.YtghcpjahieaepaaTintC
namespace Go.Proofs.Ytghcpjahieaepaa
open Go.RowKit
set_option linter.unusedVariables false

set_option maxHeartbeats 3200000 in
theorem awake07 (w : World) : Calls Try.prog 36 #[] w fun e w' => e = .returned (.bool true) ∧ Grows w w' := by
  have e0 : tint0 alphasM 0 0 0 128 = 64 := by kernel_rfl
  have e1 : tint1 alphasM 0 0 0 128 = 64 := by kernel_rfl
  have e2 : tint2 alphasM 0 0 0 128 = 64 := by kernel_rfl
  have e3 : tint3 alphasM 0 0 0 128 = 128 := by kernel_rfl
  have e4 : matB sameL 20 = true := by kernel_rfl
  have e5 : matB [] 0 = false := by kernel_rfl
  have e6 : calmB sameM = true := by kernel_rfl
  go_enter Try.func36, Try.ntmps36
  go_wp2_with ((first
    | (go_at_call 39; refine (tint_pixel alphasM _ _ _ 0 0 0 128 _ hmm.out (by omega) (by omega) (by omega) (by omega)).mono ?_; rintro e w' ⟨rfl, hgw⟩; obtain ⟨gw, rfl⟩ := grows_of_grow hgw)
    | (first | (go_at_call 42; refine (law07_same _).mono ?_; rintro e w' ⟨rfl, hgw, hmm⟩; (try simp only [size_grow] at hmm); replace hmm := Lib.hid hmm; first | (obtain ⟨gw, rfl⟩ := grows_of_grow hgw) | (obtain ⟨gw, rfl⟩ := hgw)) | (go_at_call 48; refine (law07_alphas _).mono ?_; rintro e w' ⟨rfl, hgw, hmm⟩; (try simp only [size_grow] at hmm); replace hmm := Lib.hid hmm; first | (obtain ⟨gw, rfl⟩ := grows_of_grow hgw) | (obtain ⟨gw, rfl⟩ := hgw)))
    | (go_at_call 41; refine (tint_calm sameM _ _ _ _ hmm).mono ?_; rintro e w' ⟨rfl, hgw⟩; obtain ⟨gw, rfl⟩ := grows_of_grow hgw)
    | (go_at_call 37; with_reducible refine (tint_right none 0 0 [] _ (row_nil _)).mono ?_; rintro e w' ⟨rfl, rfl⟩)
    | (go_at_call 37; refine (tint_right _ _ _ _ _ (Mat.isRow sameL rfl hmm.out)).mono ?_; rintro e w' ⟨rfl, rfl⟩)))
  go_ret
  exact ⟨rfl, (by repeat (first | exact Grows.refl _ | apply Grows.grow | apply Grows.alloc | apply Grows.drew))⟩
end Go.Proofs.Ytghcpjahieaepaa
