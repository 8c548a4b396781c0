/- The walk of chapter 7's law TintNone. -/
import Derived.Test.YtghcpjahieaepaaLawTint
import Derived.OwnWalk
namespace Go.Proofs.Ytghcpjahieaepaa
open Go.RowKit
set_option linter.unusedVariables false

theorem int_info : (Try.prog.info? 3).map (fun i => (i.zero, i.size, i.bytes)) = some (some (.int .i64 0), 1, 8) := by kernel_rfl
theorem info_of {P : Program} {t : TypeId} {z : Option Value} {s b : Nat} (h : (P.info? t).map (fun i => (i.zero, i.size, i.bytes)) = some (z, s, b)) : ∃ i, P.info? t = some i ∧ i.zero = z ∧ i.size = s ∧ i.bytes = b := by
  cases hi : P.info? t with
  | none => simp [hi] at h
  | some i => simp [hi] at h; exact ⟨i, rfl, h.1, h.2.1, h.2.2⟩
def noneL : List Int := List.replicate 20 0
def whiteL : List Int := [0, 0, 0, 0, 256, 0, 0, 0, 0, 256, 0, 0, 0, 0, 256, 0, 0, 0, 0, 256]
def noneM (i : Nat) : Int := noneL.getD i 0
def whiteM (i : Nat) : Int := whiteL.getD i 0
theorem none_bd : ∀ n ∈ noneL, -32768 ≤ n ∧ n ≤ 32767 := by decide
theorem white_bd : ∀ n ∈ whiteL, -32768 ≤ n ∧ n ≤ 32767 := by decide
theorem make20 (w : World) : (Instr.makeSlice 40 (.int .i64 20) (.int .i64 20)).run Try.prog w = .ok (.slice (some ⟨w.heap.size, 0, none⟩) 20 20)
    (w.alloc (.cells #[.int .i64 0, .int .i64 0, .int .i64 0, .int .i64 0, .int .i64 0, .int .i64 0, .int .i64 0, .int .i64 0, .int .i64 0, .int .i64 0, .int .i64 0, .int .i64 0, .int .i64 0, .int .i64 0, .int .i64 0, .int .i64 0, .int .i64 0, .int .i64 0, .int .i64 0, .int .i64 0] 3)) := by
  obtain ⟨i, hi, hz, hs, hb⟩ := info_of int_info
  have h := run_make (P := Try.prog) w 40 3 i _ Try.underlying40 hi hz .i64 .i64 20 20 (by omega) (by omega) (by rw [hb]; omega) (by omega)
  rw [hs] at h
  have e : madeCells (Value.int .i64 0).cells (Int.toNat 20 * 1) = #[.int .i64 0, .int .i64 0, .int .i64 0, .int .i64 0, .int .i64 0, .int .i64 0, .int .i64 0, .int .i64 0, .int .i64 0, .int .i64 0, .int .i64 0, .int .i64 0, .int .i64 0, .int .i64 0, .int .i64 0, .int .i64 0, .int .i64 0, .int .i64 0, .int .i64 0, .int .i64 0] := by kernel_rfl
  rw [e] at h
  exact h
theorem cutT0 : cutT 0 = 0 := by decide
theorem none_row (o : Nat) (ho : o = 0 ∨ o = 5 ∨ o = 10 ∨ o = 15) (r g b a : Int) : rowV noneM o r g b a = 0 := by
  have e : rowV noneM o r g b a = cutT ((255 * 0 + 128 + 0 * r + 0 * g + 0 * b + 0 * a) / 256) := by rcases ho with rfl | rfl | rfl | rfl <;> rfl
  rw [e, show (255 * 0 + 128 + 0 * r + 0 * g + 0 * b + 0 * a) / 256 = 0 by omega]; rfl
theorem white_row (o : Nat) (ho : o = 0 ∨ o = 5 ∨ o = 10 ∨ o = 15) (r g b a : Int) : rowV whiteM o r g b a = 255 := by
  have e : rowV whiteM o r g b a = cutT ((255 * 256 + 128 + 0 * r + 0 * g + 0 * b + 0 * a) / 256) := by rcases ho with rfl | rfl | rfl | rfl <;> rfl
  rw [e, show (255 * 256 + 128 + 0 * r + 0 * g + 0 * b + 0 * a) / 256 = 255 by omega]; rfl
theorem tint_none (r g b a : Int) : tint0 noneM r g b a = 0 ∧ tint1 noneM r g b a = 0 ∧ tint2 noneM r g b a = 0 ∧ tint3 noneM r g b a = 0 := by
  unfold tint0 tint1 tint2 tint3
  rw [none_row 0 (by omega), none_row 5 (by omega), none_row 10 (by omega), none_row 15 (by omega)]
  exact ⟨rfl, rfl, rfl, rfl⟩
theorem tint_white (r g b a : Int) : tint0 whiteM r g b a = 255 ∧ tint1 whiteM r g b a = 255 ∧ tint2 whiteM r g b a = 255 ∧ tint3 whiteM r g b a = 255 := by
  unfold tint0 tint1 tint2 tint3
  rw [white_row 0 (by omega), white_row 5 (by omega), white_row 10 (by omega), white_row 15 (by omega)]
  exact ⟨rfl, rfl, rfl, rfl⟩

set_option maxHeartbeats 6400000 in
theorem tintNone_walk (r g b a : Int) (w : World)
    (hr : 0 ≤ r ∧ r ≤ 255) (hg : 0 ≤ g ∧ g ≤ 255) (hb : 0 ≤ b ∧ b ≤ 255) (ha : 0 ≤ a ∧ a ≤ 255) :
    Calls Try.prog 11 #[.agg #[.int .u8 r, .int .u8 g, .int .u8 b, .int .u8 a]] w fun e w' => e = .returned (.bool true) ∧ Grows w w' := by
  by_cases hT : rightT r g b a = true
  · have hmk := make20
    obtain ⟨n0, n1, n2, n3⟩ := tint_none r g b a
    obtain ⟨u0, u1, u2, u3⟩ := tint_white r g b a
    have hc : calmB whiteM = false := by kernel_rfl
    go_enter Try.func11, Try.ntmps11
    go_wp2_with ((first | (go_at_call 23; refine (ref01_right _ _ _ _ _ (by omega) (by omega) (by omega) (by omega)).mono ?_; rintro e w' ⟨rfl, hgw⟩; first | (obtain ⟨gw, rfl⟩ := grows_of_grow hgw) | (obtain ⟨gw, rfl⟩ := hgw))))
    refine wp_loop_rounds 5 ?_
    rw [rounds_succ]; go_wp2
    rw [rounds_succ]; go_wp2
    rw [rounds_succ]; go_wp2
    rw [rounds_succ]; go_wp2
    rw [rounds_succ]
    go_wp2_with ((first
      | (first | (go_at_call 36; refine (awake07 _ ).mono ?_; rintro e w' ⟨rfl, hgw⟩; first | (obtain ⟨gw, rfl⟩ := grows_of_grow hgw) | (obtain ⟨gw, rfl⟩ := hgw)))
      | (go_at_call 39; refine (tint_pixel noneM _ _ _ _ _ _ _ _ (mat_of_block noneL rfl (by repeat (first | exact blk_at _ _ _ (by first | omega | (simp; done) | (simp; omega)) | refine (blk_past _ _ _ (by first | omega | (simp; done) | (simp; omega))).trans ?_ | refine (heap_grow _ _ _ (by first | omega | (simp; done) | (simp; omega))).trans ?_ | refine (blk_drew _ _).trans ?_)) none_bd) (by omega) (by omega) (by omega) (by omega)).mono ?_; rintro e w' ⟨rfl, hgw⟩; obtain ⟨gw, rfl⟩ := grows_of_grow hgw)
      | (go_at_call 39; refine (tint_pixel whiteM _ _ _ _ _ _ _ _ (mat_of_block whiteL rfl (by repeat (first | exact blk_at _ _ _ (by first | omega | (simp; done) | (simp; omega)) | refine (blk_past _ _ _ (by first | omega | (simp; done) | (simp; omega))).trans ?_ | refine (heap_grow _ _ _ (by first | omega | (simp; done) | (simp; omega))).trans ?_ | refine (blk_drew _ _).trans ?_)) white_bd) (by omega) (by omega) (by omega) (by omega)).mono ?_; rintro e w' ⟨rfl, hgw⟩; obtain ⟨gw, rfl⟩ := grows_of_grow hgw)
      | (go_at_call 41; refine (tint_calm whiteM _ _ _ _ (mat_of_block whiteL rfl (by repeat (first | exact blk_at _ _ _ (by first | omega | (simp; done) | (simp; omega)) | refine (blk_past _ _ _ (by first | omega | (simp; done) | (simp; omega))).trans ?_ | refine (heap_grow _ _ _ (by first | omega | (simp; done) | (simp; omega))).trans ?_ | refine (blk_drew _ _).trans ?_)) white_bd)).mono ?_; rintro e w' ⟨rfl, hgw⟩; obtain ⟨gw, rfl⟩ := grows_of_grow hgw)))
    go_ret
    exact ⟨rfl, (by repeat (first | exact Grows.refl _ | apply Grows.grow | apply Grows.alloc | apply Grows.drew))⟩
  · have hT : rightT r g b a = false := by simpa using hT
    go_enter Try.func11, Try.ntmps11
    go_wp2_with ((first | (go_at_call 23; refine (ref01_right _ _ _ _ _ (by omega) (by omega) (by omega) (by omega)).mono ?_; rintro e w' ⟨rfl, hgw⟩; first | (obtain ⟨gw, rfl⟩ := grows_of_grow hgw) | (obtain ⟨gw, rfl⟩ := hgw)) | (go_at_call 36; refine (awake07 _ ).mono ?_; rintro e w' ⟨rfl, hgw⟩; first | (obtain ⟨gw, rfl⟩ := grows_of_grow hgw) | (obtain ⟨gw, rfl⟩ := hgw))))
    go_ret
    exact ⟨rfl, (by repeat (first | exact Grows.refl _ | apply Grows.grow | apply Grows.alloc | apply Grows.drew))⟩
end Go.Proofs.Ytghcpjahieaepaa
