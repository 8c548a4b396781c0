/- The walk of chapter 10's law MoveTiles. -/
import Derived.Test.YticeoppldlhehaaLaw10B
namespace Go.Proofs.Yticeoppldlhehaa
open Go.RowKit
set_option linter.unusedVariables false

/-- A rectangle so many columns and rows further on. -/
def shiftR (s : R) (a b : Int) : R := ⟨s.x0 + a, s.y0 + b, s.x1 + a, s.y1 + b⟩
theorem shift_empty (s : R) (a b : Int) : emptyR (shiftR s a b) = emptyR s := by
  rw [Bool.eq_iff_iff, emptyR_iff, emptyR_iff]
  simp only [shiftR]
  omega
theorem shift_cnt (s : R) (a b : Int) : cntR (someR (shiftR s a b)) = cntR (someR s) := by
  unfold someR
  rw [shift_empty]
  split
  · rfl
  · unfold cntR
    simp only [shiftR]
    congr 2 <;> omega
theorem mod_shift {x t m w : Int} : (x + m * w - t) % w = (x - t) % w := by
  rw [show x + m * w - t = (x - t) + w * m from by rw [Int.mul_comm w m]; omega, Int.add_mul_emod_self_left]
theorem ptX_shift (s : R) (a b : Int) (i : Nat) : ptX (shiftR s a b) i = ptX s i + a := by
  unfold ptX
  simp only [shiftR]
  rw [show s.x1 + a - (s.x0 + a) = s.x1 - s.x0 from by omega]
  omega
theorem ptY_shift (s : R) (a b : Int) (i : Nat) : ptY (shiftR s a b) i = ptY s i + b := by
  unfold ptY
  simp only [shiftR]
  rw [show s.x1 + a - (s.x0 + a) = s.x1 - s.x0 from by omega]
  omega
/-- Repeated, it looks the same so many columns and rows further on. -/
theorem tile_shift {s t : R} {F : Img} (m n : Int) {i : Nat} (hs : rightR s = true) (hi : i < cntR (someR s)) :
    tileF (shiftR s (m * (t.x1 - t.x0)) (n * (t.y1 - t.y0))) t F (ptX (someR (shiftR s (m * (t.x1 - t.x0)) (n * (t.y1 - t.y0)))) i) (ptY (someR (shiftR s (m * (t.x1 - t.x0)) (n * (t.y1 - t.y0)))) i) = tileF s t F (ptX (someR s) i) (ptY (someR s) i) := by
  have hg := good_some hs
  have ne : emptyR s = false := by
    cases he : emptyR s
    · rfl
    · rw [show someR s = zeroR from by simp [someR, he], cnt_zero] at hi; omega
  have hh := hg.pt hi
  have e1 : someR s = s := by simp [someR, ne]
  have e2 : someR (shiftR s (m * (t.x1 - t.x0)) (n * (t.y1 - t.y0))) = shiftR s (m * (t.x1 - t.x0)) (n * (t.y1 - t.y0)) := by simp [someR, shift_empty, ne]
  rw [e1] at hh
  have k := (hasR_iff _ _ _).1 hh
  unfold tileF
  rw [e1, e2, ptX_shift, ptY_shift, cutF_in hh, cutF_in ((hasR_iff _ _ _).2 (by simp only [shiftR]; omega))]
  simp only [mod_shift]
/-- In its own place a tile is itself. -/
theorem tile_self {s t : R} {F : Img} {x y : Int} (hs : hasR s x y = true) (ht : hasR t x y = true) : tileF s t F x y = F x y := by
  have k := (hasR_iff t x y).1 ht
  unfold tileF
  rw [cutF_in (by rw [hasR_some]; exact hs), Int.emod_eq_of_lt (by omega) (by omega), Int.emod_eq_of_lt (by omega) (by omega), show t.x0 + (x - t.x0) = x from by omega, show t.y0 + (y - t.y0) = y from by omega]

theorem ref03_hasIs10 (r : R) (x y : Int) (w : World) (c : Bool) (h : Hid (hasR r x y = c)) : Calls Try.prog 15 #[.agg #[.int .i64 r.x0, .int .i64 r.y0, .int .i64 r.x1, .int .i64 r.y1], .int .i64 x, .int .i64 y] w fun e w' => e = .returned (.bool c) ∧ Grows w w' := by
  have := ref03_hasR r x y w
  rwa [h.out] at this
set_option maxRecDepth 100000 in
set_option maxHeartbeats 25600000 in
theorem moveTiles_walk (r1 : R) (a1 : Option Addr) (l1 p1 : Nat) (f1 : Nat → P4) (s t : R) (m n : Int) (w : World)
    (hb1 : IsPix w a1 l1 p1 f1) (hx : -9223372036854775808 ≤ m ∧ m ≤ 9223372036854775807) (hy : -9223372036854775808 ≤ n ∧ n ≤ 9223372036854775807) :
    Calls Try.prog 3 #[.agg #[.int .i64 r1.x0, .int .i64 r1.y0, .int .i64 r1.x1, .int .i64 r1.y1, .slice a1 l1 p1], .agg #[.int .i64 s.x0, .int .i64 s.y0, .int .i64 s.x1, .int .i64 s.y1], .agg #[.int .i64 t.x0, .int .i64 t.y0, .int .i64 t.x1, .int .i64 t.y1], .int .i64 m, .int .i64 n] w fun e w' => e = .returned (.bool true) ∧ Grows w w' := by
  have m1 := hb1.le
  have m1' := hb1.most
  replace hb1 := Lib.hid hb1
  cases c_HR10 : right10 l1 r1 f1
  case false =>
    have HR10 := Lib.hid c_HR10
    clear c_HR10
    go_enter Try.func3, Try.ntmps3
    go_wp2_with ((first | (go_at_call 9; refine (awake10 _ ).mono ?_; rintro e w' ⟨rfl, hgw⟩; first | (obtain ⟨gw, rfl⟩ := grows_of_grow hgw) | (obtain ⟨gw, rfl⟩ := hgw)) | (go_at_call 10; (with_reducible refine (ref10_RightIs _ _ _ _ _ _ _ (Lib.hid (hb1.out.grows (by repeat (first | exact Grows.refl _ | apply Grows.grow | apply Grows.alloc | apply Grows.drew)))) HR10).mono ?_); rintro e w' ⟨rfl, hgw⟩; first | (obtain ⟨gw, rfl⟩ := grows_of_grow hgw) | (obtain ⟨gw, rfl⟩ := hgw))))
    go_ret
    exact ⟨rfl, (by repeat (first | exact Grows.refl _ | apply Grows.grow | apply Grows.alloc | apply Grows.drew))⟩
  have HR10 := Lib.hid c_HR10
  cases c_HB101 : fineB s 0 0 400
  case false =>
    have HB101 := Lib.hid c_HB101
    clear c_HB101
    go_enter Try.func3, Try.ntmps3
    go_wp2_with ((first | (go_at_call 9; refine (awake10 _ ).mono ?_; rintro e w' ⟨rfl, hgw⟩; first | (obtain ⟨gw, rfl⟩ := grows_of_grow hgw) | (obtain ⟨gw, rfl⟩ := hgw)) | (go_at_call 10; (with_reducible refine (ref10_RightIs _ _ _ _ _ _ _ (Lib.hid (hb1.out.grows (by repeat (first | exact Grows.refl _ | apply Grows.grow | apply Grows.alloc | apply Grows.drew)))) HR10).mono ?_); rintro e w' ⟨rfl, hgw⟩; first | (obtain ⟨gw, rfl⟩ := grows_of_grow hgw) | (obtain ⟨gw, rfl⟩ := hgw)) | (go_at_call 11; (with_reducible refine (law10_boxIs _ _ _ HB101).mono ?_); rintro e w' ⟨rfl, hgw⟩; first | (obtain ⟨gw, rfl⟩ := grows_of_grow hgw) | (obtain ⟨gw, rfl⟩ := hgw))))
    go_ret
    exact ⟨rfl, (by repeat (first | exact Grows.refl _ | apply Grows.grow | apply Grows.alloc | apply Grows.drew))⟩
  have HB101 := Lib.hid c_HB101
  cases c_HE10 : emptyR t
  case true =>
    have HE10 := Lib.hid c_HE10
    clear c_HE10
    go_enter Try.func3, Try.ntmps3
    go_wp2_with ((first | (go_at_call 9; refine (awake10 _ ).mono ?_; rintro e w' ⟨rfl, hgw⟩; first | (obtain ⟨gw, rfl⟩ := grows_of_grow hgw) | (obtain ⟨gw, rfl⟩ := hgw)) | (go_at_call 10; (with_reducible refine (ref10_RightIs _ _ _ _ _ _ _ (Lib.hid (hb1.out.grows (by repeat (first | exact Grows.refl _ | apply Grows.grow | apply Grows.alloc | apply Grows.drew)))) HR10).mono ?_); rintro e w' ⟨rfl, hgw⟩; first | (obtain ⟨gw, rfl⟩ := grows_of_grow hgw) | (obtain ⟨gw, rfl⟩ := hgw)) | (go_at_call 11; (with_reducible refine (law10_boxIs _ _ _ HB101).mono ?_); rintro e w' ⟨rfl, hgw⟩; first | (obtain ⟨gw, rfl⟩ := grows_of_grow hgw) | (obtain ⟨gw, rfl⟩ := hgw)) | (go_at_call 12; (with_reducible refine (ref03_emptyIs10 _ _ _ HE10).mono ?_); rintro e w' ⟨rfl, hgw⟩; first | (obtain ⟨gw, rfl⟩ := grows_of_grow hgw) | (obtain ⟨gw, rfl⟩ := hgw))))
    go_ret
    exact ⟨rfl, (by repeat (first | exact Grows.refl _ | apply Grows.grow | apply Grows.alloc | apply Grows.drew))⟩
  have HE10 := Lib.hid c_HE10
  cases c_HH10 : halfB t
  case false =>
    have HH10 := Lib.hid c_HH10
    clear c_HH10
    go_enter Try.func3, Try.ntmps3
    go_wp2_with ((first | (go_at_call 9; refine (awake10 _ ).mono ?_; rintro e w' ⟨rfl, hgw⟩; first | (obtain ⟨gw, rfl⟩ := grows_of_grow hgw) | (obtain ⟨gw, rfl⟩ := hgw)) | (go_at_call 10; (with_reducible refine (ref10_RightIs _ _ _ _ _ _ _ (Lib.hid (hb1.out.grows (by repeat (first | exact Grows.refl _ | apply Grows.grow | apply Grows.alloc | apply Grows.drew)))) HR10).mono ?_); rintro e w' ⟨rfl, hgw⟩; first | (obtain ⟨gw, rfl⟩ := grows_of_grow hgw) | (obtain ⟨gw, rfl⟩ := hgw)) | (go_at_call 11; (with_reducible refine (law10_boxIs _ _ _ HB101).mono ?_); rintro e w' ⟨rfl, hgw⟩; first | (obtain ⟨gw, rfl⟩ := grows_of_grow hgw) | (obtain ⟨gw, rfl⟩ := hgw)) | (go_at_call 12; (with_reducible refine (ref03_emptyIs10 _ _ _ HE10).mono ?_); rintro e w' ⟨rfl, hgw⟩; first | (obtain ⟨gw, rfl⟩ := grows_of_grow hgw) | (obtain ⟨gw, rfl⟩ := hgw)) | (go_at_call 13; (with_reducible refine (ref10_HalfIs _ _ _ HH10).mono ?_); rintro e w' ⟨rfl, hgw⟩; first | (obtain ⟨gw, rfl⟩ := grows_of_grow hgw) | (obtain ⟨gw, rfl⟩ := hgw))))
    go_ret
    exact ⟨rfl, (by repeat (first | exact Grows.refl _ | apply Grows.grow | apply Grows.alloc | apply Grows.drew))⟩
  have HH10 := Lib.hid c_HH10
  by_cases d0 : 100 < m
  · clear c_HR10 c_HB101 c_HE10 c_HH10
    go_enter Try.func3, Try.ntmps3
    go_wp2_with ((first | (go_at_call 9; refine (awake10 _ ).mono ?_; rintro e w' ⟨rfl, hgw⟩; first | (obtain ⟨gw, rfl⟩ := grows_of_grow hgw) | (obtain ⟨gw, rfl⟩ := hgw)) | (go_at_call 10; (with_reducible refine (ref10_RightIs _ _ _ _ _ _ _ (Lib.hid (hb1.out.grows (by repeat (first | exact Grows.refl _ | apply Grows.grow | apply Grows.alloc | apply Grows.drew)))) HR10).mono ?_); rintro e w' ⟨rfl, hgw⟩; first | (obtain ⟨gw, rfl⟩ := grows_of_grow hgw) | (obtain ⟨gw, rfl⟩ := hgw)) | (go_at_call 11; (with_reducible refine (law10_boxIs _ _ _ HB101).mono ?_); rintro e w' ⟨rfl, hgw⟩; first | (obtain ⟨gw, rfl⟩ := grows_of_grow hgw) | (obtain ⟨gw, rfl⟩ := hgw)) | (go_at_call 12; (with_reducible refine (ref03_emptyIs10 _ _ _ HE10).mono ?_); rintro e w' ⟨rfl, hgw⟩; first | (obtain ⟨gw, rfl⟩ := grows_of_grow hgw) | (obtain ⟨gw, rfl⟩ := hgw)) | (go_at_call 13; (with_reducible refine (ref10_HalfIs _ _ _ HH10).mono ?_); rintro e w' ⟨rfl, hgw⟩; first | (obtain ⟨gw, rfl⟩ := grows_of_grow hgw) | (obtain ⟨gw, rfl⟩ := hgw))))
    go_ret
    exact ⟨rfl, (by repeat (first | exact Grows.refl _ | apply Grows.grow | apply Grows.alloc | apply Grows.drew))⟩
  by_cases d1 : m < -100
  · clear c_HR10 c_HB101 c_HE10 c_HH10
    go_enter Try.func3, Try.ntmps3
    go_wp2_with ((first | (go_at_call 9; refine (awake10 _ ).mono ?_; rintro e w' ⟨rfl, hgw⟩; first | (obtain ⟨gw, rfl⟩ := grows_of_grow hgw) | (obtain ⟨gw, rfl⟩ := hgw)) | (go_at_call 10; (with_reducible refine (ref10_RightIs _ _ _ _ _ _ _ (Lib.hid (hb1.out.grows (by repeat (first | exact Grows.refl _ | apply Grows.grow | apply Grows.alloc | apply Grows.drew)))) HR10).mono ?_); rintro e w' ⟨rfl, hgw⟩; first | (obtain ⟨gw, rfl⟩ := grows_of_grow hgw) | (obtain ⟨gw, rfl⟩ := hgw)) | (go_at_call 11; (with_reducible refine (law10_boxIs _ _ _ HB101).mono ?_); rintro e w' ⟨rfl, hgw⟩; first | (obtain ⟨gw, rfl⟩ := grows_of_grow hgw) | (obtain ⟨gw, rfl⟩ := hgw)) | (go_at_call 12; (with_reducible refine (ref03_emptyIs10 _ _ _ HE10).mono ?_); rintro e w' ⟨rfl, hgw⟩; first | (obtain ⟨gw, rfl⟩ := grows_of_grow hgw) | (obtain ⟨gw, rfl⟩ := hgw)) | (go_at_call 13; (with_reducible refine (ref10_HalfIs _ _ _ HH10).mono ?_); rintro e w' ⟨rfl, hgw⟩; first | (obtain ⟨gw, rfl⟩ := grows_of_grow hgw) | (obtain ⟨gw, rfl⟩ := hgw))))
    go_ret
    exact ⟨rfl, (by repeat (first | exact Grows.refl _ | apply Grows.grow | apply Grows.alloc | apply Grows.drew))⟩
  by_cases d2 : 100 < n
  · clear c_HR10 c_HB101 c_HE10 c_HH10
    go_enter Try.func3, Try.ntmps3
    go_wp2_with ((first | (go_at_call 9; refine (awake10 _ ).mono ?_; rintro e w' ⟨rfl, hgw⟩; first | (obtain ⟨gw, rfl⟩ := grows_of_grow hgw) | (obtain ⟨gw, rfl⟩ := hgw)) | (go_at_call 10; (with_reducible refine (ref10_RightIs _ _ _ _ _ _ _ (Lib.hid (hb1.out.grows (by repeat (first | exact Grows.refl _ | apply Grows.grow | apply Grows.alloc | apply Grows.drew)))) HR10).mono ?_); rintro e w' ⟨rfl, hgw⟩; first | (obtain ⟨gw, rfl⟩ := grows_of_grow hgw) | (obtain ⟨gw, rfl⟩ := hgw)) | (go_at_call 11; (with_reducible refine (law10_boxIs _ _ _ HB101).mono ?_); rintro e w' ⟨rfl, hgw⟩; first | (obtain ⟨gw, rfl⟩ := grows_of_grow hgw) | (obtain ⟨gw, rfl⟩ := hgw)) | (go_at_call 12; (with_reducible refine (ref03_emptyIs10 _ _ _ HE10).mono ?_); rintro e w' ⟨rfl, hgw⟩; first | (obtain ⟨gw, rfl⟩ := grows_of_grow hgw) | (obtain ⟨gw, rfl⟩ := hgw)) | (go_at_call 13; (with_reducible refine (ref10_HalfIs _ _ _ HH10).mono ?_); rintro e w' ⟨rfl, hgw⟩; first | (obtain ⟨gw, rfl⟩ := grows_of_grow hgw) | (obtain ⟨gw, rfl⟩ := hgw))))
    go_ret
    exact ⟨rfl, (by repeat (first | exact Grows.refl _ | apply Grows.grow | apply Grows.alloc | apply Grows.drew))⟩
  by_cases d3 : n < -100
  · clear c_HR10 c_HB101 c_HE10 c_HH10
    go_enter Try.func3, Try.ntmps3
    go_wp2_with ((first | (go_at_call 9; refine (awake10 _ ).mono ?_; rintro e w' ⟨rfl, hgw⟩; first | (obtain ⟨gw, rfl⟩ := grows_of_grow hgw) | (obtain ⟨gw, rfl⟩ := hgw)) | (go_at_call 10; (with_reducible refine (ref10_RightIs _ _ _ _ _ _ _ (Lib.hid (hb1.out.grows (by repeat (first | exact Grows.refl _ | apply Grows.grow | apply Grows.alloc | apply Grows.drew)))) HR10).mono ?_); rintro e w' ⟨rfl, hgw⟩; first | (obtain ⟨gw, rfl⟩ := grows_of_grow hgw) | (obtain ⟨gw, rfl⟩ := hgw)) | (go_at_call 11; (with_reducible refine (law10_boxIs _ _ _ HB101).mono ?_); rintro e w' ⟨rfl, hgw⟩; first | (obtain ⟨gw, rfl⟩ := grows_of_grow hgw) | (obtain ⟨gw, rfl⟩ := hgw)) | (go_at_call 12; (with_reducible refine (ref03_emptyIs10 _ _ _ HE10).mono ?_); rintro e w' ⟨rfl, hgw⟩; first | (obtain ⟨gw, rfl⟩ := grows_of_grow hgw) | (obtain ⟨gw, rfl⟩ := hgw)) | (go_at_call 13; (with_reducible refine (ref10_HalfIs _ _ _ HH10).mono ?_); rintro e w' ⟨rfl, hgw⟩; first | (obtain ⟨gw, rfl⟩ := grows_of_grow hgw) | (obtain ⟨gw, rfl⟩ := hgw))))
    go_ret
    exact ⟨rfl, (by repeat (first | exact Grows.refl _ | apply Grows.grow | apply Grows.alloc | apply Grows.drew))⟩
  obtain ⟨k1, g1, n1, krp⟩ := right10_yes c_HR10
  obtain ⟨hsm, -, -, hrs, -, k4, -⟩ := fine_cnt c_HB101 (by omega)
  have hcr : cntR r1 ≤ 300 := by omega
  have htm : smallR t := of_decide_eq_true c_HH10
  have hte := (emptyR_not t).1 c_HE10
  unfold smallR at htm
  obtain ⟨⟨t00, t01⟩, ⟨t10, t11⟩, ⟨t20, t21⟩, t30, t31⟩ := htm
  have hsm' := hsm
  unfold smallR at hsm'
  obtain ⟨⟨s00, s01⟩, ⟨s10, s11⟩, ⟨s20, s21⟩, s30, s31⟩ := hsm'
  by_cases dw : 1000 < t.x1 - t.x0
  · clear g1 n1 krp hsm hrs k4 c_HR10 c_HB101 c_HE10 c_HH10
    go_enter Try.func3, Try.ntmps3
    go_wp2_with ((first | (go_at_call 9; refine (awake10 _ ).mono ?_; rintro e w' ⟨rfl, hgw⟩; first | (obtain ⟨gw, rfl⟩ := grows_of_grow hgw) | (obtain ⟨gw, rfl⟩ := hgw)) | (go_at_call 10; (with_reducible refine (ref10_RightIs _ _ _ _ _ _ _ (Lib.hid (hb1.out.grows (by repeat (first | exact Grows.refl _ | apply Grows.grow | apply Grows.alloc | apply Grows.drew)))) HR10).mono ?_); rintro e w' ⟨rfl, hgw⟩; first | (obtain ⟨gw, rfl⟩ := grows_of_grow hgw) | (obtain ⟨gw, rfl⟩ := hgw)) | (go_at_call 11; (with_reducible refine (law10_boxIs _ _ _ HB101).mono ?_); rintro e w' ⟨rfl, hgw⟩; first | (obtain ⟨gw, rfl⟩ := grows_of_grow hgw) | (obtain ⟨gw, rfl⟩ := hgw)) | (go_at_call 12; (with_reducible refine (ref03_emptyIs10 _ _ _ HE10).mono ?_); rintro e w' ⟨rfl, hgw⟩; first | (obtain ⟨gw, rfl⟩ := grows_of_grow hgw) | (obtain ⟨gw, rfl⟩ := hgw)) | (go_at_call 13; (with_reducible refine (ref10_HalfIs _ _ _ HH10).mono ?_); rintro e w' ⟨rfl, hgw⟩; first | (obtain ⟨gw, rfl⟩ := grows_of_grow hgw) | (obtain ⟨gw, rfl⟩ := hgw))))
    go_ret
    exact ⟨rfl, (by repeat (first | exact Grows.refl _ | apply Grows.grow | apply Grows.alloc | apply Grows.drew))⟩
  by_cases dh : 1000 < t.y1 - t.y0
  · clear g1 n1 krp hsm hrs k4 c_HR10 c_HB101 c_HE10 c_HH10
    go_enter Try.func3, Try.ntmps3
    go_wp2_with ((first | (go_at_call 9; refine (awake10 _ ).mono ?_; rintro e w' ⟨rfl, hgw⟩; first | (obtain ⟨gw, rfl⟩ := grows_of_grow hgw) | (obtain ⟨gw, rfl⟩ := hgw)) | (go_at_call 10; (with_reducible refine (ref10_RightIs _ _ _ _ _ _ _ (Lib.hid (hb1.out.grows (by repeat (first | exact Grows.refl _ | apply Grows.grow | apply Grows.alloc | apply Grows.drew)))) HR10).mono ?_); rintro e w' ⟨rfl, hgw⟩; first | (obtain ⟨gw, rfl⟩ := grows_of_grow hgw) | (obtain ⟨gw, rfl⟩ := hgw)) | (go_at_call 11; (with_reducible refine (law10_boxIs _ _ _ HB101).mono ?_); rintro e w' ⟨rfl, hgw⟩; first | (obtain ⟨gw, rfl⟩ := grows_of_grow hgw) | (obtain ⟨gw, rfl⟩ := hgw)) | (go_at_call 12; (with_reducible refine (ref03_emptyIs10 _ _ _ HE10).mono ?_); rintro e w' ⟨rfl, hgw⟩; first | (obtain ⟨gw, rfl⟩ := grows_of_grow hgw) | (obtain ⟨gw, rfl⟩ := hgw)) | (go_at_call 13; (with_reducible refine (ref10_HalfIs _ _ _ HH10).mono ?_); rintro e w' ⟨rfl, hgw⟩; first | (obtain ⟨gw, rfl⟩ := grows_of_grow hgw) | (obtain ⟨gw, rfl⟩ := hgw))))
    go_ret
    exact ⟨rfl, (by repeat (first | exact Grows.refl _ | apply Grows.grow | apply Grows.alloc | apply Grows.drew))⟩
  obtain ⟨mw, hmw⟩ : ∃ z, z = m * (t.x1 - t.x0) := ⟨_, rfl⟩
  obtain ⟨nh, hnh⟩ : ∃ z, z = n * (t.y1 - t.y0) := ⟨_, rfl⟩
  have b0 : -100000 ≤ mw ∧ mw ≤ 100000 := by
    have e1 := Int.mul_le_mul_of_nonneg_right (show m ≤ 100 by omega) (show 0 ≤ t.x1 - t.x0 by omega)
    have e2 := Int.mul_le_mul_of_nonneg_right (show -100 ≤ m by omega) (show 0 ≤ t.x1 - t.x0 by omega)
    omega
  have b1 : -100000 ≤ nh ∧ nh ≤ 100000 := by
    have e1 := Int.mul_le_mul_of_nonneg_right (show n ≤ 100 by omega) (show 0 ≤ t.y1 - t.y0 by omega)
    have e2 := Int.mul_le_mul_of_nonneg_right (show -100 ≤ n by omega) (show 0 ≤ t.y1 - t.y0 by omega)
    omega
  obtain ⟨b00, b01⟩ := b0
  obtain ⟨b10, b11⟩ := b1
  obtain ⟨th, hth⟩ : ∃ z, z = shiftR s mw nh := ⟨_, rfl⟩
  have HTH : Hid (th.x0 = s.x0 + mw ∧ th.y0 = s.y0 + nh ∧ th.x1 = s.x1 + mw ∧ th.y1 = s.y1 + nh) := by rw [hth]; exact ⟨rfl, rfl, rfl, rfl⟩
  have emw := hmw.symm
  have enh := hnh.symm
  cases hbt : fineB th 0 0 400
  · have HB102 : Hid (fineB ⟨s.x0 + mw, s.y0 + nh, s.x1 + mw, s.y1 + nh⟩ 0 0 400 = false) := by rw [hth] at hbt; exact hbt
    clear g1 n1 krp hsm hrs k4 hbt hth HTH hmw hnh c_HR10 c_HB101 c_HE10 c_HH10
    go_enter Try.func3, Try.ntmps3
    go_wp2_with (first | (first | (go_at_call 9; refine (awake10 _ ).mono ?_; rintro e w' ⟨rfl, hgw⟩; first | (obtain ⟨gw, rfl⟩ := grows_of_grow hgw) | (obtain ⟨gw, rfl⟩ := hgw)) | (go_at_call 10; (with_reducible refine (ref10_RightIs _ _ _ _ _ _ _ (Lib.hid (hb1.out.grows (by repeat (first | exact Grows.refl _ | apply Grows.grow | apply Grows.alloc | apply Grows.drew)))) HR10).mono ?_); rintro e w' ⟨rfl, hgw⟩; first | (obtain ⟨gw, rfl⟩ := grows_of_grow hgw) | (obtain ⟨gw, rfl⟩ := hgw)) | (go_at_call 11; (with_reducible refine (law10_boxIs _ _ _ HB101).mono ?_); rintro e w' ⟨rfl, hgw⟩; first | (obtain ⟨gw, rfl⟩ := grows_of_grow hgw) | (obtain ⟨gw, rfl⟩ := hgw)) | (go_at_call 12; (with_reducible refine (ref03_emptyIs10 _ _ _ HE10).mono ?_); rintro e w' ⟨rfl, hgw⟩; first | (obtain ⟨gw, rfl⟩ := grows_of_grow hgw) | (obtain ⟨gw, rfl⟩ := hgw)) | (go_at_call 13; (with_reducible refine (ref10_HalfIs _ _ _ HH10).mono ?_); rintro e w' ⟨rfl, hgw⟩; first | (obtain ⟨gw, rfl⟩ := grows_of_grow hgw) | (obtain ⟨gw, rfl⟩ := hgw))) | (go_at_call 11; refine (law10_boxIs ⟨s.x0 + mw, s.y0 + nh, s.x1 + mw, s.y1 + nh⟩ _ _ HB102).mono ?_; rintro e w' ⟨rfl, hgw⟩; first | (obtain ⟨gw, rfl⟩ := grows_of_grow hgw) | (obtain ⟨gw, rfl⟩ := hgw)))
    go_ret
    exact ⟨rfl, (by repeat (first | exact Grows.refl _ | apply Grows.grow | apply Grows.alloc | apply Grows.drew))⟩
  obtain ⟨-, -, -, hrt, -, k5, -⟩ := fine_cnt hbt (by omega)
  have HB102 : Hid (fineB ⟨s.x0 + mw, s.y0 + nh, s.x1 + mw, s.y1 + nh⟩ 0 0 400 = true) := by rw [hth] at hbt; exact hbt
  obtain ⟨F, hF⟩ : ∃ F, F = imgOf r1 f1 := ⟨_, rfl⟩
  have X1 : Hid (BufAt w r1 a1 l1 p1 F) := by rw [hF]; exact bufAt_of g1 n1 hb1.out
  have htr : rightR t = true := (rightR_iff t).2 (by omega)
  have H1 : Hid (∀ W, Grows w W → Calls Try.prog 14 #[.agg #[.int .i64 r1.x0, .int .i64 r1.y0, .int .i64 r1.x1, .int .i64 r1.y1, .slice a1 l1 p1], .agg #[.int .i64 s.x0, .int .i64 s.y0, .int .i64 s.x1, .int .i64 s.y1], .agg #[.int .i64 t.x0, .int .i64 t.y0, .int .i64 t.x1, .int .i64 t.y1]] W (RetBuf W (someR s) (tileF s t F))) := fun W g => move_Tile s r1 t a1 l1 p1 F W (X1.out.grows g) (by omega) hrs (by omega) c_HE10 htr
  have H2 : Hid (∀ W, Grows w W → Calls Try.prog 14 #[.agg #[.int .i64 r1.x0, .int .i64 r1.y0, .int .i64 r1.x1, .int .i64 r1.y1, .slice a1 l1 p1], .agg #[.int .i64 (s.x0 + mw), .int .i64 (s.y0 + nh), .int .i64 (s.x1 + mw), .int .i64 (s.y1 + nh)], .agg #[.int .i64 t.x0, .int .i64 t.y0, .int .i64 t.x1, .int .i64 t.y1]] W (RetBuf W (someR th) (tileF th t F))) := fun W g => by
    have := move_Tile th r1 t a1 l1 p1 F W (X1.out.grows g) (by omega) hrt (by omega) c_HE10 htr
    rw [HTH.out.1, HTH.out.2.1, HTH.out.2.2.1, HTH.out.2.2.2] at this
    exact this
  have HCN : Hid (cntR (someR th) = cntR (someR s)) := by rw [hth]; exact shift_cnt s mw nh
  have HSH : Hid (∀ i : Nat, i < cntR (someR s) → tileF th t F (ptX (someR th) i) (ptY (someR th) i) = tileF s t F (ptX (someR s) i) (ptY (someR s) i)) := fun i hi => by
    rw [hth, hmw, hnh]; exact tile_shift m n hrs hi
  have HSF : Hid (∀ x y, hasR s x y = true → hasR t x y = true → tileF s t F x y = F x y) := fun x y a b => tile_self a b
  obtain ⟨B, hB⟩ : ∃ B, B = tileF s t F := ⟨_, rfl⟩
  obtain ⟨D, hD⟩ : ∃ B, B = tileF th t F := ⟨_, rfl⟩
  obtain ⟨g, hg⟩ : ∃ g, g = someR s := ⟨_, rfl⟩
  obtain ⟨h, hh⟩ : ∃ g, g = someR th := ⟨_, rfl⟩
  rw [← hB, ← hg] at H1
  rw [← hD, ← hh] at H2
  rw [← hh, ← hg] at HCN
  rw [← hB, ← hD, ← hg, ← hh] at HSH
  rw [← hB] at HSF
  rw [← hg] at k4
  rw [← hh] at k5
  clear g1 n1 krp hsm hrs hrt hbt hth HTH hmw hnh htr hF hB hD hg hh c_HR10 c_HB101 c_HE10 c_HH10
  go_enter Try.func3, Try.ntmps3
  go_wp2_with (first
    | (first | (go_at_call 9; refine (awake10 _ ).mono ?_; rintro e w' ⟨rfl, hgw⟩; first | (obtain ⟨gw, rfl⟩ := grows_of_grow hgw) | (obtain ⟨gw, rfl⟩ := hgw)) | (go_at_call 10; (with_reducible refine (ref10_RightIs _ _ _ _ _ _ _ (Lib.hid (hb1.out.grows (by repeat (first | exact Grows.refl _ | apply Grows.grow | apply Grows.alloc | apply Grows.drew)))) HR10).mono ?_); rintro e w' ⟨rfl, hgw⟩; first | (obtain ⟨gw, rfl⟩ := grows_of_grow hgw) | (obtain ⟨gw, rfl⟩ := hgw)) | (go_at_call 11; (with_reducible refine (law10_boxIs _ _ _ HB101).mono ?_); rintro e w' ⟨rfl, hgw⟩; first | (obtain ⟨gw, rfl⟩ := grows_of_grow hgw) | (obtain ⟨gw, rfl⟩ := hgw)) | (go_at_call 12; (with_reducible refine (ref03_emptyIs10 _ _ _ HE10).mono ?_); rintro e w' ⟨rfl, hgw⟩; first | (obtain ⟨gw, rfl⟩ := grows_of_grow hgw) | (obtain ⟨gw, rfl⟩ := hgw)) | (go_at_call 13; (with_reducible refine (ref10_HalfIs _ _ _ HH10).mono ?_); rintro e w' ⟨rfl, hgw⟩; first | (obtain ⟨gw, rfl⟩ := grows_of_grow hgw) | (obtain ⟨gw, rfl⟩ := hgw)))
    | (go_at_call 11; refine (law10_boxIs ⟨s.x0 + mw, s.y0 + nh, s.x1 + mw, s.y1 + nh⟩ _ _ HB102).mono ?_; rintro e w' ⟨rfl, hgw⟩; first | (obtain ⟨gv, rfl⟩ := grows_of_grow hgw) | (obtain ⟨gv, rfl⟩ := hgw))
    | (go_at_call 14; (with_reducible refine Calls.mono (H1.out _ ?_) ?_); (exact (by repeat (first | exact Grows.refl _ | apply Grows.grow | apply Grows.alloc | apply Grows.drew))); rintro e w' ⟨aq1, lq1, pq1, rfl, hgw, Hq1⟩; (first | (obtain ⟨ga, rfl⟩ := grows_of_grow hgw) | (obtain ⟨ga, rfl⟩ := hgw)); have HL1 := Lib.hid Hq1.out.1.count; have hmm1 := Hq1.out.1.most)
    | (go_at_call 14; (with_reducible refine Calls.mono (H2.out _ ?_) ?_); (exact (by repeat (first | exact Grows.refl _ | apply Grows.grow | apply Grows.alloc | apply Grows.drew))); rintro e w' ⟨aq2, lq2, pq2, rfl, hgw, Hq2⟩; (first | (obtain ⟨gb, rfl⟩ := grows_of_grow hgw) | (obtain ⟨gb, rfl⟩ := hgw)); have hll2 := Hq2.out.1.count.trans (HCN.out.trans HL1.out.symm); have hmm2 := Hq2.out.1.most; subst hll2))
  refine wp_name ?_
  intro W1 hW1
  have E0 : Hid (Blk W1 w.heap.size 26 #[.int .i64 r1.x0, .int .i64 r1.y0, .int .i64 r1.x1, .int .i64 r1.y1, .slice a1 l1 p1]) := by rw [hW1]; exact (by unfold Blk; repeat (first | exact blk_at _ _ _ (by first | omega | (simp; done) | (simp; omega)) | refine (blk_past _ _ _ (by first | omega | (simp; done) | (simp; omega))).trans ?_ | refine (heap_grow _ _ _ (by first | omega | (simp; done) | (simp; omega))).trans ?_ | refine (blk_drew _ _).trans ?_))
  have E1 : Hid (Blk W1 (w.heap.size + 1) 23 #[.int .i64 s.x0, .int .i64 s.y0, .int .i64 s.x1, .int .i64 s.y1]) := by rw [hW1]; exact (by unfold Blk; repeat (first | exact blk_at _ _ _ (by first | omega | (simp; done) | (simp; omega)) | refine (blk_past _ _ _ (by first | omega | (simp; done) | (simp; omega))).trans ?_ | refine (heap_grow _ _ _ (by first | omega | (simp; done) | (simp; omega))).trans ?_ | refine (blk_drew _ _).trans ?_))
  have E2 : Hid (Blk W1 (w.heap.size + 1 + 1) 23 #[.int .i64 t.x0, .int .i64 t.y0, .int .i64 t.x1, .int .i64 t.y1]) := by rw [hW1]; exact (by unfold Blk; repeat (first | exact blk_at _ _ _ (by first | omega | (simp; done) | (simp; omega)) | refine (blk_past _ _ _ (by first | omega | (simp; done) | (simp; omega))).trans ?_ | refine (heap_grow _ _ _ (by first | omega | (simp; done) | (simp; omega))).trans ?_ | refine (blk_drew _ _).trans ?_))
  have E3 : Hid (Blk W1 (w.heap.size + 1 + 1 + 1 + gw.news.size + 1 + ga.news.size) 26 #[.int .i64 g.x0, .int .i64 g.y0, .int .i64 g.x1, .int .i64 g.y1, .slice aq1 lq2 pq1]) := by rw [hW1]; exact (by unfold Blk; repeat (first | exact blk_at _ _ _ (by first | omega | (simp; done) | (simp; omega)) | refine (blk_past _ _ _ (by first | omega | (simp; done) | (simp; omega))).trans ?_ | refine (heap_grow _ _ _ (by first | omega | (simp; done) | (simp; omega))).trans ?_ | refine (blk_drew _ _).trans ?_))
  have E4 : Hid (Blk W1 (w.heap.size + 1 + 1 + 1 + gw.news.size + 1 + ga.news.size + 1 + gb.news.size) 26 #[.int .i64 h.x0, .int .i64 h.y0, .int .i64 h.x1, .int .i64 h.y1, .slice aq2 lq2 pq2]) := by rw [hW1]; exact (by unfold Blk; repeat (first | exact blk_at _ _ _ (by first | omega | (simp; done) | (simp; omega)) | refine (blk_past _ _ _ (by first | omega | (simp; done) | (simp; omega))).trans ?_ | refine (heap_grow _ _ _ (by first | omega | (simp; done) | (simp; omega))).trans ?_ | refine (blk_drew _ _).trans ?_))
  have Z1 : Hid (BufAt W1 g aq1 lq2 pq1 B) := by rw [hW1]; exact Hq1.out.1.grows (by repeat (first | exact Grows.refl _ | apply Grows.grow | apply Grows.alloc | apply Grows.drew))
  have Z2 : Hid (BufAt W1 h aq2 lq2 pq2 D) := by rw [hW1]; exact Hq2.out.1.grows (by repeat (first | exact Grows.refl _ | apply Grows.grow | apply Grows.alloc | apply Grows.drew))
  have GW1 : Hid (Grows w W1) := by rw [hW1]; exact (by repeat (first | exact Grows.refl _ | apply Grows.grow | apply Grows.alloc | apply Grows.drew))
  have X2 : Hid (BufAt W1 r1 a1 l1 p1 F) := X1.out.grows GW1.out
  have HZ : Hid (lq2 = cntR g) := HL1.out
  obtain ⟨ne, hne⟩ : ∃ n, n = w.heap.size + 1 + 1 + 1 + gw.news.size + 1 + ga.news.size + 1 + gb.news.size := ⟨_, rfl⟩
  rw [← hne] at E4 ⊢
  obtain ⟨nd, hnd⟩ : ∃ n, n = w.heap.size + 1 + 1 + 1 + gw.news.size + 1 + ga.news.size := ⟨_, rfl⟩
  rw [← hnd] at E3 ⊢
  clear hW1 hne hnd Hq1 Hq2 H1 H2 HL1 HB102
  go_loopw [16] (fun i wr => ∃ k : Nat, k ≤ lq2 ∧ i = .int .i64 k ∧ Hid (Grows W1 wr)) (fun i _ => lq2 - (intOf i).toNat)
  case atStart => exact ⟨0, by omega, rfl, Grows.refl _⟩
  case round =>
    obtain ⟨k, hk, rfl, hh⟩ := hrel
    have d3 := E3.out.grows hh.out
    obtain ⟨y0, y1, y2, y3, y4, yf⟩ := d3.c5
    have ly := d3.lt
    have d4 := E4.out.grows hh.out
    obtain ⟨x0, x1, x2, x3, x4, xf⟩ := d4.c5
    have lx := d4.lt
    clear d3 d4
    by_cases hlk : k < lq2
    · obtain ⟨b', off', rfl, hb', -, c0, c1, c2, c3⟩ := (Z1.out.pix.grows hh.out).px hlk
      obtain ⟨b'', off'', rfl, hb'', -, e0, e1, e2, e3⟩ := (Z2.out.pix.grows hh.out).px hlk
      have e := HSH.out k (by rw [← HZ.out]; exact hlk)
      simp only [e] at e0 e1 e2 e3
      obtain ⟨q, hq⟩ : ∃ q, q = B (ptX g k) (ptY g k) := ⟨_, rfl⟩
      rw [← hq] at c0 c1 c2 c3 e0 e1 e2 e3
      clear e hq
      go_wp2
      first | refine region_grow2 (by kernel_rfl) (by kernel_rfl) ?_ | refine region_grow (by kernel_rfl) (by kernel_rfl) ?_
      repeat (go_big_quiet_step (fail))
      refine wpQuiet_nil ?_
      rintro _ ⟨gc, rfl⟩
      go_wp2
      go_roundw
      case rel => exact ⟨k + 1, by omega, by go_num, hh.out.trans (by repeat (first | exact Grows.refl _ | apply Grows.grow | apply Grows.alloc | apply Grows.drew))⟩
      case measure => simp [intOf]; omega
    · obtain rfl : lq2 = k := by omega
      have d1 := E1.out.grows hh.out
      obtain ⟨s0, s1, s2, s3, sf⟩ := d1.c4
      have ls := d1.lt
      have G1 := Lib.hid hh.out
      clear d1
      go_wp2
      clear s0 s1 s2 s3 sf ls x0 x1 x2 x3 x4 xf lx y0 y1 y2 y3 y4 yf ly hh
      obtain ⟨wo, hwo⟩ : ∃ wo : World, wo = wr := ⟨_, rfl⟩
      have G2 : Hid (Grows W1 wo) := by rw [hwo]; exact G1.out
      go_loopw [17] (fun y wr => ∃ v : Int, s.y0 ≤ v ∧ v ≤ 4398046511104 ∧ y = .int .i64 v ∧ Hid (Grows W1 wr)) (fun y _ => (s.y1 - intOf y).toNat)
      case atStart => exact ⟨_, by omega, by omega, rfl, G1.out⟩
      case round =>
        obtain ⟨v, hv1, hv2, rfl, hh⟩ := hrel
        have d1 := E1.out.grows hh.out
        obtain ⟨s0, s1, s2, s3, sf⟩ := d1.c4
        have ls := d1.lt
        clear d1
        by_cases hlt : v < s.y1
        · go_wp2
          clear s0 s1 s2 s3 sf ls
          go_loopw [18] (fun x wr => ∃ u : Int, s.x0 ≤ u ∧ u ≤ 4398046511104 ∧ x = .int .i64 u ∧ Hid (Grows W1 wr)) (fun x _ => (s.x1 - intOf x).toNat)
          case atStart => exact ⟨_, by omega, by omega, rfl, hh.out⟩
          case round =>
            clear hh
            obtain ⟨u, hu1, hu2, rfl, hh⟩ := hrel
            have d1 := E1.out.grows hh.out
            obtain ⟨s0, s1, s2, s3, sf⟩ := d1.c4
            have ls := d1.lt
            clear d1
            by_cases hltx : u < s.x1
            · have hin : hasR s u v = true := (hasR_iff _ _ _).2 (by omega)
              have d2 := E2.out.grows hh.out
              obtain ⟨t0, t1, t2, t3, tf⟩ := d2.c4
              have lt := d2.lt
              clear d2
              cases hht : hasR t u v
              · have HHT := Lib.hid hht
                clear hht
                go_wp2
                first | refine region_grow2 (by kernel_rfl) (by kernel_rfl) ?_ | refine region_grow (by kernel_rfl) (by kernel_rfl) ?_
                repeat (go_big_quiet_step ((first | (go_at_call 15; exact grow_of (ref03_hasIs10 _ _ _ _ _ HHT)))))
                refine wpQuiet_nil ?_
                rintro _ ⟨gd, rfl⟩
                go_wp2
                go_roundw
                case rel => exact ⟨u + 1, by omega, by omega, by go_num, hh.out.trans (by repeat (first | exact Grows.refl _ | apply Grows.grow | apply Grows.alloc | apply Grows.drew))⟩
                case measure => simp [intOf]; omega
              · have HHT := Lib.hid hht
                obtain ⟨q, hq⟩ : ∃ q, q = F u v := ⟨_, rfl⟩
                have HQa : Hid (B u v = q) := by rw [hq]; exact HSF.out u v hin hht
                have HQb : Hid (F u v = q) := hq.symm
                have d3 := E3.out.grows hh.out
                obtain ⟨y0, y1, y2, y3, y4, yf⟩ := d3.c5
                have ly := d3.lt
                have d0 := E0.out.grows hh.out
                obtain ⟨b0, b1, b2, b3, b4, bf⟩ := d0.c5
                have l0 := d0.lt
                have Y1 := Lib.hid (Z1.out.grows hh.out)
                have Y2 := Lib.hid (X2.out.grows hh.out)
                clear hht hq d3 d0
                go_wp2
                first | refine region_grow2 (by kernel_rfl) (by kernel_rfl) ?_ | refine region_grow (by kernel_rfl) (by kernel_rfl) ?_
                repeat (go_big_quiet_step ((first | (go_at_call 15; exact grow_of (ref03_hasIs10 _ _ _ _ _ HHT)) | (go_at_call 16; exact grow_of (ref05_AtIs _ _ _ _ _ _ _ _ _ (Lib.hid (BufAt.grows Y1.out (by repeat (first | exact Grows.refl _ | apply Grows.grow | apply Grows.alloc | apply Grows.drew)))) (by omega) HQa)) | (go_at_call 16; exact grow_of (ref05_AtIs _ _ _ _ _ _ _ _ _ (Lib.hid (BufAt.grows Y2.out (by repeat (first | exact Grows.refl _ | apply Grows.grow | apply Grows.alloc | apply Grows.drew)))) (by omega) HQb)))))
                refine wpQuiet_nil ?_
                rintro _ ⟨gd, rfl⟩
                go_wp2
                go_roundw
                case rel => exact ⟨u + 1, by omega, by omega, by go_num, hh.out.trans (by repeat (first | exact Grows.refl _ | apply Grows.grow | apply Grows.alloc | apply Grows.drew))⟩
                case measure => simp [intOf]; omega
            · go_wp2
              go_roundw
              case rel => exact ⟨v + 1, by omega, by omega, by go_num, hh.out⟩
              case measure => simp [intOf]; omega
        · go_wp2
          go_ret
          exact ⟨rfl, GW1.out.trans hh.out⟩
end Go.Proofs.Yticeoppldlhehaa
