/- The walk of chapter 10's law MoveShadows. -/
import Derived.Test.YticeoppldlhehaaMoveU
import Derived.Test.YticeoppldlhehaaLaw10B
namespace Go.Proofs.Yticeoppldlhehaa
open Go.RowKit
set_option linter.unusedVariables false

def nearR (b : R) : Prop := (-1000000000 ≤ b.x0 ∧ b.x0 ≤ 1000000000) ∧ (-1000000000 ≤ b.y0 ∧ b.y0 ≤ 1000000000) ∧ (-1000000000 ≤ b.x1 ∧ b.x1 ≤ 1000000000) ∧ (-1000000000 ≤ b.y1 ∧ b.y1 ≤ 1000000000)
theorem grow_near {b : R} (hs : nearR b) (ne : emptyR b = false) {l u r d : Int} (hl : 0 ≤ l ∧ l ≤ 255) (hu : 0 ≤ u ∧ u ≤ 255) (hr : 0 ≤ r ∧ r ≤ 255) (hd : 0 ≤ d ∧ d ≤ 255) : growR b l u r d = ⟨b.x0 - l, b.y0 - u, b.x1 + r, b.y1 + d⟩ := by
  have k := (emptyR_not b).1 ne
  unfold nearR at hs
  have e : emptyR (⟨b.x0 - l, b.y0 - u, b.x1 + r, b.y1 + d⟩ : R) = false := (emptyR_not _).2 (by simp only; omega)
  unfold growR
  rw [if_neg (by simp [ne])]
  unfold wholeR
  rw [cutN_in _ (by simp only; omega), cutN_in _ (by simp only; omega), cutN_in _ (by simp only; omega), cutN_in _ (by simp only; omega)]
  unfold someR
  rw [if_neg (by simp [e])]
theorem shadow_facts {b : R} {dx dy rx ry n : Int} (h : fineB b rx ry n = true) (hn : n ≤ 900) (hdx : -16777216 ≤ dx ∧ dx ≤ 16777216) (hdy : -16777216 ≤ dy ∧ dy ≤ 16777216) :
    rightR (thereR (someR b) dx dy) = true ∧ cntR (growR (thereR (someR b) dx dy) 0 ry 0 ry) ≤ 900 ∧ cntR (someR (thereR (someR b) dx dy)) ≤ 900 := by
  obtain ⟨hsm, hrx, hry, hrs, k1, k2, -⟩ := fine_cnt h (by omega)
  cases he : emptyR b
  · have e : someR b = b := by simp [someR, he]
    have hs := hsm
    unfold smallR at hs
    rw [e] at k2 ⊢
    have hnr : nearR (thereR b dx dy) := by unfold nearR thereR; simp only; omega
    have k := (emptyR_not b).1 he
    have het : emptyR (thereR b dx dy) = false := (emptyR_not _).2 (by simp only [thereR]; omega)
    refine ⟨(rightR_iff _).2 (by simp only [thereR]; omega), ?_, ?_⟩
    · have c1 := (good_grow b 0 ry 0 ry).cnt
      have c2 := (good_grow (thereR b dx dy) 0 ry 0 ry).cnt
      rw [grow_small hsm he (by omega) hry (by omega) hry] at c1 k1
      rw [grow_near hnr het (by omega) hry (by omega) hry] at c2 ⊢
      have c3 : ((cntR _ : Nat) : Int) = (b.x1 + 0 - (b.x0 - 0)) * (b.y1 + ry - (b.y0 - ry)) := c1
      have c4 : ((cntR _ : Nat) : Int) = (b.x1 - dx + 0 - (b.x0 - dx - 0)) * (b.y1 - dy + ry - (b.y0 - dy - ry)) := c2
      have e5 : (b.x1 - dx + 0 - (b.x0 - dx - 0)) * (b.y1 - dy + ry - (b.y0 - dy - ry)) = (b.x1 + 0 - (b.x0 - 0)) * (b.y1 + ry - (b.y0 - ry)) := by congr 1 <;> omega
      clear c1 c2
      omega
    · rw [there_some he, there_cnt]; omega
  · have e : someR b = zeroR := by simp [someR, he]
    rw [e]
    have het : emptyR (thereR zeroR dx dy) = true := (emptyR_iff _).2 (by simp only [thereR, zeroR]; omega)
    refine ⟨(rightR_iff _).2 (by simp only [thereR, zeroR]; omega), ?_, ?_⟩
    · rw [show growR (thereR zeroR dx dy) 0 ry 0 ry = zeroR from by unfold growR; rw [if_pos het], cnt_zero]; omega
    · rw [show someR (thereR zeroR dx dy) = zeroR from by simp [someR, het], cnt_zero]; omega

set_option maxRecDepth 100000 in
set_option maxHeartbeats 25600000 in
theorem moveShadows_walk (r1 : R) (a1 : Option Addr) (l1 p1 : Nat) (f1 : Nat → P4) (s : R) (dx dy rx ry : Int) (p : P4) (w : World)
    (hb1 : IsPix w a1 l1 p1 f1) (hx : -9223372036854775808 ≤ dx ∧ dx ≤ 9223372036854775807) (hy : -9223372036854775808 ≤ dy ∧ dy ≤ 9223372036854775807) (hu : -9223372036854775808 ≤ rx ∧ rx ≤ 9223372036854775807) (hv : -9223372036854775808 ≤ ry ∧ ry ≤ 9223372036854775807) (hpx : okP p) :
    Calls Try.prog 7 #[.agg #[.int .i64 r1.x0, .int .i64 r1.y0, .int .i64 r1.x1, .int .i64 r1.y1, .slice a1 l1 p1], .agg #[.int .i64 s.x0, .int .i64 s.y0, .int .i64 s.x1, .int .i64 s.y1], .int .i64 dx, .int .i64 dy, .int .i64 rx, .int .i64 ry, .agg #[.int .u8 p.r, .int .u8 p.g, .int .u8 p.b, .int .u8 p.a]] w fun e w' => e = .returned (.bool true) ∧ Grows w w' := by
  have m1 := hb1.le
  have m1' := hb1.most
  replace hb1 := Lib.hid hb1
  cases c_HR10 : right10 l1 r1 f1
  case false =>
    have HR10 := Lib.hid c_HR10
    clear c_HR10
    go_enter Try.func7, Try.ntmps7
    go_wp2_with ((first | (go_at_call 9; refine (awake10 _ ).mono ?_; rintro e w' ⟨rfl, hgw⟩; first | (obtain ⟨gw, rfl⟩ := grows_of_grow hgw) | (obtain ⟨gw, rfl⟩ := hgw)) | (go_at_call 10; (with_reducible refine (ref10_RightIs _ _ _ _ _ _ _ (Lib.hid (hb1.out.grows (by repeat (first | exact Grows.refl _ | apply Grows.grow | apply Grows.alloc | apply Grows.drew)))) HR10).mono ?_); rintro e w' ⟨rfl, hgw⟩; first | (obtain ⟨gw, rfl⟩ := grows_of_grow hgw) | (obtain ⟨gw, rfl⟩ := hgw))))
    go_ret
    exact ⟨rfl, (by repeat (first | exact Grows.refl _ | apply Grows.grow | apply Grows.alloc | apply Grows.drew))⟩
  have HR10 := Lib.hid c_HR10
  by_cases d1 : 10 < rx
  · clear c_HR10
    go_enter Try.func7, Try.ntmps7
    go_wp2_with ((first | (go_at_call 9; refine (awake10 _ ).mono ?_; rintro e w' ⟨rfl, hgw⟩; first | (obtain ⟨gw, rfl⟩ := grows_of_grow hgw) | (obtain ⟨gw, rfl⟩ := hgw)) | (go_at_call 10; (with_reducible refine (ref10_RightIs _ _ _ _ _ _ _ (Lib.hid (hb1.out.grows (by repeat (first | exact Grows.refl _ | apply Grows.grow | apply Grows.alloc | apply Grows.drew)))) HR10).mono ?_); rintro e w' ⟨rfl, hgw⟩; first | (obtain ⟨gw, rfl⟩ := grows_of_grow hgw) | (obtain ⟨gw, rfl⟩ := hgw))))
    go_ret
    exact ⟨rfl, (by repeat (first | exact Grows.refl _ | apply Grows.grow | apply Grows.alloc | apply Grows.drew))⟩
  by_cases d2 : 10 < ry
  · clear c_HR10
    go_enter Try.func7, Try.ntmps7
    go_wp2_with ((first | (go_at_call 9; refine (awake10 _ ).mono ?_; rintro e w' ⟨rfl, hgw⟩; first | (obtain ⟨gw, rfl⟩ := grows_of_grow hgw) | (obtain ⟨gw, rfl⟩ := hgw)) | (go_at_call 10; (with_reducible refine (ref10_RightIs _ _ _ _ _ _ _ (Lib.hid (hb1.out.grows (by repeat (first | exact Grows.refl _ | apply Grows.grow | apply Grows.alloc | apply Grows.drew)))) HR10).mono ?_); rintro e w' ⟨rfl, hgw⟩; first | (obtain ⟨gw, rfl⟩ := grows_of_grow hgw) | (obtain ⟨gw, rfl⟩ := hgw))))
    go_ret
    exact ⟨rfl, (by repeat (first | exact Grows.refl _ | apply Grows.grow | apply Grows.alloc | apply Grows.drew))⟩
  cases c_HF10 : fineB s rx ry 900
  case false =>
    have HF10 := Lib.hid c_HF10
    clear c_HF10
    go_enter Try.func7, Try.ntmps7
    go_wp2_with ((first | (go_at_call 9; refine (awake10 _ ).mono ?_; rintro e w' ⟨rfl, hgw⟩; first | (obtain ⟨gw, rfl⟩ := grows_of_grow hgw) | (obtain ⟨gw, rfl⟩ := hgw)) | (go_at_call 10; (with_reducible refine (ref10_RightIs _ _ _ _ _ _ _ (Lib.hid (hb1.out.grows (by repeat (first | exact Grows.refl _ | apply Grows.grow | apply Grows.alloc | apply Grows.drew)))) HR10).mono ?_); rintro e w' ⟨rfl, hgw⟩; first | (obtain ⟨gw, rfl⟩ := grows_of_grow hgw) | (obtain ⟨gw, rfl⟩ := hgw)) | (go_at_call 30; (with_reducible refine (ref08_FineIs _ _ _ _ _ _ HF10).mono ?_); rintro e w' ⟨rfl, hgw⟩; first | (obtain ⟨gw, rfl⟩ := grows_of_grow hgw) | (obtain ⟨gw, rfl⟩ := hgw))))
    go_ret
    exact ⟨rfl, (by repeat (first | exact Grows.refl _ | apply Grows.grow | apply Grows.alloc | apply Grows.drew))⟩
  have HF10 := Lib.hid c_HF10
  cases c_HN101 : nearB dx
  case false =>
    have HN101 := Lib.hid c_HN101
    clear c_HN101
    go_enter Try.func7, Try.ntmps7
    go_wp2_with ((first | (go_at_call 9; refine (awake10 _ ).mono ?_; rintro e w' ⟨rfl, hgw⟩; first | (obtain ⟨gw, rfl⟩ := grows_of_grow hgw) | (obtain ⟨gw, rfl⟩ := hgw)) | (go_at_call 10; (with_reducible refine (ref10_RightIs _ _ _ _ _ _ _ (Lib.hid (hb1.out.grows (by repeat (first | exact Grows.refl _ | apply Grows.grow | apply Grows.alloc | apply Grows.drew)))) HR10).mono ?_); rintro e w' ⟨rfl, hgw⟩; first | (obtain ⟨gw, rfl⟩ := grows_of_grow hgw) | (obtain ⟨gw, rfl⟩ := hgw)) | (go_at_call 30; (with_reducible refine (ref08_FineIs _ _ _ _ _ _ HF10).mono ?_); rintro e w' ⟨rfl, hgw⟩; first | (obtain ⟨gw, rfl⟩ := grows_of_grow hgw) | (obtain ⟨gw, rfl⟩ := hgw)) | (go_at_call 18; (with_reducible refine (ref10_NearIs _ _ _ HN101).mono ?_); rintro e w' ⟨rfl, hgw⟩; first | (obtain ⟨gw, rfl⟩ := grows_of_grow hgw) | (obtain ⟨gw, rfl⟩ := hgw))))
    go_ret
    exact ⟨rfl, (by repeat (first | exact Grows.refl _ | apply Grows.grow | apply Grows.alloc | apply Grows.drew))⟩
  have HN101 := Lib.hid c_HN101
  cases c_HN102 : nearB dy
  case false =>
    have HN102 := Lib.hid c_HN102
    clear c_HN102
    go_enter Try.func7, Try.ntmps7
    go_wp2_with ((first | (go_at_call 9; refine (awake10 _ ).mono ?_; rintro e w' ⟨rfl, hgw⟩; first | (obtain ⟨gw, rfl⟩ := grows_of_grow hgw) | (obtain ⟨gw, rfl⟩ := hgw)) | (go_at_call 10; (with_reducible refine (ref10_RightIs _ _ _ _ _ _ _ (Lib.hid (hb1.out.grows (by repeat (first | exact Grows.refl _ | apply Grows.grow | apply Grows.alloc | apply Grows.drew)))) HR10).mono ?_); rintro e w' ⟨rfl, hgw⟩; first | (obtain ⟨gw, rfl⟩ := grows_of_grow hgw) | (obtain ⟨gw, rfl⟩ := hgw)) | (go_at_call 30; (with_reducible refine (ref08_FineIs _ _ _ _ _ _ HF10).mono ?_); rintro e w' ⟨rfl, hgw⟩; first | (obtain ⟨gw, rfl⟩ := grows_of_grow hgw) | (obtain ⟨gw, rfl⟩ := hgw)) | (go_at_call 18; (with_reducible refine (ref10_NearIs _ _ _ HN101).mono ?_); rintro e w' ⟨rfl, hgw⟩; first | (obtain ⟨gw, rfl⟩ := grows_of_grow hgw) | (obtain ⟨gw, rfl⟩ := hgw)) | (go_at_call 18; (with_reducible refine (ref10_NearIs _ _ _ HN102).mono ?_); rintro e w' ⟨rfl, hgw⟩; first | (obtain ⟨gw, rfl⟩ := grows_of_grow hgw) | (obtain ⟨gw, rfl⟩ := hgw))))
    go_ret
    exact ⟨rfl, (by repeat (first | exact Grows.refl _ | apply Grows.grow | apply Grows.alloc | apply Grows.drew))⟩
  have HN102 := Lib.hid c_HN102
  cases c_HP10 : rightT p.r p.g p.b p.a
  case false =>
    have HP10 := Lib.hid c_HP10
    clear c_HP10
    go_enter Try.func7, Try.ntmps7
    go_wp2_with ((first | (go_at_call 9; refine (awake10 _ ).mono ?_; rintro e w' ⟨rfl, hgw⟩; first | (obtain ⟨gw, rfl⟩ := grows_of_grow hgw) | (obtain ⟨gw, rfl⟩ := hgw)) | (go_at_call 10; (with_reducible refine (ref10_RightIs _ _ _ _ _ _ _ (Lib.hid (hb1.out.grows (by repeat (first | exact Grows.refl _ | apply Grows.grow | apply Grows.alloc | apply Grows.drew)))) HR10).mono ?_); rintro e w' ⟨rfl, hgw⟩; first | (obtain ⟨gw, rfl⟩ := grows_of_grow hgw) | (obtain ⟨gw, rfl⟩ := hgw)) | (go_at_call 30; (with_reducible refine (ref08_FineIs _ _ _ _ _ _ HF10).mono ?_); rintro e w' ⟨rfl, hgw⟩; first | (obtain ⟨gw, rfl⟩ := grows_of_grow hgw) | (obtain ⟨gw, rfl⟩ := hgw)) | (go_at_call 18; (with_reducible refine (ref10_NearIs _ _ _ HN101).mono ?_); rintro e w' ⟨rfl, hgw⟩; first | (obtain ⟨gw, rfl⟩ := grows_of_grow hgw) | (obtain ⟨gw, rfl⟩ := hgw)) | (go_at_call 18; (with_reducible refine (ref10_NearIs _ _ _ HN102).mono ?_); rintro e w' ⟨rfl, hgw⟩; first | (obtain ⟨gw, rfl⟩ := grows_of_grow hgw) | (obtain ⟨gw, rfl⟩ := hgw)) | (go_at_call 19; (with_reducible refine (ref01_rightIs _ _ _ (by assumption) HP10.out).mono ?_); rintro e w' ⟨rfl, hgw⟩; first | (obtain ⟨gw, rfl⟩ := grows_of_grow hgw) | (obtain ⟨gw, rfl⟩ := hgw))))
    go_ret
    exact ⟨rfl, (by repeat (first | exact Grows.refl _ | apply Grows.grow | apply Grows.alloc | apply Grows.drew))⟩
  have HP10 := Lib.hid c_HP10
  obtain ⟨k1, g1, n1, krp⟩ := right10_yes c_HR10
  obtain ⟨hsm, hrx, hry, hrs, -, k4, -⟩ := fine_cnt c_HF10 (by omega)
  have hdx : -16777216 ≤ dx ∧ dx ≤ 16777216 := of_decide_eq_true c_HN101
  have hdy : -16777216 ≤ dy ∧ dy ≤ 16777216 := of_decide_eq_true c_HN102
  obtain ⟨t1, t2, t3⟩ := shadow_facts c_HF10 (by omega) hdx hdy
  obtain ⟨F, hF⟩ : ∃ F, F = imgOf r1 f1 := ⟨_, rfl⟩
  have X1 : Hid (BufAt w r1 a1 l1 p1 F) := by rw [hF]; exact bufAt_of g1 n1 hb1.out
  have H1 : Hid (∀ W, Grows w W → Calls Try.prog 31 #[.agg #[.int .i64 r1.x0, .int .i64 r1.y0, .int .i64 r1.x1, .int .i64 r1.y1, .slice a1 l1 p1], .agg #[.int .i64 s.x0, .int .i64 s.y0, .int .i64 s.x1, .int .i64 s.y1], .int .i64 dx, .int .i64 dy, .int .i64 rx, .int .i64 ry, .agg #[.int .u8 p.r, .int .u8 p.g, .int .u8 p.b, .int .u8 p.a]] W (RetBuf W (someR s) (shadowF s dx dy rx ry p F))) := fun W g => move_Shadow s r1 a1 l1 p1 F dx dy rx ry p W (X1.out.grows g) (by omega) hrs (by omega) hpx hdx hdy (by omega) (by omega) t1 (by omega) (by omega)
  have H2 : Hid (∀ W, Grows w W → Calls Try.prog 32 #[.agg #[.int .i64 r1.x0, .int .i64 r1.y0, .int .i64 r1.x1, .int .i64 r1.y1, .slice a1 l1 p1], .agg #[.int .i64 s.x0, .int .i64 s.y0, .int .i64 s.x1, .int .i64 s.y1], .int .i64 dx, .int .i64 dy, .int .i64 rx, .int .i64 ry, .agg #[.int .u8 p.r, .int .u8 p.g, .int .u8 p.b, .int .u8 p.a]] W (RetBuf W (someR s) (shadowF s dx dy rx ry p F))) := fun W g => ref10_Shadow s r1 a1 l1 p1 F dx dy rx ry p W (X1.out.grows g) (by omega) hrs (by omega) hpx hdx hdy (by omega) (by omega) t1 (by omega) (by omega)
  obtain ⟨B, hB⟩ : ∃ B, B = shadowF s dx dy rx ry p F := ⟨_, rfl⟩
  obtain ⟨b, hb⟩ : ∃ t, t = someR s := ⟨_, rfl⟩
  rw [← hB, ← hb] at H1 H2
  clear g1 n1 krp hF hB hb hsm hrs k4 t1 t2 t3 X1 c_HR10 c_HF10 c_HN101 c_HN102 c_HP10
  go_enter Try.func7, Try.ntmps7
  go_wp2_with ((first | (go_at_call 9; refine (awake10 _ ).mono ?_; rintro e w' ⟨rfl, hgw⟩; first | (obtain ⟨gw, rfl⟩ := grows_of_grow hgw) | (obtain ⟨gw, rfl⟩ := hgw)) | (go_at_call 10; (with_reducible refine (ref10_RightIs _ _ _ _ _ _ _ (Lib.hid (hb1.out.grows (by repeat (first | exact Grows.refl _ | apply Grows.grow | apply Grows.alloc | apply Grows.drew)))) HR10).mono ?_); rintro e w' ⟨rfl, hgw⟩; first | (obtain ⟨gw, rfl⟩ := grows_of_grow hgw) | (obtain ⟨gw, rfl⟩ := hgw)) | (go_at_call 30; (with_reducible refine (ref08_FineIs _ _ _ _ _ _ HF10).mono ?_); rintro e w' ⟨rfl, hgw⟩; first | (obtain ⟨gw, rfl⟩ := grows_of_grow hgw) | (obtain ⟨gw, rfl⟩ := hgw)) | (go_at_call 18; (with_reducible refine (ref10_NearIs _ _ _ HN101).mono ?_); rintro e w' ⟨rfl, hgw⟩; first | (obtain ⟨gw, rfl⟩ := grows_of_grow hgw) | (obtain ⟨gw, rfl⟩ := hgw)) | (go_at_call 18; (with_reducible refine (ref10_NearIs _ _ _ HN102).mono ?_); rintro e w' ⟨rfl, hgw⟩; first | (obtain ⟨gw, rfl⟩ := grows_of_grow hgw) | (obtain ⟨gw, rfl⟩ := hgw)) | (go_at_call 19; (with_reducible refine (ref01_rightIs _ _ _ (by assumption) HP10.out).mono ?_); rintro e w' ⟨rfl, hgw⟩; first | (obtain ⟨gw, rfl⟩ := grows_of_grow hgw) | (obtain ⟨gw, rfl⟩ := hgw))))
  go_region_held3 (fun w' => w'.cell? ⟨w.heap.size, 0, none⟩ = some (.int .i64 r1.x0) ∧ w'.cell? ⟨w.heap.size, 1, none⟩ = some (.int .i64 r1.y0) ∧ w'.cell? ⟨w.heap.size, 2, none⟩ = some (.int .i64 r1.x1) ∧ w'.cell? ⟨w.heap.size, 3, none⟩ = some (.int .i64 r1.y1) ∧ w'.cell? ⟨w.heap.size, 4, none⟩ = some (.slice a1 l1 p1) ∧ w'.cell? ⟨w.heap.size + 1, 0, none⟩ = some (.int .i64 s.x0) ∧ w'.cell? ⟨w.heap.size + 1, 1, none⟩ = some (.int .i64 s.y0) ∧ w'.cell? ⟨w.heap.size + 1, 2, none⟩ = some (.int .i64 s.x1) ∧ w'.cell? ⟨w.heap.size + 1, 3, none⟩ = some (.int .i64 s.y1) ∧ w'.cell? ⟨w.heap.size + 1 + 1, 0, none⟩ = some (.int .u8 p.r) ∧ w'.cell? ⟨w.heap.size + 1 + 1, 1, none⟩ = some (.int .u8 p.g) ∧ w'.cell? ⟨w.heap.size + 1 + 1, 2, none⟩ = some (.int .u8 p.b) ∧ w'.cell? ⟨w.heap.size + 1 + 1, 3, none⟩ = some (.int .u8 p.a)) (go_simp) (first
    | (go_at_call 31; (with_reducible refine Calls.mono (H1.out _ ?_) ?_); (exact (by repeat (first | exact Grows.refl _ | apply Grows.grow | apply Grows.alloc | apply Grows.drew))); rintro e w' ⟨aq1, lq1, pq1, rfl, hgw, Hq1⟩; (first | (obtain ⟨ga, rfl⟩ := grows_of_grow hgw) | (obtain ⟨ga, rfl⟩ := hgw)); (try simp only [grow_drew] at Hq1))
    | (go_at_call 32; (with_reducible refine Calls.mono (H2.out _ ?_) ?_); (exact (by repeat (first | exact Grows.refl _ | apply Grows.grow | apply Grows.alloc | apply Grows.drew))); rintro e w' ⟨aq2, lq2, pq2, rfl, hgw, Hq2⟩; (first | (obtain ⟨gb, rfl⟩ := grows_of_grow hgw) | (obtain ⟨gb, rfl⟩ := hgw)); (try simp only [grow_drew] at Hq2))
    | (go_at_call 20; (with_reducible refine Calls.mono (ref05_Same b aq1 aq2 lq1 pq1 lq2 pq2 B _ ?_ ?_) ?_); (exact Lib.hid (BufAt.grows Hq1.out.1 (by assumption))); (exact Lib.hid (BufAt.grows Hq2.out.1 (by repeat (first | exact Grows.refl _ | apply Grows.grow | apply Grows.alloc | apply Grows.drew)))); rintro e w' ⟨rfl, hgw⟩; first | (obtain ⟨gc, rfl⟩ := grows_of_grow hgw) | (obtain ⟨gc, rfl⟩ := hgw)))
  go_wp2
  go_ret
  exact ⟨rfl, (by repeat (first | exact Grows.refl _ | apply Grows.grow | apply Grows.alloc | apply Grows.drew))⟩
end Go.Proofs.Yticeoppldlhehaa
