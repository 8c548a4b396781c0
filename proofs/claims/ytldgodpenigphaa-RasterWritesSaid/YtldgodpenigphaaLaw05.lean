/- The walk of chapter 5's law RasterWrites. -/
import Derived.Test.YtldgodpenigphaaLaw05N
import Derived.Test.YtldgodpenigphaaLaw05Y
namespace Go.Proofs.Ytldgodpenigphaa
open Go.RowKit
set_option linter.unusedVariables false

set_option maxHeartbeats 12800000 in
theorem rasterWrites_walk (r1 : R) (a1 : Option Addr) (l1 p1 : Nat) (f1 : Nat → P4) (r2 : R) (a2 : Option Addr) (l2 p2 : Nat) (f2 : Nat → P4) (s : R) (dx dy : Int) (p : P4) (w : World)
    (hb1 : IsPix w a1 l1 p1 f1) (hb2 : IsPix w a2 l2 p2 f2) (hdx : -9223372036854775808 ≤ dx ∧ dx ≤ 9223372036854775807) (hdy : -9223372036854775808 ≤ dy ∧ dy ≤ 9223372036854775807) (hp : okP p) :
    Calls Try.prog 3 #[.agg #[.int .i64 r1.x0, .int .i64 r1.y0, .int .i64 r1.x1, .int .i64 r1.y1, .slice a1 l1 p1], .agg #[.int .i64 r2.x0, .int .i64 r2.y0, .int .i64 r2.x1, .int .i64 r2.y1, .slice a2 l2 p2], .agg #[.int .i64 s.x0, .int .i64 s.y0, .int .i64 s.x1, .int .i64 s.y1], .int .i64 dx, .int .i64 dy, .agg #[.int .u8 p.r, .int .u8 p.g, .int .u8 p.b, .int .u8 p.a]] w fun e w' => e = .returned (.bool true) ∧ Grows w w' := by
  have m1 := hb1.le
  have m1' := hb1.most
  have m2 := hb2.le
  have m2' := hb2.most
  have h1 := Lib.hid hb1
  have h2 := Lib.hid hb2
  clear hb1 hb2
  by_cases c1 : (decide (l1 ≤ 2000) && bufB r1 l1) = false
  · have C1 := Lib.hid c1
    clear c1
    go_enter Try.func3, Try.ntmps3
    go_wp2_with ((first | (go_at_call 11; refine (awake05 _ ).mono ?_; rintro e w' ⟨rfl, hgw⟩; first | (obtain ⟨gw, rfl⟩ := grows_of_grow hgw) | (obtain ⟨gw, rfl⟩ := hgw)) | (go_at_call 12; (with_reducible refine (law05_rightIs _ _ _ _ _ _ (by omega) (by omega) C1).mono ?_); rintro e w' ⟨rfl, hgw⟩; first | (obtain ⟨gw, rfl⟩ := grows_of_grow hgw) | (obtain ⟨gw, rfl⟩ := hgw))))
    go_ret
    exact ⟨rfl, (by repeat (first | exact Grows.refl _ | apply Grows.grow | apply Grows.alloc | apply Grows.drew))⟩
  have C1 := Lib.hid (bool_yes c1)
  clear c1
  by_cases c2 : (decide (l2 ≤ 2000) && bufB r2 l2) = false
  · have C2 := Lib.hid c2
    clear c2
    go_enter Try.func3, Try.ntmps3
    go_wp2_with ((first | (go_at_call 11; refine (awake05 _ ).mono ?_; rintro e w' ⟨rfl, hgw⟩; first | (obtain ⟨gw, rfl⟩ := grows_of_grow hgw) | (obtain ⟨gw, rfl⟩ := hgw)) | (go_at_call 12; (with_reducible refine (law05_rightIs _ _ _ _ _ _ (by omega) (by omega) C1).mono ?_); rintro e w' ⟨rfl, hgw⟩; first | (obtain ⟨gw, rfl⟩ := grows_of_grow hgw) | (obtain ⟨gw, rfl⟩ := hgw)) | (go_at_call 12; (with_reducible refine (law05_rightIs _ _ _ _ _ _ (by omega) (by omega) C2).mono ?_); rintro e w' ⟨rfl, hgw⟩; first | (obtain ⟨gw, rfl⟩ := grows_of_grow hgw) | (obtain ⟨gw, rfl⟩ := hgw))))
    go_ret
    exact ⟨rfl, (by repeat (first | exact Grows.refl _ | apply Grows.grow | apply Grows.alloc | apply Grows.drew))⟩
  have C2 := Lib.hid (bool_yes c2)
  clear c2
  cases c3 : rightR s
  · go_enter Try.func3, Try.ntmps3
    go_wp2_with ((first | (go_at_call 11; refine (awake05 _ ).mono ?_; rintro e w' ⟨rfl, hgw⟩; first | (obtain ⟨gw, rfl⟩ := grows_of_grow hgw) | (obtain ⟨gw, rfl⟩ := hgw)) | (go_at_call 12; (with_reducible refine (law05_rightIs _ _ _ _ _ _ (by omega) (by omega) C1).mono ?_); rintro e w' ⟨rfl, hgw⟩; first | (obtain ⟨gw, rfl⟩ := grows_of_grow hgw) | (obtain ⟨gw, rfl⟩ := hgw)) | (go_at_call 12; (with_reducible refine (law05_rightIs _ _ _ _ _ _ (by omega) (by omega) C2).mono ?_); rintro e w' ⟨rfl, hgw⟩; first | (obtain ⟨gw, rfl⟩ := grows_of_grow hgw) | (obtain ⟨gw, rfl⟩ := hgw)) | (go_at_call 13; refine (ref03_rightIs _ _ _ (by assumption)).mono ?_; rintro e w' ⟨rfl, hgw⟩; first | (obtain ⟨gw, rfl⟩ := grows_of_grow hgw) | (obtain ⟨gw, rfl⟩ := hgw))))
    go_ret
    exact ⟨rfl, (by repeat (first | exact Grows.refl _ | apply Grows.grow | apply Grows.alloc | apply Grows.drew))⟩
  cases c4 : nearN dx
  · go_enter Try.func3, Try.ntmps3
    go_wp2_with ((first | (go_at_call 11; refine (awake05 _ ).mono ?_; rintro e w' ⟨rfl, hgw⟩; first | (obtain ⟨gw, rfl⟩ := grows_of_grow hgw) | (obtain ⟨gw, rfl⟩ := hgw)) | (go_at_call 12; (with_reducible refine (law05_rightIs _ _ _ _ _ _ (by omega) (by omega) C1).mono ?_); rintro e w' ⟨rfl, hgw⟩; first | (obtain ⟨gw, rfl⟩ := grows_of_grow hgw) | (obtain ⟨gw, rfl⟩ := hgw)) | (go_at_call 12; (with_reducible refine (law05_rightIs _ _ _ _ _ _ (by omega) (by omega) C2).mono ?_); rintro e w' ⟨rfl, hgw⟩; first | (obtain ⟨gw, rfl⟩ := grows_of_grow hgw) | (obtain ⟨gw, rfl⟩ := hgw)) | (go_at_call 13; refine (ref03_rightIs _ _ _ (by assumption)).mono ?_; rintro e w' ⟨rfl, hgw⟩; first | (obtain ⟨gw, rfl⟩ := grows_of_grow hgw) | (obtain ⟨gw, rfl⟩ := hgw)) | (go_at_call 14; refine (ref03_near _ _ ).mono ?_; rintro e w' ⟨rfl, rfl⟩)))
    go_ret
    exact ⟨rfl, (by repeat (first | exact Grows.refl _ | apply Grows.grow | apply Grows.alloc | apply Grows.drew))⟩
  cases c5 : nearN dy
  · go_enter Try.func3, Try.ntmps3
    go_wp2_with ((first | (go_at_call 11; refine (awake05 _ ).mono ?_; rintro e w' ⟨rfl, hgw⟩; first | (obtain ⟨gw, rfl⟩ := grows_of_grow hgw) | (obtain ⟨gw, rfl⟩ := hgw)) | (go_at_call 12; (with_reducible refine (law05_rightIs _ _ _ _ _ _ (by omega) (by omega) C1).mono ?_); rintro e w' ⟨rfl, hgw⟩; first | (obtain ⟨gw, rfl⟩ := grows_of_grow hgw) | (obtain ⟨gw, rfl⟩ := hgw)) | (go_at_call 12; (with_reducible refine (law05_rightIs _ _ _ _ _ _ (by omega) (by omega) C2).mono ?_); rintro e w' ⟨rfl, hgw⟩; first | (obtain ⟨gw, rfl⟩ := grows_of_grow hgw) | (obtain ⟨gw, rfl⟩ := hgw)) | (go_at_call 13; refine (ref03_rightIs _ _ _ (by assumption)).mono ?_; rintro e w' ⟨rfl, hgw⟩; first | (obtain ⟨gw, rfl⟩ := grows_of_grow hgw) | (obtain ⟨gw, rfl⟩ := hgw)) | (go_at_call 14; refine (ref03_near _ _ ).mono ?_; rintro e w' ⟨rfl, rfl⟩)))
    go_ret
    exact ⟨rfl, (by repeat (first | exact Grows.refl _ | apply Grows.grow | apply Grows.alloc | apply Grows.drew))⟩
  have q1 : l1 ≤ 2000 ∧ bufB r1 l1 = true := by simpa using C1.out
  have q2 : l2 ≤ 2000 ∧ bufB r2 l2 = true := by simpa using C2.out
  obtain ⟨g1, n1⟩ := bufB_yes q1.2 (by omega)
  obtain ⟨g2, n2⟩ := bufB_yes q2.2 (by omega)
  have hdx' := (nearN_iff dx).1 c4
  have hdy' := (nearN_iff dy).1 c5
  obtain ⟨F, hF⟩ : ∃ F, F = imgOf r1 f1 := ⟨_, rfl⟩
  obtain ⟨G, hG⟩ : ∃ G, G = imgOf r2 f2 := ⟨_, rfl⟩
  have X1 : Hid (BufAt w r1 a1 l1 p1 F) := by rw [hF]; exact bufAt_of g1 n1 h1.out
  have X2 : Hid (BufAt w r2 a2 l2 p2 G) := by rw [hG]; exact bufAt_of g2 n2 h2.out
  have k1 := q1.1
  have k2 := q2.1
  have kc1 : cntR r1 ≤ 2000 := by omega
  have kc2 : cntR r2 ≤ 2000 := by omega
  have kl : littleB s 5000 = true → cntR (someR s) ≤ 5000 := fun h => by have := (cnt_little h (by omega)).2; omega
  have KL := Lib.hid kl
  clear q1 q2 g1 g2 n1 n2 hF hG hdx hdy kl
  have hlit : littleB s 5000 = false ∨ (littleB s 5000 = true ∧ cntR (someR s) ≤ 5000) := by
    cases c6 : littleB s 5000
    · exact .inl rfl
    · exact .inr ⟨rfl, KL.out c6⟩
  rcases hlit with c6 | ⟨c6, klt⟩
  · exact rasterWrites_no r1 a1 l1 p1 r2 a2 l2 p2 s dx dy p w F G m1 m1' m2 m2' C1 C2 c3 c4 c5 hdx' hdy' X1 X2 k1 k2 kc1 kc2 hp c6
  · exact rasterWrites_yes r1 a1 l1 p1 r2 a2 l2 p2 s dx dy p w F G m1 m1' m2 m2' C1 C2 c3 c4 c5 hdx' hdy' X1 X2 k1 k2 kc1 kc2 hp c6 klt
end Go.Proofs.Ytldgodpenigphaa
