/- The walk of chapter 9's law MorphBoxes. -/
import Derived.Test.YtbpcpndiohlchaaLaw09A
import Derived.Test.YtbpcpndiohlchaaRef5S
import Derived.Deep.RegionHeld3
namespace Go.Proofs.Ytbpcpndiohlchaa
open Go.RowKit
set_option linter.unusedVariables false

set_option maxHeartbeats 12800000 in
theorem morphBoxes_walk (r1 : R) (a1 : Option Addr) (l1 p1 : Nat) (f1 : Nat → P4) (s : R) (rx ry : Int) (w : World)
    (hb1 : IsPix w a1 l1 p1 f1) (hx : -9223372036854775808 ≤ rx ∧ rx ≤ 9223372036854775807) (hy : -9223372036854775808 ≤ ry ∧ ry ≤ 9223372036854775807) :
    Calls Try.prog 3 #[.agg #[.int .i64 r1.x0, .int .i64 r1.y0, .int .i64 r1.x1, .int .i64 r1.y1, .slice a1 l1 p1], .agg #[.int .i64 s.x0, .int .i64 s.y0, .int .i64 s.x1, .int .i64 s.y1], .int .i64 rx, .int .i64 ry] w fun e w' => e = .returned (.bool true) ∧ Grows w w' := by
  have m1 := hb1.le
  have m1' := hb1.most
  have h1 := Lib.hid hb1
  clear hb1
  by_cases c1 : fine09 l1 r1 s rx ry = false
  · have C1 := Lib.hid c1
    clear c1
    go_enter Try.func3, Try.ntmps3
    go_wp2_with ((first | (go_at_call 9; refine (awake09 _ ).mono ?_; rintro e w' ⟨rfl, hgw⟩; first | (obtain ⟨gw, rfl⟩ := grows_of_grow hgw) | (obtain ⟨gw, rfl⟩ := hgw)) | (go_at_call 10; (with_reducible refine (law09_fineIs _ _ _ _ _ _ _ _ _ (by omega) (by omega) C1).mono ?_); rintro e w' ⟨rfl, hgw⟩; first | (obtain ⟨gw, rfl⟩ := grows_of_grow hgw) | (obtain ⟨gw, rfl⟩ := hgw))))
    go_ret
    exact ⟨rfl, (by repeat (first | exact Grows.refl _ | apply Grows.grow | apply Grows.alloc | apply Grows.drew))⟩
  have C1 := Lib.hid (bool_yes c1)
  obtain ⟨k1, g1, n1, k2, hrx, hry, hsm, hrs, k3, k4⟩ := fine09_yes C1.out
  obtain ⟨rx, rfl⟩ : ∃ n : Nat, rx = n := ⟨rx.toNat, by omega⟩
  obtain ⟨ry, rfl⟩ : ∃ n : Nat, ry = n := ⟨ry.toNat, by omega⟩
  obtain ⟨F, hF⟩ : ∃ F, F = imgOf r1 f1 := ⟨_, rfl⟩
  have X1 : Hid (BufAt w r1 a1 l1 p1 F) := by rw [hF]; exact bufAt_of g1 n1 h1.out
  have HB1 : Hid (∀ W, Grows w W → Calls Try.prog 12 #[.agg #[.int .i64 r1.x0, .int .i64 r1.y0, .int .i64 r1.x1, .int .i64 r1.y1, .slice a1 l1 p1], .agg #[.int .i64 s.x0, .int .i64 s.y0, .int .i64 s.x1, .int .i64 s.y1], .int .i64 (rx : Int), .int .i64 (ry : Int)] W (RetBuf W (someR s) (docM false s rx ry F))) := fun W g => by
    have := morph_Least s r1 a1 l1 p1 F rx ry W (X1.out.grows g) (by omega) hrs (by omega) (by omega) (by omega) (by omega)
    rwa [boxM_doc hsm (by omega)] at this
  have HB2 : Hid (∀ W, Grows w W → Calls Try.prog 14 #[.agg #[.int .i64 r1.x0, .int .i64 r1.y0, .int .i64 r1.x1, .int .i64 r1.y1, .slice a1 l1 p1], .agg #[.int .i64 s.x0, .int .i64 s.y0, .int .i64 s.x1, .int .i64 s.y1], .int .i64 (rx : Int), .int .i64 (ry : Int)] W (RetBuf W (someR s) (docM true s rx ry F))) := fun W g => by
    have := morph_Most s r1 a1 l1 p1 F rx ry W (X1.out.grows g) (by omega) hrs (by omega) (by omega) (by omega) (by omega)
    rwa [boxM_doc hsm (by omega)] at this
  have HD1 : Hid (∀ W, Grows w W → Calls Try.prog 13 #[.agg #[.int .i64 r1.x0, .int .i64 r1.y0, .int .i64 r1.x1, .int .i64 r1.y1, .slice a1 l1 p1], .agg #[.int .i64 s.x0, .int .i64 s.y0, .int .i64 s.x1, .int .i64 s.y1], .int .i64 (rx : Int), .int .i64 (ry : Int), .bool false] W (RetBuf W (someR s) (docM false s rx ry F))) := fun W g => ref09_Box s r1 a1 l1 p1 F rx ry false W (X1.out.grows g) (by omega) hrs (by omega) (by omega) (by omega) (by omega) (by omega)
  have HD2 : Hid (∀ W, Grows w W → Calls Try.prog 13 #[.agg #[.int .i64 r1.x0, .int .i64 r1.y0, .int .i64 r1.x1, .int .i64 r1.y1, .slice a1 l1 p1], .agg #[.int .i64 s.x0, .int .i64 s.y0, .int .i64 s.x1, .int .i64 s.y1], .int .i64 (rx : Int), .int .i64 (ry : Int), .bool true] W (RetBuf W (someR s) (docM true s rx ry F))) := fun W g => ref09_Box s r1 a1 l1 p1 F rx ry true W (X1.out.grows g) (by omega) hrs (by omega) (by omega) (by omega) (by omega) (by omega)
  obtain ⟨B, hB⟩ : ∃ B, B = docM false s rx ry F := ⟨_, rfl⟩
  obtain ⟨B', hB'⟩ : ∃ B, B = docM true s rx ry F := ⟨_, rfl⟩
  obtain ⟨t, ht⟩ : ∃ t, t = someR s := ⟨_, rfl⟩
  rw [← hB, ← ht] at HB1 HD1
  rw [← hB', ← ht] at HB2 HD2
  clear c1 g1 n1 hF hB hB' ht hsm hrs k3 k4 X1 h1
  go_enter Try.func3, Try.ntmps3
  go_wp2_with ((first | (go_at_call 9; refine (awake09 _ ).mono ?_; rintro e w' ⟨rfl, hgw⟩; first | (obtain ⟨gw, rfl⟩ := grows_of_grow hgw) | (obtain ⟨gw, rfl⟩ := hgw)) | (go_at_call 10; (with_reducible refine (law09_fineIs _ _ _ _ _ _ _ _ _ (by omega) (by omega) C1).mono ?_); rintro e w' ⟨rfl, hgw⟩; first | (obtain ⟨gw, rfl⟩ := grows_of_grow hgw) | (obtain ⟨gw, rfl⟩ := hgw))))
  go_region_held3 (fun w' => w'.cell? ⟨w.heap.size, 0, none⟩ = some (.int .i64 r1.x0) ∧ w'.cell? ⟨w.heap.size, 1, none⟩ = some (.int .i64 r1.y0) ∧ w'.cell? ⟨w.heap.size, 2, none⟩ = some (.int .i64 r1.x1) ∧ w'.cell? ⟨w.heap.size, 3, none⟩ = some (.int .i64 r1.y1) ∧ w'.cell? ⟨w.heap.size, 4, none⟩ = some (.slice a1 l1 p1) ∧ w'.cell? ⟨w.heap.size + 1, 0, none⟩ = some (.int .i64 s.x0) ∧ w'.cell? ⟨w.heap.size + 1, 1, none⟩ = some (.int .i64 s.y0) ∧ w'.cell? ⟨w.heap.size + 1, 2, none⟩ = some (.int .i64 s.x1) ∧ w'.cell? ⟨w.heap.size + 1, 3, none⟩ = some (.int .i64 s.y1)) (go_simp) (first
    | (go_at_call 12; (with_reducible refine Calls.mono (HB1.out _ ?_) ?_); (exact (by repeat (first | exact Grows.refl _ | apply Grows.grow | apply Grows.alloc | apply Grows.drew))); rintro e w' ⟨aq1, lq1, pq1, rfl, hgw, HQ1⟩; (first | (obtain ⟨gw, rfl⟩ := grows_of_grow hgw) | (obtain ⟨gw, rfl⟩ := hgw)); (try simp only [grow_drew] at HQ1))
    | (go_at_call 13; (with_reducible refine Calls.mono (HD1.out _ ?_) ?_); (exact (by repeat (first | exact Grows.refl _ | apply Grows.grow | apply Grows.alloc | apply Grows.drew))); rintro e w' ⟨aq2, lq2, pq2, rfl, hgw, HQ2⟩; (first | (obtain ⟨gw, rfl⟩ := grows_of_grow hgw) | (obtain ⟨gw, rfl⟩ := hgw)); (try simp only [grow_drew] at HQ2))
    | (go_at_call 11; (with_reducible refine Calls.mono (ref05_Same t aq1 aq2 lq1 pq1 lq2 pq2 B _ ?_ ?_) ?_); (exact BufAt.grows HQ1.out.1 (by assumption)); (exact BufAt.grows HQ2.out.1 (by repeat (first | exact Grows.refl _ | apply Grows.grow | apply Grows.alloc | apply Grows.drew))); rintro e w' ⟨rfl, hgw⟩; first | (obtain ⟨gw, rfl⟩ := grows_of_grow hgw) | (obtain ⟨gw, rfl⟩ := hgw))
    | (go_at_call 14; (with_reducible refine Calls.mono (HB2.out _ ?_) ?_); (exact (by repeat (first | exact Grows.refl _ | apply Grows.grow | apply Grows.alloc | apply Grows.drew))); rintro e w' ⟨aq3, lq3, pq3, rfl, hgw, HQ3⟩; (first | (obtain ⟨gw, rfl⟩ := grows_of_grow hgw) | (obtain ⟨gw, rfl⟩ := hgw)); (try simp only [grow_drew] at HQ3))
    | (go_at_call 13; (with_reducible refine Calls.mono (HD2.out _ ?_) ?_); (exact (by repeat (first | exact Grows.refl _ | apply Grows.grow | apply Grows.alloc | apply Grows.drew))); rintro e w' ⟨aq4, lq4, pq4, rfl, hgw, HQ4⟩; (first | (obtain ⟨gw, rfl⟩ := grows_of_grow hgw) | (obtain ⟨gw, rfl⟩ := hgw)); (try simp only [grow_drew] at HQ4))
    | (go_at_call 11; (with_reducible refine Calls.mono (ref05_Same t aq3 aq4 lq3 pq3 lq4 pq4 B' _ ?_ ?_) ?_); (exact BufAt.grows HQ3.out.1 (by assumption)); (exact BufAt.grows HQ4.out.1 (by repeat (first | exact Grows.refl _ | apply Grows.grow | apply Grows.alloc | apply Grows.drew))); rintro e w' ⟨rfl, hgw⟩; first | (obtain ⟨gw, rfl⟩ := grows_of_grow hgw) | (obtain ⟨gw, rfl⟩ := hgw)))
  go_wp2
  go_ret
  exact ⟨rfl, (by repeat (first | exact Grows.refl _ | apply Grows.grow | apply Grows.alloc | apply Grows.drew))⟩
end Go.Proofs.Ytbpcpndiohlchaa
