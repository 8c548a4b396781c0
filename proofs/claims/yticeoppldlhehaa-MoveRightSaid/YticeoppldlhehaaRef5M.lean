/- The walks of layer 5's smaller functions: is a buffer right? is a rectangle little? -/
import Derived.Test.YticeoppldlhehaaRef5
namespace Go.Proofs.Yticeoppldlhehaa
open Go.RowKit
set_option linter.unusedVariables false

/-- Is a buffer right, by its rectangle and its length? -/
def bufB (r : R) (len : Nat) : Bool := if emptyR r = true then (r.x0 == 0 && (r.y0 == 0 && (r.x1 == 0 && r.y1 == 0))) && len == 0 else rightR r && ((len : Int) == areaR r)
theorem bufB_yes {r : R} {len : Nat} (h : bufB r len = true) (hl : len ≤ 30000000000000) : GoodR r ∧ len = cntR r := by
  unfold bufB at h
  split at h
  · rename_i he
    simp at h
    obtain ⟨⟨h0, h1, h2, h3⟩, h4⟩ := h
    have hz : r = zeroR := by obtain ⟨a, b, c, d⟩ := r; simp at h0 h1 h2 h3; subst h0 h1 h2 h3; rfl
    subst hz
    exact ⟨goodR_zero, by rw [h4]; exact cnt_zero.symm⟩
  · rename_i he
    simp at h
    have hg : GoodR r := ⟨h.1, fun e => absurd e he⟩
    refine ⟨hg, ?_⟩
    have := hg.area (by omega)
    omega

theorem ref03_rightIs (r : R) (w : World) (b : Bool) (h : rightR r = b) : Calls Try.prog 17 #[.agg #[.int .i64 r.x0, .int .i64 r.y0, .int .i64 r.x1, .int .i64 r.y1]] w fun e w' => e = .returned (.bool b) ∧ Grows w w' := by
  have := ref03_rightR r w
  rwa [h] at this

set_option maxHeartbeats 1600000 in
theorem ref05_Right (r : R) (a : Option Addr) (len cap : Nat) (w : World) (hl : len ≤ 9223372036854775807) :
    Calls Try.prog 34 #[.agg #[.int .i64 r.x0, .int .i64 r.y0, .int .i64 r.x1, .int .i64 r.y1, .slice a len cap]] w fun e w' => e = .returned (.bool (bufB r len)) ∧ Grows w w' := by
  cases he : emptyR r
  · have e : bufB r len = (rightR r && ((len : Int) == areaR r)) := by simp [bufB, he]
    rw [e]
    clear e
    cases hr : rightR r
    · go_enter Try.func34, Try.ntmps34
      go_wp2_with ((first | (go_at_call 12; refine (ref03_emptyR _ _).mono ?_; rintro e w' ⟨rfl, hgw⟩; first | (obtain ⟨gw, rfl⟩ := grows_of_grow hgw) | (obtain ⟨gw, rfl⟩ := hgw))))
      first | refine region_grow2 (by kernel_rfl) (by kernel_rfl) ?_ | refine region_grow (by kernel_rfl) (by kernel_rfl) ?_
      repeat (go_big_quiet_step ((first | (go_at_call 17; exact grow_of (ref03_rightIs _ _ _ (by assumption))))))
      refine wpQuiet_nil ?_
      rintro _ ⟨gr, rfl⟩
      go_wp2
      go_ret
      exact ⟨rfl, (by repeat (first | exact Grows.refl _ | apply Grows.grow | apply Grows.alloc | apply Grows.drew))⟩
    · have hrr := hr
      have HR := Lib.hid hrr
      clear hrr
      go_enter Try.func34, Try.ntmps34
      go_wp2_with ((first | (go_at_call 12; refine (ref03_emptyR _ _).mono ?_; rintro e w' ⟨rfl, hgw⟩; first | (obtain ⟨gw, rfl⟩ := grows_of_grow hgw) | (obtain ⟨gw, rfl⟩ := hgw))))
      first | refine region_grow2 (by kernel_rfl) (by kernel_rfl) ?_ | refine region_grow (by kernel_rfl) (by kernel_rfl) ?_
      repeat (go_big_quiet_step ((first | (go_at_call 17; exact grow_of (ref03_rightIs _ _ _ (by assumption))) | (go_at_call 50; exact grow_of (ref03_areaR _ _ HR.out)))))
      refine wpQuiet_nil ?_
      rintro _ ⟨gr, rfl⟩
      go_wp2
      go_ret
      exact ⟨ret_b (by simp), (by repeat (first | exact Grows.refl _ | apply Grows.grow | apply Grows.alloc | apply Grows.drew))⟩
  · have e : bufB r len = ((r.x0 == 0 && (r.y0 == 0 && (r.x1 == 0 && r.y1 == 0))) && len == 0) := by simp [bufB, he]
    rw [e]
    clear e
    by_cases hz : r.x0 = 0 ∧ r.y0 = 0 ∧ r.x1 = 0 ∧ r.y1 = 0
    · obtain ⟨x0, y0, x1, y1⟩ := r
      obtain ⟨z0, z1, z2, z3⟩ := hz
      simp only at z0 z1 z2 z3
      subst z0 z1 z2 z3
      go_enter Try.func34, Try.ntmps34
      go_wp2_with ((go_at_call 12; refine (ref03_empty 0 0 0 0 _).mono ?_; rintro e w' ⟨rfl, hgw⟩; first | (obtain ⟨gw, rfl⟩ := grows_of_grow hgw) | (obtain ⟨gw, rfl⟩ := hgw)))
      go_ret
      exact ⟨ret_b (by rw [Bool.eq_iff_iff]; simp), (by repeat (first | exact Grows.refl _ | apply Grows.grow | apply Grows.alloc | apply Grows.drew))⟩
    · have hz' : (r.x0 == 0 && (r.y0 == 0 && (r.x1 == 0 && r.y1 == 0))) = false := by
        cases hb : (r.x0 == 0 && (r.y0 == 0 && (r.x1 == 0 && r.y1 == 0)))
        · rfl
        · exact absurd (by simpa using hb) hz
      go_enter Try.func34, Try.ntmps34
      go_wp2_with ((first | (go_at_call 12; refine (ref03_emptyR _ _).mono ?_; rintro e w' ⟨rfl, hgw⟩; first | (obtain ⟨gw, rfl⟩ := grows_of_grow hgw) | (obtain ⟨gw, rfl⟩ := hgw))))
      all_goals
        go_ret
        exact ⟨ret_b (by simp [hz']), (by repeat (first | exact Grows.refl _ | apply Grows.grow | apply Grows.alloc | apply Grows.drew))⟩

def littleB (r : R) (n : Int) : Bool := rightR r && decide (areaR r ≤ n)
end Go.Proofs.Yticeoppldlhehaa
