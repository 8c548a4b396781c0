/- What the walks of chapter 10's laws share: what is asked of the arguments; awake. -/
import Derived.Test.YtklcmlbkhjcaiaaDoorMoveT
import Derived.Test.YtklcmlbkhjcaiaaDoorOneF
import Derived.Test.YtklcmlbkhjcaiaaDoorK6
import Derived.Test.YtklcmlbkhjcaiaaDoorK14
import Derived.Deep.RegionHeld3






namespace Go.Proofs.YtklcmlbkhjcaiaaDoor
open Go.RowKit
set_option linter.unusedVariables false

def rightP (p : P4) : Prop := p.r ≤ p.a ∧ p.g ≤ p.a ∧ p.b ≤ p.a
theorem rightP_iff (p : P4) : rightT p.r p.g p.b p.a = true ↔ rightP p := rightT_iff _ _ _ _
theorem rightP_no : rightP noP := by simp [rightP, noP]
theorem cutF_right {F : Img} (h : ∀ x y, rightP (F x y)) (r : R) (x y : Int) : rightP (cutF r F x y) := by
  unfold cutF
  split
  · exact h x y
  · exact rightP_no
theorem imgOf_right {r : R} {f : Nat → P4} (hg : GoodR r) (h : ∀ i, i < cntR r → rightP (f i)) (x y : Int) : rightP (imgOf r f x y) := by
  unfold imgOf
  split
  · exact h _ (hg.idx ‹_›)
  · exact rightP_no
theorem ref01_rightIs (p : P4) (w : World) (c : Bool) (hp : okP p) (h : rightT p.r p.g p.b p.a = c) : Calls Tryd.prog 15 #[.agg #[.int .u8 p.r, .int .u8 p.g, .int .u8 p.b, .int .u8 p.a]] w fun e w' => e = .returned (.bool c) ∧ Grows w w' := by
  have := ref01_right p.r p.g p.b p.a w hp.1 hp.2.1 hp.2.2.1 hp.2.2.2
  rwa [h] at this

theorem bool_no {b : Bool} (h : ¬ b = true) : b = false := by cases b <;> simp_all
theorem ref03_rightIs10 (r : R) (w : World) (c : Bool) (h : Hid (rightR r = c)) : Calls Tryd.prog 79 #[.agg #[.int .i64 r.x0, .int .i64 r.y0, .int .i64 r.x1, .int .i64 r.y1]] w fun e w' => e = .returned (.bool c) ∧ Grows w w' := by
  have := ref03_rightR r w
  rwa [h.out] at this
theorem ref03_emptyIs10 (r : R) (w : World) (c : Bool) (h : Hid (emptyR r = c)) : Calls Tryd.prog 28 #[.agg #[.int .i64 r.x0, .int .i64 r.y0, .int .i64 r.x1, .int .i64 r.y1]] w fun e w' => e = .returned (.bool c) ∧ Grows w w' := by
  have := ref03_emptyR r w
  rwa [h.out] at this
theorem ref08_FineIs (b : R) (rx ry n : Int) (w : World) (c : Bool) (h : Hid (fineB b rx ry n = c)) : Calls Tryd.prog 14 #[.agg #[.int .i64 b.x0, .int .i64 b.y0, .int .i64 b.x1, .int .i64 b.y1], .int .i64 rx, .int .i64 ry, .int .i64 n] w fun e w' => e = .returned (.bool c) ∧ Grows w w' := by
  have := ref08_Fine b rx ry n w
  rwa [h.out] at this
def nearB (n : Int) : Bool := decide (-16777216 ≤ n ∧ n ≤ 16777216)
instance (b : R) : Decidable (smallR b) := by unfold smallR; infer_instance
def halfB (r : R) : Bool := decide (smallR r)
instance (p : P4) : Decidable (rightP p) := by unfold rightP; infer_instance
/-- A buffer that is right, little, of right pixels. -/
def right10 (len : Nat) (r : R) (f : Nat → P4) : Bool := decide (len ≤ 300) && (bufB r len && decide (∀ i, i < len → rightP (f i)))
set_option maxHeartbeats 3200000 in
theorem ref10_Right (r : R) (a : Option Addr) (len cap : Nat) (f : Nat → P4) (w : World) (h : Hid (IsPix w a len cap f)) : Calls Tryd.prog 27 #[.agg #[.int .i64 r.x0, .int .i64 r.y0, .int .i64 r.x1, .int .i64 r.y1, .slice a len cap]] w fun e w' => e = .returned (.bool (right10 len r f)) ∧ Grows w w' := by
  have m1 := h.out.le
  have m2 := h.out.most
  by_cases c0 : 300 < len
  · rw [show right10 len r f = false from by simp [right10]; omega]
    have c1 : 300 < (len : Int) := by omega
    go_enter Tryd.func27, Tryd.ntmps27
    go_wp2
    go_ret
    exact ⟨rfl, (by repeat (first | exact Grows.refl _ | apply Grows.grow | apply Grows.alloc | apply Grows.drew))⟩
  have c1 : ¬ 300 < (len : Int) := by omega
  have HRt : Hid (∀ w, Calls Tryd.prog 56 #[.agg #[.int .i64 r.x0, .int .i64 r.y0, .int .i64 r.x1, .int .i64 r.y1, .slice a len cap]] w fun e w' => e = .returned (.bool (bufB r len)) ∧ Grows w w') := fun w => ref05_Right r a len cap w (by omega)
  cases hb : bufB r len
  · rw [show right10 len r f = false from by simp [right10, hb]]
    rw [hb] at HRt
    clear hb
    go_enter Tryd.func27, Tryd.ntmps27
    go_wp2_with (go_at_call 56; refine (HRt.out _).mono ?_; rintro e w' ⟨rfl, hgw⟩; first | (obtain ⟨gw, rfl⟩ := grows_of_grow hgw) | (obtain ⟨gw, rfl⟩ := hgw))
    go_ret
    exact ⟨rfl, (by repeat (first | exact Grows.refl _ | apply Grows.grow | apply Grows.alloc | apply Grows.drew))⟩
  rw [hb] at HRt
  have HB := Lib.hid hb
  clear hb
  go_enter Tryd.func27, Tryd.ntmps27
  go_wp2_with (go_at_call 56; refine (HRt.out _).mono ?_; rintro e w' ⟨rfl, hgw⟩; first | (obtain ⟨gw, rfl⟩ := grows_of_grow hgw) | (obtain ⟨gw, rfl⟩ := hgw))
  refine wp_name ?_
  intro W0 hW0
  have D0 : Hid (Blk W0 w.heap.size 35 #[.int .i64 r.x0, .int .i64 r.y0, .int .i64 r.x1, .int .i64 r.y1, .slice a len cap]) := by rw [hW0]; exact (by unfold Blk; repeat (first | exact blk_at _ _ _ (by first | omega | (simp; done) | (simp; omega)) | refine (blk_past _ _ _ (by first | omega | (simp; done) | (simp; omega))).trans ?_ | refine (heap_grow _ _ _ (by first | omega | (simp; done) | (simp; omega))).trans ?_ | refine (blk_drew _ _).trans ?_))
  have GW : Hid (Grows w W0) := by rw [hW0]; exact (by repeat (first | exact Grows.refl _ | apply Grows.grow | apply Grows.alloc | apply Grows.drew))
  clear hW0 HRt
  go_loopw [3] (fun i wr => ∃ j : Nat, j ≤ len ∧ i = .int .i64 j ∧ Hid (Grows W0 wr ∧ ∀ i, i < j → rightP (f i))) (fun i _ => len - (intOf i).toNat)
  case atStart => exact ⟨0, by omega, rfl, Grows.refl _, fun i hi => by omega⟩
  case round =>
    obtain ⟨j, hj, rfl, hh⟩ := hrel
    have d0 := D0.out.grows hh.out.1
    obtain ⟨b0, b1, b2, b3, b4, bf⟩ := d0.c5
    have ld := d0.lt
    clear d0
    by_cases hlt : j < len
    · have G := GW.out.trans hh.out.1
      obtain ⟨b', off', rfl, hb', hok, x0, x1, x2, x3⟩ := (h.out.grows G).px hlt
      have HOK := Lib.hid hok
      clear G hok
      cases hrt : rightT (f j).r (f j).g (f j).b (f j).a
      · have HRT := Lib.hid hrt
        clear hrt
        go_wp2_with (go_at_call 15; (with_reducible refine (ref01_rightIs (f j) _ false HOK.out HRT.out).mono ?_); rintro e w' ⟨rfl, hgw⟩; first | (obtain ⟨gw, rfl⟩ := grows_of_grow hgw) | (obtain ⟨gw, rfl⟩ := hgw))
        go_ret
        refine ⟨?_, (GW.out.trans hh.out.1).trans (by repeat (first | exact Grows.refl _ | apply Grows.grow | apply Grows.alloc | apply Grows.drew))⟩
        have hn : right10 len r f = false := bool_no fun e => by
          simp only [right10, Bool.and_eq_true, decide_eq_true_eq] at e
          have := (rightP_iff _).2 (e.2.2 j hlt)
          rw [HRT.out] at this
          cases this
        rw [hn]; rfl
      · have HRT := Lib.hid hrt
        clear hrt
        go_wp2_with (go_at_call 15; (with_reducible refine (ref01_rightIs (f j) _ true HOK.out HRT.out).mono ?_); rintro e w' ⟨rfl, hgw⟩; first | (obtain ⟨gw, rfl⟩ := grows_of_grow hgw) | (obtain ⟨gw, rfl⟩ := hgw))
        go_roundw
        case rel =>
          refine ⟨j + 1, by omega, by go_num, hh.out.1.trans (by repeat (first | exact Grows.refl _ | apply Grows.grow | apply Grows.alloc | apply Grows.drew)), fun i hi => ?_⟩
          by_cases e : i = j
          · subst e; exact (rightP_iff _).1 HRT.out
          · exact hh.out.2 i (by omega)
        case measure => simp [intOf]; omega
    · obtain rfl : len = j := by omega
      go_wp2
      go_ret
      refine ⟨?_, GW.out.trans hh.out.1⟩
      have hy : right10 len r f = true := by
        simp only [right10, Bool.and_eq_true, decide_eq_true_eq]
        exact ⟨by omega, HB.out, hh.out.2⟩
      rw [hy]; rfl
theorem ref10_RightIs (r : R) (a : Option Addr) (len cap : Nat) (f : Nat → P4) (w : World) (c : Bool) (h : Hid (IsPix w a len cap f)) (hc : Hid (right10 len r f = c)) : Calls Tryd.prog 27 #[.agg #[.int .i64 r.x0, .int .i64 r.y0, .int .i64 r.x1, .int .i64 r.y1, .slice a len cap]] w fun e w' => e = .returned (.bool c) ∧ Grows w w' := by
  have := ref10_Right r a len cap f w h
  rwa [hc.out] at this
theorem right10_yes {len : Nat} {r : R} {f : Nat → P4} (h : right10 len r f = true) : len ≤ 300 ∧ GoodR r ∧ len = cntR r ∧ (∀ i, i < len → rightP (f i)) := by
  simp only [right10, Bool.and_eq_true, decide_eq_true_eq] at h
  obtain ⟨g, n⟩ := bufB_yes h.2.1 (by omega)
  exact ⟨h.1, g, n, h.2.2⟩
end Go.Proofs.YtklcmlbkhjcaiaaDoor
