/- The walk of the reference's 'With': a buffer with one pixel more. -/
import Derived.Test.YtklcmlbkhjcaiaaDoorK5


namespace Go.Proofs.YtklcmlbkhjcaiaaDoor
open Go.RowKit
set_option linter.unusedVariables false

end Go.Proofs.YtklcmlbkhjcaiaaDoor
/- The walks of layer 5's smaller functions: is a buffer right? is a rectangle little? -/

namespace Go.Proofs.YtklcmlbkhjcaiaaDoor
open Go.RowKit
set_option linter.unusedVariables false

/-- Is a buffer right, by its rectangle and its length? -/
def bufB (r : R) (len : Nat) : Bool := if emptyR r = true then (r.x0 == 0 && (r.y0 == 0 && (r.x1 == 0 && r.y1 == 0))) && len == 0 else rightR r && ((len : Int) == areaR r)
theorem bufB_yes {r : R} {len : Nat} (h : bufB r len = true) (hl : len ≤ 30000000000000) : GoodR r ∧ len = cntR r := by
  unfold bufB at h
  split at h
  · rename_i he
    simp at h
    obtain ⟨⟨h0, h1, h2, h3⟩, h4⟩ := h
    have hz : r = zeroR := by obtain ⟨a, b, c, d⟩ := r; simp at h0 h1 h2 h3; subst h0 h1 h2 h3; rfl
    subst hz
    exact ⟨goodR_zero, by rw [h4]; exact cnt_zero.symm⟩
  · rename_i he
    simp at h
    have hg : GoodR r := ⟨h.1, fun e => absurd e he⟩
    refine ⟨hg, ?_⟩
    have := hg.area (by omega)
    omega

theorem ref03_rightIs (r : R) (w : World) (b : Bool) (h : rightR r = b) : Calls Tryd.prog 79 #[.agg #[.int .i64 r.x0, .int .i64 r.y0, .int .i64 r.x1, .int .i64 r.y1]] w fun e w' => e = .returned (.bool b) ∧ Grows w w' := by
  have := ref03_rightR r w
  rwa [h] at this

set_option maxHeartbeats 1600000 in
theorem ref05_Right (r : R) (a : Option Addr) (len cap : Nat) (w : World) (hl : len ≤ 9223372036854775807) :
    Calls Tryd.prog 56 #[.agg #[.int .i64 r.x0, .int .i64 r.y0, .int .i64 r.x1, .int .i64 r.y1, .slice a len cap]] w fun e w' => e = .returned (.bool (bufB r len)) ∧ Grows w w' := by
  cases he : emptyR r
  · have e : bufB r len = (rightR r && ((len : Int) == areaR r)) := by simp [bufB, he]
    rw [e]
    clear e
    cases hr : rightR r
    · go_enter Tryd.func56, Tryd.ntmps56
      go_wp2_with ((first | (go_at_call 28; refine (ref03_emptyR _ _).mono ?_; rintro e w' ⟨rfl, hgw⟩; first | (obtain ⟨gw, rfl⟩ := grows_of_grow hgw) | (obtain ⟨gw, rfl⟩ := hgw))))
      first | refine region_grow2 (by kernel_rfl) (by kernel_rfl) ?_ | refine region_grow (by kernel_rfl) (by kernel_rfl) ?_
      repeat (go_big_quiet_step ((first | (go_at_call 79; exact grow_of (ref03_rightIs _ _ _ (by assumption))))))
      refine wpQuiet_nil ?_
      rintro _ ⟨gr, rfl⟩
      go_wp2
      go_ret
      exact ⟨rfl, (by repeat (first | exact Grows.refl _ | apply Grows.grow | apply Grows.alloc | apply Grows.drew))⟩
    · have hrr := hr
      have HR := Lib.hid hrr
      clear hrr
      go_enter Tryd.func56, Tryd.ntmps56
      go_wp2_with ((first | (go_at_call 28; refine (ref03_emptyR _ _).mono ?_; rintro e w' ⟨rfl, hgw⟩; first | (obtain ⟨gw, rfl⟩ := grows_of_grow hgw) | (obtain ⟨gw, rfl⟩ := hgw))))
      first | refine region_grow2 (by kernel_rfl) (by kernel_rfl) ?_ | refine region_grow (by kernel_rfl) (by kernel_rfl) ?_
      repeat (go_big_quiet_step ((first | (go_at_call 79; exact grow_of (ref03_rightIs _ _ _ (by assumption))) | (go_at_call 10; exact grow_of (ref03_areaR _ _ HR.out)))))
      refine wpQuiet_nil ?_
      rintro _ ⟨gr, rfl⟩
      go_wp2
      go_ret
      exact ⟨ret_b (by simp), (by repeat (first | exact Grows.refl _ | apply Grows.grow | apply Grows.alloc | apply Grows.drew))⟩
  · have e : bufB r len = ((r.x0 == 0 && (r.y0 == 0 && (r.x1 == 0 && r.y1 == 0))) && len == 0) := by simp [bufB, he]
    rw [e]
    clear e
    by_cases hz : r.x0 = 0 ∧ r.y0 = 0 ∧ r.x1 = 0 ∧ r.y1 = 0
    · obtain ⟨x0, y0, x1, y1⟩ := r
      obtain ⟨z0, z1, z2, z3⟩ := hz
      simp only at z0 z1 z2 z3
      subst z0 z1 z2 z3
      go_enter Tryd.func56, Tryd.ntmps56
      go_wp2_with ((go_at_call 28; refine (ref03_empty 0 0 0 0 _).mono ?_; rintro e w' ⟨rfl, hgw⟩; first | (obtain ⟨gw, rfl⟩ := grows_of_grow hgw) | (obtain ⟨gw, rfl⟩ := hgw)))
      go_ret
      exact ⟨ret_b (by rw [Bool.eq_iff_iff]; simp), (by repeat (first | exact Grows.refl _ | apply Grows.grow | apply Grows.alloc | apply Grows.drew))⟩
    · have hz' : (r.x0 == 0 && (r.y0 == 0 && (r.x1 == 0 && r.y1 == 0))) = false := by
        cases hb : (r.x0 == 0 && (r.y0 == 0 && (r.x1 == 0 && r.y1 == 0)))
        · rfl
        · exact absurd (by simpa using hb) hz
      go_enter Tryd.func56, Tryd.ntmps56
      go_wp2_with ((first | (go_at_call 28; refine (ref03_emptyR _ _).mono ?_; rintro e w' ⟨rfl, hgw⟩; first | (obtain ⟨gw, rfl⟩ := grows_of_grow hgw) | (obtain ⟨gw, rfl⟩ := hgw))))
      all_goals
        go_ret
        exact ⟨ret_b (by simp [hz']), (by repeat (first | exact Grows.refl _ | apply Grows.grow | apply Grows.alloc | apply Grows.drew))⟩

def littleB (r : R) (n : Int) : Bool := rightR r && decide (areaR r ≤ n)
end Go.Proofs.YtklcmlbkhjcaiaaDoor

/- The walk of the reference's 'Same': two buffers that show the same. -/

namespace Go.Proofs.YtklcmlbkhjcaiaaDoor
open Go.RowKit
set_option linter.unusedVariables false

set_option maxHeartbeats 1600000 in
/-- Two buffers that show the same are the same. -/
theorem ref05_Same (r : R) (a b : Option Addr) (la ca lb cb : Nat) (F : Img) (w : World) (h : Hid (BufAt w r a la ca F)) (k : Hid (BufAt w r b lb cb F)) :
    Calls Tryd.prog 12 #[.agg #[.int .i64 r.x0, .int .i64 r.y0, .int .i64 r.x1, .int .i64 r.y1, .slice a la ca], .agg #[.int .i64 r.x0, .int .i64 r.y0, .int .i64 r.x1, .int .i64 r.y1, .slice b lb cb]] w fun e w' => e = .returned (.bool true) ∧ Grows w w' := by
  obtain rfl : la = lb := h.out.count.trans k.out.count.symm
  have hm := h.out.most
  have km := k.out.most
  go_enter Tryd.func12, Tryd.ntmps12
  go_wp2
  refine wp_name ?_
  intro W0 hW0
  have B0 : Hid (Blk W0 w.heap.size 35 #[.int .i64 r.x0, .int .i64 r.y0, .int .i64 r.x1, .int .i64 r.y1, .slice a la ca]) := by rw [hW0]; exact (by unfold Blk; repeat (first | exact blk_at _ _ _ (by first | omega | (simp; done) | (simp; omega)) | refine (blk_past _ _ _ (by first | omega | (simp; done) | (simp; omega))).trans ?_ | refine (heap_grow _ _ _ (by first | omega | (simp; done) | (simp; omega))).trans ?_ | refine (blk_drew _ _).trans ?_))
  have B1 : Hid (Blk W0 (w.heap.size + 1) 35 #[.int .i64 r.x0, .int .i64 r.y0, .int .i64 r.x1, .int .i64 r.y1, .slice b la cb]) := by rw [hW0]; exact (by unfold Blk; repeat (first | exact blk_at _ _ _ (by first | omega | (simp; done) | (simp; omega)) | refine (blk_past _ _ _ (by first | omega | (simp; done) | (simp; omega))).trans ?_ | refine (heap_grow _ _ _ (by first | omega | (simp; done) | (simp; omega))).trans ?_ | refine (blk_drew _ _).trans ?_))
  have GW : Hid (Grows w W0) := by rw [hW0]; exact (by repeat (first | exact Grows.refl _ | apply Grows.grow | apply Grows.alloc | apply Grows.drew))
  clear hW0
  go_loopw [5] (fun i wr => ∃ j : Nat, j ≤ la ∧ i = .int .i64 j ∧ Hid (Grows W0 wr)) (fun i _ => la - (intOf i).toNat)
  case atStart => exact ⟨0, by omega, rfl, Grows.refl _⟩
  case round =>
    obtain ⟨j, hj, rfl, hh⟩ := hrel
    have b0 := B0.out.grows hh.out
    have b1 := B1.out.grows hh.out
    obtain ⟨d0, d1, d2, d3, d4, df⟩ := b0.c5
    obtain ⟨e0, e1, e2, e3, e4, ef⟩ := b1.c5
    have l0 := b0.lt
    have l1 := b1.lt
    clear b0 b1
    have G := GW.out.trans hh.out
    by_cases hlt : j < la
    · obtain ⟨b', off', rfl, hb', -, c0, c1, c2, c3⟩ := (h.out.pix.grows G).px hlt
      obtain ⟨b'', off'', rfl, hb'', -, s0, s1, s2, s3⟩ := (k.out.pix.grows G).px hlt
      clear G
      go_wp2
      first | refine region_grow2 (by kernel_rfl) (by kernel_rfl) ?_ | refine region_grow (by kernel_rfl) (by kernel_rfl) ?_
      repeat (go_big_quiet_step (fail))
      refine wpQuiet_nil ?_
      rintro _ ⟨gr, rfl⟩
      go_wp2
      go_roundw
      case rel => exact ⟨j + 1, by omega, by go_num, hh.out.trans (by repeat (first | exact Grows.refl _ | apply Grows.grow | apply Grows.alloc | apply Grows.drew))⟩
      case measure => simp [intOf]; omega
    · obtain rfl : j = la := by omega
      go_wp2
      go_ret
      exact ⟨rfl, G⟩

end Go.Proofs.YtklcmlbkhjcaiaaDoor
