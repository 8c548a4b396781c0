/- The walk of the reference's 'With': a buffer with one pixel more. -/
import Derived.Test.YtklcmlbkhjcaiaaGreatDoorK5


namespace Go.Proofs.YtklcmlbkhjcaiaaGreatDoor
open Go.RowKit
set_option linter.unusedVariables false

set_option maxHeartbeats 1600000 in
theorem ref05_With (r : R) (a : Option Addr) (k cap : Nat) (f : Nat → P4) (p : P4) (base : Nat) (w : World) (h : Hid (w.ownsRow base 37 4 (.slice a k cap) k (cellsP f k))) (hp : Hid (f k = p)) (hk : k ≤ 30000000000000) (hb : base ≤ w.heap.size) :
    Calls Tryz.prog 65 #[.agg #[.int .i64 r.x0, .int .i64 r.y0, .int .i64 r.x1, .int .i64 r.y1, .slice a k cap], .agg #[.int .u8 p.r, .int .u8 p.g, .int .u8 p.b, .int .u8 p.a]] w fun e w' => ∃ g cap', e = .returned (.agg #[.int .i64 r.x0, .int .i64 r.y0, .int .i64 r.x1, .int .i64 r.y1, .slice (some ⟨g, 0, none⟩) (k + 1) cap']) ∧ w'.ownsRow base 37 4 (.slice (some ⟨g, 0, none⟩) (k + 1) cap') (k + 1) (cellsP f (k + 1)) ∧ w.grownBy w' (blkOf a) ∧ (blkOf a = some g ∨ w.heap.size ≤ g) := by
  go_enter Tryz.func65, Tryz.ntmps65
  go_wp2_with ((at_builtin
                refine wpList_append_one rfl (.tmp 6) (.tmp 8) rfl base a k cap f p rfl (ownsRow_grows h.out (by repeat (first | exact Grows.refl _ | apply Grows.grow | apply Grows.alloc | apply Grows.drew))) (w.heap.size + 1 + 1 + 1) 1 rfl (by unfold Blk; repeat (first | exact blk_at _ _ _ (by first | omega | (simp; done) | (simp; omega)) | refine (blk_past _ _ _ (by first | omega | (simp; done) | (simp; omega))).trans ?_ | refine (heap_grow _ _ _ (by first | omega | (simp; done) | (simp; omega))).trans ?_ | refine (blk_drew _ _).trans ?_)) hp.out hk (by simp; omega) ?_
                intro g cap' w1 h1 h2 h3 h4
                have hl := own_lt h.out
                have B0 : Blk w1 w.heap.size 32 #[.int .i64 r.x0, .int .i64 r.y0, .int .i64 r.x1, .int .i64 r.y1, .slice a k cap] := by
                  refine Blk.grown ?_ h2 (fun e => ?_)
                  · exact (by unfold Blk; repeat (first | exact blk_at _ _ _ (by first | omega | (simp; done) | (simp; omega)) | refine (blk_past _ _ _ (by first | omega | (simp; done) | (simp; omega))).trans ?_ | refine (heap_grow _ _ _ (by first | omega | (simp; done) | (simp; omega))).trans ?_ | refine (blk_drew _ _).trans ?_))
                  · have := hl _ e.symm; omega
                have B2 : Blk w1 (w.heap.size + 1 + 1) 32 #[.int .i64 0, .int .i64 0, .int .i64 0, .int .i64 0, .slice none 0 0] := by
                  refine Blk.grown ?_ h2 (fun e => ?_)
                  · exact (by unfold Blk; repeat (first | exact blk_at _ _ _ (by first | omega | (simp; done) | (simp; omega)) | refine (blk_past _ _ _ (by first | omega | (simp; done) | (simp; omega))).trans ?_ | refine (heap_grow _ _ _ (by first | omega | (simp; done) | (simp; omega))).trans ?_ | refine (blk_drew _ _).trans ?_))
                  · have := hl _ e.symm; omega
                obtain ⟨b0, b1, b2, b3, b4, bf⟩ := B0.c5
                obtain ⟨d0, d1, d2, d3, d4, df⟩ := B2.c5
                have l0 := B0.lt
                have l2 := B2.lt
                have G2 := grows_grownBy (w := w) (w1 := _) (by repeat (first | exact Grows.refl _ | apply Grows.grow | apply Grows.alloc | apply Grows.drew)) h2
                have G3 : Hid (blkOf a = some g ∨ w.heap.size ≤ g) := h3.imp id (fun e => by rw [e]; simp; omega)
                have G4 : g ≠ w.heap.size ∧ g ≠ w.heap.size + 1 + 1 := by
                  rcases h3 with e | e
                  · have := hl _ e; omega
                  · simp at e; omega
                have HB := Lib.hid B2
                clear B0 B2 h2 h3 h4 hl
                replace h1 := Lib.hid h1
                replace G2 := Lib.hid G2))
  refine bodyPost_ret (results_cell_row rfl _ _ _ 32 #[.int .i64 r.x0, .int .i64 r.y0, .int .i64 r.x1, .int .i64 r.y1, .slice (some ⟨g, 0, none⟩) (k + 1) cap'] (0, 0) _ rfl ((HB.out.far (p := ⟨w.heap.size, 4, none⟩) (by show w.heap.size + 1 + 1 ≠ w.heap.size; omega) _).set5 _ _ _ _ _) Tryz.underlying32 rfl buf_info) rfl ⟨g, cap', rfl, ?_, ?_, G3.out⟩
  · iterate 5 (refine ownsRow_far ?_ (by simpa using G4.2) _)
    exact ownsRow_far h1.out (by simpa using G4.1) _
  · iterate 5 (refine grownBy_setCell ?_ (.inr (by show w.heap.size ≤ w.heap.size + 1 + 1; omega)) _)
    exact grownBy_setCell G2.out (.inr (Nat.le_refl _)) _
end Go.Proofs.YtklcmlbkhjcaiaaGreatDoor
/- The walks of layer 5's smaller functions: is a buffer right? is a rectangle little? -/

namespace Go.Proofs.YtklcmlbkhjcaiaaGreatDoor
open Go.RowKit
set_option linter.unusedVariables false

/-- Is a buffer right, by its rectangle and its length? -/
def bufB (r : R) (len : Nat) : Bool := if emptyR r = true then (r.x0 == 0 && (r.y0 == 0 && (r.x1 == 0 && r.y1 == 0))) && len == 0 else rightR r && ((len : Int) == areaR r)
theorem bufB_yes {r : R} {len : Nat} (h : bufB r len = true) (hl : len ≤ 30000000000000) : GoodR r ∧ len = cntR r := by
  unfold bufB at h
  split at h
  · rename_i he
    simp at h
    obtain ⟨⟨h0, h1, h2, h3⟩, h4⟩ := h
    have hz : r = zeroR := by obtain ⟨a, b, c, d⟩ := r; simp at h0 h1 h2 h3; subst h0 h1 h2 h3; rfl
    subst hz
    exact ⟨goodR_zero, by rw [h4]; exact cnt_zero.symm⟩
  · rename_i he
    simp at h
    have hg : GoodR r := ⟨h.1, fun e => absurd e he⟩
    refine ⟨hg, ?_⟩
    have := hg.area (by omega)
    omega

theorem ref03_rightIs (r : R) (w : World) (b : Bool) (h : rightR r = b) : Calls Tryz.prog 84 #[.agg #[.int .i64 r.x0, .int .i64 r.y0, .int .i64 r.x1, .int .i64 r.y1]] w fun e w' => e = .returned (.bool b) ∧ Grows w w' := by
  have := ref03_rightR r w
  rwa [h] at this

set_option maxHeartbeats 1600000 in
theorem ref05_Right (r : R) (a : Option Addr) (len cap : Nat) (w : World) (hl : len ≤ 9223372036854775807) :
    Calls Tryz.prog 49 #[.agg #[.int .i64 r.x0, .int .i64 r.y0, .int .i64 r.x1, .int .i64 r.y1, .slice a len cap]] w fun e w' => e = .returned (.bool (bufB r len)) ∧ Grows w w' := by
  cases he : emptyR r
  · have e : bufB r len = (rightR r && ((len : Int) == areaR r)) := by simp [bufB, he]
    rw [e]
    clear e
    cases hr : rightR r
    · go_enter Tryz.func49, Tryz.ntmps49
      go_wp2_with ((first | (go_at_call 63; refine (ref03_emptyR _ _).mono ?_; rintro e w' ⟨rfl, hgw⟩; first | (obtain ⟨gw, rfl⟩ := grows_of_grow hgw) | (obtain ⟨gw, rfl⟩ := hgw))))
      first | refine region_grow2 (by kernel_rfl) (by kernel_rfl) ?_ | refine region_grow (by kernel_rfl) (by kernel_rfl) ?_
      repeat (go_big_quiet_step ((first | (go_at_call 84; exact grow_of (ref03_rightIs _ _ _ (by assumption))))))
      refine wpQuiet_nil ?_
      rintro _ ⟨gr, rfl⟩
      go_wp2
      go_ret
      exact ⟨rfl, (by repeat (first | exact Grows.refl _ | apply Grows.grow | apply Grows.alloc | apply Grows.drew))⟩
    · have hrr := hr
      have HR := Lib.hid hrr
      clear hrr
      go_enter Tryz.func49, Tryz.ntmps49
      go_wp2_with ((first | (go_at_call 63; refine (ref03_emptyR _ _).mono ?_; rintro e w' ⟨rfl, hgw⟩; first | (obtain ⟨gw, rfl⟩ := grows_of_grow hgw) | (obtain ⟨gw, rfl⟩ := hgw))))
      first | refine region_grow2 (by kernel_rfl) (by kernel_rfl) ?_ | refine region_grow (by kernel_rfl) (by kernel_rfl) ?_
      repeat (go_big_quiet_step ((first | (go_at_call 84; exact grow_of (ref03_rightIs _ _ _ (by assumption))) | (go_at_call 47; exact grow_of (ref03_areaR _ _ HR.out)))))
      refine wpQuiet_nil ?_
      rintro _ ⟨gr, rfl⟩
      go_wp2
      go_ret
      exact ⟨ret_b (by simp), (by repeat (first | exact Grows.refl _ | apply Grows.grow | apply Grows.alloc | apply Grows.drew))⟩
  · have e : bufB r len = ((r.x0 == 0 && (r.y0 == 0 && (r.x1 == 0 && r.y1 == 0))) && len == 0) := by simp [bufB, he]
    rw [e]
    clear e
    by_cases hz : r.x0 = 0 ∧ r.y0 = 0 ∧ r.x1 = 0 ∧ r.y1 = 0
    · obtain ⟨x0, y0, x1, y1⟩ := r
      obtain ⟨z0, z1, z2, z3⟩ := hz
      simp only at z0 z1 z2 z3
      subst z0 z1 z2 z3
      go_enter Tryz.func49, Tryz.ntmps49
      go_wp2_with ((go_at_call 63; refine (ref03_empty 0 0 0 0 _).mono ?_; rintro e w' ⟨rfl, hgw⟩; first | (obtain ⟨gw, rfl⟩ := grows_of_grow hgw) | (obtain ⟨gw, rfl⟩ := hgw)))
      go_ret
      exact ⟨ret_b (by rw [Bool.eq_iff_iff]; simp), (by repeat (first | exact Grows.refl _ | apply Grows.grow | apply Grows.alloc | apply Grows.drew))⟩
    · have hz' : (r.x0 == 0 && (r.y0 == 0 && (r.x1 == 0 && r.y1 == 0))) = false := by
        cases hb : (r.x0 == 0 && (r.y0 == 0 && (r.x1 == 0 && r.y1 == 0)))
        · rfl
        · exact absurd (by simpa using hb) hz
      go_enter Tryz.func49, Tryz.ntmps49
      go_wp2_with ((first | (go_at_call 63; refine (ref03_emptyR _ _).mono ?_; rintro e w' ⟨rfl, hgw⟩; first | (obtain ⟨gw, rfl⟩ := grows_of_grow hgw) | (obtain ⟨gw, rfl⟩ := hgw))))
      all_goals
        go_ret
        exact ⟨ret_b (by simp [hz']), (by repeat (first | exact Grows.refl _ | apply Grows.grow | apply Grows.alloc | apply Grows.drew))⟩

def littleB (r : R) (n : Int) : Bool := rightR r && decide (areaR r ≤ n)
end Go.Proofs.YtklcmlbkhjcaiaaGreatDoor

/- The walk of the reference's 'Same': two buffers that show the same. -/

namespace Go.Proofs.YtklcmlbkhjcaiaaGreatDoor
open Go.RowKit
set_option linter.unusedVariables false

set_option maxHeartbeats 1600000 in
/-- Two buffers that show the same are the same. -/
theorem ref05_Same (r : R) (a b : Option Addr) (la ca lb cb : Nat) (F : Img) (w : World) (h : Hid (BufAt w r a la ca F)) (k : Hid (BufAt w r b lb cb F)) :
    Calls Tryz.prog 8 #[.agg #[.int .i64 r.x0, .int .i64 r.y0, .int .i64 r.x1, .int .i64 r.y1, .slice a la ca], .agg #[.int .i64 r.x0, .int .i64 r.y0, .int .i64 r.x1, .int .i64 r.y1, .slice b lb cb]] w fun e w' => e = .returned (.bool true) ∧ Grows w w' := by
  obtain rfl : la = lb := h.out.count.trans k.out.count.symm
  have hm := h.out.most
  have km := k.out.most
  go_enter Tryz.func8, Tryz.ntmps8
  go_wp2
  refine wp_name ?_
  intro W0 hW0
  have B0 : Hid (Blk W0 w.heap.size 32 #[.int .i64 r.x0, .int .i64 r.y0, .int .i64 r.x1, .int .i64 r.y1, .slice a la ca]) := by rw [hW0]; exact (by unfold Blk; repeat (first | exact blk_at _ _ _ (by first | omega | (simp; done) | (simp; omega)) | refine (blk_past _ _ _ (by first | omega | (simp; done) | (simp; omega))).trans ?_ | refine (heap_grow _ _ _ (by first | omega | (simp; done) | (simp; omega))).trans ?_ | refine (blk_drew _ _).trans ?_))
  have B1 : Hid (Blk W0 (w.heap.size + 1) 32 #[.int .i64 r.x0, .int .i64 r.y0, .int .i64 r.x1, .int .i64 r.y1, .slice b la cb]) := by rw [hW0]; exact (by unfold Blk; repeat (first | exact blk_at _ _ _ (by first | omega | (simp; done) | (simp; omega)) | refine (blk_past _ _ _ (by first | omega | (simp; done) | (simp; omega))).trans ?_ | refine (heap_grow _ _ _ (by first | omega | (simp; done) | (simp; omega))).trans ?_ | refine (blk_drew _ _).trans ?_))
  have GW : Hid (Grows w W0) := by rw [hW0]; exact (by repeat (first | exact Grows.refl _ | apply Grows.grow | apply Grows.alloc | apply Grows.drew))
  clear hW0
  go_loopw [5] (fun i wr => ∃ j : Nat, j ≤ la ∧ i = .int .i64 j ∧ Hid (Grows W0 wr)) (fun i _ => la - (intOf i).toNat)
  case atStart => exact ⟨0, by omega, rfl, Grows.refl _⟩
  case round =>
    obtain ⟨j, hj, rfl, hh⟩ := hrel
    have b0 := B0.out.grows hh.out
    have b1 := B1.out.grows hh.out
    obtain ⟨d0, d1, d2, d3, d4, df⟩ := b0.c5
    obtain ⟨e0, e1, e2, e3, e4, ef⟩ := b1.c5
    have l0 := b0.lt
    have l1 := b1.lt
    clear b0 b1
    have G := GW.out.trans hh.out
    by_cases hlt : j < la
    · obtain ⟨b', off', rfl, hb', -, c0, c1, c2, c3⟩ := (h.out.pix.grows G).px hlt
      obtain ⟨b'', off'', rfl, hb'', -, s0, s1, s2, s3⟩ := (k.out.pix.grows G).px hlt
      clear G
      go_wp2
      first | refine region_grow2 (by kernel_rfl) (by kernel_rfl) ?_ | refine region_grow (by kernel_rfl) (by kernel_rfl) ?_
      repeat (go_big_quiet_step (fail))
      refine wpQuiet_nil ?_
      rintro _ ⟨gr, rfl⟩
      go_wp2
      go_roundw
      case rel => exact ⟨j + 1, by omega, by go_num, hh.out.trans (by repeat (first | exact Grows.refl _ | apply Grows.grow | apply Grows.alloc | apply Grows.drew))⟩
      case measure => simp [intOf]; omega
    · obtain rfl : j = la := by omega
      go_wp2
      go_ret
      exact ⟨rfl, G⟩

end Go.Proofs.YtklcmlbkhjcaiaaGreatDoor
