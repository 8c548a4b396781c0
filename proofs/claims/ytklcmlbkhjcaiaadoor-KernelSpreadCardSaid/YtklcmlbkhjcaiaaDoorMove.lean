/- The walks of layer 10 (move): offset, clipped, flooded, repeated. -/
import Derived.Test.YtklcmlbkhjcaiaaDoorK1
import Derived.Test.YtklcmlbkhjcaiaaDoorRas5
import Derived.Test.YtklcmlbkhjcaiaaDoorK4
import Derived.Test.YtklcmlbkhjcaiaaDoorBlurB
import Derived.Test.YtklcmlbkhjcaiaaDoorK5






namespace Go.Proofs.YtklcmlbkhjcaiaaDoor
open Go.RowKit
set_option linter.unusedVariables false

set_option maxHeartbeats 400000 in
theorem move_wrapped (n s : Int) (w : World) (hs : 0 < s) (hs2 : s ≤ 10000000000000) (h0 : -10000000000000 ≤ n) (h1 : n ≤ 10000000000000) : Calls Tryd.prog 65 #[.int .i64 n, .int .i64 s] w fun e w' => e = .returned (.int .i64 (n % s)) ∧ w = w' := by
  have b := Int.tmod_lt_of_pos n hs
  have b2 : -s < n.tmod s := by
    have := Int.tmod_lt_of_pos (-n) hs
    rw [Int.neg_tmod] at this
    omega
  have e := wrap_mod (n := n) hs
  obtain ⟨m, hm⟩ : ∃ m, m = n.tmod s := ⟨_, rfl⟩
  rw [← hm] at e b b2
  have hm2 := hm.symm
  have g0 := Int.emod_nonneg n (b := s) (by omega)
  have g1 := Int.emod_lt_of_pos n hs
  clear hm
  go_enter Tryd.func65, Tryd.ntmps65
  go_wp2
  go_ret
  exact ⟨rfl, rfl⟩
set_option maxHeartbeats 1600000 in
theorem move_Offset (r rf : R) (af : Option Addr) (lf cf : Nat) (G : Img) (dx dy : Int) (w : World) (hf : Hid (BufAt w rf af lf cf G)) (hr : rightR r = true) (hs : cntR (someR r) ≤ 30000000000000) (hsf : cntR rf ≤ 30000000000000) (hdx : -4398046511104 ≤ dx ∧ dx ≤ 4398046511104) (hdy : -4398046511104 ≤ dy ∧ dy ≤ 4398046511104) :
    Calls Tryd.prog 36 #[.agg #[.int .i64 rf.x0, .int .i64 rf.y0, .int .i64 rf.x1, .int .i64 rf.y1, .slice af lf cf], .agg #[.int .i64 r.x0, .int .i64 r.y0, .int .i64 r.x1, .int .i64 r.y1], .int .i64 dx, .int .i64 dy] w (RetBuf w (someR r) (moveF r dx dy G)) := by
  have hgs := good_some hr
  have hsr : rightR (someR r) = true := hgs.near
  unfold moveF
  go_enter Tryd.func36, Tryd.ntmps36
  go_wp2_with ((go_at_call 59; refine (raster_New r _ hr (by omega)).mono ?_; rintro e w' ⟨a1, l1, p1, rfl, hgw, HB1⟩; (first | (obtain ⟨gw, rfl⟩ := grows_of_grow hgw) | (obtain ⟨gw, rfl⟩ := hgw)); (try simp only [grow_drew] at HB1)))
  have hne : blkOf a1 ≠ some (w.heap.size + 1 + 1 + 1 + gw.news.size) := by
    intro e
    cases a1 with
    | none => cases e
    | some x => have := (HB1.out.2.1 x rfl).1; simp at this e; omega
  have hna : Hid (0 < lf → ∀ x y, af = some x → a1 = some y → x.block ≠ y.block) := by
    intro h0 x y hx hy
    obtain ⟨b, off, e, hb, -⟩ := hf.out.pix.cells h0
    have h1 := HB1.out.2.2 y hy
    rw [hx] at e; cases e
    simp at h1
    show b ≠ _
    omega
  refine Calls.mono (raster_Copy (w.heap.size + 1 + 1 + 1 + gw.news.size) (someR r) (someR r) rf dx dy a1 af l1 p1 lf cf noF G _ ?_ ?_ ?_ hne ?_ hna.out (by omega) (by omega) hsr hdx hdy) ?_
  · show Blk _ _ _ _
    exact (by unfold Blk; repeat (first | exact blk_at _ _ _ (by first | omega | (simp; done) | (simp; omega)) | refine (blk_past _ _ _ (by first | omega | (simp; done) | (simp; omega))).trans ?_ | refine (heap_grow _ _ _ (by first | omega | (simp; done) | (simp; omega))).trans ?_ | refine (blk_drew _ _).trans ?_))
  · exact BufAt.grows HB1.out.1 (by repeat (first | exact Grows.refl _ | apply Grows.grow | apply Grows.alloc | apply Grows.drew))
  · exact HB1.out.2.1.grows (by repeat (first | exact Grows.refl _ | apply Grows.grow | apply Grows.alloc | apply Grows.drew))
  · exact BufAt.grows hf.out (by repeat (first | exact Grows.refl _ | apply Grows.grow | apply Grows.alloc | apply Grows.drew))
  rintro e w1 ⟨rfl, G2, HB2, HO2⟩
  have hfr := HB1.out.2.2
  have Bo : Blk w1 (w.heap.size + 1 + 1 + 1 + gw.news.size) 35 #[.int .i64 (someR r).x0, .int .i64 (someR r).y0, .int .i64 (someR r).x1, .int .i64 (someR r).y1, .slice a1 l1 p1] := by
    refine Blk.grown ?_ G2 (fun e => hne e.symm)
    exact (by unfold Blk; repeat (first | exact blk_at _ _ _ (by first | omega | (simp; done) | (simp; omega)) | refine (blk_past _ _ _ (by first | omega | (simp; done) | (simp; omega))).trans ?_ | refine (heap_grow _ _ _ (by first | omega | (simp; done) | (simp; omega))).trans ?_ | refine (blk_drew _ _).trans ?_))
  have Br : Blk w1 (w.heap.size + 1 + 1) 35 #[.int .i64 0, .int .i64 0, .int .i64 0, .int .i64 0, .slice none 0 0] := by
    refine Blk.grown ?_ G2 (fun e => ?_)
    · exact (by unfold Blk; repeat (first | exact blk_at _ _ _ (by first | omega | (simp; done) | (simp; omega)) | refine (blk_past _ _ _ (by first | omega | (simp; done) | (simp; omega))).trans ?_ | refine (heap_grow _ _ _ (by first | omega | (simp; done) | (simp; omega))).trans ?_ | refine (blk_drew _ _).trans ?_))
    · cases a1 with
      | none => cases e
      | some x => have := hfr x rfl; simp at this e; omega
  have GG : Grows w w1 := Grows.grown (w1 := _) (by repeat (first | exact Grows.refl _ | apply Grows.grow | apply Grows.alloc | apply Grows.drew)) G2 (fun k hk => by
    cases a1 with
    | none => cases hk
    | some x => have := hfr x rfl; simp at this hk; omega)
  have HR := Lib.hid (And.intro HB2 (And.intro HO2 (And.intro GG (And.intro Br hfr))))
  obtain ⟨b0, b1, b2, b3, b4, bf⟩ := Bo.c5
  obtain ⟨d0, d1, d2, d3, d4, df⟩ := Br.c5
  have l0 := Bo.lt
  have l2 := Br.lt
  clear G2 HB2 HO2 hfr Bo Br GG hne
  go_wp2
  have gs : w1.grownBy (((((w1.setCell ⟨w.heap.size + 1 + 1, 0, none⟩ (.int .i64 (someR r).x0)).setCell ⟨w.heap.size + 1 + 1, 1, none⟩ (.int .i64 (someR r).y0)).setCell ⟨w.heap.size + 1 + 1, 2, none⟩ (.int .i64 (someR r).x1)).setCell ⟨w.heap.size + 1 + 1, 3, none⟩ (.int .i64 (someR r).y1)).setCell ⟨w.heap.size + 1 + 1, 4, none⟩ (.slice a1 l1 p1)) (some (w.heap.size + 1 + 1)) := by
    iterate 4 (refine grownBy_setCell ?_ (.inl rfl) _)
    exact grownBy_setCell (World.grownBy.refl _ _) (.inl rfl) _
  have hnr : ∀ x, a1 = some x → some x.block ≠ some (w.heap.size + 1 + 1) := fun x hx e => by
    have := HR.out.2.2.2.2 x hx
    simp at this
    injection e with e
    omega
  refine bodyPost_ret (results_cell_row rfl _ _ _ 35 #[.int .i64 (someR r).x0, .int .i64 (someR r).y0, .int .i64 (someR r).x1, .int .i64 (someR r).y1, .slice a1 l1 p1] (0, 0) _ rfl (HR.out.2.2.2.1.set5 _ _ _ _ _) Tryd.underlying35 rfl buf_info) rfl ⟨a1, l1, p1, rfl, HR.out.2.2.1.grown gs (fun k hk => by injection hk with hk; omega), HR.out.1.grown gs (fun _ => hnr), HR.out.2.1.grown gs hnr, fun x hx => ?_⟩
  have := HR.out.2.2.2.2 x hx
  simp at this
  omega
end Go.Proofs.YtklcmlbkhjcaiaaDoor
