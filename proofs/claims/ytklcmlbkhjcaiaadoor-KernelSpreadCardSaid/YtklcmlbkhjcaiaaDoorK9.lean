/- The walks of layer 15's small functions: box, pixel, ByPoint, merged. -/
import Derived.Test.YtklcmlbkhjcaiaaDoorK10
import Derived.Test.YtklcmlbkhjcaiaaDoorTintW



namespace Go.Proofs.YtklcmlbkhjcaiaaDoor
open Go.RowKit
set_option linter.unusedVariables false

/-- A part of a list of numbers. -/
theorem IsInts.drop {w : World} {b off len cap : Nat} {f : Nat → Int} (h : IsInts w (some ⟨b, off, none⟩) len cap f) {k : Nat} (hk : k < len) : IsInts w (some ⟨b, off + k, none⟩) (len - k) (cap - k) (fun i => f (k + i)) :=
  ⟨by have := h.le; omega, by have := h.most; omega, fun i hi => h.wf (k + i) (by omega), fun h0 => by
    obtain ⟨b', off', e, hb, hc⟩ := h.cells (by omega)
    cases e
    exact ⟨b, off + k, rfl, hb, fun i hi => by have := hc (k + i) (by omega); rwa [← Nat.add_assoc] at this⟩⟩
theorem mix_compIs (op : Int) (p q r : P4) (w : World) (ho : 0 ≤ op ∧ op ≤ 5) (hp : okP p) (hq : okP q) (h : Hid (compP op p q = r)) : Calls Tryd.prog 69 #[.int .i64 op, .agg #[.int .u8 p.r, .int .u8 p.g, .int .u8 p.b, .int .u8 p.a], .agg #[.int .u8 q.r, .int .u8 q.g, .int .u8 q.b, .int .u8 q.a]] w fun e w' => e = .returned (.agg #[.int .u8 r.r, .int .u8 r.g, .int .u8 r.b, .int .u8 r.a]) ∧ Grows w w' := by
  have hr : compP op p q = r := h.out
  subst hr
  obtain ⟨h1, h2, h3, h4⟩ := hp
  obtain ⟨k1, k2, k3, k4⟩ := hq
  exact mix_comp op p.r p.g p.b p.a q.r q.g q.b q.a w ho h1 h2 h3 h4 k1 k2 k3 k4
theorem mix_blendIs (m : Int) (p q r : P4) (w : World) (hm : 0 ≤ m ∧ m ≤ 6) (hp : okP p) (hq : okP q) (h : Hid (blendP m p q = r)) : Calls Tryd.prog 96 #[.int .i64 m, .agg #[.int .u8 p.r, .int .u8 p.g, .int .u8 p.b, .int .u8 p.a], .agg #[.int .u8 q.r, .int .u8 q.g, .int .u8 q.b, .int .u8 q.a]] w fun e w' => e = .returned (.agg #[.int .u8 r.r, .int .u8 r.g, .int .u8 r.b, .int .u8 r.a]) ∧ Grows w w' := by
  have hr : blendP m p q = r := h.out
  subst hr
  obtain ⟨h1, h2, h3, h4⟩ := hp
  obtain ⟨k1, k2, k3, k4⟩ := hq
  exact mix_blend m p.r p.g p.b p.a q.r q.g q.b q.a w hm h1 h2 h3 h4 k1 k2 k3 k4
theorem mat_of {w : World} {b off cap : Nat} {p : Nat → Int} (h : IsInts w (some ⟨b, off, none⟩) 20 cap p) (hm : ∀ i, i < 20 → -32768 ≤ p i ∧ p i ≤ 32767) : Mat w b off cap p := by
  obtain ⟨b', off', e, hb, hc⟩ := h.cells (by omega)
  cases e
  exact ⟨hb, by have := h.le; omega, h.most, hc, hm⟩
theorem tint_pixelIs (p : Nat → Int) (b off cap : Nat) (q r : P4) (w : World) (hi : Hid (IsInts w (some ⟨b, off, none⟩) 20 cap p)) (hm : Hid (∀ i, i < 20 → -32768 ≤ p i ∧ p i ≤ 32767)) (hq : okP q) (h : Hid (tintP p q = r)) : Calls Tryd.prog 95 #[.slice (some ⟨b, off, none⟩) 20 cap, .agg #[.int .u8 q.r, .int .u8 q.g, .int .u8 q.b, .int .u8 q.a]] w fun e w' => e = .returned (.agg #[.int .u8 r.r, .int .u8 r.g, .int .u8 r.b, .int .u8 r.a]) ∧ Grows w w' := by
  have hr : tintP p q = r := h.out
  subst hr
  obtain ⟨k1, k2, k3, k4⟩ := hq
  exact tint_pixel p b off cap q.r q.g q.b q.a w (mat_of hi.out hm.out) k1 k2 k3 k4
set_option maxRecDepth 100000 in
set_option maxHeartbeats 1600000 in
theorem kernel_box (a : Option Addr) (len cap : Nat) (f : Nat → Int) (r : R) (w : World) (h : Hid (IsInts w a len cap f)) (h4 : 4 ≤ len) (hr : Hid (boxO f 0 = r)) :
    Calls Tryd.prog 41 #[.slice a len cap] w fun e w' => e = .returned (.agg #[.int .i64 r.x0, .int .i64 r.y0, .int .i64 r.x1, .int .i64 r.y1]) ∧ Grows w w' := by
  have m1 := h.out.le
  have m2 := h.out.most
  obtain ⟨b', off', rfl, hb', e0⟩ := h.out.at (k := 0) (by omega)
  obtain ⟨b2, off2, e, -, e1⟩ := h.out.at (k := 1) (by omega)
  cases e
  obtain ⟨b2, off2, e, -, e2⟩ := h.out.at (k := 2) (by omega)
  cases e
  obtain ⟨b2, off2, e, -, e3⟩ := h.out.at (k := 3) (by omega)
  cases e
  obtain ⟨x0, y0, x1, y1⟩ := r
  have q : boxO f 0 = ⟨x0, y0, x1, y1⟩ := hr.out
  injection q with q0 q1 q2 q3
  simp only [Nat.zero_add] at q1 q2 q3
  rw [q0] at e0
  rw [q1] at e1
  rw [q2] at e2
  rw [q3] at e3
  simp only [Nat.add_zero] at e0
  clear q0 q1 q2 q3 hr h
  go_enter Tryd.func41, Tryd.ntmps41
  go_wp2
  first | refine region_grow_tail2 13 (by kernel_rfl) (by kernel_rfl) ?_ | refine region_grow_tail 13 (by kernel_rfl) (by kernel_rfl) ?_
  simp only [List.take_succ_cons, List.take_zero, List.drop_succ_cons, List.drop_zero]
  repeat (go_big_quiet_step (fail))
  refine wpQuiet_nil ?_
  rintro _ ⟨gr, rfl⟩
  go_wp2
  refine bodyPost_ret (results_cell_row rfl _ _ _ 27 #[.int .i64 x0, .int .i64 y0, .int .i64 x1, .int .i64 y1] (0, 0) _ rfl ?_ Tryd.underlying27 rfl rect_info) rfl ⟨rfl, (by repeat (first | exact Grows.refl _ | apply Grows.grow | apply Grows.alloc | apply Grows.drew))⟩
  exact (by repeat (first | exact blk_at _ _ _ (by first | omega | (simp; done) | (simp; omega)) | refine (blk_past _ _ _ (by first | omega | (simp; done) | (simp; omega))).trans ?_ | refine (heap_grow _ _ _ (by first | omega | (simp; done) | (simp; omega))).trans ?_ | refine (blk_drew _ _).trans ?_))
set_option maxRecDepth 100000 in
set_option maxHeartbeats 1600000 in
theorem kernel_pixel (a : Option Addr) (len cap : Nat) (f : Nat → Int) (r : P4) (w : World) (h : Hid (IsInts w a len cap f)) (h4 : 4 ≤ len) (hr : Hid (pxO f 0 = r)) (ok : okP r) :
    Calls Tryd.prog 43 #[.slice a len cap] w fun e w' => e = .returned (.agg #[.int .u8 r.r, .int .u8 r.g, .int .u8 r.b, .int .u8 r.a]) ∧ Grows w w' := by
  have m1 := h.out.le
  have m2 := h.out.most
  obtain ⟨b', off', rfl, hb', e0⟩ := h.out.at (k := 0) (by omega)
  obtain ⟨b2, off2, e, -, e1⟩ := h.out.at (k := 1) (by omega)
  cases e
  obtain ⟨b2, off2, e, -, e2⟩ := h.out.at (k := 2) (by omega)
  cases e
  obtain ⟨b2, off2, e, -, e3⟩ := h.out.at (k := 3) (by omega)
  cases e
  obtain ⟨v0, v1, v2, v3⟩ := r
  have q : pxO f 0 = ⟨v0, v1, v2, v3⟩ := hr.out
  injection q with q0 q1 q2 q3
  simp only [Nat.zero_add] at q1 q2 q3
  rw [q0] at e0
  rw [q1] at e1
  rw [q2] at e2
  rw [q3] at e3
  simp only [Nat.add_zero] at e0
  obtain ⟨⟨o0, o0'⟩, ⟨o1, o1'⟩, ⟨o2, o2'⟩, ⟨o3, o3'⟩⟩ := ok
  simp only at o0 o0' o1 o1' o2 o2' o3 o3'
  clear q0 q1 q2 q3 hr h
  go_enter Tryd.func43, Tryd.ntmps43
  go_wp2
  first | refine region_grow_tail2 17 (by kernel_rfl) (by kernel_rfl) ?_ | refine region_grow_tail 17 (by kernel_rfl) (by kernel_rfl) ?_
  simp only [List.take_succ_cons, List.take_zero, List.drop_succ_cons, List.drop_zero]
  repeat (go_big_quiet_step (fail))
  refine wpQuiet_nil ?_
  rintro _ ⟨gr, rfl⟩
  go_wp2
  refine bodyPost_ret (results_cell_row rfl _ _ _ 40 #[.int .u8 v0, .int .u8 v1, .int .u8 v2, .int .u8 v3] (0, 0) _ rfl ?_ Tryd.underlying40 rfl px_info) rfl ⟨rfl, (by repeat (first | exact Grows.refl _ | apply Grows.grow | apply Grows.alloc | apply Grows.drew))⟩
  exact (by repeat (first | exact blk_at _ _ _ (by first | omega | (simp; done) | (simp; omega)) | refine (blk_past _ _ _ (by first | omega | (simp; done) | (simp; omega))).trans ?_ | refine (heap_grow _ _ _ (by first | omega | (simp; done) | (simp; omega))).trans ?_ | refine (blk_drew _ _).trans ?_))
theorem kernel_ByPoint (op : Int) (w : World) : Calls Tryd.prog 25 #[.int .i64 op] w fun e w' => e = .returned (.bool (decide (op = 5 ∨ op = 6 ∨ op = 7 ∨ op = 8 ∨ op = 9 ∨ op = 12))) ∧ Grows w w' := by
  by_cases c : op = 5 ∨ op = 6 ∨ op = 7 ∨ op = 8 ∨ op = 9 ∨ op = 12
  · rw [decide_eq_true c]
    rcases c with rfl | rfl | rfl | rfl | rfl | rfl
    all_goals
      go_enter Tryd.func25, Tryd.ntmps25
      go_wp2
      go_ret
      exact ⟨rfl, (by repeat (first | exact Grows.refl _ | apply Grows.grow | apply Grows.alloc | apply Grows.drew))⟩
  · rw [decide_eq_false c]
    have c5 : (op == 5) = false := by simp; omega
    have c6 : (op == 6) = false := by simp; omega
    have c7 : (op == 7) = false := by simp; omega
    have c8 : (op == 8) = false := by simp; omega
    have c9 : (op == 9) = false := by simp; omega
    have c12 : (op == 12) = false := by simp; omega
    clear c
    go_enter Tryd.func25, Tryd.ntmps25
    go_wp2
    go_ret
    exact ⟨rfl, (by repeat (first | exact Grows.refl _ | apply Grows.grow | apply Grows.alloc | apply Grows.drew))⟩
theorem Grows.four {w wr : World} {n : Nat} (h : Grows w wr) (hn : w.heap.size ≤ n) (v0 v1 v2 v3 : Value) : Grows w ((((wr.setCell ⟨n, 0, none⟩ v0).setCell ⟨n, 1, none⟩ v1).setCell ⟨n, 2, none⟩ v2).setCell ⟨n, 3, none⟩ v3) := by
  iterate 3 (refine Grows.setCell ?_ hn _)
  exact h.setCell hn _
theorem store4_grown (wr : World) (n : Nat) (v0 v1 v2 v3 : Value) : wr.grownBy ((((wr.setCell ⟨n, 0, none⟩ v0).setCell ⟨n, 1, none⟩ v1).setCell ⟨n, 2, none⟩ v2).setCell ⟨n, 3, none⟩ v3) (some n) := by
  iterate 3 (refine grownBy_setCell ?_ (.inl rfl) _)
  exact grownBy_setCell (World.grownBy.refl wr _) (.inl rfl) _
set_option maxRecDepth 100000 in
set_option maxHeartbeats 3200000 in
theorem kernel_merged (a : Option Addr) (len cap : Nat) (q : Nat → P4) (r : P4) (w : World) (h : Hid (IsPix w a len cap q)) (hr : Hid (foldP q len = r)) :
    Calls Tryd.prog 97 #[.slice a len cap] w fun e w' => e = .returned (.agg #[.int .u8 r.r, .int .u8 r.g, .int .u8 r.b, .int .u8 r.a]) ∧ Grows w w' := by
  have m1 := h.out.le
  have m2 := h.out.most
  have FO : Hid (∀ k, okP (foldP q k)) := foldP_ok q
  go_enter Tryd.func97, Tryd.ntmps97
  go_wp2
  go_loopw [8] (fun z wr => ∃ (k : Nat) (c : P4), k ≤ len ∧ z = .int .i64 k ∧ okP c ∧ Hid (Grows w wr ∧ foldP q k = c ∧ Blk wr w.heap.size 40 #[.int .u8 0, .int .u8 0, .int .u8 0, .int .u8 0] ∧ Blk wr (w.heap.size + 1) 40 #[.int .u8 c.r, .int .u8 c.g, .int .u8 c.b, .int .u8 c.a])) (fun z _ => len - (intOf z).toNat)
  case atStart => exact ⟨0, noP, by omega, rfl, okP_no, (by repeat (first | exact Grows.refl _ | apply Grows.grow | apply Grows.alloc | apply Grows.drew)), rfl, (by unfold Blk; repeat (first | exact blk_at _ _ _ (by first | omega | (simp; done) | (simp; omega)) | refine (blk_past _ _ _ (by first | omega | (simp; done) | (simp; omega))).trans ?_ | refine (heap_grow _ _ _ (by first | omega | (simp; done) | (simp; omega))).trans ?_ | refine (blk_drew _ _).trans ?_)), (by unfold Blk; repeat (first | exact blk_at _ _ _ (by first | omega | (simp; done) | (simp; omega)) | refine (blk_past _ _ _ (by first | omega | (simp; done) | (simp; omega))).trans ?_ | refine (heap_grow _ _ _ (by first | omega | (simp; done) | (simp; omega))).trans ?_ | refine (blk_drew _ _).trans ?_))⟩
  case round =>
    obtain ⟨k, c, hk, rfl, hc, hh⟩ := hrel
    obtain ⟨c0, c1, c2, c3, cf⟩ := hh.out.2.2.2.c4
    have lc := hh.out.2.2.2.lt
    by_cases hlt : k < len
    · obtain ⟨b', off', rfl, hb', hok, e0, e1, e2, e3⟩ := (h.out.grows hh.out.1).px hlt
      obtain ⟨d, hd⟩ : ∃ d, d = q k := ⟨_, rfl⟩
      rw [← hd] at hok e0 e1 e2 e3
      have HOV : Hid (compP 0 d c = foldP q (k + 1)) := by
        show _ = compP 0 (q k) (foldP q k)
        rw [hh.out.2.1, hd]
      have hn := FO.out (k + 1)
      obtain ⟨c', hc'⟩ : ∃ z, z = foldP q (k + 1) := ⟨_, rfl⟩
      rw [← hc'] at HOV hn
      have HC := Lib.hid hc'
      clear hd hc'
      go_wp2_with ((first | (go_at_call 69; (with_reducible refine (mix_overIs _ _ _ _ (by assumption) (by assumption) HOV).mono ?_); rintro e w' ⟨rfl, hgw⟩; first | (obtain ⟨gw, rfl⟩ := grows_of_grow hgw) | (obtain ⟨gw, rfl⟩ := hgw))))
      go_roundw
      case rel =>
        refine ⟨k + 1, c', by omega, by go_num, hn, ?_, HC.out.symm, ?_, ?_⟩
        · exact (hh.out.1.four (n := w.heap.size + 1) (by omega) _ _ _ _).trans (by repeat (first | exact Grows.refl _ | apply Grows.grow | apply Grows.alloc | apply Grows.drew))
        · exact (Blk.grown hh.out.2.2.1 (store4_grown wr (w.heap.size + 1) _ _ _ _) (fun e => by injection e with e; omega)).grows (by repeat (first | exact Grows.refl _ | apply Grows.grow | apply Grows.alloc | apply Grows.drew))
        · exact (hh.out.2.2.2.set4 _ _ _ _).grows (by repeat (first | exact Grows.refl _ | apply Grows.grow | apply Grows.alloc | apply Grows.drew))
      case measure => simp [intOf]; omega
    · obtain rfl : len = k := by omega
      have hF : r = c := hr.out.symm.trans hh.out.2.1
      subst hF
      obtain ⟨b0, b1, b2, b3, bf⟩ := hh.out.2.2.1.c4
      have lb := hh.out.2.2.1.lt
      have B0 := Lib.hid hh.out.2.2.1
      have GR := Lib.hid hh.out.1
      clear hr
      go_wp2
      refine bodyPost_ret (results_cell_row rfl _ _ _ 40 #[.int .u8 r.r, .int .u8 r.g, .int .u8 r.b, .int .u8 r.a] (0, 0) _ rfl ?_ Tryd.underlying40 rfl px_info) rfl ⟨rfl, ?_⟩
      · exact Blk.set4 B0.out _ _ _ _
      · exact GR.out.four (Nat.le_refl _) _ _ _ _
end Go.Proofs.YtklcmlbkhjcaiaaDoor
/- The walk of layer 15's At. -/

namespace Go.Proofs.YtklcmlbkhjcaiaaDoor
open Go.RowKit
set_option linter.unusedVariables false

theorem rect_hasIs15 (r : R) (x y : Int) (w : World) (c : Bool) (h : Hid (hasR r x y = c)) : Calls Tryd.prog 90 #[.agg #[.int .i64 r.x0, .int .i64 r.y0, .int .i64 r.x1, .int .i64 r.y1], .int .i64 x, .int .i64 y] w fun e w' => e = .returned (.bool c) ∧ Grows w w' := by
  have hc : hasR r x y = c := h.out
  subst hc
  exact rect_hasR r x y w
set_option maxRecDepth 100000 in
set_option maxHeartbeats 6400000 in
theorem kernel_At_5 (ia : Option Addr) (il ic : Nat) (pa : Option Addr) (pl pc : Nat) (p : Nat → Int) (a : Option Addr) (n cap : Nat) (q : Nat → P4) (x y : Int) (r : P4) (w : World) (hp : Hid (IsInts w pa pl pc p)) (hl : (pl : Int) = prmN 5) (hq : Hid (IsPix w a n cap q)) (hk : NodeOk 5 p n) (hr : Hid (atK 5 p n q x y = r)) :
    Calls Tryd.prog 70 #[.agg #[.int .i64 5, .slice ia il ic, .slice pa pl pc], .slice a n cap, .int .i64 x, .int .i64 y] w fun e w' => e = .returned (.agg #[.int .u8 r.r, .int .u8 r.g, .int .u8 r.b, .int .u8 r.a]) ∧ Grows w w' := by
  have m1 := hp.out.le
  have m2 := hp.out.most
  have m3 := hq.out.le
  have m4 := hq.out.most
  have n1 := hk.one (by omega)
  obtain rfl : pl = 20 := by have : prmN 5 = 20 := (by decide); omega
  obtain ⟨bp, offp, rfl, hbp, e0⟩ := hp.out.at (k := 0) (by omega)
  simp only [Nat.add_zero] at e0
  obtain ⟨b', off', rfl, hb', okd, d0, d1, d2, d3⟩ := hq.out.px (k := 0) (by omega)
  simp only [Nat.zero_mul, Nat.add_zero] at d0 d1 d2 d3
  have HM : Hid (∀ i, i < 20 → -32768 ≤ p i ∧ p i ≤ 32767) := hk.mat rfl
  have HT : Hid (tintP p (q 0) = r) := Lib.hid (by have := hr.out; simpa [atK] using this)
  obtain ⟨d, hd⟩ : ∃ z, z = q 0 := ⟨_, rfl⟩
  rw [← hd] at okd d0 d1 d2 d3 HT
  clear hd hr hk hl e0
  go_enter Tryd.func70, Tryd.ntmps70
  go_wp2
  first | refine region_grow_tail2 6 (by kernel_rfl) (by kernel_rfl) ?_ | refine region_grow_tail 6 (by kernel_rfl) (by kernel_rfl) ?_
  simp only [List.take_succ_cons, List.take_zero, List.drop_succ_cons, List.drop_zero]
  repeat (go_big_quiet_step ((first | (go_at_call 95; exact grow_of (tint_pixelIs _ _ _ _ _ _ _ (Lib.hid (IsInts.grows hp.out (by repeat (first | exact Grows.refl _ | apply Grows.grow | apply Grows.alloc | apply Grows.drew)))) HM (by assumption) HT)))))
  refine wpQuiet_nil ?_
  rintro _ ⟨gd, rfl⟩
  go_wp2
  refine bodyPost_ret (results_cell_row rfl _ _ _ 40 #[.int .u8 r.r, .int .u8 r.g, .int .u8 r.b, .int .u8 r.a] (0, 0) _ rfl ?_ Tryd.underlying40 rfl px_info) rfl ⟨rfl, (by repeat (first | exact Grows.refl _ | apply Grows.grow | apply Grows.alloc | apply Grows.drew))⟩
  exact (by repeat (first | exact blk_at _ _ _ (by first | omega | (simp; done) | (simp; omega)) | refine (blk_past _ _ _ (by first | omega | (simp; done) | (simp; omega))).trans ?_ | refine (heap_grow _ _ _ (by first | omega | (simp; done) | (simp; omega))).trans ?_ | refine (blk_drew _ _).trans ?_))
set_option maxRecDepth 100000 in
set_option maxHeartbeats 6400000 in
theorem kernel_At_6 (ia : Option Addr) (il ic : Nat) (pa : Option Addr) (pl pc : Nat) (p : Nat → Int) (a : Option Addr) (n cap : Nat) (q : Nat → P4) (x y : Int) (r : P4) (w : World) (hp : Hid (IsInts w pa pl pc p)) (hl : (pl : Int) = prmN 6) (hq : Hid (IsPix w a n cap q)) (hk : NodeOk 6 p n) (hr : Hid (atK 6 p n q x y = r)) :
    Calls Tryd.prog 70 #[.agg #[.int .i64 6, .slice ia il ic, .slice pa pl pc], .slice a n cap, .int .i64 x, .int .i64 y] w fun e w' => e = .returned (.agg #[.int .u8 r.r, .int .u8 r.g, .int .u8 r.b, .int .u8 r.a]) ∧ Grows w w' := by
  have m1 := hp.out.le
  have m2 := hp.out.most
  have m3 := hq.out.le
  have m4 := hq.out.most
  obtain rfl : pl = 8 := by have : prmN 6 = 8 := (by decide); omega
  obtain ⟨bp, offp, rfl, hbp, e0⟩ := hp.out.at (k := 0) (by omega)
  have HPD := Lib.hid (hp.out.drop (k := 4) (by omega))
  have HPX := hp
  have ok6 := (hk.px6 rfl).1
  obtain ⟨bx, hbx⟩ : ∃ z, z = boxO p 4 := ⟨_, rfl⟩
  have HBX : Hid (boxO (fun i => p (4 + i)) 0 = bx) := by rw [hbx]; rfl
  obtain ⟨pr, hpr⟩ : ∃ z, z = pxO p 0 := ⟨_, rfl⟩
  have HPR : Hid (pxO p 0 = pr) := hpr.symm
  have hr' : (if hasR bx x y = true then pr else noP) = r := by have := hr.out; rw [hbx, hpr]; simpa [atK] using this
  rw [← hpr] at ok6
  clear hr hk hl e0 hbx hpr
  cases c : hasR bx x y
  · have HHT := Lib.hid c
    rw [c, if_neg (by simp)] at hr'
    subst hr'
    clear c
    go_enter Tryd.func70, Tryd.ntmps70
    go_wp2_with ((first | (go_at_call 41; (with_reducible refine (kernel_box _ _ _ _ _ _ (Lib.hid (IsInts.grows HPD.out (by repeat (first | exact Grows.refl _ | apply Grows.grow | apply Grows.alloc | apply Grows.drew)))) (by omega) HBX).mono ?_); rintro e w' ⟨rfl, hgw⟩; first | (obtain ⟨gw, rfl⟩ := grows_of_grow hgw) | (obtain ⟨gw, rfl⟩ := hgw)) | (go_at_call 90; (with_reducible refine (rect_hasIs15 _ _ _ _ _ HHT).mono ?_); rintro e w' ⟨rfl, hgw⟩; first | (obtain ⟨gw, rfl⟩ := grows_of_grow hgw) | (obtain ⟨gw, rfl⟩ := hgw)) | (go_at_call 43; (with_reducible refine (kernel_pixel _ _ _ _ _ _ (Lib.hid (IsInts.grows HPX.out (by repeat (first | exact Grows.refl _ | apply Grows.grow | apply Grows.alloc | apply Grows.drew)))) (by omega) HPR (by assumption)).mono ?_); rintro e w' ⟨rfl, hgw⟩; first | (obtain ⟨gw, rfl⟩ := grows_of_grow hgw) | (obtain ⟨gw, rfl⟩ := hgw))))
    refine bodyPost_ret (results_cell_row rfl _ _ _ 40 #[.int .u8 0, .int .u8 0, .int .u8 0, .int .u8 0] (0, 0) _ rfl ?_ Tryd.underlying40 rfl px_info) rfl ⟨rfl, (by repeat (first | exact Grows.refl _ | apply Grows.grow | apply Grows.alloc | apply Grows.drew))⟩
    exact (by repeat (first | exact blk_at _ _ _ (by first | omega | (simp; done) | (simp; omega)) | refine (blk_past _ _ _ (by first | omega | (simp; done) | (simp; omega))).trans ?_ | refine (heap_grow _ _ _ (by first | omega | (simp; done) | (simp; omega))).trans ?_ | refine (blk_drew _ _).trans ?_))
  · have HHT := Lib.hid c
    rw [c, if_pos rfl] at hr'
    subst hr'
    clear c
    go_enter Tryd.func70, Tryd.ntmps70
    go_wp2_with ((first | (go_at_call 41; (with_reducible refine (kernel_box _ _ _ _ _ _ (Lib.hid (IsInts.grows HPD.out (by repeat (first | exact Grows.refl _ | apply Grows.grow | apply Grows.alloc | apply Grows.drew)))) (by omega) HBX).mono ?_); rintro e w' ⟨rfl, hgw⟩; first | (obtain ⟨gw, rfl⟩ := grows_of_grow hgw) | (obtain ⟨gw, rfl⟩ := hgw)) | (go_at_call 90; (with_reducible refine (rect_hasIs15 _ _ _ _ _ HHT).mono ?_); rintro e w' ⟨rfl, hgw⟩; first | (obtain ⟨gw, rfl⟩ := grows_of_grow hgw) | (obtain ⟨gw, rfl⟩ := hgw)) | (go_at_call 43; (with_reducible refine (kernel_pixel _ _ _ _ _ _ (Lib.hid (IsInts.grows HPX.out (by repeat (first | exact Grows.refl _ | apply Grows.grow | apply Grows.alloc | apply Grows.drew)))) (by omega) HPR (by assumption)).mono ?_); rintro e w' ⟨rfl, hgw⟩; first | (obtain ⟨gw, rfl⟩ := grows_of_grow hgw) | (obtain ⟨gw, rfl⟩ := hgw))))
    refine bodyPost_ret (results_cell_row rfl _ _ _ 40 #[.int .u8 pr.r, .int .u8 pr.g, .int .u8 pr.b, .int .u8 pr.a] (0, 0) _ rfl ?_ Tryd.underlying40 rfl px_info) rfl ⟨rfl, (by repeat (first | exact Grows.refl _ | apply Grows.grow | apply Grows.alloc | apply Grows.drew))⟩
    exact (by repeat (first | exact blk_at _ _ _ (by first | omega | (simp; done) | (simp; omega)) | refine (blk_past _ _ _ (by first | omega | (simp; done) | (simp; omega))).trans ?_ | refine (heap_grow _ _ _ (by first | omega | (simp; done) | (simp; omega))).trans ?_ | refine (blk_drew _ _).trans ?_))
set_option maxRecDepth 100000 in
set_option maxHeartbeats 6400000 in
theorem kernel_At_7 (ia : Option Addr) (il ic : Nat) (pa : Option Addr) (pl pc : Nat) (p : Nat → Int) (a : Option Addr) (n cap : Nat) (q : Nat → P4) (x y : Int) (r : P4) (w : World) (hp : Hid (IsInts w pa pl pc p)) (hl : (pl : Int) = prmN 7) (hq : Hid (IsPix w a n cap q)) (hk : NodeOk 7 p n) (hr : Hid (atK 7 p n q x y = r)) :
    Calls Tryd.prog 70 #[.agg #[.int .i64 7, .slice ia il ic, .slice pa pl pc], .slice a n cap, .int .i64 x, .int .i64 y] w fun e w' => e = .returned (.agg #[.int .u8 r.r, .int .u8 r.g, .int .u8 r.b, .int .u8 r.a]) ∧ Grows w w' := by
  have m1 := hp.out.le
  have m2 := hp.out.most
  have m3 := hq.out.le
  have m4 := hq.out.most
  have n2 := hk.two (by omega)
  have hmo := hk.mode rfl
  obtain rfl : pl = 1 := by have : prmN 7 = 1 := (by decide); omega
  obtain ⟨bp, offp, rfl, hbp, e0⟩ := hp.out.at (k := 0) (by omega)
  simp only [Nat.add_zero] at e0
  obtain ⟨b', off', rfl, hb', okd, d0, d1, d2, d3⟩ := hq.out.px (k := 0) (by omega)
  obtain ⟨b2, off2, e, -, okc, c0, c1, c2, c3⟩ := hq.out.px (k := 1) (by omega)
  cases e
  simp only [Nat.zero_mul, Nat.add_zero] at d0 d1 d2 d3
  simp only [Nat.one_mul] at c0 c1 c2 c3
  have HBL : Hid (blendP (p 0) (q 0) (q 1) = r) := Lib.hid (by have := hr.out; simpa [atK] using this)
  obtain ⟨d, hd⟩ : ∃ z, z = q 0 := ⟨_, rfl⟩
  obtain ⟨c, hc⟩ : ∃ z, z = q 1 := ⟨_, rfl⟩
  obtain ⟨m, hm⟩ : ∃ z, z = p 0 := ⟨_, rfl⟩
  rw [← hd] at okd d0 d1 d2 d3
  rw [← hc] at okc c0 c1 c2 c3
  rw [← hm] at e0 hmo
  rw [← hd, ← hc, ← hm] at HBL
  clear hd hc hm hr hk hl
  go_enter Tryd.func70, Tryd.ntmps70
  go_wp2
  first | refine region_grow_tail2 11 (by kernel_rfl) (by kernel_rfl) ?_ | refine region_grow_tail 11 (by kernel_rfl) (by kernel_rfl) ?_
  simp only [List.take_succ_cons, List.take_zero, List.drop_succ_cons, List.drop_zero]
  repeat (go_big_quiet_step ((first | (go_at_call 96; exact grow_of (mix_blendIs _ _ _ _ _ (by omega) (by assumption) (by assumption) HBL)))))
  refine wpQuiet_nil ?_
  rintro _ ⟨gd, rfl⟩
  go_wp2
  refine bodyPost_ret (results_cell_row rfl _ _ _ 40 #[.int .u8 r.r, .int .u8 r.g, .int .u8 r.b, .int .u8 r.a] (0, 0) _ rfl ?_ Tryd.underlying40 rfl px_info) rfl ⟨rfl, (by repeat (first | exact Grows.refl _ | apply Grows.grow | apply Grows.alloc | apply Grows.drew))⟩
  exact (by repeat (first | exact blk_at _ _ _ (by first | omega | (simp; done) | (simp; omega)) | refine (blk_past _ _ _ (by first | omega | (simp; done) | (simp; omega))).trans ?_ | refine (heap_grow _ _ _ (by first | omega | (simp; done) | (simp; omega))).trans ?_ | refine (blk_drew _ _).trans ?_))
set_option maxRecDepth 100000 in
set_option maxHeartbeats 6400000 in
theorem kernel_At_8 (ia : Option Addr) (il ic : Nat) (pa : Option Addr) (pl pc : Nat) (p : Nat → Int) (a : Option Addr) (n cap : Nat) (q : Nat → P4) (x y : Int) (r : P4) (w : World) (hp : Hid (IsInts w pa pl pc p)) (hl : (pl : Int) = prmN 8) (hq : Hid (IsPix w a n cap q)) (hk : NodeOk 8 p n) (hr : Hid (atK 8 p n q x y = r)) :
    Calls Tryd.prog 70 #[.agg #[.int .i64 8, .slice ia il ic, .slice pa pl pc], .slice a n cap, .int .i64 x, .int .i64 y] w fun e w' => e = .returned (.agg #[.int .u8 r.r, .int .u8 r.g, .int .u8 r.b, .int .u8 r.a]) ∧ Grows w w' := by
  have m1 := hp.out.le
  have m2 := hp.out.most
  have m3 := hq.out.le
  have m4 := hq.out.most
  have n2 := hk.two (by omega)
  have hmo := hk.oper rfl
  obtain rfl : pl = 1 := by have : prmN 8 = 1 := (by decide); omega
  obtain ⟨bp, offp, rfl, hbp, e0⟩ := hp.out.at (k := 0) (by omega)
  simp only [Nat.add_zero] at e0
  obtain ⟨b', off', rfl, hb', okd, d0, d1, d2, d3⟩ := hq.out.px (k := 0) (by omega)
  obtain ⟨b2, off2, e, -, okc, c0, c1, c2, c3⟩ := hq.out.px (k := 1) (by omega)
  cases e
  simp only [Nat.zero_mul, Nat.add_zero] at d0 d1 d2 d3
  simp only [Nat.one_mul] at c0 c1 c2 c3
  have HBL : Hid (compP (p 0) (q 0) (q 1) = r) := Lib.hid (by have := hr.out; simpa [atK] using this)
  obtain ⟨d, hd⟩ : ∃ z, z = q 0 := ⟨_, rfl⟩
  obtain ⟨c, hc⟩ : ∃ z, z = q 1 := ⟨_, rfl⟩
  obtain ⟨m, hm⟩ : ∃ z, z = p 0 := ⟨_, rfl⟩
  rw [← hd] at okd d0 d1 d2 d3
  rw [← hc] at okc c0 c1 c2 c3
  rw [← hm] at e0 hmo
  rw [← hd, ← hc, ← hm] at HBL
  clear hd hc hm hr hk hl
  go_enter Tryd.func70, Tryd.ntmps70
  go_wp2
  first | refine region_grow_tail2 11 (by kernel_rfl) (by kernel_rfl) ?_ | refine region_grow_tail 11 (by kernel_rfl) (by kernel_rfl) ?_
  simp only [List.take_succ_cons, List.take_zero, List.drop_succ_cons, List.drop_zero]
  repeat (go_big_quiet_step ((first | (go_at_call 69; exact grow_of (mix_compIs _ _ _ _ _ (by omega) (by assumption) (by assumption) HBL)))))
  refine wpQuiet_nil ?_
  rintro _ ⟨gd, rfl⟩
  go_wp2
  refine bodyPost_ret (results_cell_row rfl _ _ _ 40 #[.int .u8 r.r, .int .u8 r.g, .int .u8 r.b, .int .u8 r.a] (0, 0) _ rfl ?_ Tryd.underlying40 rfl px_info) rfl ⟨rfl, (by repeat (first | exact Grows.refl _ | apply Grows.grow | apply Grows.alloc | apply Grows.drew))⟩
  exact (by repeat (first | exact blk_at _ _ _ (by first | omega | (simp; done) | (simp; omega)) | refine (blk_past _ _ _ (by first | omega | (simp; done) | (simp; omega))).trans ?_ | refine (heap_grow _ _ _ (by first | omega | (simp; done) | (simp; omega))).trans ?_ | refine (blk_drew _ _).trans ?_))
set_option maxRecDepth 100000 in
set_option maxHeartbeats 6400000 in
theorem kernel_At_9 (ia : Option Addr) (il ic : Nat) (pa : Option Addr) (pl pc : Nat) (p : Nat → Int) (a : Option Addr) (n cap : Nat) (q : Nat → P4) (x y : Int) (r : P4) (w : World) (hp : Hid (IsInts w pa pl pc p)) (hl : (pl : Int) = prmN 9) (hq : Hid (IsPix w a n cap q)) (hk : NodeOk 9 p n) (hr : Hid (atK 9 p n q x y = r)) :
    Calls Tryd.prog 70 #[.agg #[.int .i64 9, .slice ia il ic, .slice pa pl pc], .slice a n cap, .int .i64 x, .int .i64 y] w fun e w' => e = .returned (.agg #[.int .u8 r.r, .int .u8 r.g, .int .u8 r.b, .int .u8 r.a]) ∧ Grows w w' := by
  have m1 := hp.out.le
  have m2 := hp.out.most
  have m3 := hq.out.le
  have m4 := hq.out.most
  have HFO : Hid (foldP q n = r) := Lib.hid (by have := hr.out; simpa [atK] using this)
  clear hr hk hl
  go_enter Tryd.func70, Tryd.ntmps70
  go_wp2_with ((first | (go_at_call 97; (with_reducible refine (kernel_merged _ _ _ _ _ _ (Lib.hid (IsPix.grows hq.out (by repeat (first | exact Grows.refl _ | apply Grows.grow | apply Grows.alloc | apply Grows.drew)))) HFO).mono ?_); rintro e w' ⟨rfl, hgw⟩; first | (obtain ⟨gw, rfl⟩ := grows_of_grow hgw) | (obtain ⟨gw, rfl⟩ := hgw))))
  refine bodyPost_ret (results_cell_row rfl _ _ _ 40 #[.int .u8 r.r, .int .u8 r.g, .int .u8 r.b, .int .u8 r.a] (0, 0) _ rfl ?_ Tryd.underlying40 rfl px_info) rfl ⟨rfl, (by repeat (first | exact Grows.refl _ | apply Grows.grow | apply Grows.alloc | apply Grows.drew))⟩
  exact (by repeat (first | exact blk_at _ _ _ (by first | omega | (simp; done) | (simp; omega)) | refine (blk_past _ _ _ (by first | omega | (simp; done) | (simp; omega))).trans ?_ | refine (heap_grow _ _ _ (by first | omega | (simp; done) | (simp; omega))).trans ?_ | refine (blk_drew _ _).trans ?_))
set_option maxRecDepth 100000 in
set_option maxHeartbeats 6400000 in
theorem kernel_At_12 (ia : Option Addr) (il ic : Nat) (pa : Option Addr) (pl pc : Nat) (p : Nat → Int) (a : Option Addr) (n cap : Nat) (q : Nat → P4) (x y : Int) (r : P4) (w : World) (hp : Hid (IsInts w pa pl pc p)) (hl : (pl : Int) = prmN 12) (hq : Hid (IsPix w a n cap q)) (hk : NodeOk 12 p n) (hr : Hid (atK 12 p n q x y = r)) :
    Calls Tryd.prog 70 #[.agg #[.int .i64 12, .slice ia il ic, .slice pa pl pc], .slice a n cap, .int .i64 x, .int .i64 y] w fun e w' => e = .returned (.agg #[.int .u8 r.r, .int .u8 r.g, .int .u8 r.b, .int .u8 r.a]) ∧ Grows w w' := by
  have m1 := hp.out.le
  have m2 := hp.out.most
  have m3 := hq.out.le
  have m4 := hq.out.most
  have n1 := hk.one (by omega)
  obtain rfl : pl = 4 := by have : prmN 12 = 4 := (by decide); omega
  obtain ⟨bp, offp, rfl, hbp, e0⟩ := hp.out.at (k := 0) (by omega)
  have HPD := hp
  obtain ⟨b', off', rfl, hb', okd, d0, d1, d2, d3⟩ := hq.out.px (k := 0) (by omega)
  simp only [Nat.zero_mul, Nat.add_zero] at d0 d1 d2 d3
  obtain ⟨d, hd⟩ : ∃ z, z = q 0 := ⟨_, rfl⟩
  rw [← hd] at okd d0 d1 d2 d3
  obtain ⟨bx, hbx⟩ : ∃ z, z = boxO p 0 := ⟨_, rfl⟩
  have HBX : Hid (boxO p 0 = bx) := hbx.symm
  have hr' : (if hasR bx x y = true then d else noP) = r := by have := hr.out; rw [hbx, hd]; simpa [atK] using this
  clear hr hk hl e0 hbx hd
  cases c : hasR bx x y
  · have HHT := Lib.hid c
    rw [c, if_neg (by simp)] at hr'
    subst hr'
    clear c
    go_enter Tryd.func70, Tryd.ntmps70
    go_wp2_with ((first | (go_at_call 41; (with_reducible refine (kernel_box _ _ _ _ _ _ (Lib.hid (IsInts.grows HPD.out (by repeat (first | exact Grows.refl _ | apply Grows.grow | apply Grows.alloc | apply Grows.drew)))) (by omega) HBX).mono ?_); rintro e w' ⟨rfl, hgw⟩; first | (obtain ⟨gw, rfl⟩ := grows_of_grow hgw) | (obtain ⟨gw, rfl⟩ := hgw)) | (go_at_call 90; (with_reducible refine (rect_hasIs15 _ _ _ _ _ HHT).mono ?_); rintro e w' ⟨rfl, hgw⟩; first | (obtain ⟨gw, rfl⟩ := grows_of_grow hgw) | (obtain ⟨gw, rfl⟩ := hgw))))
    refine bodyPost_ret (results_cell_row rfl _ _ _ 40 #[.int .u8 0, .int .u8 0, .int .u8 0, .int .u8 0] (0, 0) _ rfl ?_ Tryd.underlying40 rfl px_info) rfl ⟨rfl, (by repeat (first | exact Grows.refl _ | apply Grows.grow | apply Grows.alloc | apply Grows.drew))⟩
    exact (by repeat (first | exact blk_at _ _ _ (by first | omega | (simp; done) | (simp; omega)) | refine (blk_past _ _ _ (by first | omega | (simp; done) | (simp; omega))).trans ?_ | refine (heap_grow _ _ _ (by first | omega | (simp; done) | (simp; omega))).trans ?_ | refine (blk_drew _ _).trans ?_))
  · have HHT := Lib.hid c
    rw [c, if_pos rfl] at hr'
    subst hr'
    clear c
    go_enter Tryd.func70, Tryd.ntmps70
    go_wp2_with ((first | (go_at_call 41; (with_reducible refine (kernel_box _ _ _ _ _ _ (Lib.hid (IsInts.grows HPD.out (by repeat (first | exact Grows.refl _ | apply Grows.grow | apply Grows.alloc | apply Grows.drew)))) (by omega) HBX).mono ?_); rintro e w' ⟨rfl, hgw⟩; first | (obtain ⟨gw, rfl⟩ := grows_of_grow hgw) | (obtain ⟨gw, rfl⟩ := hgw)) | (go_at_call 90; (with_reducible refine (rect_hasIs15 _ _ _ _ _ HHT).mono ?_); rintro e w' ⟨rfl, hgw⟩; first | (obtain ⟨gw, rfl⟩ := grows_of_grow hgw) | (obtain ⟨gw, rfl⟩ := hgw))))
    refine bodyPost_ret (results_cell_row rfl _ _ _ 40 #[.int .u8 d.r, .int .u8 d.g, .int .u8 d.b, .int .u8 d.a] (0, 0) _ rfl ?_ Tryd.underlying40 rfl px_info) rfl ⟨rfl, (by repeat (first | exact Grows.refl _ | apply Grows.grow | apply Grows.alloc | apply Grows.drew))⟩
    exact (by repeat (first | exact blk_at _ _ _ (by first | omega | (simp; done) | (simp; omega)) | refine (blk_past _ _ _ (by first | omega | (simp; done) | (simp; omega))).trans ?_ | refine (heap_grow _ _ _ (by first | omega | (simp; done) | (simp; omega))).trans ?_ | refine (blk_drew _ _).trans ?_))
set_option maxRecDepth 100000 in
set_option maxHeartbeats 6400000 in
theorem kernel_At_1 (ia : Option Addr) (il ic : Nat) (pa : Option Addr) (pl pc : Nat) (p : Nat → Int) (a : Option Addr) (n cap : Nat) (q : Nat → P4) (x y : Int) (r : P4) (w : World) (hp : Hid (IsInts w pa pl pc p)) (hl : (pl : Int) = prmN 1) (hq : Hid (IsPix w a n cap q)) (hk : NodeOk 1 p n) (hr : Hid (atK 1 p n q x y = r)) :
    Calls Tryd.prog 70 #[.agg #[.int .i64 1, .slice ia il ic, .slice pa pl pc], .slice a n cap, .int .i64 x, .int .i64 y] w fun e w' => e = .returned (.agg #[.int .u8 r.r, .int .u8 r.g, .int .u8 r.b, .int .u8 r.a]) ∧ Grows w w' := by
  have m1 := hp.out.le
  have m2 := hp.out.most
  have m3 := hq.out.le
  have m4 := hq.out.most
  have hr' : noP = r := by have := hr.out; simpa [atK] using this
  subst hr'
  clear hr hk hl
  go_enter Tryd.func70, Tryd.ntmps70
  go_wp2
  refine bodyPost_ret (results_cell_row rfl _ _ _ 40 #[.int .u8 0, .int .u8 0, .int .u8 0, .int .u8 0] (0, 0) _ rfl ?_ Tryd.underlying40 rfl px_info) rfl ⟨rfl, (by repeat (first | exact Grows.refl _ | apply Grows.grow | apply Grows.alloc | apply Grows.drew))⟩
  exact (by repeat (first | exact blk_at _ _ _ (by first | omega | (simp; done) | (simp; omega)) | refine (blk_past _ _ _ (by first | omega | (simp; done) | (simp; omega))).trans ?_ | refine (heap_grow _ _ _ (by first | omega | (simp; done) | (simp; omega))).trans ?_ | refine (blk_drew _ _).trans ?_))
set_option maxRecDepth 100000 in
set_option maxHeartbeats 6400000 in
theorem kernel_At_2 (ia : Option Addr) (il ic : Nat) (pa : Option Addr) (pl pc : Nat) (p : Nat → Int) (a : Option Addr) (n cap : Nat) (q : Nat → P4) (x y : Int) (r : P4) (w : World) (hp : Hid (IsInts w pa pl pc p)) (hl : (pl : Int) = prmN 2) (hq : Hid (IsPix w a n cap q)) (hk : NodeOk 2 p n) (hr : Hid (atK 2 p n q x y = r)) :
    Calls Tryd.prog 70 #[.agg #[.int .i64 2, .slice ia il ic, .slice pa pl pc], .slice a n cap, .int .i64 x, .int .i64 y] w fun e w' => e = .returned (.agg #[.int .u8 r.r, .int .u8 r.g, .int .u8 r.b, .int .u8 r.a]) ∧ Grows w w' := by
  have m1 := hp.out.le
  have m2 := hp.out.most
  have m3 := hq.out.le
  have m4 := hq.out.most
  have hr' : noP = r := by have := hr.out; simpa [atK] using this
  subst hr'
  clear hr hk hl
  go_enter Tryd.func70, Tryd.ntmps70
  go_wp2
  refine bodyPost_ret (results_cell_row rfl _ _ _ 40 #[.int .u8 0, .int .u8 0, .int .u8 0, .int .u8 0] (0, 0) _ rfl ?_ Tryd.underlying40 rfl px_info) rfl ⟨rfl, (by repeat (first | exact Grows.refl _ | apply Grows.grow | apply Grows.alloc | apply Grows.drew))⟩
  exact (by repeat (first | exact blk_at _ _ _ (by first | omega | (simp; done) | (simp; omega)) | refine (blk_past _ _ _ (by first | omega | (simp; done) | (simp; omega))).trans ?_ | refine (heap_grow _ _ _ (by first | omega | (simp; done) | (simp; omega))).trans ?_ | refine (blk_drew _ _).trans ?_))
set_option maxRecDepth 100000 in
set_option maxHeartbeats 6400000 in
theorem kernel_At_3 (ia : Option Addr) (il ic : Nat) (pa : Option Addr) (pl pc : Nat) (p : Nat → Int) (a : Option Addr) (n cap : Nat) (q : Nat → P4) (x y : Int) (r : P4) (w : World) (hp : Hid (IsInts w pa pl pc p)) (hl : (pl : Int) = prmN 3) (hq : Hid (IsPix w a n cap q)) (hk : NodeOk 3 p n) (hr : Hid (atK 3 p n q x y = r)) :
    Calls Tryd.prog 70 #[.agg #[.int .i64 3, .slice ia il ic, .slice pa pl pc], .slice a n cap, .int .i64 x, .int .i64 y] w fun e w' => e = .returned (.agg #[.int .u8 r.r, .int .u8 r.g, .int .u8 r.b, .int .u8 r.a]) ∧ Grows w w' := by
  have m1 := hp.out.le
  have m2 := hp.out.most
  have m3 := hq.out.le
  have m4 := hq.out.most
  have hr' : noP = r := by have := hr.out; simpa [atK] using this
  subst hr'
  clear hr hk hl
  go_enter Tryd.func70, Tryd.ntmps70
  go_wp2
  refine bodyPost_ret (results_cell_row rfl _ _ _ 40 #[.int .u8 0, .int .u8 0, .int .u8 0, .int .u8 0] (0, 0) _ rfl ?_ Tryd.underlying40 rfl px_info) rfl ⟨rfl, (by repeat (first | exact Grows.refl _ | apply Grows.grow | apply Grows.alloc | apply Grows.drew))⟩
  exact (by repeat (first | exact blk_at _ _ _ (by first | omega | (simp; done) | (simp; omega)) | refine (blk_past _ _ _ (by first | omega | (simp; done) | (simp; omega))).trans ?_ | refine (heap_grow _ _ _ (by first | omega | (simp; done) | (simp; omega))).trans ?_ | refine (blk_drew _ _).trans ?_))
set_option maxRecDepth 100000 in
set_option maxHeartbeats 6400000 in
theorem kernel_At_4 (ia : Option Addr) (il ic : Nat) (pa : Option Addr) (pl pc : Nat) (p : Nat → Int) (a : Option Addr) (n cap : Nat) (q : Nat → P4) (x y : Int) (r : P4) (w : World) (hp : Hid (IsInts w pa pl pc p)) (hl : (pl : Int) = prmN 4) (hq : Hid (IsPix w a n cap q)) (hk : NodeOk 4 p n) (hr : Hid (atK 4 p n q x y = r)) :
    Calls Tryd.prog 70 #[.agg #[.int .i64 4, .slice ia il ic, .slice pa pl pc], .slice a n cap, .int .i64 x, .int .i64 y] w fun e w' => e = .returned (.agg #[.int .u8 r.r, .int .u8 r.g, .int .u8 r.b, .int .u8 r.a]) ∧ Grows w w' := by
  have m1 := hp.out.le
  have m2 := hp.out.most
  have m3 := hq.out.le
  have m4 := hq.out.most
  have hr' : noP = r := by have := hr.out; simpa [atK] using this
  subst hr'
  clear hr hk hl
  go_enter Tryd.func70, Tryd.ntmps70
  go_wp2
  refine bodyPost_ret (results_cell_row rfl _ _ _ 40 #[.int .u8 0, .int .u8 0, .int .u8 0, .int .u8 0] (0, 0) _ rfl ?_ Tryd.underlying40 rfl px_info) rfl ⟨rfl, (by repeat (first | exact Grows.refl _ | apply Grows.grow | apply Grows.alloc | apply Grows.drew))⟩
  exact (by repeat (first | exact blk_at _ _ _ (by first | omega | (simp; done) | (simp; omega)) | refine (blk_past _ _ _ (by first | omega | (simp; done) | (simp; omega))).trans ?_ | refine (heap_grow _ _ _ (by first | omega | (simp; done) | (simp; omega))).trans ?_ | refine (blk_drew _ _).trans ?_))
set_option maxRecDepth 100000 in
set_option maxHeartbeats 6400000 in
theorem kernel_At_10 (ia : Option Addr) (il ic : Nat) (pa : Option Addr) (pl pc : Nat) (p : Nat → Int) (a : Option Addr) (n cap : Nat) (q : Nat → P4) (x y : Int) (r : P4) (w : World) (hp : Hid (IsInts w pa pl pc p)) (hl : (pl : Int) = prmN 10) (hq : Hid (IsPix w a n cap q)) (hk : NodeOk 10 p n) (hr : Hid (atK 10 p n q x y = r)) :
    Calls Tryd.prog 70 #[.agg #[.int .i64 10, .slice ia il ic, .slice pa pl pc], .slice a n cap, .int .i64 x, .int .i64 y] w fun e w' => e = .returned (.agg #[.int .u8 r.r, .int .u8 r.g, .int .u8 r.b, .int .u8 r.a]) ∧ Grows w w' := by
  have m1 := hp.out.le
  have m2 := hp.out.most
  have m3 := hq.out.le
  have m4 := hq.out.most
  have hr' : noP = r := by have := hr.out; simpa [atK] using this
  subst hr'
  clear hr hk hl
  go_enter Tryd.func70, Tryd.ntmps70
  go_wp2
  refine bodyPost_ret (results_cell_row rfl _ _ _ 40 #[.int .u8 0, .int .u8 0, .int .u8 0, .int .u8 0] (0, 0) _ rfl ?_ Tryd.underlying40 rfl px_info) rfl ⟨rfl, (by repeat (first | exact Grows.refl _ | apply Grows.grow | apply Grows.alloc | apply Grows.drew))⟩
  exact (by repeat (first | exact blk_at _ _ _ (by first | omega | (simp; done) | (simp; omega)) | refine (blk_past _ _ _ (by first | omega | (simp; done) | (simp; omega))).trans ?_ | refine (heap_grow _ _ _ (by first | omega | (simp; done) | (simp; omega))).trans ?_ | refine (blk_drew _ _).trans ?_))
set_option maxRecDepth 100000 in
set_option maxHeartbeats 6400000 in
theorem kernel_At_11 (ia : Option Addr) (il ic : Nat) (pa : Option Addr) (pl pc : Nat) (p : Nat → Int) (a : Option Addr) (n cap : Nat) (q : Nat → P4) (x y : Int) (r : P4) (w : World) (hp : Hid (IsInts w pa pl pc p)) (hl : (pl : Int) = prmN 11) (hq : Hid (IsPix w a n cap q)) (hk : NodeOk 11 p n) (hr : Hid (atK 11 p n q x y = r)) :
    Calls Tryd.prog 70 #[.agg #[.int .i64 11, .slice ia il ic, .slice pa pl pc], .slice a n cap, .int .i64 x, .int .i64 y] w fun e w' => e = .returned (.agg #[.int .u8 r.r, .int .u8 r.g, .int .u8 r.b, .int .u8 r.a]) ∧ Grows w w' := by
  have m1 := hp.out.le
  have m2 := hp.out.most
  have m3 := hq.out.le
  have m4 := hq.out.most
  have hr' : noP = r := by have := hr.out; simpa [atK] using this
  subst hr'
  clear hr hk hl
  go_enter Tryd.func70, Tryd.ntmps70
  go_wp2
  refine bodyPost_ret (results_cell_row rfl _ _ _ 40 #[.int .u8 0, .int .u8 0, .int .u8 0, .int .u8 0] (0, 0) _ rfl ?_ Tryd.underlying40 rfl px_info) rfl ⟨rfl, (by repeat (first | exact Grows.refl _ | apply Grows.grow | apply Grows.alloc | apply Grows.drew))⟩
  exact (by repeat (first | exact blk_at _ _ _ (by first | omega | (simp; done) | (simp; omega)) | refine (blk_past _ _ _ (by first | omega | (simp; done) | (simp; omega))).trans ?_ | refine (heap_grow _ _ _ (by first | omega | (simp; done) | (simp; omega))).trans ?_ | refine (blk_drew _ _).trans ?_))
theorem kernel_At (op : Int) (ia : Option Addr) (il ic : Nat) (pa : Option Addr) (pl pc : Nat) (p : Nat → Int) (a : Option Addr) (n cap : Nat) (q : Nat → P4) (x y : Int) (r : P4) (w : World) (hp : IsInts w pa pl pc p) (hl : (pl : Int) = prmN op) (hq : IsPix w a n cap q) (hk : NodeOk op p n) (hr : Hid (atK op p n q x y = r)) :
    Calls Tryd.prog 70 #[.agg #[.int .i64 op, .slice ia il ic, .slice pa pl pc], .slice a n cap, .int .i64 x, .int .i64 y] w fun e w' => e = .returned (.agg #[.int .u8 r.r, .int .u8 r.g, .int .u8 r.b, .int .u8 r.a]) ∧ Grows w w' := by
  have hop := hk.op_
  have hc : op = 1 ∨ op = 2 ∨ op = 3 ∨ op = 4 ∨ op = 5 ∨ op = 6 ∨ op = 7 ∨ op = 8 ∨ op = 9 ∨ op = 10 ∨ op = 11 ∨ op = 12 := by omega
  rcases hc with rfl | rfl | rfl | rfl | rfl | rfl | rfl | rfl | rfl | rfl | rfl | rfl
  · exact kernel_At_1 ia il ic pa pl pc p a n cap q x y r w (Lib.hid hp) hl (Lib.hid hq) hk hr
  · exact kernel_At_2 ia il ic pa pl pc p a n cap q x y r w (Lib.hid hp) hl (Lib.hid hq) hk hr
  · exact kernel_At_3 ia il ic pa pl pc p a n cap q x y r w (Lib.hid hp) hl (Lib.hid hq) hk hr
  · exact kernel_At_4 ia il ic pa pl pc p a n cap q x y r w (Lib.hid hp) hl (Lib.hid hq) hk hr
  · exact kernel_At_5 ia il ic pa pl pc p a n cap q x y r w (Lib.hid hp) hl (Lib.hid hq) hk hr
  · exact kernel_At_6 ia il ic pa pl pc p a n cap q x y r w (Lib.hid hp) hl (Lib.hid hq) hk hr
  · exact kernel_At_7 ia il ic pa pl pc p a n cap q x y r w (Lib.hid hp) hl (Lib.hid hq) hk hr
  · exact kernel_At_8 ia il ic pa pl pc p a n cap q x y r w (Lib.hid hp) hl (Lib.hid hq) hk hr
  · exact kernel_At_9 ia il ic pa pl pc p a n cap q x y r w (Lib.hid hp) hl (Lib.hid hq) hk hr
  · exact kernel_At_10 ia il ic pa pl pc p a n cap q x y r w (Lib.hid hp) hl (Lib.hid hq) hk hr
  · exact kernel_At_11 ia il ic pa pl pc p a n cap q x y r w (Lib.hid hp) hl (Lib.hid hq) hk hr
  · exact kernel_At_12 ia il ic pa pl pc p a n cap q x y r w (Lib.hid hp) hl (Lib.hid hq) hk hr
end Go.Proofs.YtklcmlbkhjcaiaaDoor

/- The walk of layer 15's points. -/

namespace Go.Proofs.YtklcmlbkhjcaiaaDoor
open Go.RowKit
set_option linter.unusedVariables false

theorem Blk.c3 {w : World} {n : Nat} {t : TypeId} {v0 v1 v2 : Value} (h : Blk w n t #[v0, v1, v2]) : w.cell? ⟨n, 0, none⟩ = some v0 ∧ w.cell? ⟨n, 1, none⟩ = some v1 ∧ w.cell? ⟨n, 2, none⟩ = some v2 ∧ ∀ i, w.frozen? ⟨n, i, none⟩ = false := ⟨h.cell 0, h.cell 1, h.cell 2, h.frozen⟩
/-- What holds while the points are gone over. -/
structure PtSt (w wr : World) (nn : Nat) (ap : Option Addr) (nr no : Nat) (op : Int) (vi vp : Value) (g : R) (a : Option Addr) (len cap : Nat) (G : Img) : Prop where
  st : MgSt w wr nr no g a len cap G
  node : Blk wr nn 24 #[.int .i64 op, vi, vp]
  po : Open wr ap
section
variable {w wr w' : World} {nn : Nat} {ap : Option Addr} {nr no : Nat} {op : Int} {vi vp : Value} {g : R} {a : Option Addr} {len cap : Nat} {G G' : Img}
theorem PtSt.grows (s : PtSt w wr nn ap nr no op vi vp g a len cap G) (k : Grows wr w') : PtSt w w' nn ap nr no op vi vp g a len cap G :=
  ⟨s.st.grows k, s.node.grows k, s.po.grows k⟩
theorem PtSt.put (s : PtSt w wr nn ap nr no op vi vp g a len cap G) (ha : ∀ k, blkOf a = some k → w.heap.size ≤ k ∧ k ≠ nr ∧ k ≠ no) (hn : ∀ k, blkOf a = some k → k ≠ nn ∧ blkOf ap ≠ some k) (g1 : wr.grownBy w' (blkOf a)) (b1 : BufAt w' g a len cap G') (o1 : Open w' a) : PtSt w w' nn ap nr no op vi vp g a len cap G' :=
  ⟨s.st.step ha g1 b1 o1, s.node.grown g1 (fun e => (hn _ e.symm).1 rfl), s.po.grown g1 (fun x hx e => by
    cases ha' : blkOf a with
    | none => rw [ha'] at e; cases e
    | some k =>
      rw [ha'] at e
      exact (hn k ha').2 (by rw [hx]; exact e))⟩
theorem px_far {n : Nat} {q : Nat → P4} (h : IsPix wr ap n n q) (hn : ∀ k, blkOf a = some k → blkOf ap ≠ some k) (g1 : wr.grownBy w' (blkOf a)) : IsPix w' ap n n q :=
  h.grown g1 (fun _ x hx e => by
    cases ha' : blkOf a with
    | none => rw [ha'] at e; cases e
    | some k =>
      rw [ha'] at e
      exact hn k ha' (by rw [hx]; exact e))
theorem PtSt.pxset {b off : Nat} (s : PtSt w wr nn (some ⟨b, off, none⟩) nr no op vi vp g a len cap G) {n k : Nat} {q : Nat → P4} (hq : IsPix wr (some ⟨b, off, none⟩) n n q) (hk : k < n) {p : P4} (hp : okP p) (h0 : w.heap.size ≤ b) (h1 : b ≠ nr) (h2 : b ≠ no) (h3 : b ≠ nn) (ha : ∀ k, blkOf a = some k → k ≠ b) :
    PtSt w ((((wr.setCell ⟨b, off + k * 4, none⟩ (.int .u8 p.r)).setCell ⟨b, off + k * 4 + 1, none⟩ (.int .u8 p.g)).setCell ⟨b, off + k * 4 + 2, none⟩ (.int .u8 p.b)).setCell ⟨b, off + k * 4 + 3, none⟩ (.int .u8 p.a)) nn (some ⟨b, off, none⟩) nr no op vi vp g a len cap G ∧
    IsPix ((((wr.setCell ⟨b, off + k * 4, none⟩ (.int .u8 p.r)).setCell ⟨b, off + k * 4 + 1, none⟩ (.int .u8 p.g)).setCell ⟨b, off + k * 4 + 2, none⟩ (.int .u8 p.b)).setCell ⟨b, off + k * 4 + 3, none⟩ (.int .u8 p.a)) (some ⟨b, off, none⟩) n n (fun i => if i = k then p else q i) := by
  have g1 := grownBy_setCells wr b (off + k * 4) (pxC p)
  have e1 : PtSt w (wr.setCells b (off + k * 4) (pxC p)) nn (some ⟨b, off, none⟩) nr no op vi vp g a len cap G := by
    refine ⟨⟨s.st.rb.grown g1 (fun e => h1 (by injection e with e; exact e.symm)), s.st.ob.grown g1 (fun e => h2 (by injection e with e; exact e.symm)), s.st.gr.grown g1 (fun k hk => by injection hk with hk; omega), s.st.buf.grown g1 (fun _ x hx e => ?_), s.st.open_.grown g1 (fun x hx e => ?_)⟩, s.node.grown g1 (fun e => h3 (by injection e with e; exact e.symm)), s.po.setCells _ _ _⟩
    · exact ha x.block (by rw [hx]; rfl) (by injection e)
    · exact ha x.block (by rw [hx]; rfl) (by injection e)
  have e2 := hq.set rfl hk hp
  simp only [pxC, World.setCells, Nat.add_assoc, Nat.reduceAdd] at e1 e2 ⊢
  exact ⟨e1, e2⟩
end
theorem isPix_made {w : World} {b n : Nat} {t : TypeId} (hn : n ≤ 1000) (h : Blk w b t (madeCells #[.int .u8 0, .int .u8 0, .int .u8 0, .int .u8 0] (n * 4))) : IsPix w (some ⟨b, 0, none⟩) n n (fun _ => noP) := by
  refine ⟨Nat.le_refl _, by omega, fun i hi => okP_no, fun h0 => ⟨b, 0, rfl, h.lt, fun i c hi hc => ?_⟩⟩
  rw [h.cell, made_at _ _ _ (by omega)]
  show _ = some (Value.int IntKind.u8 (chan noP c))
  rw [chan_no]

set_option maxRecDepth 100000 in
set_option maxHeartbeats 12800000 in
theorem kernel_points (op : Int) (ia : Option Addr) (il ic : Nat) (pa : Option Addr) (pl pc : Nat) (p : Nat → Int) (al : Option Addr) (ll cl : Nat) (g5 : Nat → Bf) (F : Nat → Img) (b : R) (w : World) (hp : Hid (IsInts w pa pl pc p)) (hlp : Hid ((pl : Int) = prmN op)) (hl : Hid (IsBufs w al ll cl g5)) (hbs : Hid (∀ i, i < ll → BufAt w (g5 i).r (g5 i).a (g5 i).len (g5 i).cap (F i) ∧ cntR (g5 i).r ≤ 30000000000000)) (hk : Hid (NodeOk op p ll)) (h8 : ll ≤ 8) (hb : rightR b = true) (hs : cntR (someR b) ≤ 30000000000000) :
    Calls Tryd.prog 44 #[.agg #[.int .i64 op, .slice ia il ic, .slice pa pl pc], .slice al ll cl, .agg #[.int .i64 b.x0, .int .i64 b.y0, .int .i64 b.x1, .int .i64 b.y1]] w (RetBuf w (someR b) (cutF (someR b) (fun x y => atK op p ll (fun i => F i x y) x y))) := by
  have HG : Hid (GoodR (someR b)) := good_some hb
  have hgb := HG.out.bd
  have hgl := HG.out.le
  have HN : Hid (∀ w, Calls Tryd.prog 59 #[.agg #[.int .i64 b.x0, .int .i64 b.y0, .int .i64 b.x1, .int .i64 b.y1]] w (RetBuf w (someR b) noF)) := fun w => raster_New b w hb (by omega)
  have hmk := make_px ll (by omega)
  have HAT : Hid (∀ (W : World) (ap : Option Addr) (q : Nat → P4) (x y : Int) (r : P4), Grows w W → IsPix W ap ll ll q → Hid (atK op p ll q x y = r) → Calls Tryd.prog 70 #[.agg #[.int .i64 op, .slice ia il ic, .slice pa pl pc], .slice ap ll ll, .int .i64 x, .int .i64 y] W fun e w' => e = .returned (.agg #[.int .u8 r.r, .int .u8 r.g, .int .u8 r.b, .int .u8 r.a]) ∧ Grows W w') :=
    fun W ap q x y r g h1 h2 => kernel_At op ia il ic pa pl pc p ap ll ll q x y r W (hp.out.grows g) hlp.out h1 hk.out h2
  have FOK : Hid (∀ i, i < ll → ∀ u v, okP (F i u v)) := fun i hi u v => (hbs.out i hi).1.fits.ok u v
  have GOK : Hid (∀ u v, okP (atK op p ll (fun i => F i u v) u v)) := fun u v => atK_ok (fun e => (hk.out.px6 e).1) (fun e => FOK.out 0 (by have := hk.out.one (by omega); omega) u v) u v
  obtain ⟨GG, hGG⟩ : ∃ G : Img, G = fun x y => atK op p ll (fun i => F i x y) x y := ⟨_, rfl⟩
  have HGG : Hid (∀ u v, atK op p ll (fun i => F i u v) u v = GG u v) := by rw [hGG]; exact fun u v => rfl
  have GOK2 : Hid (∀ u v, okP (GG u v)) := fun u v => by rw [← HGG.out]; exact GOK.out u v
  rw [← hGG]
  obtain ⟨g, hg⟩ : ∃ g, g = someR b := ⟨_, rfl⟩
  rw [← hg] at HN HG hgb hgl hs ⊢
  have m1 := hl.out.le
  have m1' := hl.out.most
  clear hg hb hGG GOK
  go_enter Tryd.func44, Tryd.ntmps44
  go_wp2_with (first
    | (go_at_call 59
       refine (HN.out _).mono ?_
       rintro e w1 ⟨a, len, cap, rfl, hg1, hb1⟩
       have CN : Hid (Blk w1 w.heap.size 24 #[.int .i64 op, .slice ia il ic, .slice pa pl pc]) := by
         refine Blk.grows ?_ hg1
         exact (by unfold Blk; repeat (first | exact blk_at _ _ _ (by first | omega | (simp; done) | (simp; omega)) | refine (blk_past _ _ _ (by first | omega | (simp; done) | (simp; omega))).trans ?_ | refine (heap_grow _ _ _ (by first | omega | (simp; done) | (simp; omega))).trans ?_ | refine (blk_drew _ _).trans ?_))
       have C2 : Hid (Blk w1 (w.heap.size + 1 + 1) 35 #[.int .i64 0, .int .i64 0, .int .i64 0, .int .i64 0, .slice none 0 0]) := by
         refine Blk.grows ?_ hg1
         exact (by unfold Blk; repeat (first | exact blk_at _ _ _ (by first | omega | (simp; done) | (simp; omega)) | refine (blk_past _ _ _ (by first | omega | (simp; done) | (simp; omega))).trans ?_ | refine (heap_grow _ _ _ (by first | omega | (simp; done) | (simp; omega))).trans ?_ | refine (blk_drew _ _).trans ?_))
       have GR : Hid (Grows w w1) := by
         refine Grows.trans ?_ hg1
         exact (by repeat (first | exact Grows.refl _ | apply Grows.grow | apply Grows.alloc | apply Grows.drew))
       have hsz : w.heap.size + 3 ≤ w1.heap.size := by have := hg1.below.size; simp at this; omega
       have HA : Hid (∀ k, blkOf a = some k → w.heap.size + 3 ≤ k ∧ k < w1.heap.size) := fun k hk => by
         cases a with
         | none => cases hk
         | some x =>
           have h1 := hb1.out.2.2 x rfl
           have h2 := (hb1.out.2.1 x rfl).1
           simp at hk h1
           omega
       have BU := Lib.hid hb1.out.1
       have OP := Lib.hid hb1.out.2.1
       clear hg1 hb1))
  refine wp_name ?_
  intro W0 hW0
  have ST : Hid (PtSt w W0 w.heap.size (some ⟨w1.heap.size + 1, 0, none⟩) (w.heap.size + 1 + 1) w1.heap.size op (.slice ia il ic) (.slice pa pl pc) g a len cap noF) := by
    rw [hW0]
    exact ⟨⟨C2.out.grows (by repeat (first | exact Grows.refl _ | apply Grows.grow | apply Grows.alloc | apply Grows.drew)), (by unfold Blk; repeat (first | exact blk_at _ _ _ (by first | omega | (simp; done) | (simp; omega)) | refine (blk_past _ _ _ (by first | omega | (simp; done) | (simp; omega))).trans ?_ | refine (heap_grow _ _ _ (by first | omega | (simp; done) | (simp; omega))).trans ?_ | refine (blk_drew _ _).trans ?_)), GR.out.trans (by repeat (first | exact Grows.refl _ | apply Grows.grow | apply Grows.alloc | apply Grows.drew)), BU.out.grows (by repeat (first | exact Grows.refl _ | apply Grows.grow | apply Grows.alloc | apply Grows.drew)), OP.out.grows (by repeat (first | exact Grows.refl _ | apply Grows.grow | apply Grows.alloc | apply Grows.drew))⟩, CN.out.grows (by repeat (first | exact Grows.refl _ | apply Grows.grow | apply Grows.alloc | apply Grows.drew)), open_of_block (t := 40) (cs := madeCells #[.int .u8 0, .int .u8 0, .int .u8 0, .int .u8 0] (ll * 4)) (by unfold Blk; repeat (first | exact blk_at _ _ _ (by first | omega | (simp; done) | (simp; omega)) | refine (blk_past _ _ _ (by first | omega | (simp; done) | (simp; omega))).trans ?_ | refine (heap_grow _ _ _ (by first | omega | (simp; done) | (simp; omega))).trans ?_ | refine (blk_drew _ _).trans ?_))⟩
  have PX : Hid (∃ q, IsPix W0 (some ⟨w1.heap.size + 1, 0, none⟩) ll ll q) := by
    rw [hW0]
    exact ⟨_, isPix_made (t := 40) (by omega) (by unfold Blk; repeat (first | exact blk_at _ _ _ (by first | omega | (simp; done) | (simp; omega)) | refine (blk_past _ _ _ (by first | omega | (simp; done) | (simp; omega))).trans ?_ | refine (heap_grow _ _ _ (by first | omega | (simp; done) | (simp; omega))).trans ?_ | refine (blk_drew _ _).trans ?_))⟩
  obtain ⟨ap, hap⟩ : ∃ z : Option Addr, z = some ⟨w1.heap.size + 1, 0, none⟩ := ⟨_, rfl⟩
  have HAP : Hid (blkOf ap = some (w1.heap.size + 1)) := by rw [hap]; rfl
  rw [← hap] at ST PX ⊢
  have HA2 : Hid (∀ k, blkOf a = some k → w.heap.size ≤ k ∧ k ≠ w.heap.size + 1 + 1 ∧ k ≠ w1.heap.size) := fun k hk => by have := HA.out k hk; omega
  have HA3 : Hid (∀ k, blkOf a = some k → k ≠ w.heap.size ∧ blkOf ap ≠ some k) := fun k hk => ⟨by have := HA.out k hk; omega, fun e => by
    have := HA.out k hk
    rw [HAP.out] at e
    injection e with e
    omega⟩
  have hcg : cntR g ≤ 140737488355328 := by omega
  clear hW0 hap C2 CN GR BU OP HN hmk
  obtain ⟨o0, o1, o2, o3, o4, of⟩ := ST.out.st.ob.c5
  have lo := ST.out.st.ob.lt
  go_wp2
  clear o0 o1 o2 o3 o4 of lo
  go_loopw [9] (fun z wr => ∃ v : Int, g.y0 ≤ v ∧ v ≤ g.y1 ∧ z = .int .i64 v ∧ Hid (PtSt w wr w.heap.size ap (w.heap.size + 1 + 1) w1.heap.size op (.slice ia il ic) (.slice pa pl pc) g a len cap (upTo g GG v g.x0 noF) ∧ ∃ q, IsPix wr ap ll ll q)) (fun z _ => (g.y1 - intOf z).toNat)
  case atStart => exact ⟨_, by omega, by omega, rfl, by rw [upTo_first]; exact ST.out, PX.out⟩
  case round =>
    clear ST PX
    obtain ⟨v, hv1, hv2, rfl, hh⟩ := hrel
    obtain ⟨o0, o1, o2, o3, o4, of⟩ := hh.out.1.st.ob.c5
    have lo := hh.out.1.st.ob.lt
    by_cases hlty : v < g.y1
    · go_wp2
      clear o0 o1 o2 o3 o4 of lo
      obtain ⟨wo, hwo⟩ : ∃ wo : World, wo = wr := ⟨_, rfl⟩
      clear hwo
      go_loopw [10] (fun z wr => ∃ u : Int, g.x0 ≤ u ∧ u ≤ g.x1 ∧ z = .int .i64 u ∧ Hid (PtSt w wr w.heap.size ap (w.heap.size + 1 + 1) w1.heap.size op (.slice ia il ic) (.slice pa pl pc) g a len cap (upTo g GG v u noF) ∧ ∃ q, IsPix wr ap ll ll q)) (fun z _ => (g.x1 - intOf z).toNat)
      case atStart => exact ⟨_, by omega, by omega, rfl, hh.out⟩
      case round =>
        clear hh
        obtain ⟨u, hu1, hu2, rfl, hh⟩ := hrel
        obtain ⟨o0, o1, o2, o3, o4, of⟩ := hh.out.1.st.ob.c5
        have lo := hh.out.1.st.ob.lt
        by_cases hltx : u < g.x1
        · have hhas : hasR g u v = true := (hasR_iff _ _ _).2 (by omega)
          go_wp2
          clear o0 o1 o2 o3 o4 of lo
          obtain ⟨wo, hwo⟩ : ∃ wo : World, wo = wr := ⟨_, rfl⟩
          clear hwo
          go_loopw [40] (fun z wr => ∃ k : Nat, k ≤ ll ∧ z = .int .i64 k ∧ Hid (PtSt w wr w.heap.size ap (w.heap.size + 1 + 1) w1.heap.size op (.slice ia il ic) (.slice pa pl pc) g a len cap (upTo g GG v u noF) ∧ ∃ q, IsPix wr ap ll ll q ∧ ∀ j, j < k → q j = F j u v)) (fun z _ => ll - (intOf z).toNat)
          case atStart => exact ⟨0, by omega, rfl, hh.out.1, by obtain ⟨q, hq⟩ := hh.out.2; exact ⟨q, hq, fun j hj => by omega⟩⟩
          case round =>
            clear hh
            obtain ⟨k, hk, rfl, hh⟩ := hrel
            obtain ⟨q, hq⟩ := hh.out.2
            have HQ := Lib.hid hq.1
            have HQE := Lib.hid hq.2
            clear hq
            by_cases hlt : k < ll
            · obtain ⟨b', off', rfl, hb', e0, e1, e2, e3, e4⟩ := (hl.out.grows hh.out.1.st.gr).at hlt
              have hbk := hbs.out k hlt
              have hok := FOK.out k hlt u v
              obtain ⟨rk, hrk⟩ : ∃ z, z = (g5 k).r := ⟨_, rfl⟩
              obtain ⟨ak, hak⟩ : ∃ z, z = (g5 k).a := ⟨_, rfl⟩
              obtain ⟨lk, hlk⟩ : ∃ z, z = (g5 k).len := ⟨_, rfl⟩
              obtain ⟨ck, hck⟩ : ∃ z, z = (g5 k).cap := ⟨_, rfl⟩
              obtain ⟨Fk, hFk⟩ : ∃ z, z = F k := ⟨_, rfl⟩
              obtain ⟨c, hc⟩ : ∃ z, z = Fk u v := ⟨_, rfl⟩
              rw [← hrk, ← hak, ← hlk, ← hck, ← hFk] at hbk
              rw [← hrk] at e0 e1 e2 e3
              rw [← hak, ← hlk, ← hck] at e4
              rw [← hFk, ← hc] at hok
              obtain ⟨hbk1, hck1⟩ := hbk
              have HSRC := Lib.hid (hbk1.grows hh.out.1.st.gr)
              have HQ0 : Hid (Fk u v = c) := hc.symm
              have HC : Hid (c = F k u v) := Lib.hid (by rw [hc, hFk])
              obtain ⟨bp, offp, hbp, hbpl, -, p0, p1, p2, p3⟩ := HQ.out.px hlt
              have HBP : Hid (bp = w1.heap.size + 1) := by have := HAP.out; rw [hbp] at this; injection this
              subst hbp
              have hpf : ∀ i, wr.frozen? ⟨bp, i, none⟩ = false := (hh.out.1.po _ rfl).2
              clear hrk hak hlk hck hFk hbk1 hc
              go_wp2_with ((first | (go_at_call 67; (with_reducible refine (raster_AtIs _ _ _ _ _ _ _ _ _ (Lib.hid (BufAt.grows HSRC.out (by repeat (first | exact Grows.refl _ | apply Grows.grow | apply Grows.alloc | apply Grows.drew)))) (by omega) HQ0).mono ?_); rintro e w' ⟨rfl, hgw⟩; first | (obtain ⟨gw, rfl⟩ := grows_of_grow hgw) | (obtain ⟨gw, rfl⟩ := hgw))))
              have PS := Lib.hid (hh.out.1.pxset HQ.out hlt hok (by have := HBP.out; omega) (by have := HBP.out; omega) (by have := HBP.out; omega) (by have := HBP.out; omega) (fun k hk => by have := HBP.out; have := HA.out k hk; omega))
              go_roundw
              case rel =>
                refine ⟨k + 1, by omega, by go_num, PS.out.1.grows (by repeat (first | exact Grows.refl _ | apply Grows.grow | apply Grows.alloc | apply Grows.drew)), _, PS.out.2.grows (by repeat (first | exact Grows.refl _ | apply Grows.grow | apply Grows.alloc | apply Grows.drew)), fun j hj => ?_⟩
                by_cases e : j = k
                · subst e; rw [if_pos rfl]; exact HC.out
                · rw [if_neg e]; exact HQE.out j (by omega)
              case measure => simp [intOf]; omega
            · obtain rfl : ll = k := by omega
              have HQ2 : Hid (IsPix wr ap ll ll (fun j => F j u v)) := HQ.out.congr (fun i hi => HQE.out i hi)
              obtain ⟨PP, hPP⟩ : ∃ z, z = GG u v := ⟨_, rfl⟩
              have HRR : Hid (atK op p ll (fun i => F i u v) u v = PP) := by rw [hPP]; exact HGG.out u v
              have POK : okP PP := by rw [hPP]; exact GOK2.out u v
              have NX : Hid (putF g (upTo g GG v u noF) u v PP = upTo g GG v (u + 1) noF) := by rw [hPP]; exact upTo_next hhas
              obtain ⟨n0, n1, n2, nf⟩ := hh.out.1.node.c3
              have ln := hh.out.1.node.lt
              clear hPP hhas
              go_wp2_with (first
                | (go_at_call 70; (with_reducible refine Calls.mono (HAT.out _ _ _ _ _ PP ?_ ?_ HRR) ?_); (exact hh.out.1.st.gr.trans (by repeat (first | exact Grows.refl _ | apply Grows.grow | apply Grows.alloc | apply Grows.drew))); (exact HQ2.out.grows (by repeat (first | exact Grows.refl _ | apply Grows.grow | apply Grows.alloc | apply Grows.drew))); rintro e w' ⟨rfl, hgw⟩; first | (obtain ⟨gw, rfl⟩ := grows_of_grow hgw) | (obtain ⟨gw, rfl⟩ := hgw))
                | (go_at_call 66; refine (raster_Put w1.heap.size g a len cap _ _ _ PP _ (Lib.hid (hh.out.1.st.ob.grows (by repeat (first | exact Grows.refl _ | apply Grows.grow | apply Grows.alloc | apply Grows.drew)))) (Lib.hid (hh.out.1.st.buf.grows (by repeat (first | exact Grows.refl _ | apply Grows.grow | apply Grows.alloc | apply Grows.drew)))) (Lib.hid (hh.out.1.st.open_.grows (by repeat (first | exact Grows.refl _ | apply Grows.grow | apply Grows.alloc | apply Grows.drew)))) hcg POK).mono ?_; rintro e w2 ⟨rfl, hg1, hb1, hp1⟩; rw [NX.out] at hb1; have PX2 := Lib.hid (px_far (HQ2.out.grows (by exact (by repeat (first | exact Grows.refl _ | apply Grows.grow | apply Grows.alloc | apply Grows.drew)))) (fun k hk => (HA3.out k hk).2) hg1); have ST2 := Lib.hid ((hh.out.1.grows (by exact (by repeat (first | exact Grows.refl _ | apply Grows.grow | apply Grows.alloc | apply Grows.drew)))).put HA2.out HA3.out hg1 hb1 hp1); clear hg1 hb1 hp1))
              go_roundw
              case rel => exact ⟨u + 1, by omega, by omega, by go_num, ST2.out.grows (by repeat (first | exact Grows.refl _ | apply Grows.grow | apply Grows.alloc | apply Grows.drew)), _, PX2.out.grows (by repeat (first | exact Grows.refl _ | apply Grows.grow | apply Grows.alloc | apply Grows.drew))⟩
              case measure => simp [intOf]; omega
        · obtain rfl : u = g.x1 := by omega
          go_wp2
          go_roundw
          case rel =>
            have st := hh.out
            rw [upTo_row] at st
            exact ⟨v + 1, by omega, by omega, by go_num, st⟩
          case measure => simp [intOf]; omega
    · obtain rfl : v = g.y1 := by omega
      have MS := Lib.hid hh.out.1.st
      rw [upTo_last] at MS
      obtain ⟨q0, q1, q2, q3, q4, qf⟩ := hh.out.1.st.rb.c5
      have lq := hh.out.1.st.rb.lt
      go_wp2
      obtain ⟨D1, D2⟩ := ret_cell MS.out.buf MS.out.open_ MS.out.gr (n := w.heap.size + 1 + 1) (by omega) (fun k hk => ⟨(HA2.out k hk).1, (HA2.out k hk).2.1⟩) (.int .i64 g.x0) (.int .i64 g.y0) (.int .i64 g.x1) (.int .i64 g.y1) (.slice a len cap)
      refine bodyPost_ret (results_cell_row rfl _ _ _ 35 #[.int .i64 g.x0, .int .i64 g.y0, .int .i64 g.x1, .int .i64 g.y1, .slice a len cap] (0, 0) _ rfl (MS.out.rb.set5 _ _ _ _ _) Tryd.underlying35 rfl buf_info) rfl ⟨_, _, _, rfl, D1, D2⟩
end Go.Proofs.YtklcmlbkhjcaiaaDoor

/- The walk of layer 15's Do. -/

namespace Go.Proofs.YtklcmlbkhjcaiaaDoor
open Go.RowKit
set_option linter.unusedVariables false

theorem grow_cnt {b : R} (hs : nearR b) (hc : cntR (someR b) ≤ 300) {ry : Int} (hy : 0 ≤ ry ∧ ry ≤ 6) : cntR (growR b 0 ry 0 ry) ≤ 10000 := by
  cases he : emptyR b
  · have e : someR b = b := by simp [someR, he]
    rw [e] at hc
    have k := (emptyR_not b).1 he
    rw [grow_near hs he (by omega) (by omega) (by omega) (by omega)]
    unfold cntR at hc ⊢
    simp only
    obtain ⟨W, hW⟩ : ∃ W, W = b.x1 - b.x0 := ⟨_, rfl⟩
    obtain ⟨H, hH⟩ : ∃ H, H = b.y1 - b.y0 := ⟨_, rfl⟩
    rw [← hW, ← hH] at hc
    rw [show b.x1 + 0 - (b.x0 - 0) = W from by omega, show b.y1 + ry - (b.y0 - ry) = H + 2 * ry from by omega]
    have w1 : W * 1 ≤ W * H := Int.mul_le_mul_of_nonneg_left (by omega) (by omega)
    have w2 : W * (2 * ry) ≤ 300 * (2 * ry) := Int.mul_le_mul_of_nonneg_right (by omega) (by omega)
    have w3 : W * (H + 2 * ry) = W * H + W * (2 * ry) := Int.mul_add _ _ _
    omega
  · rw [show growR b 0 ry 0 ry = zeroR from by unfold growR; rw [if_pos he], cnt_zero]; omega
theorem there_facts {b : R} (hs : smallR b) (hc : cntR (someR b) ≤ 300) {dx dy ry : Int} (hdx : -1048576 ≤ dx ∧ dx ≤ 1048576) (hdy : -1048576 ≤ dy ∧ dy ≤ 1048576) (hy : 0 ≤ ry ∧ ry ≤ 6) :
    rightR (thereR (someR b) dx dy) = true ∧ cntR (growR (thereR (someR b) dx dy) 0 ry 0 ry) ≤ 10000 ∧ cntR (someR (thereR (someR b) dx dy)) ≤ 300 := by
  have hb : (-33554432 ≤ (someR b).x0 ∧ (someR b).x0 ≤ 33554432) ∧ (-33554432 ≤ (someR b).y0 ∧ (someR b).y0 ≤ 33554432) ∧ (-33554432 ≤ (someR b).x1 ∧ (someR b).x1 ≤ 33554432) ∧ (-33554432 ≤ (someR b).y1 ∧ (someR b).y1 ≤ 33554432) := by
    unfold someR
    split
    · simp [zeroR]
    · exact hs
  obtain ⟨c, hcc⟩ : ∃ c, c = someR b := ⟨_, rfl⟩
  rw [← hcc] at hb hc ⊢
  have k : cntR (someR (thereR c dx dy)) ≤ 300 := by
    cases he : emptyR (thereR c dx dy)
    · rw [show someR (thereR c dx dy) = thereR c dx dy from by simp [someR, he]]
      unfold cntR thereR at *
      simp only
      rw [show c.x1 - dx - (c.x0 - dx) = c.x1 - c.x0 from by omega, show c.y1 - dy - (c.y0 - dy) = c.y1 - c.y0 from by omega]
      exact hc
    · rw [show someR (thereR c dx dy) = zeroR from by simp [someR, he], cnt_zero]; omega
  refine ⟨(rightR_iff _).2 (by simp only [thereR]; omega), grow_cnt (by unfold nearR thereR; simp only; omega) k hy, k⟩

set_option maxRecDepth 100000 in
set_option maxHeartbeats 6400000 in
theorem kernel_Do_1 (ia : Option Addr) (il ic : Nat) (pa : Option Addr) (pl pc : Nat) (p : Nat → Int) (al : Option Addr) (ll cl : Nat) (g5 : Nat → Bf) (F : Nat → Img) (b : R) (w : World) (hp : Hid (IsInts w pa pl pc p)) (hlp : (pl : Int) = prmN 1) (hl : Hid (IsBufs w al ll cl g5)) (hbs : Hid (∀ i, i < ll → BufAt w (g5 i).r (g5 i).a (g5 i).len (g5 i).cap (F i) ∧ cntR (g5 i).r ≤ 30000000000000)) (hk : NodeOk 1 p ll) (hsm : smallR b) (hs : cntR (someR b) ≤ 300) (hrad : (1 : Int) = 2 ∨ (1 : Int) = 3 ∨ (1 : Int) = 4 → p 0 ≤ 6 ∧ p 1 ≤ 6) (hrad11 : (1 : Int) = 11 → p 2 ≤ 6 ∧ p 3 ≤ 6) :
    Calls Tryd.prog 13 #[.agg #[.int .i64 1, .slice ia il ic, .slice pa pl pc], .slice al ll cl, .agg #[.int .i64 b.x0, .int .i64 b.y0, .int .i64 b.x1, .int .i64 b.y1]] w (RetBuf w (someR b) (moveF b (p 0) (p 1) (F 0))) := by
  have n1 := hk.one (by omega)
  have hb := hsm.right
  have m1 := hp.out.le
  have m2 := hp.out.most
  have m3 := hl.out.le
  have m4 := hl.out.most
  obtain rfl : pl = 2 := by have : prmN 1 = 2 := (by decide); omega
  obtain ⟨b', off', rfl, hb', e0, e1, e2, e3, e4⟩ := hl.out.at (k := 0) (by omega)
  have hbk := hbs.out 0 (by omega)
  simp only [Nat.zero_mul, Nat.add_zero] at e0 e1 e2 e3 e4
  obtain ⟨rk, hrk⟩ : ∃ z, z = (g5 0).r := ⟨_, rfl⟩
  obtain ⟨ak, hak⟩ : ∃ z, z = (g5 0).a := ⟨_, rfl⟩
  obtain ⟨lk, hlk⟩ : ∃ z, z = (g5 0).len := ⟨_, rfl⟩
  obtain ⟨ck, hck⟩ : ∃ z, z = (g5 0).cap := ⟨_, rfl⟩
  obtain ⟨Fk, hFk⟩ : ∃ z, z = F 0 := ⟨_, rfl⟩
  rw [← hrk, ← hak, ← hlk, ← hck, ← hFk] at hbk
  rw [← hrk] at e0 e1 e2 e3
  rw [← hak, ← hlk, ← hck] at e4
  rw [← hFk]
  obtain ⟨hbk1, hck1⟩ := hbk
  have BK := Lib.hid hbk1
  obtain ⟨bp, offp, rfl, hbp, f0⟩ := hp.out.at (k := 0) (by omega)
  obtain ⟨b2, off2, e, -, f1⟩ := hp.out.at (k := 1) (by omega)
  cases e
  simp only [Nat.add_zero] at f0
  have hof := hk.off rfl
  obtain ⟨v0, hv0⟩ : ∃ z, z = p 0 := ⟨_, rfl⟩
  obtain ⟨v1, hv1⟩ : ∃ z, z = p 1 := ⟨_, rfl⟩
  rw [← hv0] at f0 hof ⊢
  rw [← hv1] at f1 hof ⊢
  have HB : Hid (∀ W, Grows w W → Calls Tryd.prog 36 #[.agg #[.int .i64 rk.x0, .int .i64 rk.y0, .int .i64 rk.x1, .int .i64 rk.y1, .slice ak lk ck], .agg #[.int .i64 b.x0, .int .i64 b.y0, .int .i64 b.x1, .int .i64 b.y1], .int .i64 v0, .int .i64 v1] W (RetBuf W (someR b) (moveF b v0 v1 Fk))) := fun W g => move_Offset b rk ak lk ck Fk v0 v1 W (Lib.hid (BK.out.grows g)) hb (by omega) (by omega) (by omega) (by omega)
  obtain ⟨B, hB⟩ : ∃ B, B = moveF b v0 v1 Fk := ⟨_, rfl⟩
  obtain ⟨t, ht⟩ : ∃ t, t = someR b := ⟨_, rfl⟩
  rw [← hB] at HB ⊢
  rw [← ht] at HB ⊢
  clear hB ht hv0 hv1 hk hp hl hbs hrad hrad11 hrk hak hlk hck hFk hbk1 hs hsm hlp hb
  go_enter Tryd.func13, Tryd.ntmps13
  go_wp2
  first | refine region_grow_tail2 12 (by kernel_rfl) (by kernel_rfl) ?_ | refine region_grow_tail 12 (by kernel_rfl) (by kernel_rfl) ?_
  simp only [List.take_succ_cons, List.take_zero, List.drop_succ_cons, List.drop_zero]
  repeat (go_big_quiet_step (fail))
  refine wpQuiet_nil ?_
  rintro _ ⟨gd, rfl⟩
  go_wp2_with ((go_at_call 36; (with_reducible refine Calls.mono (HB.out _ ?_) ?_); (exact (by repeat (first | exact Grows.refl _ | apply Grows.grow | apply Grows.alloc | apply Grows.drew))); rintro e w' ⟨a2, l2, p2, rfl, hgw, HB2⟩; (first | (obtain ⟨gw, rfl⟩ := grows_of_grow hgw) | (obtain ⟨gw, rfl⟩ := hgw))))
  refine bodyPost_ret (results_cell_row rfl _ _ _ 35 #[.int .i64 t.x0, .int .i64 t.y0, .int .i64 t.x1, .int .i64 t.y1, .slice a2 l2 p2] (0, 0) _ rfl (by repeat (first | exact blk_at _ _ _ (by first | omega | (simp; done) | (simp; omega)) | refine (blk_past _ _ _ (by first | omega | (simp; done) | (simp; omega))).trans ?_ | refine (heap_grow _ _ _ (by first | omega | (simp; done) | (simp; omega))).trans ?_ | refine (blk_drew _ _).trans ?_)) Tryd.underlying35 rfl buf_info) rfl ⟨a2, l2, p2, rfl, (by repeat (first | exact Grows.refl _ | apply Grows.grow | apply Grows.alloc | apply Grows.drew)), swap_ret HB2.out (by simp <;> omega) (by simp <;> omega)⟩
set_option maxRecDepth 100000 in
set_option maxHeartbeats 6400000 in
theorem kernel_Do_2 (ia : Option Addr) (il ic : Nat) (pa : Option Addr) (pl pc : Nat) (p : Nat → Int) (al : Option Addr) (ll cl : Nat) (g5 : Nat → Bf) (F : Nat → Img) (b : R) (w : World) (hp : Hid (IsInts w pa pl pc p)) (hlp : (pl : Int) = prmN 2) (hl : Hid (IsBufs w al ll cl g5)) (hbs : Hid (∀ i, i < ll → BufAt w (g5 i).r (g5 i).a (g5 i).len (g5 i).cap (F i) ∧ cntR (g5 i).r ≤ 30000000000000)) (hk : NodeOk 2 p ll) (hsm : smallR b) (hs : cntR (someR b) ≤ 300) (hrad : (2 : Int) = 2 ∨ (2 : Int) = 3 ∨ (2 : Int) = 4 → p 0 ≤ 6 ∧ p 1 ≤ 6) (hrad11 : (2 : Int) = 11 → p 2 ≤ 6 ∧ p 3 ≤ 6) :
    Calls Tryd.prog 13 #[.agg #[.int .i64 2, .slice ia il ic, .slice pa pl pc], .slice al ll cl, .agg #[.int .i64 b.x0, .int .i64 b.y0, .int .i64 b.x1, .int .i64 b.y1]] w (RetBuf w (someR b) (boxF b (p 0) (p 1) (F 0))) := by
  have n1 := hk.one (by omega)
  have hb := hsm.right
  have m1 := hp.out.le
  have m2 := hp.out.most
  have m3 := hl.out.le
  have m4 := hl.out.most
  obtain rfl : pl = 2 := by have : prmN 2 = 2 := (by decide); omega
  obtain ⟨b', off', rfl, hb', e0, e1, e2, e3, e4⟩ := hl.out.at (k := 0) (by omega)
  have hbk := hbs.out 0 (by omega)
  simp only [Nat.zero_mul, Nat.add_zero] at e0 e1 e2 e3 e4
  obtain ⟨rk, hrk⟩ : ∃ z, z = (g5 0).r := ⟨_, rfl⟩
  obtain ⟨ak, hak⟩ : ∃ z, z = (g5 0).a := ⟨_, rfl⟩
  obtain ⟨lk, hlk⟩ : ∃ z, z = (g5 0).len := ⟨_, rfl⟩
  obtain ⟨ck, hck⟩ : ∃ z, z = (g5 0).cap := ⟨_, rfl⟩
  obtain ⟨Fk, hFk⟩ : ∃ z, z = F 0 := ⟨_, rfl⟩
  rw [← hrk, ← hak, ← hlk, ← hck, ← hFk] at hbk
  rw [← hrk] at e0 e1 e2 e3
  rw [← hak, ← hlk, ← hck] at e4
  rw [← hFk]
  obtain ⟨hbk1, hck1⟩ := hbk
  have BK := Lib.hid hbk1
  obtain ⟨bp, offp, rfl, hbp, f0⟩ := hp.out.at (k := 0) (by omega)
  obtain ⟨b2, off2, e, -, f1⟩ := hp.out.at (k := 1) (by omega)
  cases e
  simp only [Nat.add_zero] at f0
  have hof := hk.rad (by omega)
  have hra := hrad (by omega)
  have gc := grow_cnt (near_of_small hsm) hs (ry := p 1) (by omega)
  obtain ⟨v0, hv0⟩ : ∃ z, z = p 0 := ⟨_, rfl⟩
  obtain ⟨v1, hv1⟩ : ∃ z, z = p 1 := ⟨_, rfl⟩
  rw [← hv0] at f0 hof ⊢
  rw [← hv1] at f1 hof ⊢
  rw [← hv0, ← hv1] at hra
  rw [← hv1] at gc
  have HB : Hid (∀ W, Grows w W → Calls Tryd.prog 37 #[.agg #[.int .i64 rk.x0, .int .i64 rk.y0, .int .i64 rk.x1, .int .i64 rk.y1, .slice ak lk ck], .agg #[.int .i64 b.x0, .int .i64 b.y0, .int .i64 b.x1, .int .i64 b.y1], .int .i64 v0, .int .i64 v1] W (RetBuf W (someR b) (boxF b v0 v1 Fk))) := fun W g => blur_Box b rk ak lk ck Fk v0 v1 W (Lib.hid (BK.out.grows g)) (by omega) hb (by omega) (by omega) (by omega) (by omega) (by omega) (by omega)
  obtain ⟨B, hB⟩ : ∃ B, B = boxF b v0 v1 Fk := ⟨_, rfl⟩
  obtain ⟨t, ht⟩ : ∃ t, t = someR b := ⟨_, rfl⟩
  rw [← hB] at HB ⊢
  rw [← ht] at HB ⊢
  clear hB ht hv0 hv1 hk hp hl hbs hrad hrad11 hrk hak hlk hck hFk hbk1 hs hsm hlp hb gc hra
  go_enter Tryd.func13, Tryd.ntmps13
  go_wp2
  first | refine region_grow_tail2 12 (by kernel_rfl) (by kernel_rfl) ?_ | refine region_grow_tail 12 (by kernel_rfl) (by kernel_rfl) ?_
  simp only [List.take_succ_cons, List.take_zero, List.drop_succ_cons, List.drop_zero]
  repeat (go_big_quiet_step (fail))
  refine wpQuiet_nil ?_
  rintro _ ⟨gd, rfl⟩
  go_wp2_with ((go_at_call 37; (with_reducible refine Calls.mono (HB.out _ ?_) ?_); (exact (by repeat (first | exact Grows.refl _ | apply Grows.grow | apply Grows.alloc | apply Grows.drew))); rintro e w' ⟨a2, l2, p2, rfl, hgw, HB2⟩; (first | (obtain ⟨gw, rfl⟩ := grows_of_grow hgw) | (obtain ⟨gw, rfl⟩ := hgw))))
  refine bodyPost_ret (results_cell_row rfl _ _ _ 35 #[.int .i64 t.x0, .int .i64 t.y0, .int .i64 t.x1, .int .i64 t.y1, .slice a2 l2 p2] (0, 0) _ rfl (by repeat (first | exact blk_at _ _ _ (by first | omega | (simp; done) | (simp; omega)) | refine (blk_past _ _ _ (by first | omega | (simp; done) | (simp; omega))).trans ?_ | refine (heap_grow _ _ _ (by first | omega | (simp; done) | (simp; omega))).trans ?_ | refine (blk_drew _ _).trans ?_)) Tryd.underlying35 rfl buf_info) rfl ⟨a2, l2, p2, rfl, (by repeat (first | exact Grows.refl _ | apply Grows.grow | apply Grows.alloc | apply Grows.drew)), swap_ret HB2.out (by simp <;> omega) (by simp <;> omega)⟩
set_option maxRecDepth 100000 in
set_option maxHeartbeats 6400000 in
theorem kernel_Do_3 (ia : Option Addr) (il ic : Nat) (pa : Option Addr) (pl pc : Nat) (p : Nat → Int) (al : Option Addr) (ll cl : Nat) (g5 : Nat → Bf) (F : Nat → Img) (b : R) (w : World) (hp : Hid (IsInts w pa pl pc p)) (hlp : (pl : Int) = prmN 3) (hl : Hid (IsBufs w al ll cl g5)) (hbs : Hid (∀ i, i < ll → BufAt w (g5 i).r (g5 i).a (g5 i).len (g5 i).cap (F i) ∧ cntR (g5 i).r ≤ 30000000000000)) (hk : NodeOk 3 p ll) (hsm : smallR b) (hs : cntR (someR b) ≤ 300) (hrad : (3 : Int) = 2 ∨ (3 : Int) = 3 ∨ (3 : Int) = 4 → p 0 ≤ 6 ∧ p 1 ≤ 6) (hrad11 : (3 : Int) = 11 → p 2 ≤ 6 ∧ p 3 ≤ 6) :
    Calls Tryd.prog 13 #[.agg #[.int .i64 3, .slice ia il ic, .slice pa pl pc], .slice al ll cl, .agg #[.int .i64 b.x0, .int .i64 b.y0, .int .i64 b.x1, .int .i64 b.y1]] w (RetBuf w (someR b) (boxM false b (p 0) (p 1) (F 0))) := by
  have n1 := hk.one (by omega)
  have hb := hsm.right
  have m1 := hp.out.le
  have m2 := hp.out.most
  have m3 := hl.out.le
  have m4 := hl.out.most
  obtain rfl : pl = 2 := by have : prmN 3 = 2 := (by decide); omega
  obtain ⟨b', off', rfl, hb', e0, e1, e2, e3, e4⟩ := hl.out.at (k := 0) (by omega)
  have hbk := hbs.out 0 (by omega)
  simp only [Nat.zero_mul, Nat.add_zero] at e0 e1 e2 e3 e4
  obtain ⟨rk, hrk⟩ : ∃ z, z = (g5 0).r := ⟨_, rfl⟩
  obtain ⟨ak, hak⟩ : ∃ z, z = (g5 0).a := ⟨_, rfl⟩
  obtain ⟨lk, hlk⟩ : ∃ z, z = (g5 0).len := ⟨_, rfl⟩
  obtain ⟨ck, hck⟩ : ∃ z, z = (g5 0).cap := ⟨_, rfl⟩
  obtain ⟨Fk, hFk⟩ : ∃ z, z = F 0 := ⟨_, rfl⟩
  rw [← hrk, ← hak, ← hlk, ← hck, ← hFk] at hbk
  rw [← hrk] at e0 e1 e2 e3
  rw [← hak, ← hlk, ← hck] at e4
  rw [← hFk]
  obtain ⟨hbk1, hck1⟩ := hbk
  have BK := Lib.hid hbk1
  obtain ⟨bp, offp, rfl, hbp, f0⟩ := hp.out.at (k := 0) (by omega)
  obtain ⟨b2, off2, e, -, f1⟩ := hp.out.at (k := 1) (by omega)
  cases e
  simp only [Nat.add_zero] at f0
  have hof := hk.rad (by omega)
  have hra := hrad (by omega)
  have gc := grow_cnt (near_of_small hsm) hs (ry := p 1) (by omega)
  obtain ⟨v0, hv0⟩ : ∃ z, z = p 0 := ⟨_, rfl⟩
  obtain ⟨v1, hv1⟩ : ∃ z, z = p 1 := ⟨_, rfl⟩
  rw [← hv0] at f0 hof ⊢
  rw [← hv1] at f1 hof ⊢
  rw [← hv0, ← hv1] at hra
  rw [← hv1] at gc
  have HB : Hid (∀ W, Grows w W → Calls Tryd.prog 38 #[.agg #[.int .i64 rk.x0, .int .i64 rk.y0, .int .i64 rk.x1, .int .i64 rk.y1, .slice ak lk ck], .agg #[.int .i64 b.x0, .int .i64 b.y0, .int .i64 b.x1, .int .i64 b.y1], .int .i64 v0, .int .i64 v1] W (RetBuf W (someR b) (boxM false b v0 v1 Fk))) := fun W g => morph_LeastI b rk ak lk ck Fk v0 v1 W (Lib.hid (BK.out.grows g)) (by omega) hb (by omega) (by omega) (by omega) (by omega) (by omega) (by omega)
  obtain ⟨B, hB⟩ : ∃ B, B = boxM false b v0 v1 Fk := ⟨_, rfl⟩
  obtain ⟨t, ht⟩ : ∃ t, t = someR b := ⟨_, rfl⟩
  rw [← hB] at HB ⊢
  rw [← ht] at HB ⊢
  clear hB ht hv0 hv1 hk hp hl hbs hrad hrad11 hrk hak hlk hck hFk hbk1 hs hsm hlp hb gc hra
  go_enter Tryd.func13, Tryd.ntmps13
  go_wp2
  first | refine region_grow_tail2 12 (by kernel_rfl) (by kernel_rfl) ?_ | refine region_grow_tail 12 (by kernel_rfl) (by kernel_rfl) ?_
  simp only [List.take_succ_cons, List.take_zero, List.drop_succ_cons, List.drop_zero]
  repeat (go_big_quiet_step (fail))
  refine wpQuiet_nil ?_
  rintro _ ⟨gd, rfl⟩
  go_wp2_with ((go_at_call 38; (with_reducible refine Calls.mono (HB.out _ ?_) ?_); (exact (by repeat (first | exact Grows.refl _ | apply Grows.grow | apply Grows.alloc | apply Grows.drew))); rintro e w' ⟨a2, l2, p2, rfl, hgw, HB2⟩; (first | (obtain ⟨gw, rfl⟩ := grows_of_grow hgw) | (obtain ⟨gw, rfl⟩ := hgw))))
  refine bodyPost_ret (results_cell_row rfl _ _ _ 35 #[.int .i64 t.x0, .int .i64 t.y0, .int .i64 t.x1, .int .i64 t.y1, .slice a2 l2 p2] (0, 0) _ rfl (by repeat (first | exact blk_at _ _ _ (by first | omega | (simp; done) | (simp; omega)) | refine (blk_past _ _ _ (by first | omega | (simp; done) | (simp; omega))).trans ?_ | refine (heap_grow _ _ _ (by first | omega | (simp; done) | (simp; omega))).trans ?_ | refine (blk_drew _ _).trans ?_)) Tryd.underlying35 rfl buf_info) rfl ⟨a2, l2, p2, rfl, (by repeat (first | exact Grows.refl _ | apply Grows.grow | apply Grows.alloc | apply Grows.drew)), swap_ret HB2.out (by simp <;> omega) (by simp <;> omega)⟩
set_option maxRecDepth 100000 in
set_option maxHeartbeats 6400000 in
theorem kernel_Do_4 (ia : Option Addr) (il ic : Nat) (pa : Option Addr) (pl pc : Nat) (p : Nat → Int) (al : Option Addr) (ll cl : Nat) (g5 : Nat → Bf) (F : Nat → Img) (b : R) (w : World) (hp : Hid (IsInts w pa pl pc p)) (hlp : (pl : Int) = prmN 4) (hl : Hid (IsBufs w al ll cl g5)) (hbs : Hid (∀ i, i < ll → BufAt w (g5 i).r (g5 i).a (g5 i).len (g5 i).cap (F i) ∧ cntR (g5 i).r ≤ 30000000000000)) (hk : NodeOk 4 p ll) (hsm : smallR b) (hs : cntR (someR b) ≤ 300) (hrad : (4 : Int) = 2 ∨ (4 : Int) = 3 ∨ (4 : Int) = 4 → p 0 ≤ 6 ∧ p 1 ≤ 6) (hrad11 : (4 : Int) = 11 → p 2 ≤ 6 ∧ p 3 ≤ 6) :
    Calls Tryd.prog 13 #[.agg #[.int .i64 4, .slice ia il ic, .slice pa pl pc], .slice al ll cl, .agg #[.int .i64 b.x0, .int .i64 b.y0, .int .i64 b.x1, .int .i64 b.y1]] w (RetBuf w (someR b) (boxM true b (p 0) (p 1) (F 0))) := by
  have n1 := hk.one (by omega)
  have hb := hsm.right
  have m1 := hp.out.le
  have m2 := hp.out.most
  have m3 := hl.out.le
  have m4 := hl.out.most
  obtain rfl : pl = 2 := by have : prmN 4 = 2 := (by decide); omega
  obtain ⟨b', off', rfl, hb', e0, e1, e2, e3, e4⟩ := hl.out.at (k := 0) (by omega)
  have hbk := hbs.out 0 (by omega)
  simp only [Nat.zero_mul, Nat.add_zero] at e0 e1 e2 e3 e4
  obtain ⟨rk, hrk⟩ : ∃ z, z = (g5 0).r := ⟨_, rfl⟩
  obtain ⟨ak, hak⟩ : ∃ z, z = (g5 0).a := ⟨_, rfl⟩
  obtain ⟨lk, hlk⟩ : ∃ z, z = (g5 0).len := ⟨_, rfl⟩
  obtain ⟨ck, hck⟩ : ∃ z, z = (g5 0).cap := ⟨_, rfl⟩
  obtain ⟨Fk, hFk⟩ : ∃ z, z = F 0 := ⟨_, rfl⟩
  rw [← hrk, ← hak, ← hlk, ← hck, ← hFk] at hbk
  rw [← hrk] at e0 e1 e2 e3
  rw [← hak, ← hlk, ← hck] at e4
  rw [← hFk]
  obtain ⟨hbk1, hck1⟩ := hbk
  have BK := Lib.hid hbk1
  obtain ⟨bp, offp, rfl, hbp, f0⟩ := hp.out.at (k := 0) (by omega)
  obtain ⟨b2, off2, e, -, f1⟩ := hp.out.at (k := 1) (by omega)
  cases e
  simp only [Nat.add_zero] at f0
  have hof := hk.rad (by omega)
  have hra := hrad (by omega)
  have gc := grow_cnt (near_of_small hsm) hs (ry := p 1) (by omega)
  obtain ⟨v0, hv0⟩ : ∃ z, z = p 0 := ⟨_, rfl⟩
  obtain ⟨v1, hv1⟩ : ∃ z, z = p 1 := ⟨_, rfl⟩
  rw [← hv0] at f0 hof ⊢
  rw [← hv1] at f1 hof ⊢
  rw [← hv0, ← hv1] at hra
  rw [← hv1] at gc
  have HB : Hid (∀ W, Grows w W → Calls Tryd.prog 39 #[.agg #[.int .i64 rk.x0, .int .i64 rk.y0, .int .i64 rk.x1, .int .i64 rk.y1, .slice ak lk ck], .agg #[.int .i64 b.x0, .int .i64 b.y0, .int .i64 b.x1, .int .i64 b.y1], .int .i64 v0, .int .i64 v1] W (RetBuf W (someR b) (boxM true b v0 v1 Fk))) := fun W g => morph_MostI b rk ak lk ck Fk v0 v1 W (Lib.hid (BK.out.grows g)) (by omega) hb (by omega) (by omega) (by omega) (by omega) (by omega) (by omega)
  obtain ⟨B, hB⟩ : ∃ B, B = boxM true b v0 v1 Fk := ⟨_, rfl⟩
  obtain ⟨t, ht⟩ : ∃ t, t = someR b := ⟨_, rfl⟩
  rw [← hB] at HB ⊢
  rw [← ht] at HB ⊢
  clear hB ht hv0 hv1 hk hp hl hbs hrad hrad11 hrk hak hlk hck hFk hbk1 hs hsm hlp hb gc hra
  go_enter Tryd.func13, Tryd.ntmps13
  go_wp2
  first | refine region_grow_tail2 12 (by kernel_rfl) (by kernel_rfl) ?_ | refine region_grow_tail 12 (by kernel_rfl) (by kernel_rfl) ?_
  simp only [List.take_succ_cons, List.take_zero, List.drop_succ_cons, List.drop_zero]
  repeat (go_big_quiet_step (fail))
  refine wpQuiet_nil ?_
  rintro _ ⟨gd, rfl⟩
  go_wp2_with ((go_at_call 39; (with_reducible refine Calls.mono (HB.out _ ?_) ?_); (exact (by repeat (first | exact Grows.refl _ | apply Grows.grow | apply Grows.alloc | apply Grows.drew))); rintro e w' ⟨a2, l2, p2, rfl, hgw, HB2⟩; (first | (obtain ⟨gw, rfl⟩ := grows_of_grow hgw) | (obtain ⟨gw, rfl⟩ := hgw))))
  refine bodyPost_ret (results_cell_row rfl _ _ _ 35 #[.int .i64 t.x0, .int .i64 t.y0, .int .i64 t.x1, .int .i64 t.y1, .slice a2 l2 p2] (0, 0) _ rfl (by repeat (first | exact blk_at _ _ _ (by first | omega | (simp; done) | (simp; omega)) | refine (blk_past _ _ _ (by first | omega | (simp; done) | (simp; omega))).trans ?_ | refine (heap_grow _ _ _ (by first | omega | (simp; done) | (simp; omega))).trans ?_ | refine (blk_drew _ _).trans ?_)) Tryd.underlying35 rfl buf_info) rfl ⟨a2, l2, p2, rfl, (by repeat (first | exact Grows.refl _ | apply Grows.grow | apply Grows.alloc | apply Grows.drew)), swap_ret HB2.out (by simp <;> omega) (by simp <;> omega)⟩
set_option maxRecDepth 100000 in
set_option maxHeartbeats 6400000 in
theorem kernel_Do_10 (ia : Option Addr) (il ic : Nat) (pa : Option Addr) (pl pc : Nat) (p : Nat → Int) (al : Option Addr) (ll cl : Nat) (g5 : Nat → Bf) (F : Nat → Img) (b : R) (w : World) (hp : Hid (IsInts w pa pl pc p)) (hlp : (pl : Int) = prmN 10) (hl : Hid (IsBufs w al ll cl g5)) (hbs : Hid (∀ i, i < ll → BufAt w (g5 i).r (g5 i).a (g5 i).len (g5 i).cap (F i) ∧ cntR (g5 i).r ≤ 30000000000000)) (hk : NodeOk 10 p ll) (hsm : smallR b) (hs : cntR (someR b) ≤ 300) (hrad : (10 : Int) = 2 ∨ (10 : Int) = 3 ∨ (10 : Int) = 4 → p 0 ≤ 6 ∧ p 1 ≤ 6) (hrad11 : (10 : Int) = 11 → p 2 ≤ 6 ∧ p 3 ≤ 6) :
    Calls Tryd.prog 13 #[.agg #[.int .i64 10, .slice ia il ic, .slice pa pl pc], .slice al ll cl, .agg #[.int .i64 b.x0, .int .i64 b.y0, .int .i64 b.x1, .int .i64 b.y1]] w (RetBuf w (someR b) (tileF b (boxO p 0) (F 0))) := by
  have n1 := hk.one (by omega)
  have hb := hsm.right
  have m1 := hp.out.le
  have m2 := hp.out.most
  have m3 := hl.out.le
  have m4 := hl.out.most
  obtain rfl : pl = 4 := by have : prmN 10 = 4 := (by decide); omega
  obtain ⟨b', off', rfl, hb', e0, e1, e2, e3, e4⟩ := hl.out.at (k := 0) (by omega)
  have hbk := hbs.out 0 (by omega)
  simp only [Nat.zero_mul, Nat.add_zero] at e0 e1 e2 e3 e4
  obtain ⟨rk, hrk⟩ : ∃ z, z = (g5 0).r := ⟨_, rfl⟩
  obtain ⟨ak, hak⟩ : ∃ z, z = (g5 0).a := ⟨_, rfl⟩
  obtain ⟨lk, hlk⟩ : ∃ z, z = (g5 0).len := ⟨_, rfl⟩
  obtain ⟨ck, hck⟩ : ∃ z, z = (g5 0).cap := ⟨_, rfl⟩
  obtain ⟨Fk, hFk⟩ : ∃ z, z = F 0 := ⟨_, rfl⟩
  rw [← hrk, ← hak, ← hlk, ← hck, ← hFk] at hbk
  rw [← hrk] at e0 e1 e2 e3
  rw [← hak, ← hlk, ← hck] at e4
  rw [← hFk]
  obtain ⟨hbk1, hck1⟩ := hbk
  have BK := Lib.hid hbk1
  have hof := hk.box10 rfl
  obtain ⟨bp, offp, rfl, hbp, -⟩ := hp.out.at (k := 0) (by omega)
  have HPD := hp
  have hbr := hof.1.right
  have hbe : emptyR (boxO p 0) = false := (emptyR_not _).2 (by simp only [boxO, Nat.zero_add]; omega)
  have HB : Hid (∀ W, Grows w W → Calls Tryd.prog 40 #[.agg #[.int .i64 rk.x0, .int .i64 rk.y0, .int .i64 rk.x1, .int .i64 rk.y1, .slice ak lk ck], .agg #[.int .i64 b.x0, .int .i64 b.y0, .int .i64 b.x1, .int .i64 b.y1], .agg #[.int .i64 (boxO p 0).x0, .int .i64 (boxO p 0).y0, .int .i64 (boxO p 0).x1, .int .i64 (boxO p 0).y1]] W (RetBuf W (someR b) (tileF b (boxO p 0) Fk))) := fun W g => move_Tile b rk (boxO p 0) ak lk ck Fk W (Lib.hid (BK.out.grows g)) (by omega) hb (by omega) hbe hbr
  obtain ⟨bx, hbx⟩ : ∃ z, z = boxO p 0 := ⟨_, rfl⟩
  have HBX : Hid (boxO p 0 = bx) := hbx.symm
  rw [← hbx] at HB ⊢
  obtain ⟨B, hB⟩ : ∃ B, B = tileF b bx Fk := ⟨_, rfl⟩
  obtain ⟨t, ht⟩ : ∃ t, t = someR b := ⟨_, rfl⟩
  rw [← hB] at HB ⊢
  rw [← ht] at HB ⊢
  clear hB ht hbx hbe hbr hof hk hp hl hbs hrad hrad11 hrk hak hlk hck hFk hbk1 hs hsm hlp hb
  go_enter Tryd.func13, Tryd.ntmps13
  go_wp2
  first | refine region_grow_tail2 7 (by kernel_rfl) (by kernel_rfl) ?_ | refine region_grow_tail 7 (by kernel_rfl) (by kernel_rfl) ?_
  simp only [List.take_succ_cons, List.take_zero, List.drop_succ_cons, List.drop_zero]
  repeat (go_big_quiet_step ((first | (go_at_call 41; exact grow_of (kernel_box _ _ _ _ _ _ (Lib.hid (IsInts.grows HPD.out (by repeat (first | exact Grows.refl _ | apply Grows.grow | apply Grows.alloc | apply Grows.drew)))) (by omega) HBX)))))
  refine wpQuiet_nil ?_
  rintro _ ⟨gd, rfl⟩
  go_wp2_with ((go_at_call 40; (with_reducible refine Calls.mono (HB.out _ ?_) ?_); (exact (by repeat (first | exact Grows.refl _ | apply Grows.grow | apply Grows.alloc | apply Grows.drew))); rintro e w' ⟨a2, l2, p2, rfl, hgw, HB2⟩; (first | (obtain ⟨gw, rfl⟩ := grows_of_grow hgw) | (obtain ⟨gw, rfl⟩ := hgw))))
  refine bodyPost_ret (results_cell_row rfl _ _ _ 35 #[.int .i64 t.x0, .int .i64 t.y0, .int .i64 t.x1, .int .i64 t.y1, .slice a2 l2 p2] (0, 0) _ rfl (by repeat (first | exact blk_at _ _ _ (by first | omega | (simp; done) | (simp; omega)) | refine (blk_past _ _ _ (by first | omega | (simp; done) | (simp; omega))).trans ?_ | refine (heap_grow _ _ _ (by first | omega | (simp; done) | (simp; omega))).trans ?_ | refine (blk_drew _ _).trans ?_)) Tryd.underlying35 rfl buf_info) rfl ⟨a2, l2, p2, rfl, (by repeat (first | exact Grows.refl _ | apply Grows.grow | apply Grows.alloc | apply Grows.drew)), swap_ret HB2.out (by simp <;> omega) (by simp <;> omega)⟩
set_option maxRecDepth 100000 in
set_option maxHeartbeats 6400000 in
theorem kernel_Do_11 (ia : Option Addr) (il ic : Nat) (pa : Option Addr) (pl pc : Nat) (p : Nat → Int) (al : Option Addr) (ll cl : Nat) (g5 : Nat → Bf) (F : Nat → Img) (b : R) (w : World) (hp : Hid (IsInts w pa pl pc p)) (hlp : (pl : Int) = prmN 11) (hl : Hid (IsBufs w al ll cl g5)) (hbs : Hid (∀ i, i < ll → BufAt w (g5 i).r (g5 i).a (g5 i).len (g5 i).cap (F i) ∧ cntR (g5 i).r ≤ 30000000000000)) (hk : NodeOk 11 p ll) (hsm : smallR b) (hs : cntR (someR b) ≤ 300) (hrad : (11 : Int) = 2 ∨ (11 : Int) = 3 ∨ (11 : Int) = 4 → p 0 ≤ 6 ∧ p 1 ≤ 6) (hrad11 : (11 : Int) = 11 → p 2 ≤ 6 ∧ p 3 ≤ 6) :
    Calls Tryd.prog 13 #[.agg #[.int .i64 11, .slice ia il ic, .slice pa pl pc], .slice al ll cl, .agg #[.int .i64 b.x0, .int .i64 b.y0, .int .i64 b.x1, .int .i64 b.y1]] w (RetBuf w (someR b) (shadowF b (p 0) (p 1) (p 2) (p 3) (pxO p 4) (F 0))) := by
  have n1 := hk.one (by omega)
  have hb := hsm.right
  have m1 := hp.out.le
  have m2 := hp.out.most
  have m3 := hl.out.le
  have m4 := hl.out.most
  obtain rfl : pl = 8 := by have : prmN 11 = 8 := (by decide); omega
  obtain ⟨b', off', rfl, hb', e0, e1, e2, e3, e4⟩ := hl.out.at (k := 0) (by omega)
  have hbk := hbs.out 0 (by omega)
  simp only [Nat.zero_mul, Nat.add_zero] at e0 e1 e2 e3 e4
  obtain ⟨rk, hrk⟩ : ∃ z, z = (g5 0).r := ⟨_, rfl⟩
  obtain ⟨ak, hak⟩ : ∃ z, z = (g5 0).a := ⟨_, rfl⟩
  obtain ⟨lk, hlk⟩ : ∃ z, z = (g5 0).len := ⟨_, rfl⟩
  obtain ⟨ck, hck⟩ : ∃ z, z = (g5 0).cap := ⟨_, rfl⟩
  obtain ⟨Fk, hFk⟩ : ∃ z, z = F 0 := ⟨_, rfl⟩
  rw [← hrk, ← hak, ← hlk, ← hck, ← hFk] at hbk
  rw [← hrk] at e0 e1 e2 e3
  rw [← hak, ← hlk, ← hck] at e4
  rw [← hFk]
  obtain ⟨hbk1, hck1⟩ := hbk
  have BK := Lib.hid hbk1
  obtain ⟨bp, offp, rfl, hbp, f0⟩ := hp.out.at (k := 0) (by omega)
  obtain ⟨b2, off2, e, -, f1⟩ := hp.out.at (k := 1) (by omega)
  cases e
  obtain ⟨b2, off2, e, -, f2⟩ := hp.out.at (k := 2) (by omega)
  cases e
  obtain ⟨b2, off2, e, -, f3⟩ := hp.out.at (k := 3) (by omega)
  cases e
  simp only [Nat.add_zero] at f0
  have hof := hk.off11 rfl
  have hra := hrad11 rfl
  have ok6 := (hk.px11 rfl).1
  have HPX := Lib.hid (hp.out.drop (k := 4) (by omega))
  obtain ⟨th1, th2, th3⟩ := there_facts hsm hs hof.1.1 hof.1.2 (ry := p 3) (by omega)
  obtain ⟨v0, hv0⟩ : ∃ z, z = p 0 := ⟨_, rfl⟩
  obtain ⟨v1, hv1⟩ : ∃ z, z = p 1 := ⟨_, rfl⟩
  obtain ⟨v2, hv2⟩ : ∃ z, z = p 2 := ⟨_, rfl⟩
  obtain ⟨v3, hv3⟩ : ∃ z, z = p 3 := ⟨_, rfl⟩
  obtain ⟨pr, hpr⟩ : ∃ z, z = pxO p 4 := ⟨_, rfl⟩
  have HPR : Hid (pxO (fun i => p (4 + i)) 0 = pr) := by rw [hpr]; rfl
  rw [← hv0, ← hv1, ← hv2, ← hv3] at hof
  rw [← hv2, ← hv3] at hra
  rw [← hv0, ← hv1] at th1 th3
  rw [← hv0, ← hv1, ← hv3] at th2
  rw [← hpr] at ok6
  rw [← hv0] at f0
  rw [← hv1] at f1
  rw [← hv2] at f2
  rw [← hv3] at f3
  rw [← hv0, ← hv1, ← hv2, ← hv3, ← hpr]
  have HB : Hid (∀ W, Grows w W → Calls Tryd.prog 42 #[.agg #[.int .i64 rk.x0, .int .i64 rk.y0, .int .i64 rk.x1, .int .i64 rk.y1, .slice ak lk ck], .agg #[.int .i64 b.x0, .int .i64 b.y0, .int .i64 b.x1, .int .i64 b.y1], .int .i64 v0, .int .i64 v1, .int .i64 v2, .int .i64 v3, .agg #[.int .u8 pr.r, .int .u8 pr.g, .int .u8 pr.b, .int .u8 pr.a]] W (RetBuf W (someR b) (shadowF b v0 v1 v2 v3 pr Fk))) := fun W g => move_Shadow b rk ak lk ck Fk v0 v1 v2 v3 pr W (Lib.hid (BK.out.grows g)) (by omega) hb (by omega) ok6 (by omega) (by omega) (by omega) (by omega) th1 (by omega) (by omega)
  obtain ⟨B, hB⟩ : ∃ B, B = shadowF b v0 v1 v2 v3 pr Fk := ⟨_, rfl⟩
  obtain ⟨t, ht⟩ : ∃ t, t = someR b := ⟨_, rfl⟩
  rw [← hB] at HB ⊢
  rw [← ht] at HB ⊢
  clear hB ht hv0 hv1 hv2 hv3 hpr th1 th2 th3 hof hra hk hp hl hbs hrad hrad11 hrk hak hlk hck hFk hbk1 hs hsm hlp hb
  go_enter Tryd.func13, Tryd.ntmps13
  go_wp2
  first | refine region_grow_tail2 24 (by kernel_rfl) (by kernel_rfl) ?_ | refine region_grow_tail 24 (by kernel_rfl) (by kernel_rfl) ?_
  simp only [List.take_succ_cons, List.take_zero, List.drop_succ_cons, List.drop_zero]
  repeat (go_big_quiet_step ((first | (go_at_call 43; exact grow_of (kernel_pixel _ _ _ _ _ _ (Lib.hid (IsInts.grows HPX.out (by repeat (first | exact Grows.refl _ | apply Grows.grow | apply Grows.alloc | apply Grows.drew)))) (by omega) HPR (by assumption))))))
  refine wpQuiet_nil ?_
  rintro _ ⟨gd, rfl⟩
  go_wp2_with ((go_at_call 42; (with_reducible refine Calls.mono (HB.out _ ?_) ?_); (exact (by repeat (first | exact Grows.refl _ | apply Grows.grow | apply Grows.alloc | apply Grows.drew))); rintro e w' ⟨a2, l2, p2, rfl, hgw, HB2⟩; (first | (obtain ⟨gw, rfl⟩ := grows_of_grow hgw) | (obtain ⟨gw, rfl⟩ := hgw))))
  refine bodyPost_ret (results_cell_row rfl _ _ _ 35 #[.int .i64 t.x0, .int .i64 t.y0, .int .i64 t.x1, .int .i64 t.y1, .slice a2 l2 p2] (0, 0) _ rfl (by repeat (first | exact blk_at _ _ _ (by first | omega | (simp; done) | (simp; omega)) | refine (blk_past _ _ _ (by first | omega | (simp; done) | (simp; omega))).trans ?_ | refine (heap_grow _ _ _ (by first | omega | (simp; done) | (simp; omega))).trans ?_ | refine (blk_drew _ _).trans ?_)) Tryd.underlying35 rfl buf_info) rfl ⟨a2, l2, p2, rfl, (by repeat (first | exact Grows.refl _ | apply Grows.grow | apply Grows.alloc | apply Grows.drew)), swap_ret HB2.out (by simp <;> omega) (by simp <;> omega)⟩
set_option maxRecDepth 100000 in
set_option maxHeartbeats 6400000 in
theorem kernel_Do_points (op : Int) (ia : Option Addr) (il ic : Nat) (pa : Option Addr) (pl pc : Nat) (p : Nat → Int) (al : Option Addr) (ll cl : Nat) (g5 : Nat → Bf) (F : Nat → Img) (b : R) (w : World) (hp : Hid (IsInts w pa pl pc p)) (hlp : (pl : Int) = prmN op) (hl : Hid (IsBufs w al ll cl g5)) (hbs : Hid (∀ i, i < ll → BufAt w (g5 i).r (g5 i).a (g5 i).len (g5 i).cap (F i) ∧ cntR (g5 i).r ≤ 30000000000000)) (hk : NodeOk op p ll) (hsm : smallR b) (hs : cntR (someR b) ≤ 300) (c1 : (op == 1) = false) (c2 : (op == 2) = false) (c3 : (op == 3) = false) (c4 : (op == 4) = false) (c10 : (op == 10) = false) (c11 : (op == 11) = false) :
    Calls Tryd.prog 13 #[.agg #[.int .i64 op, .slice ia il ic, .slice pa pl pc], .slice al ll cl, .agg #[.int .i64 b.x0, .int .i64 b.y0, .int .i64 b.x1, .int .i64 b.y1]] w (RetBuf w (someR b) (cutF (someR b) (fun x y => atK op p ll (fun i => F i x y) x y))) := by
  have hb := hsm.right
  have h8 := hk.few
  have HK := Lib.hid hk
  have HLP := Lib.hid hlp
  have HB : Hid (∀ W, Grows w W → Calls Tryd.prog 44 #[.agg #[.int .i64 op, .slice ia il ic, .slice pa pl pc], .slice al ll cl, .agg #[.int .i64 b.x0, .int .i64 b.y0, .int .i64 b.x1, .int .i64 b.y1]] W (RetBuf W (someR b) (cutF (someR b) (fun x y => atK op p ll (fun i => F i x y) x y)))) := fun W g => kernel_points op ia il ic pa pl pc p al ll cl g5 F b W (Lib.hid (hp.out.grows g)) HLP (Lib.hid (hl.out.grows g)) (Lib.hid (fun i hi => ⟨(hbs.out i hi).1.grows g, (hbs.out i hi).2⟩)) HK h8 hb (by omega)
  obtain ⟨B, hB⟩ : ∃ B, B = cutF (someR b) (fun x y => atK op p ll (fun i => F i x y) x y) := ⟨_, rfl⟩
  obtain ⟨t, ht⟩ : ∃ t, t = someR b := ⟨_, rfl⟩
  rw [← hB] at HB ⊢
  rw [← ht] at HB ⊢
  clear hB ht hk hp hl hbs hs hsm hlp HK HLP hb h8
  go_enter Tryd.func13, Tryd.ntmps13
  go_wp2_with ((go_at_call 44; (with_reducible refine Calls.mono (HB.out _ ?_) ?_); (exact (by repeat (first | exact Grows.refl _ | apply Grows.grow | apply Grows.alloc | apply Grows.drew))); rintro e w' ⟨a2, l2, p2, rfl, hgw, HB2⟩; (first | (obtain ⟨gw, rfl⟩ := grows_of_grow hgw) | (obtain ⟨gw, rfl⟩ := hgw))))
  refine bodyPost_ret (results_cell_row rfl _ _ _ 35 #[.int .i64 t.x0, .int .i64 t.y0, .int .i64 t.x1, .int .i64 t.y1, .slice a2 l2 p2] (0, 0) _ rfl (by repeat (first | exact blk_at _ _ _ (by first | omega | (simp; done) | (simp; omega)) | refine (blk_past _ _ _ (by first | omega | (simp; done) | (simp; omega))).trans ?_ | refine (heap_grow _ _ _ (by first | omega | (simp; done) | (simp; omega))).trans ?_ | refine (blk_drew _ _).trans ?_)) Tryd.underlying35 rfl buf_info) rfl ⟨a2, l2, p2, rfl, (by repeat (first | exact Grows.refl _ | apply Grows.grow | apply Grows.alloc | apply Grows.drew)), swap_ret HB2.out (by simp <;> omega) (by simp <;> omega)⟩
theorem kernel_Do (op : Int) (ia : Option Addr) (il ic : Nat) (pa : Option Addr) (pl pc : Nat) (p : Nat → Int) (al : Option Addr) (ll cl : Nat) (g5 : Nat → Bf) (F : Nat → Img) (b : R) (w : World) (hp : Hid (IsInts w pa pl pc p)) (hlp : (pl : Int) = prmN op) (hl : Hid (IsBufs w al ll cl g5)) (hbs : Hid (∀ i, i < ll → BufAt w (g5 i).r (g5 i).a (g5 i).len (g5 i).cap (F i) ∧ cntR (g5 i).r ≤ 30000000000000)) (hk : NodeOk op p ll) (hsm : smallR b) (hs : cntR (someR b) ≤ 300) (hrad : op = 2 ∨ op = 3 ∨ op = 4 → p 0 ≤ 6 ∧ p 1 ≤ 6) (hrad11 : op = 11 → p 2 ≤ 6 ∧ p 3 ≤ 6) :
    Calls Tryd.prog 13 #[.agg #[.int .i64 op, .slice ia il ic, .slice pa pl pc], .slice al ll cl, .agg #[.int .i64 b.x0, .int .i64 b.y0, .int .i64 b.x1, .int .i64 b.y1]] w (RetBuf w (someR b) (doF op p ll F b)) := by
  have hop := hk.op_
  by_cases c1 : op = 1
  · subst c1; rw [doF_1]; exact kernel_Do_1 ia il ic pa pl pc p al ll cl g5 F b w hp hlp hl hbs hk hsm hs hrad hrad11
  by_cases c2 : op = 2
  · subst c2; rw [doF_2]; exact kernel_Do_2 ia il ic pa pl pc p al ll cl g5 F b w hp hlp hl hbs hk hsm hs hrad hrad11
  by_cases c3 : op = 3
  · subst c3; rw [doF_3]; exact kernel_Do_3 ia il ic pa pl pc p al ll cl g5 F b w hp hlp hl hbs hk hsm hs hrad hrad11
  by_cases c4 : op = 4
  · subst c4; rw [doF_4]; exact kernel_Do_4 ia il ic pa pl pc p al ll cl g5 F b w hp hlp hl hbs hk hsm hs hrad hrad11
  by_cases c10 : op = 10
  · subst c10; rw [doF_10]; exact kernel_Do_10 ia il ic pa pl pc p al ll cl g5 F b w hp hlp hl hbs hk hsm hs hrad hrad11
  by_cases c11 : op = 11
  · subst c11; rw [doF_11]; exact kernel_Do_11 ia il ic pa pl pc p al ll cl g5 F b w hp hlp hl hbs hk hsm hs hrad hrad11
  have e : doF op p ll F b = cutF (someR b) (fun x y => atK op p ll (fun i => F i x y) x y) := by simp [doF, c1, c2, c3, c4, c10, c11]
  rw [e]
  exact kernel_Do_points op ia il ic pa pl pc p al ll cl g5 F b w hp hlp hl hbs hk hsm hs (by simp; omega) (by simp; omega) (by simp; omega) (by simp; omega) (by simp; omega) (by simp; omega)
end Go.Proofs.YtklcmlbkhjcaiaaDoor
