/- Layer 9: a line's room; what holds while a row or a column is done. -/
import Derived.Test.YtklcmlbkhjcaiaaDoorMoveT
import Derived.Test.YtklcmlbkhjcaiaaDoorK7
import Derived.RegionTactic




namespace Go.Proofs.YtklcmlbkhjcaiaaDoor
open Go.RowKit
set_option linter.unusedVariables false

theorem line_info : (Tryd.prog.info? 105).map (·.size) = some 2 := by kernel_rfl
/-- A line's room is answered. -/
def RetLine (n r : Nat) (w : World) (e : Ending) (w' : World) : Prop :=
  ∃ bi bo : Nat, e = .returned (.agg #[.slice (some ⟨bi, 0, none⟩) (n + 2 * r) (n + 2 * r), .slice (some ⟨bo, 0, none⟩) n n]) ∧ Grows w w' ∧ Hid (w.heap.size ≤ bi ∧ w.heap.size ≤ bo ∧ bi ≠ bo ∧ U8Row w' bi (n + 2 * r) (fun _ => 0) ∧ U8Row w' bo n (fun _ => 0))
set_option maxHeartbeats 1600000 in
theorem morph_lines (n r : Nat) (w : World) (hn : n ≤ 100000) (hr : r ≤ 100000) : Calls Tryd.prog 87 #[.int .i64 (n : Int), .int .i64 (r : Int)] w (RetLine n r w) := by
  have hmk1 := make_u8 ((n : Int) + 2 * (r : Int)) (n + 2 * r) (by omega) (by omega)
  have hmk2 := make_u8 (n : Int) n rfl (by omega)
  go_enter Tryd.func87, Tryd.ntmps87
  go_wp2
  go_region
  all_goals go_wp2
  · refine bodyPost_ret (results_cell_row rfl _ _ _ 105 #[.slice (some ⟨w.heap.size + 1, 0, none⟩) (n + 2 * r) (n + 2 * r), .slice (some ⟨w.heap.size + 1 + 1, 0, none⟩) n n] (0, 0) _ rfl (by repeat (first | exact blk_at _ _ _ (by first | omega | (simp; done) | (simp; omega)) | refine (blk_past _ _ _ (by first | omega | (simp; done) | (simp; omega))).trans ?_ | refine (heap_grow _ _ _ (by first | omega | (simp; done) | (simp; omega))).trans ?_ | refine (blk_drew _ _).trans ?_)) Tryd.underlying105 rfl line_info) rfl ⟨w.heap.size + 1, w.heap.size + 1 + 1, rfl, (by repeat (first | exact Grows.refl _ | apply Grows.grow | apply Grows.alloc | apply Grows.drew)), by omega, by omega, by omega, u8Row_made (by omega) (by unfold Blk; repeat (first | exact blk_at _ _ _ (by first | omega | (simp; done) | (simp; omega)) | refine (blk_past _ _ _ (by first | omega | (simp; done) | (simp; omega))).trans ?_ | refine (heap_grow _ _ _ (by first | omega | (simp; done) | (simp; omega))).trans ?_ | refine (blk_drew _ _).trans ?_)), u8Row_made (by omega) (by unfold Blk; repeat (first | exact blk_at _ _ _ (by first | omega | (simp; done) | (simp; omega)) | refine (blk_past _ _ _ (by first | omega | (simp; done) | (simp; omega))).trans ?_ | refine (heap_grow _ _ _ (by first | omega | (simp; done) | (simp; omega))).trans ?_ | refine (blk_drew _ _).trans ?_))⟩
  · refine bodyPost_ret (results_cell_row rfl _ _ _ 105 #[.slice (some ⟨w.heap.size + 1 + 1, 0, none⟩) (n + 2 * r) (n + 2 * r), .slice (some ⟨w.heap.size + 1, 0, none⟩) n n] (0, 0) _ rfl (by repeat (first | exact blk_at _ _ _ (by first | omega | (simp; done) | (simp; omega)) | refine (blk_past _ _ _ (by first | omega | (simp; done) | (simp; omega))).trans ?_ | refine (heap_grow _ _ _ (by first | omega | (simp; done) | (simp; omega))).trans ?_ | refine (blk_drew _ _).trans ?_)) Tryd.underlying105 rfl line_info) rfl ⟨w.heap.size + 1 + 1, w.heap.size + 1, rfl, (by repeat (first | exact Grows.refl _ | apply Grows.grow | apply Grows.alloc | apply Grows.drew)), by omega, by omega, by omega, u8Row_made (by omega) (by unfold Blk; repeat (first | exact blk_at _ _ _ (by first | omega | (simp; done) | (simp; omega)) | refine (blk_past _ _ _ (by first | omega | (simp; done) | (simp; omega))).trans ?_ | refine (heap_grow _ _ _ (by first | omega | (simp; done) | (simp; omega))).trans ?_ | refine (blk_drew _ _).trans ?_)), u8Row_made (by omega) (by unfold Blk; repeat (first | exact blk_at _ _ _ (by first | omega | (simp; done) | (simp; omega)) | refine (blk_past _ _ _ (by first | omega | (simp; done) | (simp; omega))).trans ?_ | refine (heap_grow _ _ _ (by first | omega | (simp; done) | (simp; omega))).trans ?_ | refine (blk_drew _ _).trans ?_))⟩

/-- What holds while a row or a column is done. -/
structure MorphSt (w wr : World) (o n0 n1 n2 : Nat) (m : R) (a : Option Addr) (len cap : Nat) (G : Img) (rf : R) (af : Option Addr) (lf cf : Nat) (F : Img) (bi bo li lo : Nat) (fi fo : Nat → Int) : Prop where
  ob : Blk wr o 35 #[.int .i64 m.x0, .int .i64 m.y0, .int .i64 m.x1, .int .i64 m.y1, .slice a len cap]
  fb : Blk wr n0 35 #[.int .i64 rf.x0, .int .i64 rf.y0, .int .i64 rf.x1, .int .i64 rf.y1, .slice af lf cf]
  lb : Blk wr n1 105 #[.slice (some ⟨bi, 0, none⟩) li li, .slice (some ⟨bo, 0, none⟩) lo lo]
  mb : Blk wr n2 27 #[.int .i64 m.x0, .int .i64 m.y0, .int .i64 m.x1, .int .i64 m.y1]
  by_ : Chg (fun k => blkOf a = some k ∨ k = bi ∨ k = bo) w wr
  buf : BufAt wr m a len cap G
  open_ : Open wr a
  src : BufAt wr rf af lf cf F
  inp : U8Row wr bi li fi
  out : U8Row wr bo lo fo
/-- The blocks lie apart. -/
structure MorphAp (w : World) (o n0 n1 n2 : Nat) (a af : Option Addr) (lf bi bo : Nat) : Prop where
  ho : o < w.heap.size
  h0 : w.heap.size ≤ n0
  h1 : w.heap.size ≤ n1
  h2 : w.heap.size ≤ n2
  hi : bi < w.heap.size
  hq : bo < w.heap.size
  hio : bi ≠ bo
  hi2 : bi ≠ o
  hq2 : bo ≠ o
  ha : ∀ k, blkOf a = some k → k < w.heap.size ∧ k ≠ o ∧ k ≠ bi ∧ k ≠ bo
  hf : 0 < lf → ∀ x, af = some x → x.block < w.heap.size ∧ blkOf a ≠ some x.block ∧ x.block ≠ bi ∧ x.block ≠ bo
section
variable {w wr w' : World} {o n0 n1 n2 : Nat} {m rf : R} {a af : Option Addr} {len cap lf cf bi bo li lo : Nat} {F G G' : Img} {fi fo fi' fo' : Nat → Int} {S : Nat → Prop}
/-- What a step changes lies among the three. -/
theorem MorphSt.step (s : MorphSt w wr o n0 n1 n2 m a len cap G rf af lf cf F bi bo li lo fi fo) (k : MorphAp w o n0 n1 n2 a af lf bi bo) (c : Chg S wr w') (hS : ∀ j, S j → blkOf a = some j ∨ j = bi ∨ j = bo) (b : BufAt w' m a len cap G') (op : Open w' a) (hi : U8Row w' bi li fi') (ho : U8Row w' bo lo fo') : MorphSt w w' o n0 n1 n2 m a len cap G' rf af lf cf F bi bo li lo fi' fo' := by
  have k0 := k.ho
  have k1 := k.h0
  have k2 := k.h1
  have k3 := k.h2
  have k4 := k.hi
  have k5 := k.hq
  have k7 := k.hi2
  have k8 := k.hq2
  have away : ∀ n, (w.heap.size ≤ n ∨ n = o) → ¬ S n := fun n hn e => by
    rcases hS n e with h | h | h
    · have := k.ha n h; omega
    · omega
    · omega
  exact ⟨s.ob.chg c (away o (.inr rfl)), s.fb.chg c (away n0 (.inl k1)), s.lb.chg c (away n1 (.inl k2)), s.mb.chg c (away n2 (.inl k3)), s.by_.trans (c.mono fun j _ e => hS j e), b, op,
    s.src.chg c (fun h0 x hx e => by
      have h := k.hf h0 x hx
      rcases hS _ e with e | e | e
      · exact h.2.1 e
      · exact h.2.2.1 e
      · exact h.2.2.2 e), hi, ho⟩
theorem MorphSt.grows (s : MorphSt w wr o n0 n1 n2 m a len cap G rf af lf cf F bi bo li lo fi fo) (g : Grows wr w') : MorphSt w w' o n0 n1 n2 m a len cap G rf af lf cf F bi bo li lo fi fo :=
  ⟨s.ob.grows g, s.fb.grows g, s.lb.grows g, s.mb.grows g, s.by_.grows g, s.buf.grows g, s.open_.grows g, s.src.grows g, s.inp.grows g, s.out.grows g⟩
theorem MorphSt.congr (s : MorphSt w wr o n0 n1 n2 m a len cap G rf af lf cf F bi bo li lo fi fo) (h1 : ∀ i, i < li → fi i = fi' i) (h2 : ∀ i, i < lo → fo i = fo' i) : MorphSt w wr o n0 n1 n2 m a len cap G rf af lf cf F bi bo li lo fi' fo' :=
  ⟨s.ob, s.fb, s.lb, s.mb, s.by_, s.buf, s.open_, s.src, s.inp.congr h1, s.out.congr h2⟩
/-- A value of the line is written. -/
theorem MorphSt.line (s : MorphSt w wr o n0 n1 n2 m a len cap G rf af lf cf F bi bo li lo fi fo) (k : MorphAp w o n0 n1 n2 a af lf bi bo) (j : Nat) {v : Int} (hv : 0 ≤ v ∧ v ≤ 255) : MorphSt w (wr.setCell ⟨bi, j, none⟩ (.int .u8 v)) o n0 n1 n2 m a len cap G rf af lf cf F bi bo li lo (fun t => if t = j then v else fi t) fo := by
  have c : Chg (fun k => k = bi) wr (wr.setCell ⟨bi, j, none⟩ (.int .u8 v)) := Chg.setCell (S := fun k => k = bi) (Chg.refl _ wr) (p := ⟨bi, j, none⟩) (.inl rfl) _
  refine s.step k c (fun j e => .inr (.inl e)) (s.buf.chg c (fun _ x hx e => ?_)) (s.open_.chg c (fun x hx e => ?_)) (s.inp.set hv) (s.out.chg c (fun e => k.hio e.symm))
  · exact (k.ha x.block (by rw [hx]; rfl)).2.2.1 e
  · exact (k.ha x.block (by rw [hx]; rfl)).2.2.1 e
/-- The greatest are written. -/
theorem MorphSt.along (s : MorphSt w wr o n0 n1 n2 m a len cap G rf af lf cf F bi bo li lo fi fo) (k : MorphAp w o n0 n1 n2 a af lf bi bo) (g : wr.grownBy w' (some bo)) (hi : U8Row w' bi li fi') (ho : U8Row w' bo lo fo') : MorphSt w w' o n0 n1 n2 m a len cap G rf af lf cf F bi bo li lo fi' fo' := by
  have c : Chg (fun k => k = bo) wr w' := chg_grownBy g (fun j e _ => by injection e with e; exact e.symm)
  refine s.step k c (fun j e => .inr (.inr e)) (s.buf.chg c (fun _ x hx e => ?_)) (s.open_.chg c (fun x hx e => ?_)) hi ho
  · exact (k.ha x.block (by rw [hx]; rfl)).2.2.2 e
  · exact (k.ha x.block (by rw [hx]; rfl)).2.2.2 e
/-- A pixel is written. -/
theorem MorphSt.put (s : MorphSt w wr o n0 n1 n2 m a len cap G rf af lf cf F bi bo li lo fi fo) (k : MorphAp w o n0 n1 n2 a af lf bi bo) (g : wr.grownBy w' (blkOf a)) (b : BufAt w' m a len cap G') (op : Open w' a) : MorphSt w w' o n0 n1 n2 m a len cap G' rf af lf cf F bi bo li lo fi fo := by
  have c : Chg (fun k => blkOf a = some k) wr w' := chg_grownBy g (fun j e _ => e)
  exact s.step k c (fun j e => .inl e) b op (s.inp.chg c (fun e => (k.ha _ e).2.2.1 rfl)) (s.out.chg c (fun e => (k.ha _ e).2.2.2 rfl))
end


theorem raster_PutIs (o : Nat) (r : R) (a : Option Addr) (len cap : Nat) (F : Img) (x y p0 p1 p2 p3 : Int) (p : P4) (w : World) (ho : Hid (Blk w o 35 #[.int .i64 r.x0, .int .i64 r.y0, .int .i64 r.x1, .int .i64 r.y1, .slice a len cap])) (h : Hid (BufAt w r a len cap F)) (hop : Hid (Open w a)) (hs : cntR r ≤ 140737488355328) (hp : okP p) (e : Hid (p = ⟨p0, p1, p2, p3⟩)) :
    Calls Tryd.prog 66 #[.pointer (some ⟨o, 0, none⟩), .int .i64 x, .int .i64 y, .agg #[.int .u8 p0, .int .u8 p1, .int .u8 p2, .int .u8 p3]] w fun e w' => e = .returned (.tuple #[]) ∧ w.grownBy w' (blkOf a) ∧ BufAt w' r a len cap (putF r F x y p) ∧ Open w' a := by
  have := raster_Put o r a len cap F x y p w ho h hop hs hp
  rw [e.out] at this ⊢
  exact this
/-- What a line is filled with; what comes of it. -/
def rowM (k : Bool) (F : Img) (s y : Int) (c : Nat) : Nat → Int := fun t => turnV k (chan (F (s + (t : Int)) y) c)
def colM (k : Bool) (F : Img) (s x : Int) (c : Nat) : Nat → Int := fun t => turnV k (chan (F x (s + (t : Int))) c)
theorem rowM_bd {k : Bool} {F : Img} (h : ∀ x y, okP (F x y)) (s y : Int) (c t : Nat) : 0 ≤ rowM k F s y c t ∧ rowM k F s y c t ≤ 255 := turnV_bd k (chan_bd (h _ _) c)
theorem colM_bd {k : Bool} {F : Img} (h : ∀ x y, okP (F x y)) (s x : Int) (c t : Nat) : 0 ≤ colM k F s x c t ∧ colM k F s x c t ≤ 255 := turnV_bd k (chan_bd (h _ _) c)
theorem row_val (k : Bool) (F : Img) (x0 y : Int) (r c i : Nat) : chan (morphH k F r (x0 + (i : Int)) y) c = turnV k (mxN (rowM k F (x0 - (r : Int)) y c) r i) := by
  rw [morphH_chan]
  congr 1
  have e : winN (r : Int) = 2 * r + 1 := by unfold winN; omega
  rw [e]
  refine mxW_congr _ (fun j hj => ?_)
  show _ = turnV k (chan (F (x0 - (r : Int) + ((((i : Int) + (j : Int)).toNat : Nat) : Int)) y) c)
  rw [show x0 - (r : Int) + ((((i : Int) + (j : Int)).toNat : Nat) : Int) = x0 + (i : Int) - (r : Int) + (j : Int) from by omega]
theorem col_val (k : Bool) (F : Img) (y0 x : Int) (r c i : Nat) : chan (morphV k F r x (y0 + (i : Int))) c = turnV k (mxN (colM k F (y0 - (r : Int)) x c) r i) := by
  rw [morphV_chan]
  congr 1
  have e : winN (r : Int) = 2 * r + 1 := by unfold winN; omega
  rw [e]
  refine mxW_congr _ (fun j hj => ?_)
  show _ = turnV k (chan (F x (y0 - (r : Int) + ((((i : Int) + (j : Int)).toNat : Nat) : Int))) c)
  rw [show y0 - (r : Int) + ((((i : Int) + (j : Int)).toNat : Nat) : Int) = y0 + (i : Int) - (r : Int) + (j : Int) from by omega]
theorem mixC_step (c : Nat) (hc : c < 4) (p : P4) {q : P4} (h : q = mixC c p noP) : mixC (c + 1) p noP = ⟨if c = 0 then p.r else q.r, if c = 1 then p.g else q.g, if c = 2 then p.b else q.b, if c = 3 then p.a else q.a⟩ := by
  subst h
  match c, hc with
  | 0, _ => simp [mixC]
  | 1, _ => simp [mixC]
  | 2, _ => simp [mixC]
  | 3, _ => simp [mixC]
end Go.Proofs.YtklcmlbkhjcaiaaDoor
