/- Layer 15, plain: what a node makes of right pixels is right; the document's answers of layer 9. -/
import Derived.Test.YtklcmlbkhjcaiaaGreatDoorK10
import Derived.Test.YtklcmlbkhjcaiaaGreatDoorMoveR
import Derived.Test.YtklcmlbkhjcaiaaGreatDoorRef9B
import Derived.Test.YtklcmlbkhjcaiaaGreatDoorK12
import Derived.Test.YtklcmlbkhjcaiaaGreatDoorMove
import Derived.Deep.RegionHeld3
import Derived.Test.YtklcmlbkhjcaiaaGreatDoorK5




namespace Go.Proofs.YtklcmlbkhjcaiaaGreatDoor
open Go.RowKit
set_option linter.unusedVariables false

theorem sumP_right {f : Int → P4} (h : ∀ x, rightP (f x)) (s : Int) : ∀ n : Nat, rightP (sumP f s n)
  | 0 => rightP_no
  | n + 1 => by
    have a := sumP_right h s n
    have b := h (s + (n : Int))
    rw [sumP_succ]
    unfold rightP at a b ⊢
    simp only [addP]
    omega
theorem near_mono {s t n : Int} (hn : 0 < n) (h : s ≤ t) : near s n ≤ near t n := Int.ediv_le_ediv hn (by omega)
theorem meanP_right {s : P4} {n : Int} (hn : 0 < n) (h : rightP s) : rightP (meanP s n) := ⟨near_mono hn h.1, near_mono hn h.2.1, near_mono hn h.2.2⟩
theorem blurH_right {F : Img} (h : ∀ x y, rightP (F x y)) {r : Int} (hr : 0 ≤ r) (x y : Int) : rightP (blurH F r x y) := meanP_right (by omega) (sumP_right (fun u => h u y) _ _)
theorem blurV_right {F : Img} (h : ∀ x y, rightP (F x y)) {r : Int} (hr : 0 ≤ r) (x y : Int) : rightP (blurV F r x y) := meanP_right (by omega) (sumP_right (fun v => h x v) _ _)
theorem boxF_right {F : Img} (h : ∀ x y, rightP (F x y)) (b : R) {rx ry : Int} (hx : 0 ≤ rx) (hy : 0 ≤ ry) (x y : Int) : rightP (boxF b rx ry F x y) :=
  cutF_right (blurV_right (cutF_right (blurH_right h hx) _) hy) _ x y
theorem boxF_none {b : R} (h : rightR b = true) (F : Img) : boxF b 0 0 F = cutF (someR b) F := by rw [boxF_nought h, blurH_zero]
theorem winP_right {f : Int → P4} (k : Bool) (h : ∀ x, rightP (f x)) (s : Int) (n : Nat) : rightP (turnP k (winP (fun x => turnP k (f x)) s n)) := by
  unfold rightP turnP winP
  cases k
  · simp only [turnV, Bool.false_eq_true, if_false]
    have h0 := mxW_mono (f := fun x => 255 - (f x).a) (g := fun x => 255 - (f x).r) (fun x => by have := (h x).1; show 255 - (f x).a ≤ 255 - (f x).r; omega) s n
    have h1 := mxW_mono (f := fun x => 255 - (f x).a) (g := fun x => 255 - (f x).g) (fun x => by have := (h x).2.1; show 255 - (f x).a ≤ 255 - (f x).g; omega) s n
    have h2 := mxW_mono (f := fun x => 255 - (f x).a) (g := fun x => 255 - (f x).b) (fun x => by have := (h x).2.2; show 255 - (f x).a ≤ 255 - (f x).b; omega) s n
    omega
  · simp only [turnV, if_true]
    exact ⟨mxW_mono (fun x => (h x).1) s n, mxW_mono (fun x => (h x).2.1) s n, mxW_mono (fun x => (h x).2.2) s n⟩
theorem boxM_right {F : Img} (h : ∀ x y, rightP (F x y)) (k : Bool) (b : R) (rx ry x y : Int) : rightP (boxM k b rx ry F x y) :=
  cutF_right (fun x y => winP_right k (fun v => cutF_right (fun x y => winP_right k (fun u => h u y) _ _) _ x v) _ _) _ x y
theorem docM_box {b : R} {rx ry : Int} (hs : smallR b) (hy : 0 ≤ ry ∧ ry ≤ 255) (k : Bool) (F : Img) : docM k b rx ry F = boxM k b rx ry F := by
  funext x y
  cases c : hasR b x y
  · unfold docM boxM
    rw [cutF_out (by rw [hasR_some]; exact c), cutF_out (by rw [hasR_some]; exact c)]
  · rw [boxM_near (near_of_small hs) hy k rx F c]
    unfold docM
    rw [cutF_in (by rw [hasR_some]; exact c)]
theorem rightT_thick (r g b a : Int) (hr : 0 ≤ r ∧ r ≤ 255) (hg : 0 ≤ g ∧ g ≤ 255) (hb : 0 ≤ b ∧ b ≤ 255) (ha : 0 ≤ a ∧ a ≤ 255) : rightT (mulT r a) (mulT g a) (mulT b a) a = true := by
  have h := fun x (hx : 0 ≤ x ∧ x ≤ 255) => (by rw [mulT_comm]; exact mulT_le a x ha.1 hx.2 : mulT x a ≤ a)
  rw [rightT_iff]
  exact ⟨h r hr, h g hg, h b hb⟩
theorem tintP_right (m : Nat → Int) (q : P4) : rightP (tintP m q) :=
  (rightP_iff _).1 (show rightT (tint0 m q.r q.g q.b q.a) (tint1 m q.r q.g q.b q.a) (tint2 m q.r q.g q.b q.a) (tint3 m q.r q.g q.b q.a) = true from rightT_thick _ _ _ _ (rowV_bd ..) (rowV_bd ..) (rowV_bd ..) (rowV_bd ..))
theorem foldP_right (q : Nat → P4) : ∀ k, (∀ i, i < k → okP (q i) ∧ rightP (q i)) → rightP (foldP q k)
  | 0, _ => rightP_no
  | k + 1, h => compP_right 0 _ _ (h k (by omega)).1 (foldP_ok q k) (h k (by omega)).2 (foldP_right q k fun i hi => h i (by omega))
/-- What a node makes of right pixels is right. -/
theorem doF_right {op : Int} {p : Nat → Int} {n : Nat} {F : Nat → Img} {s : R} (hk : NodeOk op p n) (hok : ∀ i, i < n → ∀ x y, okP (F i x y)) (hr : ∀ i, i < n → ∀ x y, rightP (F i x y)) (x y : Int) : rightP (doF op p n F s x y) := by
  have hop := hk.op_
  have hc : op = 1 ∨ op = 2 ∨ op = 3 ∨ op = 4 ∨ op = 5 ∨ op = 6 ∨ op = 7 ∨ op = 8 ∨ op = 9 ∨ op = 10 ∨ op = 11 ∨ op = 12 := by omega
  rcases hc with rfl | rfl | rfl | rfl | rfl | rfl | rfl | rfl | rfl | rfl | rfl | rfl
  · have n1 := hk.one (by omega)
    rw [doF_1]
    unfold moveF copyF
    split
    · exact hr 0 (by omega) _ _
    · exact rightP_no
  · have n1 := hk.one (by omega)
    have h := hk.rad (by omega)
    rw [doF_2]; exact boxF_right (hr 0 (by omega)) s h.1.1 h.2.1 x y
  · have n1 := hk.one (by omega)
    rw [doF_3]; exact boxM_right (hr 0 (by omega)) false s _ _ x y
  · have n1 := hk.one (by omega)
    rw [doF_4]; exact boxM_right (hr 0 (by omega)) true s _ _ x y
  · rw [doF_5]; exact cutF_right (fun x y => tintP_right _ _) _ x y
  · rw [doF_6]
    refine cutF_right (fun x y => ?_) _ x y
    split
    · exact (hk.px6 rfl).2
    · exact rightP_no
  · have n1 := hk.two (by omega)
    rw [doF_7]; exact cutF_right (fun x y => blendP_right _ _ _ (hok 0 (by omega) x y) (hok 1 (by omega) x y) (hr 0 (by omega) x y) (hr 1 (by omega) x y)) _ x y
  · have n1 := hk.two (by omega)
    rw [doF_8]; exact cutF_right (fun x y => compP_right _ _ _ (hok 0 (by omega) x y) (hok 1 (by omega) x y) (hr 0 (by omega) x y) (hr 1 (by omega) x y)) _ x y
  · rw [doF_9]; exact cutF_right (fun x y => foldP_right _ n fun i hi => ⟨hok i hi x y, hr i hi x y⟩) _ x y
  · have n1 := hk.one (by omega)
    rw [doF_10]
    unfold tileF
    exact cutF_right (fun x y => hr 0 (by omega) _ _) _ x y
  · have n1 := hk.one (by omega)
    have h := hk.off11 rfl
    have hp := hk.px11 rfl
    rw [doF_11]; exact shadow_right (hok 0 (by omega)) (hr 0 (by omega)) hp.1 hp.2 s _ _ h.2.1.1 h.2.2.1 x y
  · have n1 := hk.one (by omega)
    rw [doF_12]
    refine cutF_right (fun x y => ?_) _ x y
    split
    · exact hr 0 (by omega) x y
    · exact rightP_no
end Go.Proofs.YtklcmlbkhjcaiaaGreatDoor
/- The walk of layer 10's Merge by the reference. -/



namespace Go.Proofs.YtklcmlbkhjcaiaaGreatDoor
open Go.RowKit
set_option linter.unusedVariables false

theorem store5_grown (wr : World) (n : Nat) (v0 v1 v2 v3 v4 : Value) : wr.grownBy (((((wr.setCell ⟨n, 0, none⟩ v0).setCell ⟨n, 1, none⟩ v1).setCell ⟨n, 2, none⟩ v2).setCell ⟨n, 3, none⟩ v3).setCell ⟨n, 4, none⟩ v4) (some n) := by
  iterate 4 (refine grownBy_setCell ?_ (.inl rfl) _)
  exact grownBy_setCell (World.grownBy.refl wr _) (.inl rfl) _
set_option maxRecDepth 100000 in
set_option maxHeartbeats 12800000 in
theorem ref10_Merge (b : R) (al : Option Addr) (ll cl : Nat) (g5 : Nat → Bf) (F : Nat → Img) (w : World) (hl : Hid (IsBufs w al ll cl g5)) (hbs : Hid (∀ i, i < ll → BufAt w (g5 i).r (g5 i).a (g5 i).len (g5 i).cap (F i) ∧ cntR (g5 i).r ≤ 30000000000000)) (hb : rightR b = true) (hs : cntR (someR b) ≤ 30000000000000) :
    Calls Tryz.prog 33 #[.slice al ll cl, .agg #[.int .i64 b.x0, .int .i64 b.y0, .int .i64 b.x1, .int .i64 b.y1]] w (RetBuf w (someR b) (mergeF (someR b) F ll)) := by
  have HN : Hid (∀ w, Calls Tryz.prog 61 #[.agg #[.int .i64 b.x0, .int .i64 b.y0, .int .i64 b.x1, .int .i64 b.y1]] w (RetBuf w (someR b) noF)) := fun w => ref05_New b w hb (by omega)
  have HO : Hid (∀ (W : World) (rf : R) (af : Option Addr) (lf cf : Nat) (ag : Option Addr) (lg cg : Nat) (F G : Img), Hid (BufAt W rf af lf cf F) → cntR rf ≤ 30000000000000 → Hid (BufAt W (someR b) ag lg cg G) → Calls Tryz.prog 67 #[.agg #[.int .i64 rf.x0, .int .i64 rf.y0, .int .i64 rf.x1, .int .i64 rf.y1, .slice af lf cf], .agg #[.int .i64 (someR b).x0, .int .i64 (someR b).y0, .int .i64 (someR b).x1, .int .i64 (someR b).y1, .slice ag lg cg], .agg #[.int .i64 b.x0, .int .i64 b.y0, .int .i64 b.x1, .int .i64 b.y1]] W (RetBuf W (someR b) (cutF (someR b) (overF F G)))) :=
    fun W rf af lf cf ag lg cg F G h1 h2 h3 => ref10_Over b rf (someR b) af lf cf ag lg cg F G W h1 h2 h3 hs hb hs
  obtain ⟨g, hg⟩ : ∃ g, g = someR b := ⟨_, rfl⟩
  rw [← hg] at HN HO hs ⊢
  have m1 := hl.out.le
  have m1' := hl.out.most
  clear hg hb
  go_enter Tryz.func33, Tryz.ntmps33
  go_wp2_with (first
    | (go_at_call 61
       refine (HN.out _).mono ?_
       rintro e w1 ⟨a, len, cap, rfl, hg1, hb1⟩
       have C0 : Hid (Blk w1 w.heap.size 27 #[.int .i64 b.x0, .int .i64 b.y0, .int .i64 b.x1, .int .i64 b.y1]) := by
         refine Blk.grows ?_ hg1
         exact (by unfold Blk; repeat (first | exact blk_at _ _ _ (by first | omega | (simp; done) | (simp; omega)) | refine (blk_past _ _ _ (by first | omega | (simp; done) | (simp; omega))).trans ?_ | refine (heap_grow _ _ _ (by first | omega | (simp; done) | (simp; omega))).trans ?_ | refine (blk_drew _ _).trans ?_))
       have C2 : Hid (Blk w1 (w.heap.size + 1) 32 #[.int .i64 0, .int .i64 0, .int .i64 0, .int .i64 0, .slice none 0 0]) := by
         refine Blk.grows ?_ hg1
         exact (by unfold Blk; repeat (first | exact blk_at _ _ _ (by first | omega | (simp; done) | (simp; omega)) | refine (blk_past _ _ _ (by first | omega | (simp; done) | (simp; omega))).trans ?_ | refine (heap_grow _ _ _ (by first | omega | (simp; done) | (simp; omega))).trans ?_ | refine (blk_drew _ _).trans ?_))
       have GR : Hid (Grows w w1) := by
         refine Grows.trans ?_ hg1
         exact (by repeat (first | exact Grows.refl _ | apply Grows.grow | apply Grows.alloc | apply Grows.drew))
       have hsz : w.heap.size + 2 ≤ w1.heap.size := by have := hg1.below.size; simp at this; omega
       have HA : Hid (∀ k, blkOf a = some k → w.heap.size + 2 ≤ k ∧ k ≠ w1.heap.size) := fun k hk => by
         cases a with
         | none => cases hk
         | some x =>
           have h1 := hb1.out.2.2 x rfl
           have h2 := (hb1.out.2.1 x rfl).1
           simp at hk h1
           omega
       have BU := Lib.hid hb1.out.1
       have OP := Lib.hid hb1.out.2.1
       clear hg1 hb1))
  go_loopw [6] (fun z wr => ∃ (k : Nat) (a : Option Addr) (len cap : Nat), k ≤ ll ∧ z = .int .i64 k ∧ Hid (Blk wr w.heap.size 27 #[.int .i64 b.x0, .int .i64 b.y0, .int .i64 b.x1, .int .i64 b.y1] ∧ MgSt w wr (w.heap.size + 1) w1.heap.size g a len cap (mergeF g F k) ∧ ∀ k, blkOf a = some k → w.heap.size + 2 ≤ k ∧ k ≠ w1.heap.size)) (fun z _ => ll - (intOf z).toNat)
  case atStart => exact ⟨0, a, len, cap, by omega, rfl, C0.out.grows (by repeat (first | exact Grows.refl _ | apply Grows.grow | apply Grows.alloc | apply Grows.drew)), ⟨C2.out.grows (by repeat (first | exact Grows.refl _ | apply Grows.grow | apply Grows.alloc | apply Grows.drew)), (by unfold Blk; repeat (first | exact blk_at _ _ _ (by first | omega | (simp; done) | (simp; omega)) | refine (blk_past _ _ _ (by first | omega | (simp; done) | (simp; omega))).trans ?_ | refine (heap_grow _ _ _ (by first | omega | (simp; done) | (simp; omega))).trans ?_ | refine (blk_drew _ _).trans ?_)), GR.out.trans (by repeat (first | exact Grows.refl _ | apply Grows.grow | apply Grows.alloc | apply Grows.drew)), BU.out.grows (by repeat (first | exact Grows.refl _ | apply Grows.grow | apply Grows.alloc | apply Grows.drew)), OP.out.grows (by repeat (first | exact Grows.refl _ | apply Grows.grow | apply Grows.alloc | apply Grows.drew))⟩, HA.out⟩
  case round =>
    clear C0 C2 GR BU OP HN HA
    obtain ⟨k, a', len', cap', hk, rfl, hh⟩ := hrel
    by_cases hlt : k < ll
    · obtain ⟨b', off', rfl, hb', e0, e1, e2, e3, e4⟩ := (hl.out.grows hh.out.2.1.gr).at hlt
      have hbk := hbs.out k hlt
      obtain ⟨rk, hrk⟩ : ∃ z, z = (g5 k).r := ⟨_, rfl⟩
      obtain ⟨ak, hak⟩ : ∃ z, z = (g5 k).a := ⟨_, rfl⟩
      obtain ⟨lk, hlk⟩ : ∃ z, z = (g5 k).len := ⟨_, rfl⟩
      obtain ⟨ck, hck⟩ : ∃ z, z = (g5 k).cap := ⟨_, rfl⟩
      rw [← hrk, ← hak, ← hlk, ← hck] at hbk
      rw [← hrk] at e0 e1 e2 e3
      rw [← hak, ← hlk, ← hck] at e4
      obtain ⟨hbk1, hck1⟩ := hbk
      have BK := Lib.hid (hbk1.grows hh.out.2.1.gr)
      have MEQ : Hid (mergeF g F (k + 1) = cutF g (overF (F k) (mergeF g F k))) := rfl
      obtain ⟨o0, o1, o2, o3, o4, of⟩ := hh.out.2.1.ob.c5
      have lo := hh.out.2.1.ob.lt
      obtain ⟨d0, d1, d2, d3, df⟩ := hh.out.1.c4
      have ld := hh.out.1.lt
      clear hrk hak hlk hck hbk1
      go_wp2
      first | refine region_grow_tail2 6 (by kernel_rfl) (by kernel_rfl) ?_ | refine region_grow_tail 6 (by kernel_rfl) (by kernel_rfl) ?_
      simp only [List.take_succ_cons, List.take_zero, List.drop_succ_cons, List.drop_zero]
      repeat (go_big_quiet_step (fail))
      refine wpQuiet_nil ?_
      rintro _ ⟨gc, rfl⟩
      go_wp2_with (go_at_call 67
                   with_reducible refine Calls.mono (HO.out _ rk ak lk ck a' len' cap' (F k) (mergeF g F k) ?_ hck1 ?_) ?_
                   · exact Lib.hid (BK.out.grows (by repeat (first | exact Grows.refl _ | apply Grows.grow | apply Grows.alloc | apply Grows.drew)))
                   · exact Lib.hid (hh.out.2.1.buf.grows (by repeat (first | exact Grows.refl _ | apply Grows.grow | apply Grows.alloc | apply Grows.drew)))
                   rintro e w7 ⟨ax, lx, px, rfl, hg7, HX⟩
                   have hg8 : Hid (Grows wr w7) := by refine Grows.trans ?_ hg7; exact (by repeat (first | exact Grows.refl _ | apply Grows.grow | apply Grows.alloc | apply Grows.drew))
                   have R7 := Lib.hid (hh.out.1.grows hg8.out)
                   have S7 := Lib.hid (hh.out.2.1.rb.grows hg8.out)
                   have O7 := Lib.hid (hh.out.2.1.ob.grows hg8.out)
                   have GR7 := Lib.hid (hh.out.2.1.gr.trans hg8.out)
                   obtain ⟨v0, v1, v2, v3, v4, vf⟩ := O7.out.c5
                   have lv := O7.out.lt
                   have HX7 : Hid (∀ k, blkOf ax = some k → w.heap.size + 2 ≤ k ∧ k ≠ w1.heap.size) := fun k hk => by
                     obtain ⟨x, hx, hx2⟩ := blkOf_some_iff hk
                     have h1 := HX.out.2.2 x hx
                     simp at h1
                     omega
                   clear hg7 hg8 hh d0 d1 d2 d3 df ld o0 o1 o2 o3 o4 of lo BK)
      have K := store5_grown w7 w1.heap.size (.int .i64 g.x0) (.int .i64 g.y0) (.int .i64 g.x1) (.int .i64 g.y1) (.slice ax lx px)
      obtain ⟨D1, D2⟩ := ret_cell HX.out.1 HX.out.2.1 GR7.out (n := w1.heap.size) (by omega) (fun k hk => by have := HX7.out k hk; omega) (.int .i64 g.x0) (.int .i64 g.y0) (.int .i64 g.x1) (.int .i64 g.y1) (.slice ax lx px)
      go_roundw
      case rel =>
        refine ⟨k + 1, ax, lx, px, by omega, by go_num, R7.out.grown K (by simp; omega), ⟨S7.out.grown K (by simp; omega), O7.out.set5 _ _ _ _ _, D1, ?_, D2.out.2.1⟩, HX7.out⟩
        rw [MEQ.out]
        exact D2.out.1
      case measure => simp [intOf]; omega
    · obtain rfl : ll = k := by omega
      obtain ⟨q0, q1, q2, q3, q4, qf⟩ := hh.out.2.1.rb.c5
      have lq := hh.out.2.1.rb.lt
      obtain ⟨o0, o1, o2, o3, o4, of⟩ := hh.out.2.1.ob.c5
      have lo := hh.out.2.1.ob.lt
      go_wp2
      obtain ⟨D1, D2⟩ := ret_cell hh.out.2.1.buf hh.out.2.1.open_ hh.out.2.1.gr (n := w.heap.size + 1) (by omega) (fun k hk => by have := hh.out.2.2 k hk; omega) (.int .i64 g.x0) (.int .i64 g.y0) (.int .i64 g.x1) (.int .i64 g.y1) (.slice a' len' cap')
      refine bodyPost_ret (results_cell_row rfl _ _ _ 32 #[.int .i64 g.x0, .int .i64 g.y0, .int .i64 g.x1, .int .i64 g.y1, .slice a' len' cap'] (0, 0) _ rfl (hh.out.2.1.rb.set5 _ _ _ _ _) Tryz.underlying32 rfl buf_info) rfl ⟨_, _, _, rfl, D1, D2⟩
end Go.Proofs.YtklcmlbkhjcaiaaGreatDoor

/- The walks of the reference's Join, Meet, Move, Within (layer 3), of Box and all (layer 13). -/


namespace Go.Proofs.YtklcmlbkhjcaiaaGreatDoor
open Go.RowKit
set_option linter.unusedVariables false

theorem someR_of {r : R} (h : emptyR r = false) : someR r = r := by simp [someR, h]
set_option maxRecDepth 100000 in
set_option maxHeartbeats 1600000 in
theorem ref13_Box (a : Option Addr) (len cap : Nat) (f : Nat → Int) (o : Int) (k : Nat) (r : R) (w : World) (h : Hid (IsInts w a len cap f)) (ho : o = k) (h4 : k + 4 ≤ len) (hk : k ≤ 1000) (hr : Hid (boxO f k = r)) :
    Calls Tryz.prog 32 #[.slice a len cap, .int .i64 o] w fun e w' => e = .returned (.agg #[.int .i64 r.x0, .int .i64 r.y0, .int .i64 r.x1, .int .i64 r.y1]) ∧ Grows w w' := by
  have m1 := h.out.le
  have m2 := h.out.most
  obtain ⟨b', off', rfl, hb', e0⟩ := h.out.at (k := k) (by omega)
  obtain ⟨b2, off2, e, -, e1⟩ := h.out.at (k := k + 1) (by omega)
  cases e
  obtain ⟨b2, off2, e, -, e2⟩ := h.out.at (k := k + 2) (by omega)
  cases e
  obtain ⟨b2, off2, e, -, e3⟩ := h.out.at (k := k + 3) (by omega)
  cases e
  obtain ⟨x0, y0, x1, y1⟩ := r
  have q : boxO f k = ⟨x0, y0, x1, y1⟩ := hr.out
  injection q with q0 q1 q2 q3
  rw [q0] at e0
  rw [q1] at e1
  rw [q2] at e2
  rw [q3] at e3
  subst ho
  clear q0 q1 q2 q3 hr h
  go_enter Tryz.func32, Tryz.ntmps32
  go_wp2
  first | refine region_grow_tail2 20 (by kernel_rfl) (by kernel_rfl) ?_ | refine region_grow_tail 20 (by kernel_rfl) (by kernel_rfl) ?_
  simp only [List.take_succ_cons, List.take_zero, List.drop_succ_cons, List.drop_zero]
  repeat (go_big_quiet_step (fail))
  refine wpQuiet_nil ?_
  rintro _ ⟨gr, rfl⟩
  go_wp2
  refine bodyPost_ret (results_cell_row rfl _ _ _ 27 #[.int .i64 (x0), .int .i64 (y0), .int .i64 (x1), .int .i64 (y1)] (0, 0) _ rfl ?_ Tryz.underlying27 rfl rect_info) rfl ⟨rfl, (by repeat (first | exact Grows.refl _ | apply Grows.grow | apply Grows.alloc | apply Grows.drew))⟩
  exact (by repeat (first | exact blk_at _ _ _ (by first | omega | (simp; done) | (simp; omega)) | refine (blk_past _ _ _ (by first | omega | (simp; done) | (simp; omega))).trans ?_ | refine (heap_grow _ _ _ (by first | omega | (simp; done) | (simp; omega))).trans ?_ | refine (blk_drew _ _).trans ?_))
end Go.Proofs.YtklcmlbkhjcaiaaGreatDoor
