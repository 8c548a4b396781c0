/- The walk of the reference of layer 8: along rows, along columns. -/
import Derived.Test.YtklcmlbkhjcaiaaGreatDoorBlurR
import Derived.Test.YtklcmlbkhjcaiaaGreatDoorK14
import Derived.Test.YtklcmlbkhjcaiaaGreatDoorK5




namespace Go.Proofs.YtklcmlbkhjcaiaaGreatDoor
open Go.RowKit
set_option linter.unusedVariables false

theorem ownsRow_grown {w w' : World} {base : Nat} {e : TypeId} {size n : Nat} {a : Option Addr} {c : Nat} {xs : List Value} {row : Option Nat} (h : w.ownsRow base e size (.slice a n c) n xs) (g : w.grownBy w' row) (hne : ∀ k, blkOf a = some k → some k ≠ row) : w'.ownsRow base e size (.slice a n c) n xs := by
  refine ⟨h.1, ?_⟩
  rcases h.2 with h2 | ⟨b, c', cur, hv, hb, hg, h3⟩
  · exact .inl h2
  · refine .inr ⟨b, c', cur, hv, hb, (g.block b (Array.getElem?_eq_some_iff.1 hg).1 (hne b ?_)).trans hg, h3⟩
    injection hv with hv
    subst hv
    rfl
/-- Another block of the call's own is written. -/
theorem AppSt.beside {w wr w' : World} {o n : Nat} {r : R} {a : Option Addr} {k cap : Nat} {f : Nat → P4} (h : AppSt w wr o r a k cap f) (g : wr.grownBy w' (some n)) (hn : w.heap.size ≤ n) (ha : ∀ j, blkOf a = some j → j ≠ n) : AppSt w w' o r a k cap f :=
  ⟨h.lt, grownBy_then h.by_ g (fun j hj => .inl (by injection hj with hj; omega)), h.ob.grown g (fun e => by have := h.lt; injection e with e; omega), ownsRow_grown h.own g (fun j hj e => ha j hj (by injection e))⟩

/-- What holds while the values around a point are summed: the world before, and the sums' block. -/
structure SumSt (w wr : World) (n : Nat) (S : P4) : Prop where
  by_ : w.grownBy wr (some n)
  sb : Blk wr n 94 #[.int .i64 S.r, .int .i64 S.g, .int .i64 S.b, .int .i64 S.a]

set_option maxRecDepth 100000 in
set_option maxHeartbeats 6400000 in
theorem ref08_AlongH (b rf : R) (af : Option Addr) (lf cf : Nat) (F : Img) (r : Int) (w : World) (hf : Hid (BufAt w rf af lf cf F)) (hsf : cntR rf ≤ 30000000000000) (hb : rightR b = true) (hs : cntR (someR b) ≤ 30000000000000) (hr0 : 0 ≤ r) (hr1 : r ≤ 255) :
    Calls Tryz.prog 62 #[.agg #[.int .i64 rf.x0, .int .i64 rf.y0, .int .i64 rf.x1, .int .i64 rf.y1, .slice af lf cf], .agg #[.int .i64 b.x0, .int .i64 b.y0, .int .i64 b.x1, .int .i64 b.y1], .int .i64 r, .int .i64 1, .int .i64 0] w (RetBuf w (someR b) (cutF (someR b) (blurH F r))) := by
  have hg : GoodR (someR b) := good_some hb
  have FOK : Hid (∀ u v, okP (F u v)) := hf.out.fits.ok
  cases he : emptyR b
  · have e : someR b = b := by simp [someR, he]
    rw [e] at hg hs ⊢
    have hbd := hg.bd
    have hle := hg.le
    have HG := Lib.hid hg
    have HF : Hid (Fits b (cutF b (blurH F r))) := Fits.cut (s := b) (fun x y _ => blurH_ok FOK.out hr0 x y)
    have HFF : Hid (∀ u v, hasR b u v = true → cutF b (blurH F r) u v = blurH F r u v) := fun u v k => cutF_in k
    obtain ⟨F', hF'⟩ : ∃ F', F' = cutF b (blurH F r) := ⟨_, rfl⟩
    rw [← hF'] at HF HFF ⊢
    clear hg hF' e hb
    go_enter Tryz.func62, Tryz.ntmps62
    go_wp2_with ((first | (go_at_call 63; refine (ref03_emptyR _ _).mono ?_; rintro e w' ⟨rfl, hgw⟩; first | (obtain ⟨gw, rfl⟩ := grows_of_grow hgw) | (obtain ⟨gw, rfl⟩ := hgw))))
    refine wp_name ?_
    intro W0 hW0
    have B0 : Hid (Blk W0 w.heap.size 32 #[.int .i64 rf.x0, .int .i64 rf.y0, .int .i64 rf.x1, .int .i64 rf.y1, .slice af lf cf]) := by rw [hW0]; exact (by unfold Blk; repeat (first | exact blk_at _ _ _ (by first | omega | (simp; done) | (simp; omega)) | refine (blk_past _ _ _ (by first | omega | (simp; done) | (simp; omega))).trans ?_ | refine (heap_grow _ _ _ (by first | omega | (simp; done) | (simp; omega))).trans ?_ | refine (blk_drew _ _).trans ?_))
    have B1 : Hid (Blk W0 (w.heap.size + 1) 27 #[.int .i64 b.x0, .int .i64 b.y0, .int .i64 b.x1, .int .i64 b.y1]) := by rw [hW0]; exact (by unfold Blk; repeat (first | exact blk_at _ _ _ (by first | omega | (simp; done) | (simp; omega)) | refine (blk_past _ _ _ (by first | omega | (simp; done) | (simp; omega))).trans ?_ | refine (heap_grow _ _ _ (by first | omega | (simp; done) | (simp; omega))).trans ?_ | refine (blk_drew _ _).trans ?_))
    have B2 : Hid (Blk W0 (w.heap.size + 1 + 1) 32 #[.int .i64 0, .int .i64 0, .int .i64 0, .int .i64 0, .slice none 0 0]) := by rw [hW0]; exact (by unfold Blk; repeat (first | exact blk_at _ _ _ (by first | omega | (simp; done) | (simp; omega)) | refine (blk_past _ _ _ (by first | omega | (simp; done) | (simp; omega))).trans ?_ | refine (heap_grow _ _ _ (by first | omega | (simp; done) | (simp; omega))).trans ?_ | refine (blk_drew _ _).trans ?_))
    have B4 : Blk W0 (w.heap.size + 1 + 1 + 1) 32 #[.int .i64 b.x0, .int .i64 b.y0, .int .i64 b.x1, .int .i64 b.y1, .slice none 0 0] := by rw [hW0]; exact (by unfold Blk; repeat (first | exact blk_at _ _ _ (by first | omega | (simp; done) | (simp; omega)) | refine (blk_past _ _ _ (by first | omega | (simp; done) | (simp; omega))).trans ?_ | refine (heap_grow _ _ _ (by first | omega | (simp; done) | (simp; omega))).trans ?_ | refine (blk_drew _ _).trans ?_))
    have GW : Hid (Grows w W0) := by rw [hW0]; exact (by repeat (first | exact Grows.refl _ | apply Grows.grow | apply Grows.alloc | apply Grows.drew))
    have hsz' : w.heap.size + 1 + 1 + 1 < W0.heap.size := B4.lt
    have HS : Hid (BufAt W0 rf af lf cf F) := hf.out.grows GW.out
    have ST : Hid (AppSt W0 W0 (w.heap.size + 1 + 1 + 1) b none 0 0 (fun i => F' (ptX b i) (ptY b i))) := AppSt.start _ B4
    clear hW0 B4
    go_loopw [12] (fun y wr => ∃ (v : Int) (k : Nat) (a' : Option Addr) (cap' : Nat), b.y0 ≤ v ∧ v ≤ b.y1 ∧ y = .int .i64 v ∧ Hid ((k : Int) = idxR b b.x0 v ∧ AppSt W0 wr (w.heap.size + 1 + 1 + 1) b a' k cap' (fun i => F' (ptX b i) (ptY b i)))) (fun y _ => (b.y1 - intOf y).toNat)
    case atStart => exact ⟨_, 0, none, 0, by omega, by omega, rfl, by rw [idx_first]; rfl, ST.out⟩
    case round =>
      clear ST
      obtain ⟨v, k, a', cap', hv1, hv2, rfl, hh⟩ := hrel
      have b1 := hh.out.2.blk B1.out (by omega)
      obtain ⟨d0, d1, d2, d3, df⟩ := b1.c4
      have l1 := b1.lt
      by_cases hlt : v < b.y1
      · go_wp2
        clear d0 d1 d2 d3 df l1 b1
        obtain ⟨wo, hwo⟩ : ∃ wo : World, wo = wr := ⟨_, rfl⟩
        clear hwo
        go_loopw [13] (fun x wr => ∃ (u : Int) (k : Nat) (a' : Option Addr) (cap' : Nat), b.x0 ≤ u ∧ u ≤ b.x1 ∧ x = .int .i64 u ∧ Hid ((k : Int) = idxR b u v ∧ AppSt W0 wr (w.heap.size + 1 + 1 + 1) b a' k cap' (fun i => F' (ptX b i) (ptY b i)))) (fun x _ => (b.x1 - intOf x).toNat)
        case atStart => exact ⟨_, k, a', cap', by omega, by omega, rfl, hh.out⟩
        case round =>
          clear hh
          obtain ⟨u, k, a', cap', hu1, hu2, rfl, hh⟩ := hrel
          have b1 := hh.out.2.blk B1.out (by omega)
          obtain ⟨d0, d1, d2, d3, df⟩ := b1.c4
          have l1 := b1.lt
          by_cases hltx : u < b.x1
          · have hin : hasR b u v = true := (hasR_iff _ _ _).2 (by omega)
            have hcnt := HG.out.idx hin
            have hk : k ≤ 30000000000000 := by have := hh.out.1; omega
            have hfk : Hid ((fun i => F' (ptX b i) (ptY b i)) k = blurH F r u v) := by
              show F' (ptX b k) (ptY b k) = _
              rw [ptX_of hin hh.out.1, ptY_of hin hh.out.1]
              exact HFF.out u v hin
            have hki := hh.out.1
            go_wp2
            refine wp_name ?_
            intro W1 hW1
            have SB : Hid (Blk W1 wr.heap.size 94 #[.int .i64 0, .int .i64 0, .int .i64 0, .int .i64 0]) := by rw [hW1]; exact (by unfold Blk; repeat (first | exact blk_at _ _ _ (by first | omega | (simp; done) | (simp; omega)) | refine (blk_past _ _ _ (by first | omega | (simp; done) | (simp; omega))).trans ?_ | refine (heap_grow _ _ _ (by first | omega | (simp; done) | (simp; omega))).trans ?_ | refine (blk_drew _ _).trans ?_))
            have G1 : Hid (Grows wr W1) := by rw [hW1]; exact (by repeat (first | exact Grows.refl _ | apply Grows.grow | apply Grows.alloc | apply Grows.drew))
            have AS : Hid (AppSt W0 W1 (w.heap.size + 1 + 1 + 1) b a' k cap' (fun i => F' (ptX b i) (ptY b i))) := hh.out.2.grows G1.out
            have HA : Hid (∀ j, blkOf a' = some j → j < wr.heap.size) := fun j hj => (own_lt hh.out.2.own j hj).2
            have hsz1 : W0.heap.size ≤ wr.heap.size := hh.out.2.by_.size
            obtain ⟨ns, hns⟩ : ∃ ns : Nat, ns = wr.heap.size := ⟨_, rfl⟩
            rw [← hns] at SB HA hsz1
            rw [← hns]
            have HS1 : Hid (BufAt W1 rf af lf cf F) := hf.out.far HS.out AS.out.by_ (by omega)
            have C0 : Hid (Blk W1 w.heap.size 32 #[.int .i64 rf.x0, .int .i64 rf.y0, .int .i64 rf.x1, .int .i64 rf.y1, .slice af lf cf]) := AS.out.blk B0.out (by omega)
            clear hW1 hns G1 hh d0 d1 d2 d3 df l1 b1
            go_loopw [15] (fun z wr => ∃ j : Nat, (j : Int) ≤ 2 * r + 1 ∧ z = .int .i64 (-r + j) ∧ Hid (SumSt W1 wr ns (sumP (fun i => F i v) (u - r) j))) (fun z _ => (r + 1 - intOf z).toNat)
            case atStart => exact ⟨0, by omega, by go_num, World.grownBy.refl _ _, SB.out⟩
            case round =>
              clear SB
              obtain ⟨j, hj, rfl, h3⟩ := hrel
              obtain ⟨t0, t1, t2, t3, tf⟩ := h3.out.sb.c4
              have lt := h3.out.sb.lt
              by_cases hk3 : (j : Int) < 2 * r + 1
              · have c0 : Blk wr w.heap.size 32 #[.int .i64 rf.x0, .int .i64 rf.y0, .int .i64 rf.x1, .int .i64 rf.y1, .slice af lf cf] := C0.out.grown h3.out.by_ (fun e => by injection e with e; omega)
                obtain ⟨s0, s1, s2, s3, s4, sf⟩ := c0.c5
                have ls := c0.lt
                have HSRC : Hid (BufAt wr rf af lf cf F) := hf.out.far HS1.out h3.out.by_ (by omega)
                have hbs := sumP_bdS (fun i => FOK.out i v) (u - r) (n := j) (by omega)
                clear c0
                go_wp2_with ((first | (go_at_call 12; (with_reducible refine (ref05_At _ _ _ _ _ _ _ _ (Lib.hid (BufAt.grows HSRC.out (by repeat (first | exact Grows.refl _ | apply Grows.grow | apply Grows.alloc | apply Grows.drew)))) (by omega)).mono ?_); rintro e w' ⟨rfl, hgw⟩; first | (obtain ⟨gw, rfl⟩ := grows_of_grow hgw) | (obtain ⟨gw, rfl⟩ := hgw))))
                rw [show u + (-r + (j : Int)) = u - r + (j : Int) from by omega]
                obtain ⟨q, hq⟩ : ∃ q, q = F (u - r + (j : Int)) v := ⟨_, rfl⟩
                have HQ : Hid (sumP (fun i => F i v) (u - r) (j + 1) = addP (sumP (fun i => F i v) (u - r) j) q 1) := by rw [hq]; rfl
                obtain ⟨p0, p1, p2, p3⟩ : okP q := by rw [hq]; exact FOK.out _ _
                rw [← hq]
                obtain ⟨S, hS⟩ : ∃ S, S = sumP (fun i => F i v) (u - r) j := ⟨_, rfl⟩
                rw [← hS] at HQ hbs t0 t1 t2 t3 h3
                obtain ⟨S0, S1, S2, S3⟩ := hbs
                clear hq hS HSRC s0 s1 s2 s3 s4 sf ls
                refine wp_loop_rounds 5 ?_
                rw [rounds_succ]
                go_wp2
                first | refine region_grow_tail2 10 (by kernel_rfl) (by kernel_rfl) ?_ | refine region_grow_tail 10 (by kernel_rfl) (by kernel_rfl) ?_
                simp only [List.take_succ_cons, List.take_zero, List.drop_succ_cons, List.drop_zero]
                repeat (go_big_quiet_step (fail))
                refine wpQuiet_nil ?_
                rintro _ ⟨ga, rfl⟩
                go_wp2
                rw [rounds_succ]
                go_wp2
                first | refine region_grow_tail2 10 (by kernel_rfl) (by kernel_rfl) ?_ | refine region_grow_tail 10 (by kernel_rfl) (by kernel_rfl) ?_
                simp only [List.take_succ_cons, List.take_zero, List.drop_succ_cons, List.drop_zero]
                repeat (go_big_quiet_step (fail))
                refine wpQuiet_nil ?_
                rintro _ ⟨gb, rfl⟩
                go_wp2
                rw [rounds_succ]
                go_wp2
                first | refine region_grow_tail2 10 (by kernel_rfl) (by kernel_rfl) ?_ | refine region_grow_tail 10 (by kernel_rfl) (by kernel_rfl) ?_
                simp only [List.take_succ_cons, List.take_zero, List.drop_succ_cons, List.drop_zero]
                repeat (go_big_quiet_step (fail))
                refine wpQuiet_nil ?_
                rintro _ ⟨gc, rfl⟩
                go_wp2
                rw [rounds_succ]
                go_wp2
                first | refine region_grow_tail2 10 (by kernel_rfl) (by kernel_rfl) ?_ | refine region_grow_tail 10 (by kernel_rfl) (by kernel_rfl) ?_
                simp only [List.take_succ_cons, List.take_zero, List.drop_succ_cons, List.drop_zero]
                repeat (go_big_quiet_step (fail))
                refine wpQuiet_nil ?_
                rintro _ ⟨gd, rfl⟩
                go_wp2
                rw [rounds_succ]
                go_wp2
                go_roundw
                case rel =>
                  have e : addP S q 1 = ⟨S.r + q.r, S.g + q.g, S.b + q.b, S.a + q.a⟩ := by simp [addP]
                  have W := grownBy_setCells wr ns 0 [.int .i64 (S.r + q.r), .int .i64 (S.g + q.g), .int .i64 (S.b + q.b), .int .i64 (S.a + q.a)]
                  refine ⟨j + 1, by omega, by go_num, ?_⟩
                  rw [HQ.out, e]
                  exact ⟨grownBy_grows (h3.out.by_.trans W) (by repeat (first | exact Grows.refl _ | apply Grows.grow | apply Grows.alloc | apply Grows.drew)), (h3.out.sb.set4 (.int .i64 (S.r + q.r)) (.int .i64 (S.g + q.g)) (.int .i64 (S.b + q.b)) (.int .i64 (S.a + q.a))).grows (by repeat (first | exact Grows.refl _ | apply Grows.grow | apply Grows.alloc | apply Grows.drew))⟩
                case measure => simp [intOf]; omega
              · obtain rfl : j = winN r := by unfold winN; omega
                have AS3 : Hid (AppSt W0 wr (w.heap.size + 1 + 1 + 1) b a' k cap' (fun i => F' (ptX b i) (ptY b i))) := AS.out.beside h3.out.by_ hsz1 (fun q hq => by have := HA.out q hq; omega)
                have hbs := sumP_bd (fun i => FOK.out i v) (u - r) (winN r)
                rw [winN_eq hr0] at hbs
                obtain ⟨c0, c1, c2, c3⟩ := hbs
                have bo := AS3.out.ob
                obtain ⟨o0, o1, o2, o3, o4, of⟩ := bo.c5
                have lo := bo.lt
                have hbase := AS3.out.by_.size
                clear bo C0 HS1 AS
                go_wp2
                first | refine region_grow_tail2 26 (by kernel_rfl) (by kernel_rfl) ?_ | refine region_grow_tail 26 (by kernel_rfl) (by kernel_rfl) ?_
                simp only [List.take_succ_cons, List.take_zero, List.drop_succ_cons, List.drop_zero]
                repeat (go_big_quiet_step ((first | (go_at_call 97; exact grow_same (ref08_nearest _ _ _ (by omega) (by omega) (by omega) (by omega))))))
                refine wpQuiet_nil ?_
                rintro _ ⟨gr, rfl⟩
                go_wp2_with (go_at_call 65; refine (ref05_With b a' k cap' (fun i => F' (ptX b i) (ptY b i)) (blurH F r u v) W0.heap.size _ (Lib.hid (ownsRow_grows AS3.out.own (by repeat (first | exact Grows.refl _ | apply Grows.grow | apply Grows.alloc | apply Grows.drew)))) hfk hk (by simp; omega)).mono ?_; rintro e w1 ⟨g, c1', rfl, h1, h2, h4⟩; obtain ⟨PB, PST⟩ := AS3.out.push5 (by exact (by repeat (first | exact Grows.refl _ | apply Grows.grow | apply Grows.alloc | apply Grows.drew))) h1 h2; obtain ⟨q0, q1, q2, q3, q4, qf⟩ := PB.c5; have ql := PB.lt; replace PST := Lib.hid PST; clear h1 h2 h4 PB)
                go_roundw
                case rel => exact ⟨u + 1, k + 1, _, _, by omega, by omega, by go_num, by rw [idx_next]; omega, PST.out⟩
                case measure => simp [intOf]; omega
          · obtain rfl : u = b.x1 := by omega
            go_wp2
            go_roundw
            case rel => exact ⟨v + 1, k, a', cap', by omega, by omega, by go_num, by have := hh.out.1; rw [idx_row] at this; exact this, hh.out.2⟩
            case measure => simp [intOf]; omega
      · obtain rfl : v = b.y1 := by omega
        have bo := hh.out.2.ob
        obtain ⟨o0, o1, o2, o3, o4, of⟩ := bo.c5
        have b3 := hh.out.2.blk B2.out (by omega)
        obtain ⟨e0, e1, e2, e3, e4, ef⟩ := b3.c5
        have H3 := Lib.hid b3
        have l3 := b3.lt
        have lo := bo.lt
        clear b3 bo b1
        go_wp2
        obtain ⟨D1, D2⟩ := hh.out.2.done HG.out HF.out hh.out.1 GW.out (n := w.heap.size + 1 + 1) (by omega) (by omega) (by omega) (.int .i64 b.x0) (.int .i64 b.y0) (.int .i64 b.x1) (.int .i64 b.y1) (.slice a' k cap')
        refine bodyPost_ret (results_cell_row rfl _ _ _ 32 #[.int .i64 b.x0, .int .i64 b.y0, .int .i64 b.x1, .int .i64 b.y1, .slice a' k cap'] (0, 0) _ rfl (H3.out.set5 _ _ _ _ _) Tryz.underlying32 rfl buf_info) rfl ⟨_, _, _, rfl, D1, D2⟩
  · have e : someR b = zeroR := by simp [someR, he]
    rw [e]
    clear e hs hb hg
    have e2 : cutF zeroR (blurH F r) = noF := by
      funext u v
      rw [cutF_out (hasR_zero u v)]; rfl
    rw [e2]
    clear e2
    go_enter Tryz.func62, Tryz.ntmps62
    go_wp2_with ((first | (go_at_call 63; refine (ref03_emptyR _ _).mono ?_; rintro e w' ⟨rfl, hgw⟩; first | (obtain ⟨gw, rfl⟩ := grows_of_grow hgw) | (obtain ⟨gw, rfl⟩ := hgw))))
    refine bodyPost_ret (results_cell_row rfl _ _ _ 32 #[.int .i64 0, .int .i64 0, .int .i64 0, .int .i64 0, .slice none 0 0] (0, 0) _ rfl ?_ Tryz.underlying32 rfl buf_info) rfl ⟨_, _, _, rfl, (by repeat (first | exact Grows.refl _ | apply Grows.grow | apply Grows.alloc | apply Grows.drew)), bufAt_zero _, Open.none_ _, fun x hx => by cases hx⟩
    exact (by repeat (first | exact blk_at _ _ _ (by first | omega | (simp; done) | (simp; omega)) | refine (blk_past _ _ _ (by first | omega | (simp; done) | (simp; omega))).trans ?_ | refine (heap_grow _ _ _ (by first | omega | (simp; done) | (simp; omega))).trans ?_ | refine (blk_drew _ _).trans ?_))
end Go.Proofs.YtklcmlbkhjcaiaaGreatDoor
/- The walk of the reference of layer 8: along columns. -/

namespace Go.Proofs.YtklcmlbkhjcaiaaGreatDoor
open Go.RowKit
set_option linter.unusedVariables false

set_option maxRecDepth 100000 in
set_option maxHeartbeats 6400000 in
theorem ref08_AlongV (b rf : R) (af : Option Addr) (lf cf : Nat) (F : Img) (r : Int) (w : World) (hf : Hid (BufAt w rf af lf cf F)) (hsf : cntR rf ≤ 30000000000000) (hb : rightR b = true) (hs : cntR (someR b) ≤ 30000000000000) (hr0 : 0 ≤ r) (hr1 : r ≤ 255) :
    Calls Tryz.prog 62 #[.agg #[.int .i64 rf.x0, .int .i64 rf.y0, .int .i64 rf.x1, .int .i64 rf.y1, .slice af lf cf], .agg #[.int .i64 b.x0, .int .i64 b.y0, .int .i64 b.x1, .int .i64 b.y1], .int .i64 r, .int .i64 0, .int .i64 1] w (RetBuf w (someR b) (cutF (someR b) (blurV F r))) := by
  have hg : GoodR (someR b) := good_some hb
  have FOK : Hid (∀ u v, okP (F u v)) := hf.out.fits.ok
  cases he : emptyR b
  · have e : someR b = b := by simp [someR, he]
    rw [e] at hg hs ⊢
    have hbd := hg.bd
    have hle := hg.le
    have HG := Lib.hid hg
    have HF : Hid (Fits b (cutF b (blurV F r))) := Fits.cut (s := b) (fun x y _ => blurV_ok FOK.out hr0 x y)
    have HFF : Hid (∀ u v, hasR b u v = true → cutF b (blurV F r) u v = blurV F r u v) := fun u v k => cutF_in k
    obtain ⟨F', hF'⟩ : ∃ F', F' = cutF b (blurV F r) := ⟨_, rfl⟩
    rw [← hF'] at HF HFF ⊢
    clear hg hF' e hb
    go_enter Tryz.func62, Tryz.ntmps62
    go_wp2_with ((first | (go_at_call 63; refine (ref03_emptyR _ _).mono ?_; rintro e w' ⟨rfl, hgw⟩; first | (obtain ⟨gw, rfl⟩ := grows_of_grow hgw) | (obtain ⟨gw, rfl⟩ := hgw))))
    refine wp_name ?_
    intro W0 hW0
    have B0 : Hid (Blk W0 w.heap.size 32 #[.int .i64 rf.x0, .int .i64 rf.y0, .int .i64 rf.x1, .int .i64 rf.y1, .slice af lf cf]) := by rw [hW0]; exact (by unfold Blk; repeat (first | exact blk_at _ _ _ (by first | omega | (simp; done) | (simp; omega)) | refine (blk_past _ _ _ (by first | omega | (simp; done) | (simp; omega))).trans ?_ | refine (heap_grow _ _ _ (by first | omega | (simp; done) | (simp; omega))).trans ?_ | refine (blk_drew _ _).trans ?_))
    have B1 : Hid (Blk W0 (w.heap.size + 1) 27 #[.int .i64 b.x0, .int .i64 b.y0, .int .i64 b.x1, .int .i64 b.y1]) := by rw [hW0]; exact (by unfold Blk; repeat (first | exact blk_at _ _ _ (by first | omega | (simp; done) | (simp; omega)) | refine (blk_past _ _ _ (by first | omega | (simp; done) | (simp; omega))).trans ?_ | refine (heap_grow _ _ _ (by first | omega | (simp; done) | (simp; omega))).trans ?_ | refine (blk_drew _ _).trans ?_))
    have B2 : Hid (Blk W0 (w.heap.size + 1 + 1) 32 #[.int .i64 0, .int .i64 0, .int .i64 0, .int .i64 0, .slice none 0 0]) := by rw [hW0]; exact (by unfold Blk; repeat (first | exact blk_at _ _ _ (by first | omega | (simp; done) | (simp; omega)) | refine (blk_past _ _ _ (by first | omega | (simp; done) | (simp; omega))).trans ?_ | refine (heap_grow _ _ _ (by first | omega | (simp; done) | (simp; omega))).trans ?_ | refine (blk_drew _ _).trans ?_))
    have B4 : Blk W0 (w.heap.size + 1 + 1 + 1) 32 #[.int .i64 b.x0, .int .i64 b.y0, .int .i64 b.x1, .int .i64 b.y1, .slice none 0 0] := by rw [hW0]; exact (by unfold Blk; repeat (first | exact blk_at _ _ _ (by first | omega | (simp; done) | (simp; omega)) | refine (blk_past _ _ _ (by first | omega | (simp; done) | (simp; omega))).trans ?_ | refine (heap_grow _ _ _ (by first | omega | (simp; done) | (simp; omega))).trans ?_ | refine (blk_drew _ _).trans ?_))
    have GW : Hid (Grows w W0) := by rw [hW0]; exact (by repeat (first | exact Grows.refl _ | apply Grows.grow | apply Grows.alloc | apply Grows.drew))
    have hsz' : w.heap.size + 1 + 1 + 1 < W0.heap.size := B4.lt
    have HS : Hid (BufAt W0 rf af lf cf F) := hf.out.grows GW.out
    have ST : Hid (AppSt W0 W0 (w.heap.size + 1 + 1 + 1) b none 0 0 (fun i => F' (ptX b i) (ptY b i))) := AppSt.start _ B4
    clear hW0 B4
    go_loopw [12] (fun y wr => ∃ (v : Int) (k : Nat) (a' : Option Addr) (cap' : Nat), b.y0 ≤ v ∧ v ≤ b.y1 ∧ y = .int .i64 v ∧ Hid ((k : Int) = idxR b b.x0 v ∧ AppSt W0 wr (w.heap.size + 1 + 1 + 1) b a' k cap' (fun i => F' (ptX b i) (ptY b i)))) (fun y _ => (b.y1 - intOf y).toNat)
    case atStart => exact ⟨_, 0, none, 0, by omega, by omega, rfl, by rw [idx_first]; rfl, ST.out⟩
    case round =>
      clear ST
      obtain ⟨v, k, a', cap', hv1, hv2, rfl, hh⟩ := hrel
      have b1 := hh.out.2.blk B1.out (by omega)
      obtain ⟨d0, d1, d2, d3, df⟩ := b1.c4
      have l1 := b1.lt
      by_cases hlt : v < b.y1
      · go_wp2
        clear d0 d1 d2 d3 df l1 b1
        obtain ⟨wo, hwo⟩ : ∃ wo : World, wo = wr := ⟨_, rfl⟩
        clear hwo
        go_loopw [13] (fun x wr => ∃ (u : Int) (k : Nat) (a' : Option Addr) (cap' : Nat), b.x0 ≤ u ∧ u ≤ b.x1 ∧ x = .int .i64 u ∧ Hid ((k : Int) = idxR b u v ∧ AppSt W0 wr (w.heap.size + 1 + 1 + 1) b a' k cap' (fun i => F' (ptX b i) (ptY b i)))) (fun x _ => (b.x1 - intOf x).toNat)
        case atStart => exact ⟨_, k, a', cap', by omega, by omega, rfl, hh.out⟩
        case round =>
          clear hh
          obtain ⟨u, k, a', cap', hu1, hu2, rfl, hh⟩ := hrel
          have b1 := hh.out.2.blk B1.out (by omega)
          obtain ⟨d0, d1, d2, d3, df⟩ := b1.c4
          have l1 := b1.lt
          by_cases hltx : u < b.x1
          · have hin : hasR b u v = true := (hasR_iff _ _ _).2 (by omega)
            have hcnt := HG.out.idx hin
            have hk : k ≤ 30000000000000 := by have := hh.out.1; omega
            have hfk : Hid ((fun i => F' (ptX b i) (ptY b i)) k = blurV F r u v) := by
              show F' (ptX b k) (ptY b k) = _
              rw [ptX_of hin hh.out.1, ptY_of hin hh.out.1]
              exact HFF.out u v hin
            have hki := hh.out.1
            go_wp2
            refine wp_name ?_
            intro W1 hW1
            have SB : Hid (Blk W1 wr.heap.size 94 #[.int .i64 0, .int .i64 0, .int .i64 0, .int .i64 0]) := by rw [hW1]; exact (by unfold Blk; repeat (first | exact blk_at _ _ _ (by first | omega | (simp; done) | (simp; omega)) | refine (blk_past _ _ _ (by first | omega | (simp; done) | (simp; omega))).trans ?_ | refine (heap_grow _ _ _ (by first | omega | (simp; done) | (simp; omega))).trans ?_ | refine (blk_drew _ _).trans ?_))
            have G1 : Hid (Grows wr W1) := by rw [hW1]; exact (by repeat (first | exact Grows.refl _ | apply Grows.grow | apply Grows.alloc | apply Grows.drew))
            have AS : Hid (AppSt W0 W1 (w.heap.size + 1 + 1 + 1) b a' k cap' (fun i => F' (ptX b i) (ptY b i))) := hh.out.2.grows G1.out
            have HA : Hid (∀ j, blkOf a' = some j → j < wr.heap.size) := fun j hj => (own_lt hh.out.2.own j hj).2
            have hsz1 : W0.heap.size ≤ wr.heap.size := hh.out.2.by_.size
            obtain ⟨ns, hns⟩ : ∃ ns : Nat, ns = wr.heap.size := ⟨_, rfl⟩
            rw [← hns] at SB HA hsz1
            rw [← hns]
            have HS1 : Hid (BufAt W1 rf af lf cf F) := hf.out.far HS.out AS.out.by_ (by omega)
            have C0 : Hid (Blk W1 w.heap.size 32 #[.int .i64 rf.x0, .int .i64 rf.y0, .int .i64 rf.x1, .int .i64 rf.y1, .slice af lf cf]) := AS.out.blk B0.out (by omega)
            clear hW1 hns G1 hh d0 d1 d2 d3 df l1 b1
            go_loopw [15] (fun z wr => ∃ j : Nat, (j : Int) ≤ 2 * r + 1 ∧ z = .int .i64 (-r + j) ∧ Hid (SumSt W1 wr ns (sumP (fun i => F u i) (v - r) j))) (fun z _ => (r + 1 - intOf z).toNat)
            case atStart => exact ⟨0, by omega, by go_num, World.grownBy.refl _ _, SB.out⟩
            case round =>
              clear SB
              obtain ⟨j, hj, rfl, h3⟩ := hrel
              obtain ⟨t0, t1, t2, t3, tf⟩ := h3.out.sb.c4
              have lt := h3.out.sb.lt
              by_cases hk3 : (j : Int) < 2 * r + 1
              · have c0 : Blk wr w.heap.size 32 #[.int .i64 rf.x0, .int .i64 rf.y0, .int .i64 rf.x1, .int .i64 rf.y1, .slice af lf cf] := C0.out.grown h3.out.by_ (fun e => by injection e with e; omega)
                obtain ⟨s0, s1, s2, s3, s4, sf⟩ := c0.c5
                have ls := c0.lt
                have HSRC : Hid (BufAt wr rf af lf cf F) := hf.out.far HS1.out h3.out.by_ (by omega)
                have hbs := sumP_bdS (f := fun i => F u i) (fun i => FOK.out u i) (v - r) (n := j) (by omega)
                clear c0
                go_wp2_with ((first | (go_at_call 12; (with_reducible refine (ref05_At _ _ _ _ _ _ _ _ (Lib.hid (BufAt.grows HSRC.out (by repeat (first | exact Grows.refl _ | apply Grows.grow | apply Grows.alloc | apply Grows.drew)))) (by omega)).mono ?_); rintro e w' ⟨rfl, hgw⟩; first | (obtain ⟨gw, rfl⟩ := grows_of_grow hgw) | (obtain ⟨gw, rfl⟩ := hgw))))
                rw [show v + (-r + (j : Int)) = v - r + (j : Int) from by omega]
                obtain ⟨q, hq⟩ : ∃ q, q = F u (v - r + (j : Int)) := ⟨_, rfl⟩
                have HQ : Hid (sumP (fun i => F u i) (v - r) (j + 1) = addP (sumP (fun i => F u i) (v - r) j) q 1) := by rw [hq]; rfl
                obtain ⟨p0, p1, p2, p3⟩ : okP q := by rw [hq]; exact FOK.out _ _
                rw [← hq]
                obtain ⟨S, hS⟩ : ∃ S, S = sumP (fun i => F u i) (v - r) j := ⟨_, rfl⟩
                rw [← hS] at HQ hbs t0 t1 t2 t3 h3
                obtain ⟨S0, S1, S2, S3⟩ := hbs
                clear hq hS HSRC s0 s1 s2 s3 s4 sf ls
                refine wp_loop_rounds 5 ?_
                rw [rounds_succ]
                go_wp2
                first | refine region_grow_tail2 10 (by kernel_rfl) (by kernel_rfl) ?_ | refine region_grow_tail 10 (by kernel_rfl) (by kernel_rfl) ?_
                simp only [List.take_succ_cons, List.take_zero, List.drop_succ_cons, List.drop_zero]
                repeat (go_big_quiet_step (fail))
                refine wpQuiet_nil ?_
                rintro _ ⟨ga, rfl⟩
                go_wp2
                rw [rounds_succ]
                go_wp2
                first | refine region_grow_tail2 10 (by kernel_rfl) (by kernel_rfl) ?_ | refine region_grow_tail 10 (by kernel_rfl) (by kernel_rfl) ?_
                simp only [List.take_succ_cons, List.take_zero, List.drop_succ_cons, List.drop_zero]
                repeat (go_big_quiet_step (fail))
                refine wpQuiet_nil ?_
                rintro _ ⟨gb, rfl⟩
                go_wp2
                rw [rounds_succ]
                go_wp2
                first | refine region_grow_tail2 10 (by kernel_rfl) (by kernel_rfl) ?_ | refine region_grow_tail 10 (by kernel_rfl) (by kernel_rfl) ?_
                simp only [List.take_succ_cons, List.take_zero, List.drop_succ_cons, List.drop_zero]
                repeat (go_big_quiet_step (fail))
                refine wpQuiet_nil ?_
                rintro _ ⟨gc, rfl⟩
                go_wp2
                rw [rounds_succ]
                go_wp2
                first | refine region_grow_tail2 10 (by kernel_rfl) (by kernel_rfl) ?_ | refine region_grow_tail 10 (by kernel_rfl) (by kernel_rfl) ?_
                simp only [List.take_succ_cons, List.take_zero, List.drop_succ_cons, List.drop_zero]
                repeat (go_big_quiet_step (fail))
                refine wpQuiet_nil ?_
                rintro _ ⟨gd, rfl⟩
                go_wp2
                rw [rounds_succ]
                go_wp2
                go_roundw
                case rel =>
                  have e : addP S q 1 = ⟨S.r + q.r, S.g + q.g, S.b + q.b, S.a + q.a⟩ := by simp [addP]
                  have W := grownBy_setCells wr ns 0 [.int .i64 (S.r + q.r), .int .i64 (S.g + q.g), .int .i64 (S.b + q.b), .int .i64 (S.a + q.a)]
                  refine ⟨j + 1, by omega, by go_num, ?_⟩
                  rw [HQ.out, e]
                  exact ⟨grownBy_grows (h3.out.by_.trans W) (by repeat (first | exact Grows.refl _ | apply Grows.grow | apply Grows.alloc | apply Grows.drew)), (h3.out.sb.set4 (.int .i64 (S.r + q.r)) (.int .i64 (S.g + q.g)) (.int .i64 (S.b + q.b)) (.int .i64 (S.a + q.a))).grows (by repeat (first | exact Grows.refl _ | apply Grows.grow | apply Grows.alloc | apply Grows.drew))⟩
                case measure => simp [intOf]; omega
              · obtain rfl : j = winN r := by unfold winN; omega
                have AS3 : Hid (AppSt W0 wr (w.heap.size + 1 + 1 + 1) b a' k cap' (fun i => F' (ptX b i) (ptY b i))) := AS.out.beside h3.out.by_ hsz1 (fun q hq => by have := HA.out q hq; omega)
                have hbs := sumP_bd (f := fun i => F u i) (fun i => FOK.out u i) (v - r) (winN r)
                rw [winN_eq hr0] at hbs
                obtain ⟨c0, c1, c2, c3⟩ := hbs
                have bo := AS3.out.ob
                obtain ⟨o0, o1, o2, o3, o4, of⟩ := bo.c5
                have lo := bo.lt
                have hbase := AS3.out.by_.size
                clear bo C0 HS1 AS
                go_wp2
                first | refine region_grow_tail2 26 (by kernel_rfl) (by kernel_rfl) ?_ | refine region_grow_tail 26 (by kernel_rfl) (by kernel_rfl) ?_
                simp only [List.take_succ_cons, List.take_zero, List.drop_succ_cons, List.drop_zero]
                repeat (go_big_quiet_step ((first | (go_at_call 97; exact grow_same (ref08_nearest _ _ _ (by omega) (by omega) (by omega) (by omega))))))
                refine wpQuiet_nil ?_
                rintro _ ⟨gr, rfl⟩
                go_wp2_with (go_at_call 65; refine (ref05_With b a' k cap' (fun i => F' (ptX b i) (ptY b i)) (blurV F r u v) W0.heap.size _ (Lib.hid (ownsRow_grows AS3.out.own (by repeat (first | exact Grows.refl _ | apply Grows.grow | apply Grows.alloc | apply Grows.drew)))) hfk hk (by simp; omega)).mono ?_; rintro e w1 ⟨g, c1', rfl, h1, h2, h4⟩; obtain ⟨PB, PST⟩ := AS3.out.push5 (by exact (by repeat (first | exact Grows.refl _ | apply Grows.grow | apply Grows.alloc | apply Grows.drew))) h1 h2; obtain ⟨q0, q1, q2, q3, q4, qf⟩ := PB.c5; have ql := PB.lt; replace PST := Lib.hid PST; clear h1 h2 h4 PB)
                go_roundw
                case rel => exact ⟨u + 1, k + 1, _, _, by omega, by omega, by go_num, by rw [idx_next]; omega, PST.out⟩
                case measure => simp [intOf]; omega
          · obtain rfl : u = b.x1 := by omega
            go_wp2
            go_roundw
            case rel => exact ⟨v + 1, k, a', cap', by omega, by omega, by go_num, by have := hh.out.1; rw [idx_row] at this; exact this, hh.out.2⟩
            case measure => simp [intOf]; omega
      · obtain rfl : v = b.y1 := by omega
        have bo := hh.out.2.ob
        obtain ⟨o0, o1, o2, o3, o4, of⟩ := bo.c5
        have b3 := hh.out.2.blk B2.out (by omega)
        obtain ⟨e0, e1, e2, e3, e4, ef⟩ := b3.c5
        have H3 := Lib.hid b3
        have l3 := b3.lt
        have lo := bo.lt
        clear b3 bo b1
        go_wp2
        obtain ⟨D1, D2⟩ := hh.out.2.done HG.out HF.out hh.out.1 GW.out (n := w.heap.size + 1 + 1) (by omega) (by omega) (by omega) (.int .i64 b.x0) (.int .i64 b.y0) (.int .i64 b.x1) (.int .i64 b.y1) (.slice a' k cap')
        refine bodyPost_ret (results_cell_row rfl _ _ _ 32 #[.int .i64 b.x0, .int .i64 b.y0, .int .i64 b.x1, .int .i64 b.y1, .slice a' k cap'] (0, 0) _ rfl (H3.out.set5 _ _ _ _ _) Tryz.underlying32 rfl buf_info) rfl ⟨_, _, _, rfl, D1, D2⟩
  · have e : someR b = zeroR := by simp [someR, he]
    rw [e]
    clear e hs hb hg
    have e2 : cutF zeroR (blurV F r) = noF := by
      funext u v
      rw [cutF_out (hasR_zero u v)]; rfl
    rw [e2]
    clear e2
    go_enter Tryz.func62, Tryz.ntmps62
    go_wp2_with ((first | (go_at_call 63; refine (ref03_emptyR _ _).mono ?_; rintro e w' ⟨rfl, hgw⟩; first | (obtain ⟨gw, rfl⟩ := grows_of_grow hgw) | (obtain ⟨gw, rfl⟩ := hgw))))
    refine bodyPost_ret (results_cell_row rfl _ _ _ 32 #[.int .i64 0, .int .i64 0, .int .i64 0, .int .i64 0, .slice none 0 0] (0, 0) _ rfl ?_ Tryz.underlying32 rfl buf_info) rfl ⟨_, _, _, rfl, (by repeat (first | exact Grows.refl _ | apply Grows.grow | apply Grows.alloc | apply Grows.drew)), bufAt_zero _, Open.none_ _, fun x hx => by cases hx⟩
    exact (by repeat (first | exact blk_at _ _ _ (by first | omega | (simp; done) | (simp; omega)) | refine (blk_past _ _ _ (by first | omega | (simp; done) | (simp; omega))).trans ?_ | refine (heap_grow _ _ _ (by first | omega | (simp; done) | (simp; omega))).trans ?_ | refine (blk_drew _ _).trans ?_))
end Go.Proofs.YtklcmlbkhjcaiaaGreatDoor
