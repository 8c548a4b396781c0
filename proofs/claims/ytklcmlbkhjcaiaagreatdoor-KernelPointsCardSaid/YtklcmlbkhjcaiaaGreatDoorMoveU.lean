/- The walk of layer 10's Shadow by the reference. -/
import Derived.Test.YtklcmlbkhjcaiaaGreatDoorMoveS


namespace Go.Proofs.YtklcmlbkhjcaiaaGreatDoor
open Go.RowKit
set_option linter.unusedVariables false

theorem there_some {b : R} (he : emptyR b = false) (dx dy : Int) : someR (thereR b dx dy) = thereR b dx dy := by
  have k := (emptyR_not b).1 he
  unfold someR
  rw [if_neg]
  rw [Bool.not_eq_true, emptyR_not]
  simp only [thereR]
  omega
theorem there_cnt (b : R) (dx dy : Int) : cntR (thereR b dx dy) = cntR b := by
  unfold cntR
  simp only [thereR]
  congr 2 <;> omega
theorem there_ptX (b : R) (dx dy : Int) (i : Nat) : ptX (thereR b dx dy) i = ptX b i - dx := by
  unfold ptX
  simp only [thereR]
  rw [show b.x1 - dx - (b.x0 - dx) = b.x1 - b.x0 from by omega]
  omega
theorem there_ptY (b : R) (dx dy : Int) (i : Nat) : ptY (thereR b dx dy) i = ptY b i - dy := by
  unfold ptY
  simp only [thereR]
  rw [show b.x1 - dx - (b.x0 - dx) = b.x1 - b.x0 from by omega]
  omega
/-- Laid below, pixel by pixel. -/
def belowF (S : Img) (dx dy : Int) (p : P4) : Img := fun x y => scaleP p (S (x - dx) (y - dy)).a
theorem below_over {b : R} (S F : Img) (dx dy : Int) (p : P4) : cutF b (overF F (cutF b (belowF S dx dy p))) = cutF b (shadeP S F dx dy p) := by
  funext x y
  cases h : hasR b x y
  · rw [cutF_out h, cutF_out h]
  · rw [cutF_in h, cutF_in h]
    unfold overF shadeP
    rw [cutF_in h]
    rfl

set_option maxRecDepth 100000 in
set_option maxHeartbeats 12800000 in
theorem ref10_Shadow (b rf : R) (af : Option Addr) (lf cf : Nat) (F : Img) (dx dy rx ry : Int) (p : P4) (w : World) (hf : Hid (BufAt w rf af lf cf F)) (hsf : cntR rf ≤ 30000000000000) (hb : rightR b = true) (hs : cntR (someR b) ≤ 30000000000000) (hp : okP p)
    (hdx : -16777216 ≤ dx ∧ dx ≤ 16777216) (hdy : -16777216 ≤ dy ∧ dy ≤ 16777216) (hrx : 0 ≤ rx ∧ rx ≤ 255) (hry : 0 ≤ ry ∧ ry ≤ 255)
    (hth : rightR (thereR (someR b) dx dy) = true) (ht1 : cntR (growR (thereR (someR b) dx dy) 0 ry 0 ry) ≤ 30000000000000) (ht2 : cntR (someR (thereR (someR b) dx dy)) ≤ 30000000000000) :
    Calls Tryz.prog 35 #[.agg #[.int .i64 rf.x0, .int .i64 rf.y0, .int .i64 rf.x1, .int .i64 rf.y1, .slice af lf cf], .agg #[.int .i64 b.x0, .int .i64 b.y0, .int .i64 b.x1, .int .i64 b.y1], .int .i64 dx, .int .i64 dy, .int .i64 rx, .int .i64 ry, .agg #[.int .u8 p.r, .int .u8 p.g, .int .u8 p.b, .int .u8 p.a]] w (RetBuf w (someR b) (shadowF b dx dy rx ry p F)) := by
  unfold shadowF
  obtain ⟨hdx0, hdx1⟩ := hdx
  obtain ⟨hdy0, hdy1⟩ := hdy
  cases he : emptyR b
  · have e : someR b = b := by simp [someR, he]
    rw [e] at hs hth ht1 ht2 ⊢
    have HG : Hid (GoodR b) := by have := good_some hb; rwa [e] at this
    have hgb := HG.out.bd
    have hgl := HG.out.le
    have HSO : Hid (∀ W, Grows w W → Calls Tryz.prog 28 #[.agg #[.int .i64 rf.x0, .int .i64 rf.y0, .int .i64 rf.x1, .int .i64 rf.y1, .slice af lf cf], .agg #[.int .i64 (b.x0 - dx), .int .i64 (b.y0 - dy), .int .i64 (b.x1 - dx), .int .i64 (b.y1 - dy)], .int .i64 rx, .int .i64 ry] W (RetBuf W (someR (thereR b dx dy)) (boxF (thereR b dx dy) rx ry F))) := fun W g =>
      ref08_Box (thereR b dx dy) rf af lf cf F rx ry W (hf.out.grows g) (by omega) hth (by omega) (by omega) hrx.1 hrx.2 hry.1 hry.2
    rw [there_some he] at HSO ht2
    obtain ⟨S, hS⟩ : ∃ S, S = boxF (thereR b dx dy) rx ry F := ⟨_, rfl⟩
    rw [← hS] at HSO ⊢
    have HPT : Hid (∀ i : Nat, ptX (thereR b dx dy) i = ptX b i - dx ∧ ptY (thereR b dx dy) i = ptY b i - dy) := fun i => ⟨there_ptX b dx dy i, there_ptY b dx dy i⟩
    have HCN : Hid (cntR (thereR b dx dy) = cntR b) := there_cnt b dx dy
    have HBO : Hid (cutF b (overF F (cutF b (belowF S dx dy p))) = cutF b (shadeP S F dx dy p)) := below_over S F dx dy p
    obtain ⟨h, hh⟩ : ∃ g, g = thereR b dx dy := ⟨_, rfl⟩
    rw [← hh] at HSO HPT HCN ht2
    have HO : Hid (∀ W al ll pl, Hid (BufAt W rf af lf cf F) → Hid (BufAt W b al ll pl (cutF b (belowF S dx dy p))) → Calls Tryz.prog 67 #[.agg #[.int .i64 rf.x0, .int .i64 rf.y0, .int .i64 rf.x1, .int .i64 rf.y1, .slice af lf cf], .agg #[.int .i64 b.x0, .int .i64 b.y0, .int .i64 b.x1, .int .i64 b.y1, .slice al ll pl], .agg #[.int .i64 b.x0, .int .i64 b.y0, .int .i64 b.x1, .int .i64 b.y1]] W (RetBuf W b (cutF b (shadeP S F dx dy p)))) := fun W al ll pl h1 h2 => by
      have := ref10_Over b rf b af lf cf al ll pl F _ W h1 hsf h2 hs hb (by rw [e]; exact hs)
      rw [e, HBO.out] at this
      exact this
    clear hS hh hth ht1 e hb
    go_enter Tryz.func35, Tryz.ntmps35
    go_wp2_with (first
      | (first | (go_at_call 63; refine (ref03_emptyR _ _).mono ?_; rintro e w' ⟨rfl, hgw⟩; first | (obtain ⟨gw, rfl⟩ := grows_of_grow hgw) | (obtain ⟨gw, rfl⟩ := hgw)))
      | (go_at_call 28; (with_reducible refine Calls.mono (HSO.out _ ?_) ?_); (exact (by repeat (first | exact Grows.refl _ | apply Grows.grow | apply Grows.alloc | apply Grows.drew))); rintro e w' ⟨aq, lq, pq, rfl, hgw, HS5⟩; (first | (obtain ⟨ga, rfl⟩ := grows_of_grow hgw) | (obtain ⟨ga, rfl⟩ := hgw))))
    have HAS : Hid (∀ x, aq = some x → x.block < w.heap.size + 1 + 1 + 1 + 1 + gw.news.size + 1 + ga.news.size) := fun x hx => by
      have := (HS5.out.2.1 x hx).1
      simp at this
      omega
    refine wp_name ?_
    intro W0 hW0
    have B0 : Hid (Blk W0 w.heap.size 32 #[.int .i64 rf.x0, .int .i64 rf.y0, .int .i64 rf.x1, .int .i64 rf.y1, .slice af lf cf]) := by rw [hW0]; exact (by unfold Blk; repeat (first | exact blk_at _ _ _ (by first | omega | (simp; done) | (simp; omega)) | refine (blk_past _ _ _ (by first | omega | (simp; done) | (simp; omega))).trans ?_ | refine (heap_grow _ _ _ (by first | omega | (simp; done) | (simp; omega))).trans ?_ | refine (blk_drew _ _).trans ?_))
    have B1 : Hid (Blk W0 (w.heap.size + 1) 27 #[.int .i64 b.x0, .int .i64 b.y0, .int .i64 b.x1, .int .i64 b.y1]) := by rw [hW0]; exact (by unfold Blk; repeat (first | exact blk_at _ _ _ (by first | omega | (simp; done) | (simp; omega)) | refine (blk_past _ _ _ (by first | omega | (simp; done) | (simp; omega))).trans ?_ | refine (heap_grow _ _ _ (by first | omega | (simp; done) | (simp; omega))).trans ?_ | refine (blk_drew _ _).trans ?_))
    have BP : Hid (Blk W0 (w.heap.size + 1 + 1) 37 #[.int .u8 p.r, .int .u8 p.g, .int .u8 p.b, .int .u8 p.a]) := by rw [hW0]; exact (by unfold Blk; repeat (first | exact blk_at _ _ _ (by first | omega | (simp; done) | (simp; omega)) | refine (blk_past _ _ _ (by first | omega | (simp; done) | (simp; omega))).trans ?_ | refine (heap_grow _ _ _ (by first | omega | (simp; done) | (simp; omega))).trans ?_ | refine (blk_drew _ _).trans ?_))
    have B3 : Hid (Blk W0 (w.heap.size + 1 + 1 + 1) 32 #[.int .i64 0, .int .i64 0, .int .i64 0, .int .i64 0, .slice none 0 0]) := by rw [hW0]; exact (by unfold Blk; repeat (first | exact blk_at _ _ _ (by first | omega | (simp; done) | (simp; omega)) | refine (blk_past _ _ _ (by first | omega | (simp; done) | (simp; omega))).trans ?_ | refine (heap_grow _ _ _ (by first | omega | (simp; done) | (simp; omega))).trans ?_ | refine (blk_drew _ _).trans ?_))
    have BS : Hid (Blk W0 (w.heap.size + 1 + 1 + 1 + 1 + gw.news.size + 1 + ga.news.size) 32 #[.int .i64 h.x0, .int .i64 h.y0, .int .i64 h.x1, .int .i64 h.y1, .slice aq lq pq]) := by rw [hW0]; exact (by unfold Blk; repeat (first | exact blk_at _ _ _ (by first | omega | (simp; done) | (simp; omega)) | refine (blk_past _ _ _ (by first | omega | (simp; done) | (simp; omega))).trans ?_ | refine (heap_grow _ _ _ (by first | omega | (simp; done) | (simp; omega))).trans ?_ | refine (blk_drew _ _).trans ?_))
    have BB : Blk W0 (w.heap.size + 1 + 1 + 1 + 1 + gw.news.size + 1 + ga.news.size + 1) 32 #[.int .i64 b.x0, .int .i64 b.y0, .int .i64 b.x1, .int .i64 b.y1, .slice none 0 0] := by rw [hW0]; exact (by unfold Blk; repeat (first | exact blk_at _ _ _ (by first | omega | (simp; done) | (simp; omega)) | refine (blk_past _ _ _ (by first | omega | (simp; done) | (simp; omega))).trans ?_ | refine (heap_grow _ _ _ (by first | omega | (simp; done) | (simp; omega))).trans ?_ | refine (blk_drew _ _).trans ?_))
    have GW : Hid (Grows w W0) := by rw [hW0]; exact (by repeat (first | exact Grows.refl _ | apply Grows.grow | apply Grows.alloc | apply Grows.drew))
    have SS : Hid (BufAt W0 h aq lq pq S) := by rw [hW0]; exact HS5.out.1.grows (by repeat (first | exact Grows.refl _ | apply Grows.grow | apply Grows.alloc | apply Grows.drew))
    obtain ⟨nb, hnb⟩ : ∃ n, n = w.heap.size + 1 + 1 + 1 + 1 + gw.news.size + 1 + ga.news.size + 1 := ⟨_, rfl⟩
    rw [← hnb] at BB ⊢
    obtain ⟨ns, hns⟩ : ∃ n, n = w.heap.size + 1 + 1 + 1 + 1 + gw.news.size + 1 + ga.news.size := ⟨_, rfl⟩
    rw [← hns] at BS HAS ⊢
    have hn1 : w.heap.size + 1 + 1 + 1 < ns := by omega
    have hn2 : ns < nb := by omega
    have HL : Hid (lq = cntR b) := SS.out.count.trans HCN.out
    have HS : Hid (BufAt W0 rf af lf cf F) := hf.out.grows GW.out
    have SOK : Hid (∀ u v, okP (S u v)) := SS.out.fits.ok
    have hlq : lq ≤ 30000000000000 := by rw [HL.out]; exact hs
    have hmq := SS.out.most
    have ST : Hid (AppSt W0 W0 nb b none 0 0 (fun i => belowF S dx dy p (ptX b i) (ptY b i))) := AppSt.start _ BB
    have hsz : nb < W0.heap.size := BB.lt
    clear hW0 hnb hns HS5 HSO BB
    go_loopw [18] (fun z wr => ∃ (k : Nat) (a' : Option Addr) (cap' : Nat), k ≤ lq ∧ z = .int .i64 k ∧ Hid (AppSt W0 wr nb b a' k cap' (fun i => belowF S dx dy p (ptX b i) (ptY b i)))) (fun z _ => lq - (intOf z).toNat)
    case atStart => exact ⟨0, none, 0, by omega, rfl, ST.out⟩
    case round =>
      clear ST
      obtain ⟨k, a', cap', hk, rfl, hh⟩ := hrel
      have bs := hh.out.blk BS.out (by omega)
      obtain ⟨y0, y1, y2, y3, y4, yf⟩ := bs.c5
      have ly := bs.lt
      have bo := hh.out.ob
      obtain ⟨o0, o1, o2, o3, o4, of⟩ := bo.c5
      have lo := bo.lt
      have hbase := hh.out.by_.size
      clear bs bo
      by_cases hlt : k < lq
      · have bp := hh.out.blk BP.out (by omega)
        obtain ⟨p0, p1, p2, p3, pf⟩ := bp.c4
        have lp := bp.lt
        have YS := hh.out.buf SS.out (fun x hx e => by have := HAS.out x hx; omega)
        obtain ⟨b', off', rfl, hb', -, c0, c1, c2, c3⟩ := YS.pix.px hlt
        obtain ⟨q, hq⟩ : ∃ q, q = S (ptX h k) (ptY h k) := ⟨_, rfl⟩
        obtain ⟨sc, hsc⟩ : ∃ z, z = scaleP p q.a := ⟨_, rfl⟩
        have HSC : Hid (scaleP p q.a = sc) := hsc.symm
        have QA : 0 ≤ q.a ∧ q.a ≤ 255 := by rw [hq]; exact (SOK.out _ _).2.2.2
        have hfk : Hid ((fun i => belowF S dx dy p (ptX b i) (ptY b i)) k = sc) := by
          show scaleP p (S (ptX b k - dx) (ptY b k - dy)).a = sc
          rw [hsc, hq, (HPT.out k).1, (HPT.out k).2]
        rw [← hq] at c0 c1 c2 c3
        clear hq hsc bp YS
        go_wp2
        first | refine region_grow_tail2 9 (by kernel_rfl) (by kernel_rfl) ?_ | refine region_grow_tail 9 (by kernel_rfl) (by kernel_rfl) ?_
        simp only [List.take_succ_cons, List.take_zero, List.drop_succ_cons, List.drop_zero]
        repeat (go_big_quiet_step ((first | (go_at_call 69; exact grow_of (ref01_scaleIs _ _ _ _ (by assumption) (by assumption) HSC)))))
        refine wpQuiet_nil ?_
        rintro _ ⟨gc, rfl⟩
        go_wp2_with (go_at_call 65; refine (ref05_With b a' k cap' (fun i => belowF S dx dy p (ptX b i) (ptY b i)) sc W0.heap.size _ (Lib.hid (ownsRow_grows hh.out.own (by repeat (first | exact Grows.refl _ | apply Grows.grow | apply Grows.alloc | apply Grows.drew)))) hfk (by omega) (by simp; omega)).mono ?_; rintro e w1 ⟨g, c1', rfl, h1, h2, h4⟩; obtain ⟨PB, PST⟩ := hh.out.push5 (by exact (by repeat (first | exact Grows.refl _ | apply Grows.grow | apply Grows.alloc | apply Grows.drew))) h1 h2; obtain ⟨q0, q1, q2, q3, q4, qf⟩ := PB.c5; have ql := PB.lt; replace PST := Lib.hid PST; clear h1 h2 h4 PB)
        go_roundw
        case rel => exact ⟨k + 1, _, _, by omega, by go_num, PST.out⟩
        case measure => simp [intOf]; omega
      · obtain rfl : lq = k := by omega
        have HBE : Hid (BufAt wr b a' lq cap' (cutF b (belowF S dx dy p))) := by
          have hl := HL.out
          have ho := hh.out.own
          show BufAt wr b a' lq cap' _
          rw [hl] at ho ⊢
          exact (bufAt_own HG.out (fun x y _ => scaleP_ok hp (SOK.out _ _).2.2.2) ho).1
        have HSR : Hid (BufAt wr rf af lf cf F) := hf.out.far HS.out hh.out.by_ (by omega)
        have GR : Hid (Grows w wr) := GW.out.grown hh.out.by_ (fun j hj => by injection hj with hj; omega)
        have b0 := hh.out.blk B0.out (by omega)
        obtain ⟨s0, s1, s2, s3, s4, sf⟩ := b0.c5
        have l0 := b0.lt
        have b1 := hh.out.blk B1.out (by omega)
        obtain ⟨t0, t1, t2, t3, tf⟩ := b1.c4
        have l1 := b1.lt
        have b3 := Lib.hid (hh.out.blk B3.out (by omega))
        clear b0 b1
        go_wp2_with (first
          | (go_at_call 67
             with_reducible refine Calls.mono (HO.out _ a' lq cap' HSR HBE) ?_
             rintro e w7 ⟨ax, lx, px, rfl, hg7, HX⟩
             have d3 := Lib.hid (b3.out.grows hg7)
             obtain ⟨v0, v1, v2, v3, v4, vf⟩ := d3.out.c5
             have lv := d3.out.lt
             have GR7 := Lib.hid (GR.out.trans hg7)
             have hsz7 := hg7.below.size
             clear hg7))
        obtain ⟨D1, D2⟩ := ret_cell HX.out.1 HX.out.2.1 GR7.out (n := w.heap.size + 1 + 1 + 1) (by omega) (fun k hk => by obtain ⟨x, hx, hx2⟩ := blkOf_some_iff hk; have := HX.out.2.2 x hx; have := GR.out.below.size; omega) (.int .i64 b.x0) (.int .i64 b.y0) (.int .i64 b.x1) (.int .i64 b.y1) (.slice ax lx px)
        refine bodyPost_ret (results_cell_row rfl _ _ _ 32 #[.int .i64 b.x0, .int .i64 b.y0, .int .i64 b.x1, .int .i64 b.y1, .slice ax lx px] (0, 0) _ rfl (d3.out.set5 _ _ _ _ _) Tryz.underlying32 rfl buf_info) rfl ⟨_, _, _, rfl, D1, D2⟩
  · have e : someR b = zeroR := by simp [someR, he]
    rw [e]
    have e2 : ∀ G : Img, cutF zeroR G = noF := fun G => by
      funext u v
      rw [cutF_out (hasR_zero u v)]; rfl
    rw [e2]
    clear e2 e hs hb hth ht1 ht2
    go_enter Tryz.func35, Tryz.ntmps35
    go_wp2_with ((first | (go_at_call 63; refine (ref03_emptyR _ _).mono ?_; rintro e w' ⟨rfl, hgw⟩; first | (obtain ⟨gw, rfl⟩ := grows_of_grow hgw) | (obtain ⟨gw, rfl⟩ := hgw))))
    refine bodyPost_ret (results_cell_row rfl _ _ _ 32 #[.int .i64 0, .int .i64 0, .int .i64 0, .int .i64 0, .slice none 0 0] (0, 0) _ rfl ?_ Tryz.underlying32 rfl buf_info) rfl ⟨_, _, _, rfl, (by repeat (first | exact Grows.refl _ | apply Grows.grow | apply Grows.alloc | apply Grows.drew)), bufAt_zero _, Open.none_ _, fun x hx => by cases hx⟩
    exact (by repeat (first | exact blk_at _ _ _ (by first | omega | (simp; done) | (simp; omega)) | refine (blk_past _ _ _ (by first | omega | (simp; done) | (simp; omega))).trans ?_ | refine (heap_grow _ _ _ (by first | omega | (simp; done) | (simp; omega))).trans ?_ | refine (blk_drew _ _).trans ?_))
end Go.Proofs.YtklcmlbkhjcaiaaGreatDoor
