/- The walks of layer 10: one buffer on top of another, by the reference. -/
import Derived.Test.YtklcmlbkhjcaiaaGreatDoorMoveT
import Derived.Test.YtklcmlbkhjcaiaaGreatDoorK13
import Derived.Test.YtklcmlbkhjcaiaaGreatDoorRef8B
import Derived.Test.YtklcmlbkhjcaiaaGreatDoorOneF





namespace Go.Proofs.YtklcmlbkhjcaiaaGreatDoor
open Go.RowKit
set_option linter.unusedVariables false

theorem scaleP_ok {p : P4} {k : Int} (hp : okP p) (hk : 0 ≤ k ∧ k ≤ 255) : okP (scaleP p k) := ⟨mulT_bd _ _ hp.1.1 hp.1.2 hk.1 hk.2, mulT_bd _ _ hp.2.1.1 hp.2.1.2 hk.1 hk.2, mulT_bd _ _ hp.2.2.1.1 hp.2.2.1.2 hk.1 hk.2, mulT_bd _ _ hp.2.2.2.1 hp.2.2.2.2 hk.1 hk.2⟩
theorem compP_ok (op : Int) (p q : P4) : okP (compP op p q) := compP_bytes op p q
def overF (F G : Img) : Img := fun x y => compP 0 (F x y) (G x y)
theorem overF_ok (F G : Img) (x y : Int) : okP (overF F G x y) := compP_ok 0 _ _
theorem mix_overIs (p q r : P4) (w : World) (hp : okP p) (hq : okP q) (h : Hid (compP 0 p q = r)) : Calls Tryz.prog 42 #[.int .i64 0, .agg #[.int .u8 p.r, .int .u8 p.g, .int .u8 p.b, .int .u8 p.a], .agg #[.int .u8 q.r, .int .u8 q.g, .int .u8 q.b, .int .u8 q.a]] w fun e w' => e = .returned (.agg #[.int .u8 r.r, .int .u8 r.g, .int .u8 r.b, .int .u8 r.a]) ∧ Grows w w' := by
  have := mix_comp 0 p.r p.g p.b p.a q.r q.g q.b q.a w (by omega) hp.1 hp.2.1 hp.2.2.1 hp.2.2.2 hq.1 hq.2.1 hq.2.2.1 hq.2.2.2
  rw [← h.out]
  exact this
theorem ref06_overIs (p q r : P4) (w : World) (hp : okP p) (hq : okP q) (h : Hid (compP 0 p q = r)) : Calls Tryz.prog 72 #[.int .i64 0, .agg #[.int .u8 p.r, .int .u8 p.g, .int .u8 p.b, .int .u8 p.a], .agg #[.int .u8 q.r, .int .u8 q.g, .int .u8 q.b, .int .u8 q.a]] w fun e w' => e = .returned (.agg #[.int .u8 r.r, .int .u8 r.g, .int .u8 r.b, .int .u8 r.a]) ∧ Grows w w' := by
  have := ref06_comp 0 p.r p.g p.b p.a q.r q.g q.b q.a w (by omega) hp.1 hp.2.1 hp.2.2.1 hp.2.2.2 hq.1 hq.2.1 hq.2.2.1 hq.2.2.2
  rw [← h.out]
  exact this
theorem tone_scaleIs (p r : P4) (k : Int) (w : World) (hp : okP p) (hk : 0 ≤ k ∧ k ≤ 255) (h : Hid (scaleP p k = r)) : Calls Tryz.prog 59 #[.agg #[.int .u8 p.r, .int .u8 p.g, .int .u8 p.b, .int .u8 p.a], .int .u8 k] w fun e w' => e = .returned (.agg #[.int .u8 r.r, .int .u8 r.g, .int .u8 r.b, .int .u8 r.a]) ∧ Grows w w' := by
  have := tone_scale p.r p.g p.b p.a k w hp.1 hp.2.1 hp.2.2.1 hp.2.2.2 hk
  rw [← h.out]
  exact this
theorem ref01_scaleIs (p r : P4) (k : Int) (w : World) (hp : okP p) (hk : 0 ≤ k ∧ k ≤ 255) (h : Hid (scaleP p k = r)) : Calls Tryz.prog 69 #[.agg #[.int .u8 p.r, .int .u8 p.g, .int .u8 p.b, .int .u8 p.a], .int .u8 k] w fun e w' => e = .returned (.agg #[.int .u8 r.r, .int .u8 r.g, .int .u8 r.b, .int .u8 r.a]) ∧ Grows w w' := by
  have := ref01_scale p.r p.g p.b p.a k w hp.1 hp.2.1 hp.2.2.1 hp.2.2.2 hk
  rw [← h.out]
  exact this

set_option maxRecDepth 100000 in
set_option maxHeartbeats 6400000 in
theorem ref10_Over (b rf rg : R) (af : Option Addr) (lf cf : Nat) (ag : Option Addr) (lg cg : Nat) (F G : Img) (w : World) (hf : Hid (BufAt w rf af lf cf F)) (hsf : cntR rf ≤ 30000000000000) (hgg : Hid (BufAt w rg ag lg cg G)) (hsg : cntR rg ≤ 30000000000000) (hb : rightR b = true) (hs : cntR (someR b) ≤ 30000000000000) :
    Calls Tryz.prog 67 #[.agg #[.int .i64 rf.x0, .int .i64 rf.y0, .int .i64 rf.x1, .int .i64 rf.y1, .slice af lf cf], .agg #[.int .i64 rg.x0, .int .i64 rg.y0, .int .i64 rg.x1, .int .i64 rg.y1, .slice ag lg cg], .agg #[.int .i64 b.x0, .int .i64 b.y0, .int .i64 b.x1, .int .i64 b.y1]] w (RetBuf w (someR b) (cutF (someR b) (overF F G))) := by
  have hg : GoodR (someR b) := good_some hb
  have FOK : Hid (∀ u v, okP (F u v)) := hf.out.fits.ok
  have GOK : Hid (∀ u v, okP (G u v)) := hgg.out.fits.ok
  cases he : emptyR b
  · have e : someR b = b := by simp [someR, he]
    rw [e] at hg hs ⊢
    have hbd := hg.bd
    have hle := hg.le
    have HG := Lib.hid hg
    have HF : Hid (Fits b (cutF b (overF F G))) := Fits.cut (s := b) (fun x y _ => overF_ok F G x y)
    have HFF : Hid (∀ u v, hasR b u v = true → cutF b (overF F G) u v = overF F G u v) := fun u v k => cutF_in k
    obtain ⟨F', hF'⟩ : ∃ F', F' = cutF b (overF F G) := ⟨_, rfl⟩
    rw [← hF'] at HF HFF ⊢
    clear hg hF' e hb
    go_enter Tryz.func67, Tryz.ntmps67
    go_wp2_with ((first | (go_at_call 63; refine (ref03_emptyR _ _).mono ?_; rintro e w' ⟨rfl, hgw⟩; first | (obtain ⟨gw, rfl⟩ := grows_of_grow hgw) | (obtain ⟨gw, rfl⟩ := hgw))))
    refine wp_name ?_
    intro W0 hW0
    have B0 : Hid (Blk W0 w.heap.size 32 #[.int .i64 rf.x0, .int .i64 rf.y0, .int .i64 rf.x1, .int .i64 rf.y1, .slice af lf cf]) := by rw [hW0]; exact (by unfold Blk; repeat (first | exact blk_at _ _ _ (by first | omega | (simp; done) | (simp; omega)) | refine (blk_past _ _ _ (by first | omega | (simp; done) | (simp; omega))).trans ?_ | refine (heap_grow _ _ _ (by first | omega | (simp; done) | (simp; omega))).trans ?_ | refine (blk_drew _ _).trans ?_))
    have B1 : Hid (Blk W0 (w.heap.size + 1 + 1) 27 #[.int .i64 b.x0, .int .i64 b.y0, .int .i64 b.x1, .int .i64 b.y1]) := by rw [hW0]; exact (by unfold Blk; repeat (first | exact blk_at _ _ _ (by first | omega | (simp; done) | (simp; omega)) | refine (blk_past _ _ _ (by first | omega | (simp; done) | (simp; omega))).trans ?_ | refine (heap_grow _ _ _ (by first | omega | (simp; done) | (simp; omega))).trans ?_ | refine (blk_drew _ _).trans ?_))
    have BG : Hid (Blk W0 (w.heap.size + 1) 32 #[.int .i64 rg.x0, .int .i64 rg.y0, .int .i64 rg.x1, .int .i64 rg.y1, .slice ag lg cg]) := by rw [hW0]; exact (by unfold Blk; repeat (first | exact blk_at _ _ _ (by first | omega | (simp; done) | (simp; omega)) | refine (blk_past _ _ _ (by first | omega | (simp; done) | (simp; omega))).trans ?_ | refine (heap_grow _ _ _ (by first | omega | (simp; done) | (simp; omega))).trans ?_ | refine (blk_drew _ _).trans ?_))
    have B2 : Hid (Blk W0 (w.heap.size + 1 + 1 + 1) 32 #[.int .i64 0, .int .i64 0, .int .i64 0, .int .i64 0, .slice none 0 0]) := by rw [hW0]; exact (by unfold Blk; repeat (first | exact blk_at _ _ _ (by first | omega | (simp; done) | (simp; omega)) | refine (blk_past _ _ _ (by first | omega | (simp; done) | (simp; omega))).trans ?_ | refine (heap_grow _ _ _ (by first | omega | (simp; done) | (simp; omega))).trans ?_ | refine (blk_drew _ _).trans ?_))
    have B4 : Blk W0 (w.heap.size + 1 + 1 + 1 + 1) 32 #[.int .i64 b.x0, .int .i64 b.y0, .int .i64 b.x1, .int .i64 b.y1, .slice none 0 0] := by rw [hW0]; exact (by unfold Blk; repeat (first | exact blk_at _ _ _ (by first | omega | (simp; done) | (simp; omega)) | refine (blk_past _ _ _ (by first | omega | (simp; done) | (simp; omega))).trans ?_ | refine (heap_grow _ _ _ (by first | omega | (simp; done) | (simp; omega))).trans ?_ | refine (blk_drew _ _).trans ?_))
    have GW : Hid (Grows w W0) := by rw [hW0]; exact (by repeat (first | exact Grows.refl _ | apply Grows.grow | apply Grows.alloc | apply Grows.drew))
    have hsz' : w.heap.size + 1 + 1 + 1 + 1 < W0.heap.size := B4.lt
    have HS : Hid (BufAt W0 rf af lf cf F) := hf.out.grows GW.out
    have HSG : Hid (BufAt W0 rg ag lg cg G) := hgg.out.grows GW.out
    have ST : Hid (AppSt W0 W0 (w.heap.size + 1 + 1 + 1 + 1) b none 0 0 (fun i => F' (ptX b i) (ptY b i))) := AppSt.start _ B4
    clear hW0 B4
    go_loopw [8] (fun y wr => ∃ (v : Int) (k : Nat) (a' : Option Addr) (cap' : Nat), b.y0 ≤ v ∧ v ≤ b.y1 ∧ y = .int .i64 v ∧ Hid ((k : Int) = idxR b b.x0 v ∧ AppSt W0 wr (w.heap.size + 1 + 1 + 1 + 1) b a' k cap' (fun i => F' (ptX b i) (ptY b i)))) (fun y _ => (b.y1 - intOf y).toNat)
    case atStart => exact ⟨_, 0, none, 0, by omega, by omega, rfl, by rw [idx_first]; rfl, ST.out⟩
    case round =>
      clear ST
      obtain ⟨v, k, a', cap', hv1, hv2, rfl, hh⟩ := hrel
      have b1 := hh.out.2.blk B1.out (by omega)
      obtain ⟨d0, d1, d2, d3, df⟩ := b1.c4
      have l1 := b1.lt
      by_cases hlt : v < b.y1
      · go_wp2
        clear d0 d1 d2 d3 df l1 b1
        obtain ⟨wo, hwo⟩ : ∃ wo : World, wo = wr := ⟨_, rfl⟩
        clear hwo
        go_loopw [9] (fun x wr => ∃ (u : Int) (k : Nat) (a' : Option Addr) (cap' : Nat), b.x0 ≤ u ∧ u ≤ b.x1 ∧ x = .int .i64 u ∧ Hid ((k : Int) = idxR b u v ∧ AppSt W0 wr (w.heap.size + 1 + 1 + 1 + 1) b a' k cap' (fun i => F' (ptX b i) (ptY b i)))) (fun x _ => (b.x1 - intOf x).toNat)
        case atStart => exact ⟨_, k, a', cap', by omega, by omega, rfl, hh.out⟩
        case round =>
          clear hh
          obtain ⟨u, k, a', cap', hu1, hu2, rfl, hh⟩ := hrel
          have b1 := hh.out.2.blk B1.out (by omega)
          obtain ⟨d0, d1, d2, d3, df⟩ := b1.c4
          have l1 := b1.lt
          by_cases hltx : u < b.x1
          · have hin : hasR b u v = true := (hasR_iff _ _ _).2 (by omega)
            have hcnt := HG.out.idx hin
            have hk : k ≤ 30000000000000 := by have := hh.out.1; omega
            have hfk : Hid ((fun i => F' (ptX b i) (ptY b i)) k = overF F G u v) := by
              show F' (ptX b k) (ptY b k) = _
              rw [ptX_of hin hh.out.1, ptY_of hin hh.out.1]
              exact HFF.out u v hin
            have hki := hh.out.1
            obtain ⟨q, hq⟩ : ∃ q, q = F u v := ⟨_, rfl⟩
            obtain ⟨q2, hq2⟩ : ∃ q, q = G u v := ⟨_, rfl⟩
            obtain ⟨PP, hPP⟩ : ∃ q, q = overF F G u v := ⟨_, rfl⟩
            have HQa : Hid (F u v = q) := hq.symm
            have HQb : Hid (G u v = q2) := hq2.symm
            have HOV : Hid (compP 0 q q2 = PP) := by rw [hPP, hq, hq2]; rfl
            have QO : okP q := by rw [hq]; exact FOK.out _ _
            have QO2 : okP q2 := by rw [hq2]; exact GOK.out _ _
            rw [← hPP] at hfk
            have b0 := hh.out.2.blk B0.out (by omega)
            obtain ⟨s0, s1, s2, s3, s4, sf⟩ := b0.c5
            have l0 := b0.lt
            have b5 := hh.out.2.blk BG.out (by omega)
            obtain ⟨t0, t1, t2, t3, t4, tf⟩ := b5.c5
            have l5 := b5.lt
            have Y1 := Lib.hid (hf.out.far HS.out hh.out.2.by_ (by omega))
            have Y2 := Lib.hid (hgg.out.far HSG.out hh.out.2.by_ (by omega))
            have bo := hh.out.2.ob
            obtain ⟨o0, o1, o2, o3, o4, of⟩ := bo.c5
            have lo := bo.lt
            have hbase := hh.out.2.by_.size
            clear hq hq2 hPP b0 b5 bo
            go_wp2
            first | refine region_grow_tail2 10 (by kernel_rfl) (by kernel_rfl) ?_ | refine region_grow_tail 10 (by kernel_rfl) (by kernel_rfl) ?_
            simp only [List.take_succ_cons, List.take_zero, List.drop_succ_cons, List.drop_zero]
            repeat (go_big_quiet_step ((first | (go_at_call 12; exact grow_of (ref05_AtIs _ _ _ _ _ _ _ _ _ (Lib.hid (BufAt.grows Y1.out (by repeat (first | exact Grows.refl _ | apply Grows.grow | apply Grows.alloc | apply Grows.drew)))) (by omega) HQa)) | (go_at_call 12; exact grow_of (ref05_AtIs _ _ _ _ _ _ _ _ _ (Lib.hid (BufAt.grows Y2.out (by repeat (first | exact Grows.refl _ | apply Grows.grow | apply Grows.alloc | apply Grows.drew)))) (by omega) HQb)) | (go_at_call 72; exact grow_of (ref06_overIs _ _ _ _ (by assumption) (by assumption) HOV)))))
            refine wpQuiet_nil ?_
            rintro _ ⟨gc, rfl⟩
            go_wp2_with (go_at_call 65; refine (ref05_With b a' k cap' (fun i => F' (ptX b i) (ptY b i)) PP W0.heap.size _ (Lib.hid (ownsRow_grows hh.out.2.own (by repeat (first | exact Grows.refl _ | apply Grows.grow | apply Grows.alloc | apply Grows.drew)))) hfk hk (by simp; omega)).mono ?_; rintro e w1 ⟨g, c1', rfl, h1, h2, h4⟩; obtain ⟨PB, PST⟩ := hh.out.2.push5 (by exact (by repeat (first | exact Grows.refl _ | apply Grows.grow | apply Grows.alloc | apply Grows.drew))) h1 h2; obtain ⟨q0, q1, q2, q3, q4, qf⟩ := PB.c5; have ql := PB.lt; replace PST := Lib.hid PST; clear h1 h2 h4 PB)
            go_roundw
            case rel => exact ⟨u + 1, k + 1, _, _, by omega, by omega, by go_num, by rw [idx_next]; omega, PST.out⟩
            case measure => simp [intOf]; omega
          · obtain rfl : u = b.x1 := by omega
            go_wp2
            go_roundw
            case rel => exact ⟨v + 1, k, a', cap', by omega, by omega, by go_num, by have := hh.out.1; rw [idx_row] at this; exact this, hh.out.2⟩
            case measure => simp [intOf]; omega
      · obtain rfl : v = b.y1 := by omega
        have bo := hh.out.2.ob
        obtain ⟨o0, o1, o2, o3, o4, of⟩ := bo.c5
        have b3 := hh.out.2.blk B2.out (by omega)
        obtain ⟨e0, e1, e2, e3, e4, ef⟩ := b3.c5
        have H3 := Lib.hid b3
        have l3 := b3.lt
        have lo := bo.lt
        clear b3 bo b1
        go_wp2
        obtain ⟨D1, D2⟩ := hh.out.2.done HG.out HF.out hh.out.1 GW.out (n := w.heap.size + 1 + 1 + 1) (by omega) (by omega) (by omega) (.int .i64 b.x0) (.int .i64 b.y0) (.int .i64 b.x1) (.int .i64 b.y1) (.slice a' k cap')
        refine bodyPost_ret (results_cell_row rfl _ _ _ 32 #[.int .i64 b.x0, .int .i64 b.y0, .int .i64 b.x1, .int .i64 b.y1, .slice a' k cap'] (0, 0) _ rfl (H3.out.set5 _ _ _ _ _) Tryz.underlying32 rfl buf_info) rfl ⟨_, _, _, rfl, D1, D2⟩
  · have e : someR b = zeroR := by simp [someR, he]
    rw [e]
    clear e hs hb hg
    have e2 : cutF zeroR (overF F G) = noF := by
      funext u v
      rw [cutF_out (hasR_zero u v)]; rfl
    rw [e2]
    clear e2
    go_enter Tryz.func67, Tryz.ntmps67
    go_wp2_with ((first | (go_at_call 63; refine (ref03_emptyR _ _).mono ?_; rintro e w' ⟨rfl, hgw⟩; first | (obtain ⟨gw, rfl⟩ := grows_of_grow hgw) | (obtain ⟨gw, rfl⟩ := hgw))))
    refine bodyPost_ret (results_cell_row rfl _ _ _ 32 #[.int .i64 0, .int .i64 0, .int .i64 0, .int .i64 0, .slice none 0 0] (0, 0) _ rfl ?_ Tryz.underlying32 rfl buf_info) rfl ⟨_, _, _, rfl, (by repeat (first | exact Grows.refl _ | apply Grows.grow | apply Grows.alloc | apply Grows.drew)), bufAt_zero _, Open.none_ _, fun x hx => by cases hx⟩
    exact (by repeat (first | exact blk_at _ _ _ (by first | omega | (simp; done) | (simp; omega)) | refine (blk_past _ _ _ (by first | omega | (simp; done) | (simp; omega))).trans ?_ | refine (heap_grow _ _ _ (by first | omega | (simp; done) | (simp; omega))).trans ?_ | refine (blk_drew _ _).trans ?_))
end Go.Proofs.YtklcmlbkhjcaiaaGreatDoor
