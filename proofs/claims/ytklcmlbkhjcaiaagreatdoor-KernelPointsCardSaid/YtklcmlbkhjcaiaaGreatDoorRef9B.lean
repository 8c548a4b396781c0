/- The walk of the reference of layer 9: a box. -/
import Derived.Test.YtklcmlbkhjcaiaaGreatDoorRef9
import Derived.Test.YtklcmlbkhjcaiaaGreatDoorK14



namespace Go.Proofs.YtklcmlbkhjcaiaaGreatDoor
open Go.RowKit
set_option linter.unusedVariables false

/-- The document's answer. -/
def docM (k : Bool) (b : R) (rx ry : Int) (F : Img) : Img := cutF (someR b) (fun u v => aroundP k F u v rx ry)
theorem ref09_AroundIs (k : Bool) (rf : R) (af : Option Addr) (lf cf : Nat) (F : Img) (x y rx ry ci : Int) (c : Nat) (hci : ci = c) (q : Int) (w : World) (hq : Hid (chan (aroundP k F x y rx ry) c = q)) (hf : Hid (BufAt w rf af lf cf F)) (hsf : cntR rf ≤ 140737488355328) (hx : -4398046511104 ≤ x ∧ x ≤ 4398046511104) (hy : -4398046511104 ≤ y ∧ y ≤ 4398046511104) (hrx : 0 ≤ rx ∧ rx ≤ 255) (hry : 0 ≤ ry ∧ ry ≤ 255) (hc : c < 4) :
    Calls Tryz.prog 64 #[.agg #[.int .i64 rf.x0, .int .i64 rf.y0, .int .i64 rf.x1, .int .i64 rf.y1, .slice af lf cf], .int .i64 x, .int .i64 y, .int .i64 rx, .int .i64 ry, .int .i64 ci, .bool k] w fun e w' => e = .returned (.int .u8 q) ∧ Grows w w' := by
  subst hci
  have := ref09_Around k rf af lf cf F x y rx ry c w hf hsf hx hy hrx hry hc
  rwa [hq.out] at this

set_option maxRecDepth 100000 in
set_option maxHeartbeats 6400000 in
theorem ref09_Box (b rf : R) (af : Option Addr) (lf cf : Nat) (F : Img) (rx ry : Int) (k0 : Bool) (w : World) (hf : Hid (BufAt w rf af lf cf F)) (hsf : cntR rf ≤ 30000000000000) (hb : rightR b = true) (hs : cntR (someR b) ≤ 30000000000000) (hx0 : 0 ≤ rx) (hx1 : rx ≤ 255) (hy0 : 0 ≤ ry) (hy1 : ry ≤ 255) :
    Calls Tryz.prog 29 #[.agg #[.int .i64 rf.x0, .int .i64 rf.y0, .int .i64 rf.x1, .int .i64 rf.y1, .slice af lf cf], .agg #[.int .i64 b.x0, .int .i64 b.y0, .int .i64 b.x1, .int .i64 b.y1], .int .i64 rx, .int .i64 ry, .bool k0] w (RetBuf w (someR b) (docM k0 b rx ry F)) := by
  unfold docM
  have hg : GoodR (someR b) := good_some hb
  have FOK : Hid (∀ u v, okP (F u v)) := hf.out.fits.ok
  cases he : emptyR b
  · have e : someR b = b := by simp [someR, he]
    rw [e] at hg hs ⊢
    have hbd := hg.bd
    have hle := hg.le
    have HG := Lib.hid hg
    have HF : Hid (Fits b (cutF b (fun u v => aroundP k0 F u v rx ry))) := Fits.cut (s := b) (fun x y _ => aroundP_ok FOK.out k0 x y rx ry)
    have HFF : Hid (∀ u v, hasR b u v = true → cutF b (fun u v => aroundP k0 F u v rx ry) u v = aroundP k0 F u v rx ry) := fun u v k => cutF_in k
    obtain ⟨F', hF'⟩ : ∃ F', F' = cutF b (fun u v => aroundP k0 F u v rx ry) := ⟨_, rfl⟩
    rw [← hF'] at HF HFF ⊢
    clear hg hF' e hb
    go_enter Tryz.func29, Tryz.ntmps29
    go_wp2_with ((first | (go_at_call 63; refine (ref03_emptyR _ _).mono ?_; rintro e w' ⟨rfl, hgw⟩; first | (obtain ⟨gw, rfl⟩ := grows_of_grow hgw) | (obtain ⟨gw, rfl⟩ := hgw))))
    refine wp_name ?_
    intro W0 hW0
    have B0 : Hid (Blk W0 w.heap.size 32 #[.int .i64 rf.x0, .int .i64 rf.y0, .int .i64 rf.x1, .int .i64 rf.y1, .slice af lf cf]) := by rw [hW0]; exact (by unfold Blk; repeat (first | exact blk_at _ _ _ (by first | omega | (simp; done) | (simp; omega)) | refine (blk_past _ _ _ (by first | omega | (simp; done) | (simp; omega))).trans ?_ | refine (heap_grow _ _ _ (by first | omega | (simp; done) | (simp; omega))).trans ?_ | refine (blk_drew _ _).trans ?_))
    have B1 : Hid (Blk W0 (w.heap.size + 1) 27 #[.int .i64 b.x0, .int .i64 b.y0, .int .i64 b.x1, .int .i64 b.y1]) := by rw [hW0]; exact (by unfold Blk; repeat (first | exact blk_at _ _ _ (by first | omega | (simp; done) | (simp; omega)) | refine (blk_past _ _ _ (by first | omega | (simp; done) | (simp; omega))).trans ?_ | refine (heap_grow _ _ _ (by first | omega | (simp; done) | (simp; omega))).trans ?_ | refine (blk_drew _ _).trans ?_))
    have B2 : Hid (Blk W0 (w.heap.size + 1 + 1) 32 #[.int .i64 0, .int .i64 0, .int .i64 0, .int .i64 0, .slice none 0 0]) := by rw [hW0]; exact (by unfold Blk; repeat (first | exact blk_at _ _ _ (by first | omega | (simp; done) | (simp; omega)) | refine (blk_past _ _ _ (by first | omega | (simp; done) | (simp; omega))).trans ?_ | refine (heap_grow _ _ _ (by first | omega | (simp; done) | (simp; omega))).trans ?_ | refine (blk_drew _ _).trans ?_))
    have B4 : Blk W0 (w.heap.size + 1 + 1 + 1) 32 #[.int .i64 b.x0, .int .i64 b.y0, .int .i64 b.x1, .int .i64 b.y1, .slice none 0 0] := by rw [hW0]; exact (by unfold Blk; repeat (first | exact blk_at _ _ _ (by first | omega | (simp; done) | (simp; omega)) | refine (blk_past _ _ _ (by first | omega | (simp; done) | (simp; omega))).trans ?_ | refine (heap_grow _ _ _ (by first | omega | (simp; done) | (simp; omega))).trans ?_ | refine (blk_drew _ _).trans ?_))
    have GW : Hid (Grows w W0) := by rw [hW0]; exact (by repeat (first | exact Grows.refl _ | apply Grows.grow | apply Grows.alloc | apply Grows.drew))
    have hsz' : w.heap.size + 1 + 1 + 1 < W0.heap.size := B4.lt
    have HS : Hid (BufAt W0 rf af lf cf F) := hf.out.grows GW.out
    have ST : Hid (AppSt W0 W0 (w.heap.size + 1 + 1 + 1) b none 0 0 (fun i => F' (ptX b i) (ptY b i))) := AppSt.start _ B4
    clear hW0 B4
    go_loopw [12] (fun y wr => ∃ (v : Int) (k : Nat) (a' : Option Addr) (cap' : Nat), b.y0 ≤ v ∧ v ≤ b.y1 ∧ y = .int .i64 v ∧ Hid ((k : Int) = idxR b b.x0 v ∧ AppSt W0 wr (w.heap.size + 1 + 1 + 1) b a' k cap' (fun i => F' (ptX b i) (ptY b i)))) (fun y _ => (b.y1 - intOf y).toNat)
    case atStart => exact ⟨_, 0, none, 0, by omega, by omega, rfl, by rw [idx_first]; rfl, ST.out⟩
    case round =>
      clear ST
      obtain ⟨v, k, a', cap', hv1, hv2, rfl, hh⟩ := hrel
      have b1 := hh.out.2.blk B1.out (by omega)
      obtain ⟨d0, d1, d2, d3, df⟩ := b1.c4
      have l1 := b1.lt
      by_cases hlt : v < b.y1
      · go_wp2
        clear d0 d1 d2 d3 df l1 b1
        obtain ⟨wo, hwo⟩ : ∃ wo : World, wo = wr := ⟨_, rfl⟩
        clear hwo
        go_loopw [13] (fun x wr => ∃ (u : Int) (k : Nat) (a' : Option Addr) (cap' : Nat), b.x0 ≤ u ∧ u ≤ b.x1 ∧ x = .int .i64 u ∧ Hid ((k : Int) = idxR b u v ∧ AppSt W0 wr (w.heap.size + 1 + 1 + 1) b a' k cap' (fun i => F' (ptX b i) (ptY b i)))) (fun x _ => (b.x1 - intOf x).toNat)
        case atStart => exact ⟨_, k, a', cap', by omega, by omega, rfl, hh.out⟩
        case round =>
          clear hh
          obtain ⟨u, k, a', cap', hu1, hu2, rfl, hh⟩ := hrel
          have b1 := hh.out.2.blk B1.out (by omega)
          obtain ⟨d0, d1, d2, d3, df⟩ := b1.c4
          have l1 := b1.lt
          by_cases hltx : u < b.x1
          · have hin : hasR b u v = true := (hasR_iff _ _ _).2 (by omega)
            have hcnt := HG.out.idx hin
            have hk : k ≤ 30000000000000 := by have := hh.out.1; omega
            have hfk : Hid ((fun i => F' (ptX b i) (ptY b i)) k = aroundP k0 F u v rx ry) := by
              show F' (ptX b k) (ptY b k) = _
              rw [ptX_of hin hh.out.1, ptY_of hin hh.out.1]
              exact HFF.out u v hin
            have hki := hh.out.1
            obtain ⟨A, hA⟩ : ∃ A, A = aroundP k0 F u v rx ry := ⟨_, rfl⟩
            have HA0 : Hid (chan (aroundP k0 F u v rx ry) 0 = A.r) := by rw [hA]; rfl
            have HA1 : Hid (chan (aroundP k0 F u v rx ry) 1 = A.g) := by rw [hA]; rfl
            have HA2 : Hid (chan (aroundP k0 F u v rx ry) 2 = A.b) := by rw [hA]; rfl
            have HA3 : Hid (chan (aroundP k0 F u v rx ry) 3 = A.a) := by rw [hA]; rfl
            rw [← hA] at hfk
            have b0 := hh.out.2.blk B0.out (by omega)
            obtain ⟨s0, s1, s2, s3, s4, sf⟩ := b0.c5
            have l0 := b0.lt
            have HSRC := Lib.hid (hf.out.far HS.out hh.out.2.by_ (by omega))
            have bo := hh.out.2.ob
            obtain ⟨o0, o1, o2, o3, o4, of⟩ := bo.c5
            have lo := bo.lt
            have hbase := hh.out.2.by_.size
            clear hA b0 bo
            go_wp2
            refine wp_loop_rounds 5 ?_
            rw [rounds_succ]
            go_wp2_with (go_at_call 64; (with_reducible refine Calls.mono (ref09_AroundIs k0 rf af lf cf F u v rx ry 0 0 rfl _ _ HA0 ?_ (by omega) (by omega) (by omega) (by omega) (by omega) (by omega)) ?_); (exact Lib.hid (BufAt.grows HSRC.out (by repeat (first | exact Grows.refl _ | apply Grows.grow | apply Grows.alloc | apply Grows.drew)))); rintro e w' ⟨rfl, hgw⟩; first | (obtain ⟨gw0, rfl⟩ := grows_of_grow hgw) | (obtain ⟨gw0, rfl⟩ := hgw))
            rw [rounds_succ]
            go_wp2_with (go_at_call 64; (with_reducible refine Calls.mono (ref09_AroundIs k0 rf af lf cf F u v rx ry 1 1 rfl _ _ HA1 ?_ (by omega) (by omega) (by omega) (by omega) (by omega) (by omega)) ?_); (exact Lib.hid (BufAt.grows HSRC.out (by repeat (first | exact Grows.refl _ | apply Grows.grow | apply Grows.alloc | apply Grows.drew)))); rintro e w' ⟨rfl, hgw⟩; first | (obtain ⟨gw1, rfl⟩ := grows_of_grow hgw) | (obtain ⟨gw1, rfl⟩ := hgw))
            rw [rounds_succ]
            go_wp2_with (go_at_call 64; (with_reducible refine Calls.mono (ref09_AroundIs k0 rf af lf cf F u v rx ry 2 2 rfl _ _ HA2 ?_ (by omega) (by omega) (by omega) (by omega) (by omega) (by omega)) ?_); (exact Lib.hid (BufAt.grows HSRC.out (by repeat (first | exact Grows.refl _ | apply Grows.grow | apply Grows.alloc | apply Grows.drew)))); rintro e w' ⟨rfl, hgw⟩; first | (obtain ⟨gw2, rfl⟩ := grows_of_grow hgw) | (obtain ⟨gw2, rfl⟩ := hgw))
            rw [rounds_succ]
            go_wp2_with (go_at_call 64; (with_reducible refine Calls.mono (ref09_AroundIs k0 rf af lf cf F u v rx ry 3 3 rfl _ _ HA3 ?_ (by omega) (by omega) (by omega) (by omega) (by omega) (by omega)) ?_); (exact Lib.hid (BufAt.grows HSRC.out (by repeat (first | exact Grows.refl _ | apply Grows.grow | apply Grows.alloc | apply Grows.drew)))); rintro e w' ⟨rfl, hgw⟩; first | (obtain ⟨gw3, rfl⟩ := grows_of_grow hgw) | (obtain ⟨gw3, rfl⟩ := hgw))
            rw [rounds_succ]
            go_wp2_with (go_at_call 65; refine (ref05_With b a' k cap' (fun i => F' (ptX b i) (ptY b i)) A W0.heap.size _ (Lib.hid (ownsRow_grows hh.out.2.own (by repeat (first | exact Grows.refl _ | apply Grows.grow | apply Grows.alloc | apply Grows.drew)))) hfk hk (by simp; omega)).mono ?_; rintro e w1 ⟨g, c1', rfl, h1, h2, h4⟩; obtain ⟨PB, PST⟩ := hh.out.2.push5 (by exact (by repeat (first | exact Grows.refl _ | apply Grows.grow | apply Grows.alloc | apply Grows.drew))) h1 h2; obtain ⟨q0, q1, q2, q3, q4, qf⟩ := PB.c5; have ql := PB.lt; replace PST := Lib.hid PST; clear h1 h2 h4 PB)
            go_roundw
            case rel => exact ⟨u + 1, k + 1, _, _, by omega, by omega, by go_num, by rw [idx_next]; omega, PST.out⟩
            case measure => simp [intOf]; omega
          · obtain rfl : u = b.x1 := by omega
            go_wp2
            go_roundw
            case rel => exact ⟨v + 1, k, a', cap', by omega, by omega, by go_num, by have := hh.out.1; rw [idx_row] at this; exact this, hh.out.2⟩
            case measure => simp [intOf]; omega
      · obtain rfl : v = b.y1 := by omega
        have bo := hh.out.2.ob
        obtain ⟨o0, o1, o2, o3, o4, of⟩ := bo.c5
        have b3 := hh.out.2.blk B2.out (by omega)
        obtain ⟨e0, e1, e2, e3, e4, ef⟩ := b3.c5
        have H3 := Lib.hid b3
        have l3 := b3.lt
        have lo := bo.lt
        clear b3 bo b1
        go_wp2
        obtain ⟨D1, D2⟩ := hh.out.2.done HG.out HF.out hh.out.1 GW.out (n := w.heap.size + 1 + 1) (by omega) (by omega) (by omega) (.int .i64 b.x0) (.int .i64 b.y0) (.int .i64 b.x1) (.int .i64 b.y1) (.slice a' k cap')
        refine bodyPost_ret (results_cell_row rfl _ _ _ 32 #[.int .i64 b.x0, .int .i64 b.y0, .int .i64 b.x1, .int .i64 b.y1, .slice a' k cap'] (0, 0) _ rfl (H3.out.set5 _ _ _ _ _) Tryz.underlying32 rfl buf_info) rfl ⟨_, _, _, rfl, D1, D2⟩
  · have e : someR b = zeroR := by simp [someR, he]
    rw [e]
    clear e hs hb hg
    have e2 : cutF zeroR (fun u v => aroundP k0 F u v rx ry) = noF := by
      funext u v
      rw [cutF_out (hasR_zero u v)]; rfl
    rw [e2]
    clear e2
    go_enter Tryz.func29, Tryz.ntmps29
    go_wp2_with ((first | (go_at_call 63; refine (ref03_emptyR _ _).mono ?_; rintro e w' ⟨rfl, hgw⟩; first | (obtain ⟨gw, rfl⟩ := grows_of_grow hgw) | (obtain ⟨gw, rfl⟩ := hgw))))
    refine bodyPost_ret (results_cell_row rfl _ _ _ 32 #[.int .i64 0, .int .i64 0, .int .i64 0, .int .i64 0, .slice none 0 0] (0, 0) _ rfl ?_ Tryz.underlying32 rfl buf_info) rfl ⟨_, _, _, rfl, (by repeat (first | exact Grows.refl _ | apply Grows.grow | apply Grows.alloc | apply Grows.drew)), bufAt_zero _, Open.none_ _, fun x hx => by cases hx⟩
    exact (by repeat (first | exact blk_at _ _ _ (by first | omega | (simp; done) | (simp; omega)) | refine (blk_past _ _ _ (by first | omega | (simp; done) | (simp; omega))).trans ?_ | refine (heap_grow _ _ _ (by first | omega | (simp; done) | (simp; omega))).trans ?_ | refine (blk_drew _ _).trans ?_))
end Go.Proofs.YtklcmlbkhjcaiaaGreatDoor
