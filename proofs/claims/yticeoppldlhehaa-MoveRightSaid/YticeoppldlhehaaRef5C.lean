/- The walk of the reference's 'Copy': pixel by pixel. -/
import Derived.Test.YticeoppldlhehaaRef5
namespace Go.Proofs.Yticeoppldlhehaa
open Go.RowKit
set_option linter.unusedVariables false

theorem Fits.copy {r s rf : R} {dx dy : Int} {F G : Img} (h : Fits r F) (k : Fits rf G) : Fits r (copyF r s dx dy F G) :=
  ⟨fun x y => by unfold copyF; split; exact k.ok _ _; exact h.ok x y, fun x y hn => by unfold copyF; rw [if_neg (by simp [hn])]; exact h.out x y hn⟩

set_option maxHeartbeats 3200000 in
theorem ref05_Copy (r rf s : R) (dx dy : Int) (a af : Option Addr) (len cap lf cf : Nat) (F G : Img) (w : World) (h : Hid (BufAt w r a len cap F)) (hf : Hid (BufAt w rf af lf cf G)) (hs : cntR r ≤ 30000000000000) (hsf : cntR rf ≤ 30000000000000) (hdx : -4398046511104 ≤ dx ∧ dx ≤ 4398046511104) (hdy : -4398046511104 ≤ dy ∧ dy ≤ 4398046511104) :
    Calls Try.prog 43 #[.agg #[.int .i64 r.x0, .int .i64 r.y0, .int .i64 r.x1, .int .i64 r.y1, .slice a len cap], .agg #[.int .i64 rf.x0, .int .i64 rf.y0, .int .i64 rf.x1, .int .i64 rf.y1, .slice af lf cf], .agg #[.int .i64 s.x0, .int .i64 s.y0, .int .i64 s.x1, .int .i64 s.y1], .int .i64 dx, .int .i64 dy] w (RetBuf w r (copyF r s dx dy F G)) := by
  have hm := h.out.most
  have hmf := hf.out.most
  have hg := h.out.good
  have hbd := hg.bd
  have hle := hg.le
  have HG := Lib.hid hg
  have HF : Hid (Fits r (copyF r s dx dy F G)) := h.out.fits.copy hf.out.fits
  have HFF : Hid (∀ u v, hasR r u v = true → copyF r s dx dy F G u v = if hasR s u v = true then G (u - dx) (v - dy) else F u v) := fun u v k => by simp [copyF, k]
  obtain ⟨F', hF'⟩ : ∃ F', F' = copyF r s dx dy F G := ⟨_, rfl⟩
  rw [← hF'] at HF HFF ⊢
  clear hg hF'
  go_enter Try.func43, Try.ntmps43
  go_wp2
  refine wp_name ?_
  intro W0 hW0
  have B0 : Hid (Blk W0 w.heap.size 26 #[.int .i64 r.x0, .int .i64 r.y0, .int .i64 r.x1, .int .i64 r.y1, .slice a len cap]) := by rw [hW0]; exact (by unfold Blk; repeat (first | exact blk_at _ _ _ (by first | omega | (simp; done) | (simp; omega)) | refine (blk_past _ _ _ (by first | omega | (simp; done) | (simp; omega))).trans ?_ | refine (heap_grow _ _ _ (by first | omega | (simp; done) | (simp; omega))).trans ?_ | refine (blk_drew _ _).trans ?_))
  have B1 : Hid (Blk W0 (w.heap.size + 1) 26 #[.int .i64 rf.x0, .int .i64 rf.y0, .int .i64 rf.x1, .int .i64 rf.y1, .slice af lf cf]) := by rw [hW0]; exact (by unfold Blk; repeat (first | exact blk_at _ _ _ (by first | omega | (simp; done) | (simp; omega)) | refine (blk_past _ _ _ (by first | omega | (simp; done) | (simp; omega))).trans ?_ | refine (heap_grow _ _ _ (by first | omega | (simp; done) | (simp; omega))).trans ?_ | refine (blk_drew _ _).trans ?_))
  have B2 : Hid (Blk W0 (w.heap.size + 1 + 1) 23 #[.int .i64 s.x0, .int .i64 s.y0, .int .i64 s.x1, .int .i64 s.y1]) := by rw [hW0]; exact (by unfold Blk; repeat (first | exact blk_at _ _ _ (by first | omega | (simp; done) | (simp; omega)) | refine (blk_past _ _ _ (by first | omega | (simp; done) | (simp; omega))).trans ?_ | refine (heap_grow _ _ _ (by first | omega | (simp; done) | (simp; omega))).trans ?_ | refine (blk_drew _ _).trans ?_))
  have B3 : Hid (Blk W0 (w.heap.size + 1 + 1 + 1) 26 #[.int .i64 0, .int .i64 0, .int .i64 0, .int .i64 0, .slice none 0 0]) := by rw [hW0]; exact (by unfold Blk; repeat (first | exact blk_at _ _ _ (by first | omega | (simp; done) | (simp; omega)) | refine (blk_past _ _ _ (by first | omega | (simp; done) | (simp; omega))).trans ?_ | refine (heap_grow _ _ _ (by first | omega | (simp; done) | (simp; omega))).trans ?_ | refine (blk_drew _ _).trans ?_))
  have B4 : Blk W0 (w.heap.size + 1 + 1 + 1 + 1) 26 #[.int .i64 r.x0, .int .i64 r.y0, .int .i64 r.x1, .int .i64 r.y1, .slice none 0 0] := by rw [hW0]; exact (by unfold Blk; repeat (first | exact blk_at _ _ _ (by first | omega | (simp; done) | (simp; omega)) | refine (blk_past _ _ _ (by first | omega | (simp; done) | (simp; omega))).trans ?_ | refine (heap_grow _ _ _ (by first | omega | (simp; done) | (simp; omega))).trans ?_ | refine (blk_drew _ _).trans ?_))
  have GW : Hid (Grows w W0) := by rw [hW0]; exact (by repeat (first | exact Grows.refl _ | apply Grows.grow | apply Grows.alloc | apply Grows.drew))
  have hsz : W0.heap.size = w.heap.size + 1 + 1 + 1 + 1 + 1 := by rw [hW0]; simp
  have hsz' : w.heap.size + 1 + 1 + 1 + 1 < W0.heap.size := by omega
  have HS : Hid (BufAt W0 r a len cap F) := h.out.grows GW.out
  have HSf : Hid (BufAt W0 rf af lf cf G) := hf.out.grows GW.out
  have ST : Hid (AppSt W0 W0 (w.heap.size + 1 + 1 + 1 + 1) r none 0 0 (fun i => F' (ptX r i) (ptY r i))) := AppSt.start _ B4
  clear hW0 hsz B4
  go_loopw [12] (fun y wr => ∃ (v : Int) (k : Nat) (a' : Option Addr) (cap' : Nat), r.y0 ≤ v ∧ v ≤ r.y1 ∧ y = .int .i64 v ∧ Hid ((k : Int) = idxR r r.x0 v ∧ AppSt W0 wr (w.heap.size + 1 + 1 + 1 + 1) r a' k cap' (fun i => F' (ptX r i) (ptY r i)))) (fun y _ => (r.y1 - intOf y).toNat)
  case atStart => exact ⟨_, 0, none, 0, by omega, by omega, rfl, by rw [idx_first]; rfl, ST.out⟩
  case round =>
    clear ST
    obtain ⟨v, k, a', cap', hv1, hv2, rfl, hh⟩ := hrel
    have b0 := hh.out.2.blk B0.out (by omega)
    obtain ⟨d0, d1, d2, d3, d4, df⟩ := b0.c5
    by_cases hlt : v < r.y1
    · go_wp2
      clear d0 d1 d2 d3 d4 df b0
      obtain ⟨wo, hwo⟩ : ∃ wo : World, wo = wr := ⟨_, rfl⟩
      clear hwo
      go_loopw [13] (fun x wr => ∃ (u : Int) (k : Nat) (a' : Option Addr) (cap' : Nat), r.x0 ≤ u ∧ u ≤ r.x1 ∧ x = .int .i64 u ∧ Hid ((k : Int) = idxR r u v ∧ AppSt W0 wr (w.heap.size + 1 + 1 + 1 + 1) r a' k cap' (fun i => F' (ptX r i) (ptY r i)))) (fun x _ => (r.x1 - intOf x).toNat)
      case atStart => exact ⟨_, k, a', cap', by omega, by omega, rfl, hh.out⟩
      case round =>
        clear hh
        obtain ⟨u, k, a', cap', hu1, hu2, rfl, hh⟩ := hrel
        have b0 := hh.out.2.blk B0.out (by omega)
        obtain ⟨d0, d1, d2, d3, d4, df⟩ := b0.c5
        by_cases hltx : u < r.x1
        · have hin : hasR r u v = true := (hasR_iff _ _ _).2 (by omega)
          have hcnt := HG.out.idx hin
          have hk : k ≤ 30000000000000 := by have := hh.out.1; omega
          have b1 := hh.out.2.blk B1.out (by omega)
          have b2 := hh.out.2.blk B2.out (by omega)
          obtain ⟨s0, s1, s2, s3, s4, sf⟩ := b1.c5
          obtain ⟨p0, p1, p2, p3, pf⟩ := b2.c4
          have bo := hh.out.2.ob
          obtain ⟨o0, o1, o2, o3, o4, of⟩ := bo.c5
          have l0 := b0.lt
          have l1 := b1.lt
          have l2 := b2.lt
          have lo := bo.lt
          have HSRC : Hid (BufAt wr r a len cap F) := h.out.far HS.out hh.out.2.by_ (by omega)
          have HSRC2 : Hid (BufAt wr rf af lf cf G) := hf.out.far HSf.out hh.out.2.by_ (by omega)
          have hbase := hh.out.2.by_.size
          have hpx := HFF.out u v hin
          have hfk : Hid ((fun i => F' (ptX r i) (ptY r i)) k = F' u v) := by
            show F' (ptX r k) (ptY r k) = _
            rw [ptX_of hin hh.out.1, ptY_of hin hh.out.1]
          clear b0 b1 b2 bo
          cases hc : hasR s u v
          · rw [hc] at hpx
            simp only [Bool.false_eq_true, if_false] at hpx
            have hfk' : Hid ((fun i => F' (ptX r i) (ptY r i)) k = F u v) := hfk.out.trans hpx
            clear hpx hfk
            go_wp2_with (first | (first | (go_at_call 16; (with_reducible refine (ref05_At _ _ _ _ _ _ _ _ (Lib.hid (BufAt.grows HSRC.out (by repeat (first | exact Grows.refl _ | apply Grows.grow | apply Grows.alloc | apply Grows.drew)))) (by omega)).mono ?_); rintro e w' ⟨rfl, hgw⟩; first | (obtain ⟨gw, rfl⟩ := grows_of_grow hgw) | (obtain ⟨gw, rfl⟩ := hgw)) | (go_at_call 16; (with_reducible refine (ref05_At _ _ _ _ _ _ _ _ (Lib.hid (BufAt.grows HSRC2.out (by repeat (first | exact Grows.refl _ | apply Grows.grow | apply Grows.alloc | apply Grows.drew)))) (by omega)).mono ?_); rintro e w' ⟨rfl, hgw⟩; first | (obtain ⟨gw, rfl⟩ := grows_of_grow hgw) | (obtain ⟨gw, rfl⟩ := hgw)) | (go_at_call 15; refine (ref03_hasR _ _ _ _).mono ?_; rintro e w' ⟨rfl, hgw⟩; first | (obtain ⟨gw, rfl⟩ := grows_of_grow hgw) | (obtain ⟨gw, rfl⟩ := hgw))) | (at_builtin; refine wpList_append_one rfl (.tmp 55) (.tmp 57) rfl W0.heap.size a' k cap' _ (F u v) rfl (ownsRow_grows hh.out.2.own (by repeat (first | exact Grows.refl _ | apply Grows.grow | apply Grows.alloc | apply Grows.drew))) _ 1 rfl (by unfold Blk; repeat (first | exact blk_at _ _ _ (by first | omega | (simp; done) | (simp; omega)) | refine (blk_past _ _ _ (by first | omega | (simp; done) | (simp; omega))).trans ?_ | refine (heap_grow _ _ _ (by first | omega | (simp; done) | (simp; omega))).trans ?_ | refine (blk_drew _ _).trans ?_)) hfk'.out hk (by simp; omega) ?_; intro g c1 w1 h1 h2 h3 h4; obtain ⟨PB, PST⟩ := hh.out.2.push (by repeat (first | exact Grows.refl _ | apply Grows.grow | apply Grows.alloc | apply Grows.drew)) h1 h2; obtain ⟨q0, q1, q2, q3, q4, qf⟩ := PB.c5; have ql := PB.lt; replace PST := Lib.hid PST; clear h1 h2 h3 h4 PB))
            go_roundw
            case rel => exact ⟨u + 1, k + 1, _, _, by omega, by omega, by go_num, by rw [idx_next]; have := hh.out.1; omega, PST.out⟩
            case measure => simp [intOf]; omega
          · rw [hc] at hpx
            simp only [if_true] at hpx
            have hfk' : Hid ((fun i => F' (ptX r i) (ptY r i)) k = G (u - dx) (v - dy)) := hfk.out.trans hpx
            clear hpx hfk
            go_wp2_with (first | (first | (go_at_call 16; (with_reducible refine (ref05_At _ _ _ _ _ _ _ _ (Lib.hid (BufAt.grows HSRC.out (by repeat (first | exact Grows.refl _ | apply Grows.grow | apply Grows.alloc | apply Grows.drew)))) (by omega)).mono ?_); rintro e w' ⟨rfl, hgw⟩; first | (obtain ⟨gw, rfl⟩ := grows_of_grow hgw) | (obtain ⟨gw, rfl⟩ := hgw)) | (go_at_call 16; (with_reducible refine (ref05_At _ _ _ _ _ _ _ _ (Lib.hid (BufAt.grows HSRC2.out (by repeat (first | exact Grows.refl _ | apply Grows.grow | apply Grows.alloc | apply Grows.drew)))) (by omega)).mono ?_); rintro e w' ⟨rfl, hgw⟩; first | (obtain ⟨gw, rfl⟩ := grows_of_grow hgw) | (obtain ⟨gw, rfl⟩ := hgw)) | (go_at_call 15; refine (ref03_hasR _ _ _ _).mono ?_; rintro e w' ⟨rfl, hgw⟩; first | (obtain ⟨gw, rfl⟩ := grows_of_grow hgw) | (obtain ⟨gw, rfl⟩ := hgw))) | (at_builtin; refine wpList_append_one rfl (.tmp 55) (.tmp 57) rfl W0.heap.size a' k cap' _ (G (u - dx) (v - dy)) rfl (ownsRow_grows hh.out.2.own (by repeat (first | exact Grows.refl _ | apply Grows.grow | apply Grows.alloc | apply Grows.drew))) _ 1 rfl (by unfold Blk; repeat (first | exact blk_at _ _ _ (by first | omega | (simp; done) | (simp; omega)) | refine (blk_past _ _ _ (by first | omega | (simp; done) | (simp; omega))).trans ?_ | refine (heap_grow _ _ _ (by first | omega | (simp; done) | (simp; omega))).trans ?_ | refine (blk_drew _ _).trans ?_)) hfk'.out hk (by simp; omega) ?_; intro g c1 w1 h1 h2 h3 h4; obtain ⟨PB, PST⟩ := hh.out.2.push (by repeat (first | exact Grows.refl _ | apply Grows.grow | apply Grows.alloc | apply Grows.drew)) h1 h2; obtain ⟨q0, q1, q2, q3, q4, qf⟩ := PB.c5; have ql := PB.lt; replace PST := Lib.hid PST; clear h1 h2 h3 h4 PB))
            go_roundw
            case rel => exact ⟨u + 1, k + 1, _, _, by omega, by omega, by go_num, by rw [idx_next]; have := hh.out.1; omega, PST.out⟩
            case measure => simp [intOf]; omega
        · obtain rfl : u = r.x1 := by omega
          go_wp2
          go_roundw
          case rel => exact ⟨v + 1, k, a', cap', by omega, by omega, by go_num, by have := hh.out.1; rw [idx_row] at this; exact this, hh.out.2⟩
          case measure => simp [intOf]; omega
    · obtain rfl : v = r.y1 := by omega
      have bo := hh.out.2.ob
      obtain ⟨o0, o1, o2, o3, o4, of⟩ := bo.c5
      have b3 := hh.out.2.blk B3.out (by omega)
      obtain ⟨e0, e1, e2, e3, e4, ef⟩ := b3.c5
      have H3 := Lib.hid b3
      have l3 := b3.lt
      have lo := bo.lt
      clear b3 bo b0
      go_wp2
      obtain ⟨D1, D2⟩ := hh.out.2.done HG.out HF.out hh.out.1 GW.out (n := w.heap.size + 1 + 1 + 1) (by omega) (by omega) (by omega) (.int .i64 r.x0) (.int .i64 r.y0) (.int .i64 r.x1) (.int .i64 r.y1) (.slice a' k cap')
      refine bodyPost_ret (results_cell_row rfl _ _ _ 26 #[.int .i64 r.x0, .int .i64 r.y0, .int .i64 r.x1, .int .i64 r.y1, .slice a' k cap'] (0, 0) _ rfl (H3.out.set5 _ _ _ _ _) Try.underlying26 rfl buf_info) rfl ⟨_, _, _, rfl, D1, D2⟩
end Go.Proofs.Yticeoppldlhehaa
