/- The walk of layer 10's Merge. -/
import Derived.Test.YticeoppldlhehaaMergeL
import Derived.Test.YticeoppldlhehaaMoveT
import Derived.Deep.RegionHeld3
namespace Go.Proofs.Yticeoppldlhehaa
open Go.RowKit
set_option linter.unusedVariables false

set_option maxRecDepth 100000 in
set_option maxHeartbeats 12800000 in
theorem move_Merge (b : R) (al : Option Addr) (ll cl : Nat) (g5 : Nat → Bf) (F : Nat → Img) (w : World) (hl : Hid (IsBufs w al ll cl g5)) (hbs : Hid (∀ i, i < ll → BufAt w (g5 i).r (g5 i).a (g5 i).len (g5 i).cap (F i) ∧ cntR (g5 i).r ≤ 30000000000000)) (hb : rightR b = true) (hs : cntR (someR b) ≤ 30000000000000) :
    Calls Try.prog 28 #[.slice al ll cl, .agg #[.int .i64 b.x0, .int .i64 b.y0, .int .i64 b.x1, .int .i64 b.y1]] w (RetBuf w (someR b) (mergeF (someR b) F ll)) := by
  have HG : Hid (GoodR (someR b)) := good_some hb
  have hgb := HG.out.bd
  have hgl := HG.out.le
  have HN : Hid (∀ w, Calls Try.prog 35 #[.agg #[.int .i64 b.x0, .int .i64 b.y0, .int .i64 b.x1, .int .i64 b.y1]] w (RetBuf w (someR b) noF)) := fun w => raster_New b w hb (by omega)
  obtain ⟨g, hg⟩ : ∃ g, g = someR b := ⟨_, rfl⟩
  rw [← hg] at HN HG hgb hgl hs ⊢
  have m1 := hl.out.le
  have m1' := hl.out.most
  clear hg hb
  go_enter Try.func28, Try.ntmps28
  go_wp2_with (first
    | (go_at_call 35
       refine (HN.out _).mono ?_
       rintro e w1 ⟨a, len, cap, rfl, hg1, hb1⟩
       have C2 : Hid (Blk w1 (w.heap.size + 1) 26 #[.int .i64 0, .int .i64 0, .int .i64 0, .int .i64 0, .slice none 0 0]) := by
         refine Blk.grows ?_ hg1
         exact (by unfold Blk; repeat (first | exact blk_at _ _ _ (by first | omega | (simp; done) | (simp; omega)) | refine (blk_past _ _ _ (by first | omega | (simp; done) | (simp; omega))).trans ?_ | refine (heap_grow _ _ _ (by first | omega | (simp; done) | (simp; omega))).trans ?_ | refine (blk_drew _ _).trans ?_))
       have GR : Hid (Grows w w1) := by
         refine Grows.trans ?_ hg1
         exact (by repeat (first | exact Grows.refl _ | apply Grows.grow | apply Grows.alloc | apply Grows.drew))
       have hsz : w.heap.size + 2 ≤ w1.heap.size := by have := hg1.below.size; simp at this; omega
       have HA : Hid (∀ k, blkOf a = some k → w.heap.size + 2 ≤ k ∧ k < w1.heap.size) := fun k hk => by
         cases a with
         | none => cases hk
         | some x =>
           have h1 := hb1.out.2.2 x rfl
           have h2 := (hb1.out.2.1 x rfl).1
           simp at hk h1
           omega
       have BU := Lib.hid hb1.out.1
       have OP := Lib.hid hb1.out.2.1
       clear hg1 hb1))
  have HA2 : Hid (∀ k, blkOf a = some k → w.heap.size ≤ k ∧ k ≠ w.heap.size + 1 ∧ k ≠ w1.heap.size) := fun k hk => by have := HA.out k hk; omega
  have hcg : cntR g ≤ 140737488355328 := by omega
  have GOK : Hid (∀ k u v, okP (mergeF g F k u v)) := mergeF_ok g F
  have GFI : Hid (∀ k, Fits g (mergeF g F k)) := merge_fits g F
  go_loopw [15] (fun z wr => ∃ k : Nat, k ≤ ll ∧ z = .int .i64 k ∧ Hid (MgSt w wr (w.heap.size + 1) w1.heap.size g a len cap (mergeF g F k))) (fun z _ => ll - (intOf z).toNat)
  case atStart => exact ⟨0, by omega, rfl, C2.out.grows (by repeat (first | exact Grows.refl _ | apply Grows.grow | apply Grows.alloc | apply Grows.drew)), (by unfold Blk; repeat (first | exact blk_at _ _ _ (by first | omega | (simp; done) | (simp; omega)) | refine (blk_past _ _ _ (by first | omega | (simp; done) | (simp; omega))).trans ?_ | refine (heap_grow _ _ _ (by first | omega | (simp; done) | (simp; omega))).trans ?_ | refine (blk_drew _ _).trans ?_)), GR.out.trans (by repeat (first | exact Grows.refl _ | apply Grows.grow | apply Grows.alloc | apply Grows.drew)), BU.out.grows (by repeat (first | exact Grows.refl _ | apply Grows.grow | apply Grows.alloc | apply Grows.drew)), OP.out.grows (by repeat (first | exact Grows.refl _ | apply Grows.grow | apply Grows.alloc | apply Grows.drew))⟩
  case round =>
    clear C2 GR BU OP HN
    obtain ⟨k, hk, rfl, hh⟩ := hrel
    by_cases hlt : k < ll
    · obtain ⟨b', off', rfl, hb', e0, e1, e2, e3, e4⟩ := (hl.out.grows hh.out.gr).at hlt
      have hbk := hbs.out k hlt
      obtain ⟨rk, hrk⟩ : ∃ z, z = (g5 k).r := ⟨_, rfl⟩
      obtain ⟨ak, hak⟩ : ∃ z, z = (g5 k).a := ⟨_, rfl⟩
      obtain ⟨lk, hlk⟩ : ∃ z, z = (g5 k).len := ⟨_, rfl⟩
      obtain ⟨ck, hck⟩ : ∃ z, z = (g5 k).cap := ⟨_, rfl⟩
      obtain ⟨Fk, hFk⟩ : ∃ z, z = F k := ⟨_, rfl⟩
      rw [← hrk, ← hak, ← hlk, ← hck, ← hFk] at hbk
      rw [← hrk] at e0 e1 e2 e3
      rw [← hak, ← hlk, ← hck] at e4
      obtain ⟨hbk1, hck1⟩ := hbk
      have BK := Lib.hid hbk1
      have FOK : Hid (∀ u v, okP (Fk u v)) := hbk1.fits.ok
      have hmg : GoodR (meetR g rk) := good_meet HG.out.near hbk1.good.near
      have HM : Hid (∀ u v, hasR (meetR g rk) u v = true → hasR g u v = true) := fun u v h => by rw [has_meet] at h; revert h; cases hasR g u v <;> simp
      have MEQ : Hid (upTo (meetR g rk) (overF Fk (mergeF g F k)) (meetR g rk).y1 (meetR g rk).x0 (mergeF g F k) = mergeF g F (k + 1)) := by
        rw [merge_last hbk1.fits (GFI.out k)]
        show _ = cutF g (overF (F k) (mergeF g F k))
        rw [hFk]
      have HMC : Hid (∀ w, Calls Try.prog 47 #[.agg #[.int .i64 g.x0, .int .i64 g.y0, .int .i64 g.x1, .int .i64 g.y1], .agg #[.int .i64 rk.x0, .int .i64 rk.y0, .int .i64 rk.x1, .int .i64 rk.y1]] w fun e w' => e = .returned (.agg #[.int .i64 (meetR g rk).x0, .int .i64 (meetR g rk).y0, .int .i64 (meetR g rk).x1, .int .i64 (meetR g rk).y1]) ∧ Grows w w') := fun w => rect_meetR g rk w
      have hmb := hmg.bd
      have hml := hmg.le
      have GKO : Hid (∀ u v, okP (mergeF g F k u v)) := GOK.out k
      obtain ⟨m, hm⟩ : ∃ m, m = meetR g rk := ⟨_, rfl⟩
      obtain ⟨Gk, hGk⟩ : ∃ z, z = mergeF g F k := ⟨_, rfl⟩
      rw [← hm] at HM HMC hmb hml
      rw [← hm, ← hGk] at MEQ
      rw [← hGk] at GKO hh
      have hn2 := hh.out.ob.lt
      obtain ⟨o0, o1, o2, o3, o4, of⟩ := hh.out.ob.c5
      clear hrk hak hlk hck hFk hbk1 hmg hm hGk
      go_wp2_with (go_at_call 47; refine (HMC.out _).mono ?_; rintro e w' ⟨rfl, hgw⟩; first | (obtain ⟨gw, rfl⟩ := grows_of_grow hgw) | (obtain ⟨gw, rfl⟩ := hgw))
      refine wp_name ?_
      intro W0 hW0
      have BB : Hid (Blk W0 wr.heap.size 26 #[.int .i64 rk.x0, .int .i64 rk.y0, .int .i64 rk.x1, .int .i64 rk.y1, .slice ak lk ck]) := by rw [hW0]; exact (by unfold Blk; repeat (first | exact blk_at _ _ _ (by first | omega | (simp; done) | (simp; omega)) | refine (blk_past _ _ _ (by first | omega | (simp; done) | (simp; omega))).trans ?_ | refine (heap_grow _ _ _ (by first | omega | (simp; done) | (simp; omega))).trans ?_ | refine (blk_drew _ _).trans ?_))
      have BM : Hid (Blk W0 (wr.heap.size + 1 + gw.news.size) 23 #[.int .i64 m.x0, .int .i64 m.y0, .int .i64 m.x1, .int .i64 m.y1]) := by rw [hW0]; exact (by unfold Blk; repeat (first | exact blk_at _ _ _ (by first | omega | (simp; done) | (simp; omega)) | refine (blk_past _ _ _ (by first | omega | (simp; done) | (simp; omega))).trans ?_ | refine (heap_grow _ _ _ (by first | omega | (simp; done) | (simp; omega))).trans ?_ | refine (blk_drew _ _).trans ?_))
      have ST : Hid (MgSt w W0 (w.heap.size + 1) w1.heap.size g a len cap Gk) := by rw [hW0]; exact hh.out.grows (by repeat (first | exact Grows.refl _ | apply Grows.grow | apply Grows.alloc | apply Grows.drew))
      obtain ⟨nm, hnm⟩ : ∃ n, n = wr.heap.size + 1 + gw.news.size := ⟨_, rfl⟩
      rw [← hnm] at BM ⊢
      obtain ⟨nb, hnb⟩ : ∃ n, n = wr.heap.size := ⟨_, rfl⟩
      rw [← hnb] at BB hnm hn2 ⊢
      have hnn : nb < nm := by omega
      have HB : Hid (some nb ≠ blkOf a ∧ some nm ≠ blkOf a) := ⟨fun e => by have := HA.out _ e.symm; omega, fun e => by have := HA.out _ e.symm; omega⟩
      clear hW0 hnm hnb hh o0 o1 o2 o3 o4 of e0 e1 e2 e3 e4 hb' HMC
      obtain ⟨wo, hwo⟩ : ∃ wo : World, wo = wr := ⟨_, rfl⟩
      clear hwo
      go_loopw [9] (fun z wr => ∃ v : Int, m.y0 ≤ v ∧ v ≤ m.y1 ∧ z = .int .i64 v ∧ Hid (MgSt w wr (w.heap.size + 1) w1.heap.size g a len cap (upTo m (overF Fk Gk) v m.x0 Gk) ∧ Blk wr nb 26 #[.int .i64 rk.x0, .int .i64 rk.y0, .int .i64 rk.x1, .int .i64 rk.y1, .slice ak lk ck] ∧ Blk wr nm 23 #[.int .i64 m.x0, .int .i64 m.y0, .int .i64 m.x1, .int .i64 m.y1])) (fun z _ => (m.y1 - intOf z).toNat)
      case atStart => exact ⟨_, by omega, by omega, rfl, by rw [upTo_first]; exact ST.out, BB.out, BM.out⟩
      case round =>
        clear ST BB BM
        obtain ⟨v, hv1, hv2, rfl, hh⟩ := hrel
        obtain ⟨m0, m1, m2, m3, mf⟩ := hh.out.2.2.c4
        have lm := hh.out.2.2.lt
        by_cases hlty : v < m.y1
        · go_wp2
          clear m0 m1 m2 m3 mf lm
          obtain ⟨wo, hwo⟩ : ∃ wo : World, wo = wr := ⟨_, rfl⟩
          clear hwo
          go_loopw [10] (fun z wr => ∃ u : Int, m.x0 ≤ u ∧ u ≤ m.x1 ∧ z = .int .i64 u ∧ Hid (MgSt w wr (w.heap.size + 1) w1.heap.size g a len cap (upTo m (overF Fk Gk) v u Gk) ∧ Blk wr nb 26 #[.int .i64 rk.x0, .int .i64 rk.y0, .int .i64 rk.x1, .int .i64 rk.y1, .slice ak lk ck] ∧ Blk wr nm 23 #[.int .i64 m.x0, .int .i64 m.y0, .int .i64 m.x1, .int .i64 m.y1])) (fun z _ => (m.x1 - intOf z).toNat)
          case atStart => exact ⟨_, by omega, by omega, rfl, hh.out⟩
          case round =>
            clear hh
            obtain ⟨u, hu1, hu2, rfl, hh⟩ := hrel
            obtain ⟨m0, m1, m2, m3, mf⟩ := hh.out.2.2.c4
            have lm := hh.out.2.2.lt
            by_cases hltx : u < m.x1
            · have hhm : hasR m u v = true := (hasR_iff _ _ _).2 (by omega)
              have hhas : hasR g u v = true := HM.out u v hhm
              obtain ⟨q, hq⟩ : ∃ q, q = Fk u v := ⟨_, rfl⟩
              obtain ⟨q2, hq2⟩ : ∃ q, q = Gk u v := ⟨_, rfl⟩
              obtain ⟨PP, hPP⟩ : ∃ z, z = compP 0 q q2 := ⟨_, rfl⟩
              have HQ0 : Hid (Fk u v = q) := hq.symm
              have HQ1 : Hid (upTo m (overF Fk Gk) v u Gk u v = q2) := by rw [hq2]; exact upTo_at
              have HOV : Hid (compP 0 q q2 = PP) := hPP.symm
              have QO : okP q := by rw [hq]; exact FOK.out _ _
              have QO2 : okP q2 := by rw [hq2]; exact GKO.out _ _
              have POK : okP PP := by rw [hPP]; exact compP_ok _ _ _
              have NX : Hid (putF g (upTo m (overF Fk Gk) v u Gk) u v PP = upTo m (overF Fk Gk) v (u + 1) Gk) := by
                rw [hPP, hq, hq2]; exact upTo_put (G := overF Fk Gk) hhas hhm
              obtain ⟨s0, s1, s2, s3, s4, sf⟩ := hh.out.2.1.c5
              have ls' := hh.out.2.1.lt
              obtain ⟨o0, o1, o2, o3, o4, of⟩ := hh.out.1.ob.c5
              have lo := hh.out.1.ob.lt
              have HSRC := Lib.hid (BK.out.grows hh.out.1.gr)
              have HSRC2 := Lib.hid hh.out.1.buf
              clear hq hq2 hPP hhm hhas
              go_wp2
              first | refine region_grow_tail2 11 (by kernel_rfl) (by kernel_rfl) ?_ | refine region_grow_tail 11 (by kernel_rfl) (by kernel_rfl) ?_
              simp only [List.take_succ_cons, List.take_zero, List.drop_succ_cons, List.drop_zero]
              repeat (go_big_quiet_step ((first | (go_at_call 38; exact grow_of (raster_AtIs _ _ _ _ _ _ _ _ _ (Lib.hid (BufAt.grows HSRC.out (by repeat (first | exact Grows.refl _ | apply Grows.grow | apply Grows.alloc | apply Grows.drew)))) (by omega) HQ0)) | (go_at_call 38; exact grow_of (raster_AtIs _ _ _ _ _ _ _ _ _ (Lib.hid (BufAt.grows HSRC2.out (by repeat (first | exact Grows.refl _ | apply Grows.grow | apply Grows.alloc | apply Grows.drew)))) hcg HQ1)) | (go_at_call 48; exact grow_of (mix_overIs _ _ _ _ (by assumption) (by assumption) HOV)))))
              refine wpQuiet_nil ?_
              rintro _ ⟨gd, rfl⟩
              go_wp2_with (go_at_call 37; refine (raster_Put w1.heap.size g a len cap _ _ _ PP _ (Lib.hid (hh.out.1.ob.grows (by repeat (first | exact Grows.refl _ | apply Grows.grow | apply Grows.alloc | apply Grows.drew)))) (Lib.hid (hh.out.1.buf.grows (by repeat (first | exact Grows.refl _ | apply Grows.grow | apply Grows.alloc | apply Grows.drew)))) (Lib.hid (hh.out.1.open_.grows (by repeat (first | exact Grows.refl _ | apply Grows.grow | apply Grows.alloc | apply Grows.drew)))) hcg POK).mono ?_; rintro e w2 ⟨rfl, hg1, hb1, hp1⟩; rw [NX.out] at hb1; have BB2 := Lib.hid ((hh.out.2.1.grows (by exact (by repeat (first | exact Grows.refl _ | apply Grows.grow | apply Grows.alloc | apply Grows.drew)))).grown hg1 HB.out.1); have BM2 := Lib.hid ((hh.out.2.2.grows (by exact (by repeat (first | exact Grows.refl _ | apply Grows.grow | apply Grows.alloc | apply Grows.drew)))).grown hg1 HB.out.2); have ST2 := Lib.hid ((hh.out.1.grows (by exact (by repeat (first | exact Grows.refl _ | apply Grows.grow | apply Grows.alloc | apply Grows.drew)))).step HA2.out hg1 hb1 hp1); clear hg1 hb1 hp1)
              go_roundw
              case rel => exact ⟨u + 1, by omega, by omega, by go_num, ST2.out.grows (by repeat (first | exact Grows.refl _ | apply Grows.grow | apply Grows.alloc | apply Grows.drew)), BB2.out.grows (by repeat (first | exact Grows.refl _ | apply Grows.grow | apply Grows.alloc | apply Grows.drew)), BM2.out.grows (by repeat (first | exact Grows.refl _ | apply Grows.grow | apply Grows.alloc | apply Grows.drew))⟩
              case measure => simp [intOf]; omega
            · obtain rfl : u = m.x1 := by omega
              go_wp2
              go_roundw
              case rel =>
                have st := hh.out
                rw [upTo_row] at st
                exact ⟨v + 1, by omega, by omega, by go_num, st⟩
              case measure => simp [intOf]; omega
        · obtain rfl : v = m.y1 := by omega
          have ST := Lib.hid hh.out.1
          rw [MEQ.out] at ST
          go_wp2
          go_roundw
          case rel => exact ⟨k + 1, by omega, by go_num, ST.out⟩
          case measure => simp [intOf]; omega
    · obtain rfl : ll = k := by omega
      obtain ⟨q0, q1, q2, q3, q4, qf⟩ := hh.out.rb.c5
      have lq := hh.out.rb.lt
      obtain ⟨o0, o1, o2, o3, o4, of⟩ := hh.out.ob.c5
      have lo := hh.out.ob.lt
      go_wp2
      obtain ⟨D1, D2⟩ := ret_cell hh.out.buf hh.out.open_ hh.out.gr (n := w.heap.size + 1) (by omega) (fun k hk => ⟨(HA2.out k hk).1, (HA2.out k hk).2.1⟩) (.int .i64 g.x0) (.int .i64 g.y0) (.int .i64 g.x1) (.int .i64 g.y1) (.slice a len cap)
      refine bodyPost_ret (results_cell_row rfl _ _ _ 26 #[.int .i64 g.x0, .int .i64 g.y0, .int .i64 g.x1, .int .i64 g.y1, .slice a len cap] (0, 0) _ rfl (hh.out.rb.set5 _ _ _ _ _) Try.underlying26 rfl buf_info) rfl ⟨_, _, _, rfl, D1, D2⟩
end Go.Proofs.Yticeoppldlhehaa
