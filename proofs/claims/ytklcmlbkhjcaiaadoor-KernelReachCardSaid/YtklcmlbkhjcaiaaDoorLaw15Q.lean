/- The walk of chapter 15's law KernelReach. -/
import Derived.Test.YtklcmlbkhjcaiaaDoorLaw15B
import Derived.Test.YtklcmlbkhjcaiaaDoorReachW



namespace Go.Proofs.YtklcmlbkhjcaiaaDoor
open Go.RowKit
set_option linter.unusedVariables false

set_option maxRecDepth 100000 in
set_option maxHeartbeats 51200000 in
theorem kernelReach_walk (op : Int) (ia : Option Addr) (il ic : Nat) (is : Nat → Int) (pa : Option Addr) (pl pc : Nat) (ps : Nat → Int) (al : Option Addr) (ll cl : Nat) (g5 : Nat → Bf) (s : R) (w : World) (hop : -9223372036854775808 ≤ op ∧ op ≤ 9223372036854775807) (ht : Tabs w) (hi : IsInts w ia il ic is) (hp : IsInts w pa pl pc ps) (hb : IsBufs w al ll cl g5) :
    Calls Tryd.prog 5 #[.agg #[.int .i64 op, .slice ia il ic, .slice pa pl pc], .slice al ll cl, .agg #[.int .i64 s.x0, .int .i64 s.y0, .int .i64 s.x1, .int .i64 s.y1]] w fun e w' => e = .returned (.bool true) ∧ Grows w w' := by
  have m1 := hi.le
  have m2 := hi.most
  have m3 := hp.le
  have m4 := hp.most
  have m5 := hb.le
  have m6 := hb.most
  replace ht := Lib.hid ht
  replace hi := Lib.hid hi
  replace hp := Lib.hid hp
  replace hb := Lib.hid hb
  have HFI : Hid (∀ W c, Grows w W → fine15 op il is pl ps ll g5 s = c → Calls Tryd.prog 8 #[.agg #[.int .i64 op, .slice ia il ic, .slice pa pl pc], .slice al ll cl, .agg #[.int .i64 s.x0, .int .i64 s.y0, .int .i64 s.x1, .int .i64 s.y1]] W fun e w' => e = .returned (.bool c) ∧ Grows W w') := fun W c g hc => law15_fine op ia il ic is pa pl pc ps al ll cl g5 s c W (Lib.hid (ht.out.grows g)) (Lib.hid (hi.out.grows g)) (Lib.hid (hp.out.grows g)) (Lib.hid (hb.out.grows g)) (Lib.hid hc)
  cases c_F : fine15 op il is pl ps ll g5 s
  case false =>
    have CF := Lib.hid c_F
    clear c_F
    go_enter Tryd.func5, Tryd.ntmps5
    go_wp2_with (first | (first | (go_at_call 7; refine (awake15 _ ).mono ?_; rintro e w' ⟨rfl, hgw⟩; first | (obtain ⟨gw, rfl⟩ := grows_of_grow hgw) | (obtain ⟨gw, rfl⟩ := hgw))) | (go_at_call 8; (with_reducible refine Calls.mono (HFI.out _ false ?_ CF.out) ?_); (exact (by repeat (first | exact Grows.refl _ | apply Grows.grow | apply Grows.alloc | apply Grows.drew))); rintro e w' ⟨rfl, hgw⟩; first | (obtain ⟨gw, rfl⟩ := grows_of_grow hgw) | (obtain ⟨gw, rfl⟩ := hgw)))
    go_ret
    exact ⟨rfl, (by repeat (first | exact Grows.refl _ | apply Grows.grow | apply Grows.alloc | apply Grows.drew))⟩
  have CF := Lib.hid c_F
  have FI := fine15_yes c_F
  clear c_F
  obtain rfl := FI.len
  have h8 := FI.few.1
  obtain ⟨F, hF⟩ : ∃ F : Nat → Img, F = fun i => imgOf (g5 i).r (g5 i).f := ⟨_, rfl⟩
  have HBA : Hid (∀ i, i < ll → BufAt w (g5 i).r (g5 i).a (g5 i).len (g5 i).cap (F i) ∧ cntR (g5 i).r ≤ 300) := fun i hi => by rw [hF]; exact FI.bufAt hb.out hi
  have HDO : Hid (∀ W, Grows w W → Calls Tryd.prog 13 #[.agg #[.int .i64 op, .slice ia ll ic, .slice pa pl pc], .slice al ll cl, .agg #[.int .i64 s.x0, .int .i64 s.y0, .int .i64 s.x1, .int .i64 s.y1]] W (RetBuf W (someR s) (doF op ps ll F s))) := fun W g => kernel_Do op ia ll ic pa pl pc ps al ll cl g5 F s W (Lib.hid (hp.out.grows g)) FI.plen (Lib.hid (hb.out.grows g)) (Lib.hid (fun i hi => ⟨(HBA.out i hi).1.grows g, by have := (HBA.out i hi).2; omega⟩)) FI.node FI.small (by have := FI.cnt; omega) FI.rad FI.rad11
  have K4 : cntR (someR s) ≤ 200 := FI.cnt
  have hsm := FI.small
  have HRT : Hid (∀ i, i < ll → rightR (g5 i).r = true) := fun i hi => (HBA.out i hi).1.good.near
  have HRE : Hid (∀ W a cap, Grows w W → Hid (IsRects W a ll cap (fun j => (g5 j).r)) → Calls Tryd.prog 22 #[.agg #[.int .i64 op, .slice ia ll ic, .slice pa pl pc], .slice a ll cap] W fun e w' => e = .returned (.agg #[.int .i64 (reachR op ps ll (fun j => (g5 j).r)).x0, .int .i64 (reachR op ps ll (fun j => (g5 j).r)).y0, .int .i64 (reachR op ps ll (fun j => (g5 j).r)).x1, .int .i64 (reachR op ps ll (fun j => (g5 j).r)).y1]) ∧ Grows W w') := fun W a cap g hl => ref13_Reach op ia ll ic pa pl pc ps a ll cap _ W (Lib.hid (hp.out.grows g)) FI.plen hl FI.node HRT.out
  have HRL : Hid (∀ u v, hasR s u v = true → hasR (reachR op ps ll (fun j => (g5 j).r)) u v = false → doF op ps ll F s u v = noP) := fun u v h1 h2 => reach_law FI.node hsm (fun i hi => (HBA.out i hi).1.fits.ok) (fun i hi => (HBA.out i hi).1.fits.out) HRT.out h1 h2
  obtain ⟨D, hD⟩ : ∃ z, z = doF op ps ll F s := ⟨_, rfl⟩
  obtain ⟨t, ht'⟩ : ∃ z, z = someR s := ⟨_, rfl⟩
  obtain ⟨rr, hrr⟩ : ∃ z, z = reachR op ps ll (fun j => (g5 j).r) := ⟨_, rfl⟩
  rw [← hD, ← ht'] at HDO
  rw [← hrr] at HRE
  rw [← hrr, ← hD] at HRL
  rw [← ht'] at K4
  unfold smallR at hsm
  obtain ⟨⟨y0a, y0b⟩, ⟨y1a, y1b⟩, ⟨y2a, y2b⟩, y3a, y3b⟩ := hsm
  clear hD ht' hrr hF FI hi hp ht HRT
  go_enter Tryd.func5, Tryd.ntmps5
  go_wp2_with (first | (first | (go_at_call 7; refine (awake15 _ ).mono ?_; rintro e w' ⟨rfl, hgw⟩; first | (obtain ⟨gw, rfl⟩ := grows_of_grow hgw) | (obtain ⟨gw, rfl⟩ := hgw))) | (go_at_call 8; (with_reducible refine Calls.mono (HFI.out _ true ?_ CF.out) ?_); (exact (by repeat (first | exact Grows.refl _ | apply Grows.grow | apply Grows.alloc | apply Grows.drew))); rintro e w' ⟨rfl, hgw⟩; first | (obtain ⟨gw, rfl⟩ := grows_of_grow hgw) | (obtain ⟨gw, rfl⟩ := hgw)))
  refine wp_name ?_
  intro W0 hW0
  have B0 : Hid (Blk W0 w.heap.size 24 #[.int .i64 op, .slice ia ll ic, .slice pa pl pc]) := by rw [hW0]; exact (by unfold Blk; repeat (first | exact blk_at _ _ _ (by first | omega | (simp; done) | (simp; omega)) | refine (blk_past _ _ _ (by first | omega | (simp; done) | (simp; omega))).trans ?_ | refine (heap_grow _ _ _ (by first | omega | (simp; done) | (simp; omega))).trans ?_ | refine (blk_drew _ _).trans ?_))
  have B1 : Hid (Blk W0 (w.heap.size + 1) 27 #[.int .i64 s.x0, .int .i64 s.y0, .int .i64 s.x1, .int .i64 s.y1]) := by rw [hW0]; exact (by unfold Blk; repeat (first | exact blk_at _ _ _ (by first | omega | (simp; done) | (simp; omega)) | refine (blk_past _ _ _ (by first | omega | (simp; done) | (simp; omega))).trans ?_ | refine (heap_grow _ _ _ (by first | omega | (simp; done) | (simp; omega))).trans ?_ | refine (blk_drew _ _).trans ?_))
  have G0 : Hid (Grows w W0) := by rw [hW0]; exact (by repeat (first | exact Grows.refl _ | apply Grows.grow | apply Grows.alloc | apply Grows.drew))
  clear hW0 HFI CF
  go_loopw [7, 8] (fun v i wr => ∃ (k : Nat) (a : Option Addr) (cap : Nat), k ≤ ll ∧ i = .int .i64 k ∧ v = .slice a k cap ∧ Grows W0 wr ∧ wr.ownsRow W0.heap.size 27 4 (.slice a k cap) k (cellsL (fun j => rcC (g5 j).r) k)) (fun _ i _ => ll - (intOf i).toNat)
  case atStart => exact ⟨0, none, 0, by omega, rfl, rfl, Grows.refl _, rfl, .inl ⟨rfl, rfl⟩⟩
  case round =>
    obtain ⟨k, a, cap, hk, rfl, rfl, hgr, hown⟩ := hrel
    have GRW := Lib.hid hgr
    have OWN := Lib.hid hown
    have GR := Lib.hid (G0.out.trans hgr)
    have hcap := ownL_le hown
    have SZ0 := hgr.below.size
    clear hgr hown
    by_cases hlt : k < ll
    · obtain ⟨b', off', rfl, hb', e0, e1, e2, e3, e4⟩ := (hb.out.grows GR.out).at hlt
      obtain ⟨rk, hrk⟩ : ∃ z, z = (g5 k).r := ⟨_, rfl⟩
      rw [← hrk] at e0 e1 e2 e3
      have HRK : Hid ((g5 k).r = rk) := hrk.symm
      clear e4 hrk
      go_wp2_with (first | (at_builtin; refine wpList_append_rect rfl (.tmp 29) (.tmp 35) rfl W0.heap.size a k cap (fun j => (g5 j).r) rk rfl (ownsRow_grows OWN.out (by repeat (first | exact Grows.refl _ | apply Grows.grow | apply Grows.alloc | apply Grows.drew))) _ _ rfl (by unfold Blk; repeat (first | exact blk_at _ _ _ (by first | omega | (simp; done) | (simp; omega)) | refine (blk_past _ _ _ (by first | omega | (simp; done) | (simp; omega))).trans ?_ | refine (heap_grow _ _ _ (by first | omega | (simp; done) | (simp; omega))).trans ?_ | refine (blk_drew _ _).trans ?_)) HRK.out (by omega) (by simp <;> omega) ?_; intro p' cap' w1 h1 h2 h3 h4; replace h1 := Lib.hid h1; replace h2 := Lib.hid h2))
      go_roundw
      case rel =>
        refine ⟨k + 1, some ⟨p', 0, none⟩, cap', by omega, by go_num, rfl, ?_, h1.out⟩
        exact (GRW.out.trans (by repeat (first | exact Grows.refl _ | apply Grows.grow | apply Grows.alloc | apply Grows.drew))).grown h2.out (fun j hj => (own_lt OWN.out j hj).1)
      case measure => simp [intOf]; omega
    · obtain rfl : ll = k := by omega
      have d0 := B0.out.grows GRW.out
      have d1 := B1.out.grows GRW.out
      obtain ⟨n0, n1, n2, nf⟩ := d0.c3
      obtain ⟨s0, s1, s2, s3, sf⟩ := d1.c4
      have l0 := d0.lt
      have l1 := d1.lt
      have LR := Lib.hid (rects_own (f := fun j => (g5 j).r) OWN.out)
      clear d0 d1 B0
      go_wp2_with (first
        | (go_at_call 22; (with_reducible refine Calls.mono (HRE.out _ _ _ ?_ ?_) ?_); (exact GR.out.trans (by repeat (first | exact Grows.refl _ | apply Grows.grow | apply Grows.alloc | apply Grows.drew))); (exact Lib.hid (LR.out.grows (by repeat (first | exact Grows.refl _ | apply Grows.grow | apply Grows.alloc | apply Grows.drew)))); rintro e w' ⟨rfl, hgw⟩; (first | (obtain ⟨gr, rfl⟩ := grows_of_grow hgw) | (obtain ⟨gr, rfl⟩ := hgw)))
        | (go_at_call 13; (with_reducible refine Calls.mono (HDO.out _ ?_) ?_); (exact GR.out.trans (by repeat (first | exact Grows.refl _ | apply Grows.grow | apply Grows.alloc | apply Grows.drew))); rintro e w' ⟨aq, lq, cq, rfl, hgw, Hq⟩; (first | (obtain ⟨gq, rfl⟩ := grows_of_grow hgw) | (obtain ⟨gq, rfl⟩ := hgw)); (try simp only [grow_drew] at Hq); (have z1 : w.heap.size + 1 < wr.heap.size + gr.news.size := by omega); (have z2 : w.heap.size + 1 < wr.heap.size + gr.news.size + 1 := by omega); (have z3 : w.heap.size + 1 < wr.heap.size + gr.news.size + 1 + gq.news.size := by omega); (have z4 : w.heap.size + 1 < wr.heap.size + gr.news.size + 1 + gq.news.size + 1 := by omega)))
      refine wp_name ?_
      intro W1 hW1
      have E1 : Hid (Blk W1 (w.heap.size + 1) 27 #[.int .i64 s.x0, .int .i64 s.y0, .int .i64 s.x1, .int .i64 s.y1]) := by rw [hW1]; exact (B1.out.grows GRW.out).grows (by repeat (first | exact Grows.refl _ | apply Grows.grow | apply Grows.alloc | apply Grows.drew))
      have E2 : Hid (Blk W1 (wr.heap.size + gr.news.size) 27 #[.int .i64 rr.x0, .int .i64 rr.y0, .int .i64 rr.x1, .int .i64 rr.y1]) := by rw [hW1]; exact (by unfold Blk; repeat (first | exact blk_at _ _ _ (by first | omega | (simp; done) | (simp; omega)) | refine (blk_past _ _ _ (by first | omega | (simp; done) | (simp; omega))).trans ?_ | refine (heap_grow _ _ _ (by first | omega | (simp; done) | (simp; omega))).trans ?_ | refine (blk_drew _ _).trans ?_))
      have E3 : Hid (Blk W1 (wr.heap.size + gr.news.size + 1 + gq.news.size) 35 #[.int .i64 t.x0, .int .i64 t.y0, .int .i64 t.x1, .int .i64 t.y1, .slice aq lq cq]) := by rw [hW1]; exact (by unfold Blk; repeat (first | exact blk_at _ _ _ (by first | omega | (simp; done) | (simp; omega)) | refine (blk_past _ _ _ (by first | omega | (simp; done) | (simp; omega))).trans ?_ | refine (heap_grow _ _ _ (by first | omega | (simp; done) | (simp; omega))).trans ?_ | refine (blk_drew _ _).trans ?_))
      have YC : Hid (BufAt W1 t aq lq cq D) := by rw [hW1]; exact Hq.out.1.grows (by repeat (first | exact Grows.refl _ | apply Grows.grow | apply Grows.alloc | apply Grows.drew))
      have GW : Hid (Grows w W1) := by rw [hW1]; exact GR.out.trans (by repeat (first | exact Grows.refl _ | apply Grows.grow | apply Grows.alloc | apply Grows.drew))
      obtain ⟨nr, hnr⟩ : ∃ n, n = wr.heap.size + gr.news.size := ⟨_, rfl⟩
      rw [← hnr] at E2 E3 ⊢
      obtain ⟨nc, hnc⟩ : ∃ n, n = nr + 1 + gq.news.size := ⟨_, rfl⟩
      rw [← hnc] at E3 ⊢
      clear hW1 hnc hnr Hq n0 n1 n2 nf s0 s1 s2 s3 sf l0 l1 HDO HRE LR B1
      go_loopw [11] (fun z w2 => ∃ v : Int, s.y0 ≤ v ∧ v ≤ 33554432 ∧ z = .int .i64 v ∧ Hid (Grows W1 w2)) (fun z _ => (s.y1 - intOf z).toNat)
      case atStart => exact ⟨s.y0, by omega, by omega, rfl, Grows.refl _⟩
      case round =>
        rename_i wA
        obtain ⟨v, hv1, hv2, rfl, hg2⟩ := hrel
        have d1 := E1.out.grows hg2.out
        obtain ⟨s0, s1, s2, s3, sf⟩ := d1.c4
        have ls := d1.lt
        clear d1
        by_cases hvl : v < s.y1
        · go_wp2
          clear s0 s1 s2 s3 sf ls
          go_loopw [12] (fun z w2 => ∃ u : Int, s.x0 ≤ u ∧ u ≤ 33554432 ∧ z = .int .i64 u ∧ Hid (Grows W1 w2)) (fun z _ => (s.x1 - intOf z).toNat)
          case atStart => exact ⟨s.x0, by omega, by omega, rfl, hg2.out⟩
          case round =>
            rename_i wB
            obtain ⟨u, hu1, hu2, rfl, hg3⟩ := hrel
            have d1 := E1.out.grows hg3.out
            obtain ⟨s0, s1, s2, s3, sf⟩ := d1.c4
            have ls := d1.lt
            have d2 := E2.out.grows hg3.out
            obtain ⟨t0, t1, t2, t3, tf⟩ := d2.c4
            have lt := d2.lt
            have d3 := E3.out.grows hg3.out
            obtain ⟨x0, x1, x2, x3, x4, xf⟩ := d3.c5
            have lx := d3.lt
            clear d1 d2 d3
            by_cases hul : u < s.x1
            · have hin : hasR s u v = true := (hasR_iff _ _ _).2 ⟨hu1, hul, hv1, hvl⟩
              have HSRC := Lib.hid (YC.out.grows hg3.out)
              have hct : cntR t ≤ 140737488355328 := by omega
              cases c : eqP (D u v) noP
              case true =>
                have HQ0 : Hid (D u v = ⟨0, 0, 0, 0⟩) := (eqP_iff _ _).1 c
                clear c hin
                go_wp2_with ((first | (go_at_call 20; (with_reducible refine (ref05_AtIs _ _ _ _ _ _ _ _ _ (Lib.hid (BufAt.grows HSRC.out (by repeat (first | exact Grows.refl _ | apply Grows.grow | apply Grows.alloc | apply Grows.drew)))) (by omega) HQ0).mono ?_); rintro e w' ⟨rfl, hgw⟩; first | (obtain ⟨gw, rfl⟩ := grows_of_grow hgw) | (obtain ⟨gw, rfl⟩ := hgw))))
                go_roundw
                case rel => exact ⟨u + 1, by omega, by omega, by go_num, hg3.out.trans (by repeat (first | exact Grows.refl _ | apply Grows.grow | apply Grows.alloc | apply Grows.drew))⟩
                case measure => simp [intOf]; omega
              case false =>
                have HHT : Hid (hasR rr u v = true) := by
                  cases d : hasR rr u v
                  · rw [HRL.out u v hin d] at c
                    have := (eqP_iff noP noP).2 rfl
                    rw [this] at c
                    cases c
                  · exact Lib.hid rfl
                obtain ⟨q, hq⟩ : ∃ z, z = D u v := ⟨_, rfl⟩
                rw [← hq] at c
                have HQ0 : Hid (D u v = q) := hq.symm
                have hc : (q.r == 0 && (q.g == 0 && (q.b == 0 && q.a == 0))) = false := c
                clear c hin hq
                go_wp2_with (first
                  | (first | (go_at_call 20; (with_reducible refine (ref05_AtIs _ _ _ _ _ _ _ _ _ (Lib.hid (BufAt.grows HSRC.out (by repeat (first | exact Grows.refl _ | apply Grows.grow | apply Grows.alloc | apply Grows.drew)))) (by omega) HQ0).mono ?_); rintro e w' ⟨rfl, hgw⟩; first | (obtain ⟨gw, rfl⟩ := grows_of_grow hgw) | (obtain ⟨gw, rfl⟩ := hgw)))
                  | (go_at_call 23; (with_reducible refine Calls.mono (ref03_hasIs15 rr u v _ _ HHT) ?_); rintro e w' ⟨rfl, hgw⟩; first | (obtain ⟨gx, rfl⟩ := grows_of_grow hgw) | (obtain ⟨gx, rfl⟩ := hgw)))
                go_roundw
                case rel => exact ⟨u + 1, by omega, by omega, by go_num, hg3.out.trans (by repeat (first | exact Grows.refl _ | apply Grows.grow | apply Grows.alloc | apply Grows.drew))⟩
                case measure => simp [intOf]; omega
            · go_wp2
              go_roundw
              case rel => exact ⟨v + 1, by omega, by omega, by go_num, hg3.out.trans (by repeat (first | exact Grows.refl _ | apply Grows.grow | apply Grows.alloc | apply Grows.drew))⟩
              case measure => simp [intOf]; omega
        · go_wp2
          go_ret
          exact ⟨rfl, GW.out.trans (hg2.out.trans (by repeat (first | exact Grows.refl _ | apply Grows.grow | apply Grows.alloc | apply Grows.drew)))⟩
end Go.Proofs.YtklcmlbkhjcaiaaDoor
