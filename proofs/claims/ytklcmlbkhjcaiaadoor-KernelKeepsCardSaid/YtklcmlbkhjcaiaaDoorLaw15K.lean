/- The walk of chapter 15's law KernelKeeps. -/
import Derived.Test.YtklcmlbkhjcaiaaDoorLaw15B
import Derived.Test.YtklcmlbkhjcaiaaDoorK14



namespace Go.Proofs.YtklcmlbkhjcaiaaDoor
open Go.RowKit
set_option linter.unusedVariables false

theorem gcell {w w' : World} {b i : Nat} {v : Value} (g : Grows w w') (hb : b < w.heap.size) (h : w.cell? ⟨b, i, none⟩ = some v) : w'.cell? ⟨b, i, none⟩ = some v := (g.below.cell (p := ⟨b, i, none⟩) hb).trans h
theorem ownsRow_away {w w' : World} {base : Nat} {e : TypeId} {size n : Nat} {a : Option Addr} {c : Nat} {xs : List Value} {row : Option Nat} (h : w.ownsRow base e size (.slice a n c) n xs) (g : w.grownBy w' row) (hr : ∀ j, blkOf a = some j → row ≠ some j) : w'.ownsRow base e size (.slice a n c) n xs := by
  refine ⟨h.1, ?_⟩
  rcases h.2 with h2 | ⟨b, c', cur, hv, hb, hg, h3⟩
  · exact .inl h2
  · refine .inr ⟨b, c', cur, hv, hb, (g.block b (Array.getElem?_eq_some_iff.1 hg).1 (fun e => ?_)).trans hg, h3⟩
    injection hv with hv
    exact hr b (by rw [hv]; rfl) e.symm
theorem BsSt.away {w wr W1 w' : World} {a : Option Addr} {k cap : Nat} {g : Nat → Bf} {F : Nat → Img} {row : Option Nat} (s : BsSt w wr a k cap g F) (h : Grows wr W1) (g1 : W1.grownBy w' row) (hr : ∀ j, row = some j → wr.heap.size ≤ j) : BsSt w w' a k cap g F := by
  have s1 := s.grows h
  have hw := s.gr.below.size
  have hl := own_lt s.own
  refine ⟨s1.gr.grown g1 (fun j hj => by have := hr j hj; omega), ownsRow_away s1.own g1 (fun j hj e => by have := hr j e; have := (hl j hj).2; omega), fun i hi => (s1.buf i hi).grown g1 (fun _ x hx e => by have := hr _ e.symm; have := (s.far i hi x hx).2.1; omega), fun i hi x hx => ?_⟩
  obtain ⟨f1, f2, f3⟩ := s1.far i hi x hx
  exact ⟨f1, by have := g1.size; omega, f3⟩
theorem KeepSt.nine {w wr : World} {b off len cap k : Nat} {f : Nat → P4} (h : KeepSt w wr (some ⟨b, off, none⟩) len cap) (hf : IsPix wr (some ⟨b, off, none⟩) len cap f) (hk : k < len) :
    KeepSt w ((((wr.setCell ⟨b, off + k * 4, none⟩ (.int .u8 9)).setCell ⟨b, off + k * 4 + 1, none⟩ (.int .u8 9)).setCell ⟨b, off + k * 4 + 2, none⟩ (.int .u8 9)).setCell ⟨b, off + k * 4 + 3, none⟩ (.int .u8 9)) (some ⟨b, off, none⟩) len cap := by
  have e := h.set hf hk (p := ⟨9, 9, 9, 9⟩) (by simp [okP])
  simp only [pxC, World.setCells, Nat.add_assoc, Nat.reduceAdd] at e ⊢
  exact e
set_option maxRecDepth 100000 in
set_option maxHeartbeats 51200000 in
theorem kernelKeeps_walk (op : Int) (ia : Option Addr) (il ic : Nat) (is : Nat → Int) (pa : Option Addr) (pl pc : Nat) (ps : Nat → Int) (al : Option Addr) (ll cl : Nat) (g5 : Nat → Bf) (s : R) (w : World) (hop : -9223372036854775808 ≤ op ∧ op ≤ 9223372036854775807) (ht : Tabs w) (hi : IsInts w ia il ic is) (hp : IsInts w pa pl pc ps) (hb : IsBufs w al ll cl g5) :
    Calls Tryd.prog 6 #[.agg #[.int .i64 op, .slice ia il ic, .slice pa pl pc], .slice al ll cl, .agg #[.int .i64 s.x0, .int .i64 s.y0, .int .i64 s.x1, .int .i64 s.y1]] w fun e w' => e = .returned (.bool true) ∧ Grows w w' := by
  have m1 := hi.le
  have m2 := hi.most
  have m3 := hp.le
  have m4 := hp.most
  have m5 := hb.le
  have m6 := hb.most
  replace ht := Lib.hid ht
  replace hi := Lib.hid hi
  replace hp := Lib.hid hp
  replace hb := Lib.hid hb
  have HFI : Hid (∀ W c, Grows w W → fine15 op il is pl ps ll g5 s = c → Calls Tryd.prog 8 #[.agg #[.int .i64 op, .slice ia il ic, .slice pa pl pc], .slice al ll cl, .agg #[.int .i64 s.x0, .int .i64 s.y0, .int .i64 s.x1, .int .i64 s.y1]] W fun e w' => e = .returned (.bool c) ∧ Grows W w') := fun W c g hc => law15_fine op ia il ic is pa pl pc ps al ll cl g5 s c W (Lib.hid (ht.out.grows g)) (Lib.hid (hi.out.grows g)) (Lib.hid (hp.out.grows g)) (Lib.hid (hb.out.grows g)) (Lib.hid hc)
  cases c_F : fine15 op il is pl ps ll g5 s
  case false =>
    have CF := Lib.hid c_F
    clear c_F
    go_enter Tryd.func6, Tryd.ntmps6
    go_wp2_with (first | (first | (go_at_call 7; refine (awake15 _ ).mono ?_; rintro e w' ⟨rfl, hgw⟩; first | (obtain ⟨gw, rfl⟩ := grows_of_grow hgw) | (obtain ⟨gw, rfl⟩ := hgw))) | (go_at_call 8; (with_reducible refine Calls.mono (HFI.out _ false ?_ CF.out) ?_); (exact (by repeat (first | exact Grows.refl _ | apply Grows.grow | apply Grows.alloc | apply Grows.drew))); rintro e w' ⟨rfl, hgw⟩; first | (obtain ⟨gw, rfl⟩ := grows_of_grow hgw) | (obtain ⟨gw, rfl⟩ := hgw)))
    go_ret
    exact ⟨rfl, (by repeat (first | exact Grows.refl _ | apply Grows.grow | apply Grows.alloc | apply Grows.drew))⟩
  have CF := Lib.hid c_F
  have FI := fine15_yes c_F
  clear c_F
  obtain rfl := FI.len
  have h8 := FI.few.1
  obtain ⟨F, hF⟩ : ∃ F : Nat → Img, F = fun i => imgOf (g5 i).r (g5 i).f := ⟨_, rfl⟩
  have HBA : Hid (∀ i, i < ll → BufAt w (g5 i).r (g5 i).a (g5 i).len (g5 i).cap (F i) ∧ cntR (g5 i).r ≤ 300) := fun i hi => by rw [hF]; exact FI.bufAt hb.out hi
  have HDO : Hid (∀ W, Grows w W → Calls Tryd.prog 13 #[.agg #[.int .i64 op, .slice ia ll ic, .slice pa pl pc], .slice al ll cl, .agg #[.int .i64 s.x0, .int .i64 s.y0, .int .i64 s.x1, .int .i64 s.y1]] W (RetBuf W (someR s) (doF op ps ll F s))) := fun W g => kernel_Do op ia ll ic pa pl pc ps al ll cl g5 F s W (Lib.hid (hp.out.grows g)) FI.plen (Lib.hid (hb.out.grows g)) (Lib.hid (fun i hi => ⟨(HBA.out i hi).1.grows g, by have := (HBA.out i hi).2; omega⟩)) FI.node FI.small (by have := FI.cnt; omega) FI.rad FI.rad11
  have K4 : cntR (someR s) ≤ 200 := FI.cnt
  obtain ⟨D, hD⟩ : ∃ z, z = doF op ps ll F s := ⟨_, rfl⟩
  obtain ⟨t, ht'⟩ : ∃ z, z = someR s := ⟨_, rfl⟩
  rw [← hD, ← ht'] at HDO
  rw [← ht'] at K4
  clear hD ht' hF FI hi hp ht
  go_enter Tryd.func6, Tryd.ntmps6
  go_wp2_with (first | (first | (go_at_call 7; refine (awake15 _ ).mono ?_; rintro e w' ⟨rfl, hgw⟩; first | (obtain ⟨gw, rfl⟩ := grows_of_grow hgw) | (obtain ⟨gw, rfl⟩ := hgw))) | (go_at_call 8; (with_reducible refine Calls.mono (HFI.out _ true ?_ CF.out) ?_); (exact (by repeat (first | exact Grows.refl _ | apply Grows.grow | apply Grows.alloc | apply Grows.drew))); rintro e w' ⟨rfl, hgw⟩; first | (obtain ⟨gw, rfl⟩ := grows_of_grow hgw) | (obtain ⟨gw, rfl⟩ := hgw)))
  refine wp_name ?_
  intro W0 hW0
  have B0 : Hid (Blk W0 w.heap.size 24 #[.int .i64 op, .slice ia ll ic, .slice pa pl pc]) := by rw [hW0]; exact (by unfold Blk; repeat (first | exact blk_at _ _ _ (by first | omega | (simp; done) | (simp; omega)) | refine (blk_past _ _ _ (by first | omega | (simp; done) | (simp; omega))).trans ?_ | refine (heap_grow _ _ _ (by first | omega | (simp; done) | (simp; omega))).trans ?_ | refine (blk_drew _ _).trans ?_))
  have B1 : Hid (Blk W0 (w.heap.size + 1) 27 #[.int .i64 s.x0, .int .i64 s.y0, .int .i64 s.x1, .int .i64 s.y1]) := by rw [hW0]; exact (by unfold Blk; repeat (first | exact blk_at _ _ _ (by first | omega | (simp; done) | (simp; omega)) | refine (blk_past _ _ _ (by first | omega | (simp; done) | (simp; omega))).trans ?_ | refine (heap_grow _ _ _ (by first | omega | (simp; done) | (simp; omega))).trans ?_ | refine (blk_drew _ _).trans ?_))
  have G0 : Hid (Grows w W0) := by rw [hW0]; exact (by repeat (first | exact Grows.refl _ | apply Grows.grow | apply Grows.alloc | apply Grows.drew))
  clear hW0 HFI CF
  go_loopw [7, 8] (fun v i wr => ∃ (k : Nat) (a : Option Addr) (cap : Nat) (g : Nat → Bf), k ≤ ll ∧ i = .int .i64 k ∧ v = .slice a k cap ∧ Hid (BsSt W0 wr a k cap g F ∧ ∀ j, j < k → (g j).r = (g5 j).r)) (fun _ i _ => ll - (intOf i).toNat)
  case atStart => exact ⟨0, none, 0, fun _ => ⟨zeroR, none, 0, 0, fun _ => noP⟩, by omega, rfl, rfl, BsSt.nil W0 _ F, fun j hj => by omega⟩
  case round =>
    obtain ⟨k, a, cap, g, hk, rfl, rfl, hh⟩ := hrel
    have hcap := ownL_le hh.out.1.own
    by_cases hlt : k < ll
    · have GR := Lib.hid (G0.out.trans hh.out.1.gr)
      obtain ⟨b', off', rfl, hbw, f0, f1, f2, f3, f4⟩ := hb.out.at hlt
      have BKK := HBA.out k hlt
      obtain ⟨rk, hrk⟩ : ∃ z, z = (g5 k).r := ⟨_, rfl⟩
      obtain ⟨ak, hak⟩ : ∃ z, z = (g5 k).a := ⟨_, rfl⟩
      obtain ⟨lk, hlk⟩ : ∃ z, z = (g5 k).len := ⟨_, rfl⟩
      obtain ⟨ck, hck⟩ : ∃ z, z = (g5 k).cap := ⟨_, rfl⟩
      obtain ⟨Fk, hFk⟩ : ∃ z, z = F k := ⟨_, rfl⟩
      rw [← hrk, ← hak, ← hlk, ← hck, ← hFk] at BKK
      rw [← hrk] at f0 f1 f2 f3
      rw [← hak, ← hlk, ← hck] at f4
      have e0 := gcell GR.out hbw f0
      have e1 := gcell GR.out hbw f1
      have e2 := gcell GR.out hbw f2
      have e3 := gcell GR.out hbw f3
      have e4 := gcell GR.out hbw f4
      have hb' : b' < wr.heap.size := by have := GR.out.below.size; omega
      have BK := Lib.hid (BKK.1.grows GR.out)
      have hl3 : lk ≤ 300 := by rw [BKK.1.count]; exact BKK.2
      have mk := BKK.1.most
      have HFK := Lib.hid hFk
      have HRK := Lib.hid hrk
      clear hrk hak hlk hck hFk BKK
      have SZ0 := hh.out.1.gr.below.size
      go_wp2
      go_region_held3 (fun w' => w'.cell? ⟨b', off' + k * 5, none⟩ = some (.int .i64 rk.x0) ∧ w'.cell? ⟨b', off' + k * 5 + 1, none⟩ = some (.int .i64 rk.y0) ∧ w'.cell? ⟨b', off' + k * 5 + 2, none⟩ = some (.int .i64 rk.x1) ∧ w'.cell? ⟨b', off' + k * 5 + 3, none⟩ = some (.int .i64 rk.y1) ∧ w'.cell? ⟨b', off' + k * 5 + 4, none⟩ = some (.slice ak lk ck)) (first | (refine ⟨gcell (GB.out.trans ?_) hbw f0, gcell (GB.out.trans ?_) hbw f1, gcell (GB.out.trans ?_) hbw f2, gcell (GB.out.trans ?_) hbw f3, gcell (GB.out.trans ?_) hbw f4⟩ <;> ((repeat (first | exact Grows.refl _ | apply Grows.grow | apply Grows.alloc | apply Grows.drew)); done)) | (refine ⟨gcell (GR.out.trans (GA.out.trans ?_)) hbw f0, gcell (GR.out.trans (GA.out.trans ?_)) hbw f1, gcell (GR.out.trans (GA.out.trans ?_)) hbw f2, gcell (GR.out.trans (GA.out.trans ?_)) hbw f3, gcell (GR.out.trans (GA.out.trans ?_)) hbw f4⟩ <;> ((repeat (first | exact Grows.refl _ | apply Grows.grow | apply Grows.alloc | apply Grows.drew)); done)) | (refine ⟨gcell (GR.out.trans ?_) hbw f0, gcell (GR.out.trans ?_) hbw f1, gcell (GR.out.trans ?_) hbw f2, gcell (GR.out.trans ?_) hbw f3, gcell (GR.out.trans ?_) hbw f4⟩ <;> ((repeat (first | exact Grows.refl _ | apply Grows.grow | apply Grows.alloc | apply Grows.drew)); done))) (first
        | (refine step_append_row (by rfl) (.tmp 34) (.tmp 39) (by rfl) wr.heap.size wr.heap.size (by rfl) (by unfold Blk; repeat (first | exact blk_at _ _ _ (by first | omega | (simp; done) | (simp; omega)) | refine (blk_past _ _ _ (by first | omega | (simp; done) | (simp; omega))).trans ?_ | refine (heap_grow _ _ _ (by first | omega | (simp; done) | (simp; omega))).trans ?_ | refine (blk_drew _ _).trans ?_)) (Nat.le_refl _) ak lk ck _ (by rfl) (BK.out.pix.grows (by repeat (first | exact Grows.refl _ | apply Grows.grow | apply Grows.alloc | apply Grows.drew))) (by omega) ?_; intro aw cw w1 h1 h2; have GA : Hid (Grows wr w1) := Lib.hid (Grows.grown (w1 := _) (by repeat (first | exact Grows.refl _ | apply Grows.grow | apply Grows.alloc | apply Grows.drew)) h2 (fun j hj => by { injection hj with hj; omega })); have HB1 := Lib.hid (bufAt_copied BK.out.good BK.out.fits BK.out.count h1); have HW := Lib.hid (own_lt h1); have hs1 := h2.size; simp at hs1; clear h1 h2)
        | (refine step_append_buf rfl (.tmp 28) (.tmp 42) (by rfl) W0.heap.size a k cap g ⟨rk, aw, lk, cw, fun _ => noP⟩ (by rfl) (ownsRow_grows hh.out.1.own (GA.out.trans (by repeat (first | exact Grows.refl _ | apply Grows.grow | apply Grows.alloc | apply Grows.drew)))) _ _ (by rfl) (by unfold Blk; repeat (first | exact blk_at _ _ _ (by first | omega | (simp; done) | (simp; omega)) | refine (blk_past _ _ _ (by first | omega | (simp; done) | (simp; omega))).trans ?_ | refine (heap_grow _ _ _ (by first | omega | (simp; done) | (simp; omega))).trans ?_ | refine (blk_drew _ _).trans ?_)) (by omega) (by have := hh.out.1.gr.below.size; have := GA.out.below.size; simp <;> omega) ?_; intro p' cap' w2 h3 h4 h5 h6; have ST := Lib.hid (hh.out.1.push (b := ⟨rk, aw, lk, cw, fun _ => noP⟩) (GA.out.trans (by repeat (first | exact Grows.refl _ | apply Grows.grow | apply Grows.alloc | apply Grows.drew))) (by { have z := HB1.out; rw [HFK.out] at z; exact z.grows (by repeat (first | exact Grows.refl _ | apply Grows.grow | apply Grows.alloc | apply Grows.drew)) }) (fun x hx => by { have := HW.out x.block (by rw [show aw = some x from hx]; rfl); simp <;> omega }) h3 h4 h5); have GB : Hid (Grows w w2) := Lib.hid (G0.out.trans ST.out.gr); clear h3 h4 h5 h6))
      all_goals
        go_wp2
        go_roundw
        case rel =>
          refine ⟨k + 1, some ⟨p', 0, none⟩, cap', _, by omega, by go_num, rfl, ST.out.grows (by repeat (first | exact Grows.refl _ | apply Grows.grow | apply Grows.alloc | apply Grows.drew)), fun j hj => ?_⟩
          by_cases e : j = k
          · subst e; rw [if_pos rfl]; exact HRK.out
          · rw [if_neg e]; exact hh.out.2 j (by omega)
        case measure => simp [intOf]; omega
    · obtain rfl : ll = k := by omega
      have d0 := B0.out.grows hh.out.1.gr
      have d1 := B1.out.grows hh.out.1.gr
      obtain ⟨n0, n1, n2, nf⟩ := d0.c3
      obtain ⟨s0, s1, s2, s3, sf⟩ := d1.c4
      have l0 := d0.lt
      have l1 := d1.lt
      have GR := Lib.hid (G0.out.trans hh.out.1.gr)
      have hwr := GR.out.below.size
      clear d0 d1 B0 B1
      go_wp2_with ((go_at_call 13; (with_reducible refine Calls.mono (HDO.out _ ?_) ?_); (exact GR.out.trans (by repeat (first | exact Grows.refl _ | apply Grows.grow | apply Grows.alloc | apply Grows.drew))); rintro e w' ⟨aq, lq, cq, rfl, hgw, Hq⟩; (first | (obtain ⟨gq, rfl⟩ := grows_of_grow hgw) | (obtain ⟨gq, rfl⟩ := hgw)); (try simp only [grow_drew] at Hq)))
      refine wp_name ?_
      intro W1 hW1
      have E3 : Hid (Blk W1 (wr.heap.size + gq.news.size) 35 #[.int .i64 t.x0, .int .i64 t.y0, .int .i64 t.x1, .int .i64 t.y1, .slice aq lq cq]) := by rw [hW1]; exact (by unfold Blk; repeat (first | exact blk_at _ _ _ (by first | omega | (simp; done) | (simp; omega)) | refine (blk_past _ _ _ (by first | omega | (simp; done) | (simp; omega))).trans ?_ | refine (heap_grow _ _ _ (by first | omega | (simp; done) | (simp; omega))).trans ?_ | refine (blk_drew _ _).trans ?_))
      have YC : Hid (BufAt W1 t aq lq cq D) := by rw [hW1]; exact Hq.out.1.grows (by repeat (first | exact Grows.refl _ | apply Grows.grow | apply Grows.alloc | apply Grows.drew))
      have YO : Hid (Open W1 aq) := by rw [hW1]; exact Hq.out.2.1.grows (by repeat (first | exact Grows.refl _ | apply Grows.grow | apply Grows.alloc | apply Grows.drew))
      have GW : Hid (Grows wr W1) := by rw [hW1]; exact (by repeat (first | exact Grows.refl _ | apply Grows.grow | apply Grows.alloc | apply Grows.drew))
      have HAQ : Hid (∀ k, blkOf aq = some k → wr.heap.size ≤ k ∧ k < wr.heap.size + gq.news.size) := fun k hk => by
        obtain ⟨x, rfl, rfl⟩ := blkOf_some_iff hk
        have q1 := Hq.out.2.2 x rfl
        have q2 := (Hq.out.2.1 x rfl).1
        simp at q2
        omega
      obtain ⟨nc, hnc⟩ : ∃ n, n = wr.heap.size + gq.news.size := ⟨_, rfl⟩
      rw [← hnc] at E3 HAQ ⊢
      have mq := YC.out.most
      have lq3 : lq ≤ 200 := by rw [YC.out.count]; exact K4
      have KS : Hid (KeepSt W1 W1 aq lq cq) := ⟨World.grownBy.refl W1 _, ⟨_, YC.out.pix⟩, YO.out⟩
      clear hW1 hnc Hq n0 n1 n2 nf s0 s1 s2 s3 sf l0 l1 YC YO HDO
      go_loopw [10] (fun i wr => ∃ k : Nat, k ≤ lq ∧ i = .int .i64 k ∧ Hid (KeepSt W1 wr aq lq cq)) (fun i _ => lq - (intOf i).toNat)
      case atStart => exact ⟨0, by omega, rfl, KS.out⟩
      case round =>
        rename_i wA
        clear KS
        obtain ⟨k, hk, rfl, h2⟩ := hrel
        have d3 := E3.out.grown h2.out.by_ (fun e => by have := HAQ.out _ e.symm; omega)
        obtain ⟨b0, b1, b2, b3, b4, bf⟩ := d3.c5
        have ld := d3.lt
        clear d3
        by_cases hlk : k < lq
        · obtain ⟨f, hf⟩ := h2.out.pix
          obtain ⟨b', off', rfl, hb', -, c0, c1, c2, c3⟩ := hf.px hlk
          have hfz := (h2.out.open_ _ rfl).2
          have HF := Lib.hid hf
          clear hf
          go_wp2
          go_roundw
          case rel => exact ⟨k + 1, by omega, by go_num, h2.out.nine HF.out hlk⟩
          case measure => simp [intOf]; omega
        · obtain rfl : k = lq := by omega
          have ST := Lib.hid (hh.out.1.away GW.out h2.out.by_ (fun j hj => (HAQ.out j hj).1))
          have HRR := Lib.hid hh.out.2
          have GR2 := Lib.hid ((GR.out.trans GW.out).grown h2.out.by_ (fun j hj => by have := HAQ.out j hj; omega))
          clear E3 HAQ hh h2
          go_wp2
          clear b0 b1 b2 b3 b4 bf ld
          go_loopw [11] (fun i w3 => ∃ k : Nat, k ≤ ll ∧ i = .int .i64 k ∧ Hid (Grows wr w3)) (fun i _ => ll - (intOf i).toNat)
          case atStart => exact ⟨0, by omega, rfl, Grows.refl _⟩
          case round =>
            rename_i wB
            obtain ⟨k, hk, rfl, h3⟩ := hrel
            by_cases hlt : k < ll
            · obtain ⟨b', off', rfl, hb', e0, e1, e2, e3, e4⟩ := (hb.out.grows (GR2.out.trans h3.out)).at hlt
              have BKK := HBA.out k hlt
              have ST3 := ST.out.grows h3.out
              obtain ⟨bz, oz, hoz, hbz, z0, z1, z2, z3, z4⟩ := ST3.bufs.at hlt
              have BZ := ST3.buf k hlt
              simp only [bfOf] at z0 z1 z2 z3 z4
              rw [HRR.out k hlt] at z0 z1 z2 z3 BZ
              obtain ⟨rk, hrk⟩ : ∃ z, z = (g5 k).r := ⟨_, rfl⟩
              obtain ⟨ak, hak⟩ : ∃ z, z = (g5 k).a := ⟨_, rfl⟩
              obtain ⟨lk, hlk⟩ : ∃ z, z = (g5 k).len := ⟨_, rfl⟩
              obtain ⟨ck, hck⟩ : ∃ z, z = (g5 k).cap := ⟨_, rfl⟩
              obtain ⟨Fk, hFk⟩ : ∃ z, z = F k := ⟨_, rfl⟩
              obtain ⟨aw, haw⟩ : ∃ z, z = (g k).a := ⟨_, rfl⟩
              obtain ⟨lw, hlw⟩ : ∃ z, z = (g k).len := ⟨_, rfl⟩
              obtain ⟨cw, hcw⟩ : ∃ z, z = (g k).cap := ⟨_, rfl⟩
              rw [← hrk, ← hak, ← hlk, ← hck, ← hFk] at BKK
              rw [← hrk] at e0 e1 e2 e3 z0 z1 z2 z3
              rw [← hak, ← hlk, ← hck] at e4
              rw [← haw, ← hlw, ← hcw] at z4
              rw [← hrk, ← haw, ← hlw, ← hcw, ← hFk] at BZ
              have SA := Lib.hid (BKK.1.grows (GR2.out.trans h3.out))
              have SB := Lib.hid BZ
              subst hoz
              clear hrk hak hlk hck hFk haw hlw hcw BKK BZ ST3
              go_wp2
              first | refine region_grow2 (by kernel_rfl) (by kernel_rfl) ?_ | refine region_grow (by kernel_rfl) (by kernel_rfl) ?_
              repeat (go_big_quiet_step ((first | (go_at_call 12; exact grow_of (ref05_Same rk ak aw lk ck lw cw Fk _ (Lib.hid (BufAt.grows SA.out (by repeat (first | exact Grows.refl _ | apply Grows.grow | apply Grows.alloc | apply Grows.drew)))) (Lib.hid (BufAt.grows SB.out (by repeat (first | exact Grows.refl _ | apply Grows.grow | apply Grows.alloc | apply Grows.drew)))))))))
              refine wpQuiet_nil ?_
              rintro _ ⟨gs, rfl⟩
              go_wp2
              go_roundw
              case rel => exact ⟨k + 1, by omega, by go_num, h3.out.trans (by repeat (first | exact Grows.refl _ | apply Grows.grow | apply Grows.alloc | apply Grows.drew))⟩
              case measure => simp [intOf]; omega
            · obtain rfl : ll = k := by omega
              go_wp2
              go_ret
              exact ⟨rfl, GR2.out.trans (h3.out.trans (by repeat (first | exact Grows.refl _ | apply Grows.grow | apply Grows.alloc | apply Grows.drew)))⟩
end Go.Proofs.YtklcmlbkhjcaiaaDoor
