/- The walk of chapter 15's law KernelNeed. -/
import Derived.Test.YtklcmlbkhjcaiaaDoorLaw15B
import Derived.Test.YtklcmlbkhjcaiaaDoorNeedW
import Derived.Test.YtklcmlbkhjcaiaaDoorK14
import Derived.Test.YtklcmlbkhjcaiaaDoorRas5





namespace Go.Proofs.YtklcmlbkhjcaiaaDoor
open Go.RowKit
set_option linter.unusedVariables false

theorem gcell' {w w' : World} {b i : Nat} {v : Value} (g : Grows w w') (hb : b < w.heap.size) (h : w.cell? ⟨b, i, none⟩ = some v) : w'.cell? ⟨b, i, none⟩ = some v := (g.below.cell (p := ⟨b, i, none⟩) hb).trans h
theorem whole_right (r : R) : rightR (wholeR r) = true := by
  unfold wholeR
  refine (rightR_iff _).2 (someR_fits _ ?_)
  simp only [cutN, mxI_eq, mnI_eq]
  omega
theorem grow_right (r : R) (a b c d : Int) : rightR (growR r a b c d) = true := by
  unfold growR
  split
  · decide
  · exact whole_right _
theorem need_right {op : Int} {p : Nat → Int} {n : Nat} {s : R} (hk : NodeOk op p n) (hs : smallR s) : rightR (needR op p s) = true := by
  have hsr := hs.right
  unfold needR
  split
  · decide
  split
  · exact moveR_right hsr
  split
  · exact grow_right _ _ _ _ _
  split
  · rename_i h
    exact (rightR_iff _).2 (meetR_fits _ _ hsr (hk.box12 h).right)
  split
  · rename_i h
    exact (hk.box10 h.1).1.right
  split
  · exact joinR_right hsr (grow_right _ _ _ _ _)
  · exact hsr
set_option maxRecDepth 100000 in
set_option maxHeartbeats 51200000 in
theorem kernelNeed_walk (op : Int) (ia : Option Addr) (il ic : Nat) (is : Nat → Int) (pa : Option Addr) (pl pc : Nat) (ps : Nat → Int) (al : Option Addr) (ll cl : Nat) (g5 : Nat → Bf) (s : R) (w : World) (hop : -9223372036854775808 ≤ op ∧ op ≤ 9223372036854775807) (ht : Tabs w) (hi : IsInts w ia il ic is) (hp : IsInts w pa pl pc ps) (hb : IsBufs w al ll cl g5) :
    Calls Tryd.prog 3 #[.agg #[.int .i64 op, .slice ia il ic, .slice pa pl pc], .slice al ll cl, .agg #[.int .i64 s.x0, .int .i64 s.y0, .int .i64 s.x1, .int .i64 s.y1]] w fun e w' => e = .returned (.bool true) ∧ Grows w w' := by
  have m1 := hi.le
  have m2 := hi.most
  have m3 := hp.le
  have m4 := hp.most
  have m5 := hb.le
  have m6 := hb.most
  replace ht := Lib.hid ht
  replace hi := Lib.hid hi
  replace hp := Lib.hid hp
  replace hb := Lib.hid hb
  have HFI : Hid (∀ W c, Grows w W → fine15 op il is pl ps ll g5 s = c → Calls Tryd.prog 8 #[.agg #[.int .i64 op, .slice ia il ic, .slice pa pl pc], .slice al ll cl, .agg #[.int .i64 s.x0, .int .i64 s.y0, .int .i64 s.x1, .int .i64 s.y1]] W fun e w' => e = .returned (.bool c) ∧ Grows W w') := fun W c g hc => law15_fine op ia il ic is pa pl pc ps al ll cl g5 s c W (Lib.hid (ht.out.grows g)) (Lib.hid (hi.out.grows g)) (Lib.hid (hp.out.grows g)) (Lib.hid (hb.out.grows g)) (Lib.hid hc)
  cases c_F : fine15 op il is pl ps ll g5 s
  case false =>
    have CF := Lib.hid c_F
    clear c_F
    go_enter Tryd.func3, Tryd.ntmps3
    go_wp2_with (first | (first | (go_at_call 7; refine (awake15 _ ).mono ?_; rintro e w' ⟨rfl, hgw⟩; first | (obtain ⟨gw, rfl⟩ := grows_of_grow hgw) | (obtain ⟨gw, rfl⟩ := hgw))) | (go_at_call 8; (with_reducible refine Calls.mono (HFI.out _ false ?_ CF.out) ?_); (exact (by repeat (first | exact Grows.refl _ | apply Grows.grow | apply Grows.alloc | apply Grows.drew))); rintro e w' ⟨rfl, hgw⟩; first | (obtain ⟨gw, rfl⟩ := grows_of_grow hgw) | (obtain ⟨gw, rfl⟩ := hgw)))
    go_ret
    exact ⟨rfl, (by repeat (first | exact Grows.refl _ | apply Grows.grow | apply Grows.alloc | apply Grows.drew))⟩
  have CF := Lib.hid c_F
  have FI := fine15_yes c_F
  clear c_F
  obtain rfl := FI.len
  have h8 := FI.few.1
  obtain ⟨F, hF⟩ : ∃ F : Nat → Img, F = fun i => imgOf (g5 i).r (g5 i).f := ⟨_, rfl⟩
  have HBA : Hid (∀ i, i < ll → BufAt w (g5 i).r (g5 i).a (g5 i).len (g5 i).cap (F i) ∧ cntR (g5 i).r ≤ 300) := fun i hi => by rw [hF]; exact FI.bufAt hb.out hi
  have HDO : Hid (∀ W, Grows w W → Calls Tryd.prog 13 #[.agg #[.int .i64 op, .slice ia ll ic, .slice pa pl pc], .slice al ll cl, .agg #[.int .i64 s.x0, .int .i64 s.y0, .int .i64 s.x1, .int .i64 s.y1]] W (RetBuf W (someR s) (doF op ps ll F s))) := fun W g => kernel_Do op ia ll ic pa pl pc ps al ll cl g5 F s W (Lib.hid (hp.out.grows g)) FI.plen (Lib.hid (hb.out.grows g)) (Lib.hid (fun i hi => ⟨(HBA.out i hi).1.grows g, by have := (HBA.out i hi).2; omega⟩)) FI.node FI.small (by have := FI.cnt; omega) FI.rad FI.rad11
  have K4 : cntR (someR s) ≤ 200 := FI.cnt
  have HOF : Hid (∀ W, Grows w W → Calls Tryd.prog 9 #[.agg #[.int .i64 op, .slice ia ll ic, .slice pa pl pc], .agg #[.int .i64 s.x0, .int .i64 s.y0, .int .i64 s.x1, .int .i64 s.y1]] W fun e w' => ∃ a cap, e = .returned (.slice a ll cap) ∧ Grows W w' ∧ Hid (IsRects w' a ll cap (fun _ => needR op ps s))) := fun W g => ref14_Of op ia ll ic pa pl pc ps s W ⟨m1, m2⟩ (Lib.hid (hp.out.grows g)) FI.plen FI.node FI.small
  have hNR : rightR (needR op ps s) = true := need_right FI.node FI.small
  have HNL : Hid (doF op ps ll (fun i => cutF (someR (needR op ps s)) (F i)) s = doF op ps ll F s) := need_law FI.node FI.small
  obtain ⟨N, hN⟩ : ∃ z, z = needR op ps s := ⟨_, rfl⟩
  rw [← hN] at HOF hNR HNL
  obtain ⟨M, hM⟩ : ∃ z, z = someR N := ⟨_, rfl⟩
  have HAREA : Hid (∀ W, Calls Tryd.prog 10 #[.agg #[.int .i64 N.x0, .int .i64 N.y0, .int .i64 N.x1, .int .i64 N.y1]] W fun e w' => e = .returned (.int .i64 (areaR N)) ∧ Grows W w') := fun W => ref03_areaR N W hNR
  have hcm : areaR N ≤ 3000 → cntR M ≤ 3000 := fun h => by
    have := (good_some hNR).area (by rw [areaR_some]; omega)
    rw [areaR_some, ← hM] at this
    omega
  have HFW : Hid (∀ j, (fun i => cutF M (F i)) j = cutF M (F j)) := fun j => rfl
  obtain ⟨FW, hFW⟩ : ∃ z : Nat → Img, z = fun i => cutF M (F i) := ⟨_, rfl⟩
  have HWN : Hid (areaR N ≤ 3000 → ∀ i, i < ll → ∀ W, Grows w W → Calls Tryd.prog 11 #[.agg #[.int .i64 (g5 i).r.x0, .int .i64 (g5 i).r.y0, .int .i64 (g5 i).r.x1, .int .i64 (g5 i).r.y1, .slice (g5 i).a (g5 i).len (g5 i).cap], .agg #[.int .i64 N.x0, .int .i64 N.y0, .int .i64 N.x1, .int .i64 N.y1]] W (RetBuf W M (FW i))) := fun h i hi W g => by
    have := ref05_Window N (g5 i).r (g5 i).a (g5 i).len (g5 i).cap (F i) W (Lib.hid ((HBA.out i hi).1.grows g)) hNR (by have := hcm h; rw [hM] at this; omega) (by have := (HBA.out i hi).2; omega)
    rw [← hM] at this
    rw [hFW]
    exact this
  have HDP : Hid ((0 < ll → areaR N ≤ 3000) → ∀ W a cap (g : Nat → Bf), Grows w W → IsBufs W a ll cap (bfOf g FW) → (∀ i, i < ll → BufAt W (g i).r (g i).a (g i).len (g i).cap (FW i) ∧ (g i).r = M) → Calls Tryd.prog 13 #[.agg #[.int .i64 op, .slice ia ll ic, .slice pa pl pc], .slice a ll cap, .agg #[.int .i64 s.x0, .int .i64 s.y0, .int .i64 s.x1, .int .i64 s.y1]] W (RetBuf W (someR s) (doF op ps ll F s))) := fun h W a cap g gg hbs hbu => by
    have := kernel_Do op ia ll ic pa pl pc ps a ll cap (bfOf g FW) FW s W (Lib.hid (hp.out.grows gg)) FI.plen (Lib.hid hbs) (Lib.hid (fun i hi => ⟨(hbu i hi).1, by show cntR (g i).r ≤ _; rw [(hbu i hi).2]; have := hcm (h (by omega)); omega⟩)) FI.node FI.small (by have := FI.cnt; omega) FI.rad FI.rad11
    rw [hFW, hM, HNL.out] at this
    exact this
  obtain ⟨D, hD⟩ : ∃ z, z = doF op ps ll F s := ⟨_, rfl⟩
  obtain ⟨t, ht'⟩ : ∃ z, z = someR s := ⟨_, rfl⟩
  rw [← hD, ← ht'] at HDO HDP
  rw [← ht'] at K4
  obtain ⟨A, hA⟩ : ∃ z, z = areaR N := ⟨_, rfl⟩
  rw [← hA] at HAREA HWN HDP hcm
  clear hD ht' hF FI hi hp ht HNL hN hM hNR hFW hA HFW
  go_enter Tryd.func3, Tryd.ntmps3
  go_wp2_with (first | (first | (go_at_call 7; refine (awake15 _ ).mono ?_; rintro e w' ⟨rfl, hgw⟩; first | (obtain ⟨gw, rfl⟩ := grows_of_grow hgw) | (obtain ⟨gw, rfl⟩ := hgw))) | (go_at_call 8; (with_reducible refine Calls.mono (HFI.out _ true ?_ CF.out) ?_); (exact (by repeat (first | exact Grows.refl _ | apply Grows.grow | apply Grows.alloc | apply Grows.drew))); rintro e w' ⟨rfl, hgw⟩; first | (obtain ⟨gw, rfl⟩ := grows_of_grow hgw) | (obtain ⟨gw, rfl⟩ := hgw)) | (go_at_call 9; (with_reducible refine Calls.mono (HOF.out _ ?_) ?_); (exact (by repeat (first | exact Grows.refl _ | apply Grows.grow | apply Grows.alloc | apply Grows.drew))); rintro e w' ⟨lo, co, rfl, hgw, HL⟩; (first | (obtain ⟨go, rfl⟩ := grows_of_grow hgw) | (obtain ⟨go, rfl⟩ := hgw))))
  refine wp_name ?_
  intro W0 hW0
  have B0 : Hid (Blk W0 w.heap.size 24 #[.int .i64 op, .slice ia ll ic, .slice pa pl pc]) := by rw [hW0]; exact (by unfold Blk; repeat (first | exact blk_at _ _ _ (by first | omega | (simp; done) | (simp; omega)) | refine (blk_past _ _ _ (by first | omega | (simp; done) | (simp; omega))).trans ?_ | refine (heap_grow _ _ _ (by first | omega | (simp; done) | (simp; omega))).trans ?_ | refine (blk_drew _ _).trans ?_))
  have B1 : Hid (Blk W0 (w.heap.size + 1) 27 #[.int .i64 s.x0, .int .i64 s.y0, .int .i64 s.x1, .int .i64 s.y1]) := by rw [hW0]; exact (by unfold Blk; repeat (first | exact blk_at _ _ _ (by first | omega | (simp; done) | (simp; omega)) | refine (blk_past _ _ _ (by first | omega | (simp; done) | (simp; omega))).trans ?_ | refine (heap_grow _ _ _ (by first | omega | (simp; done) | (simp; omega))).trans ?_ | refine (blk_drew _ _).trans ?_))
  have G0 : Hid (Grows w W0) := by rw [hW0]; exact (by repeat (first | exact Grows.refl _ | apply Grows.grow | apply Grows.alloc | apply Grows.drew))
  have L0 : Hid (IsRects W0 lo ll co (fun _ => N)) := by rw [hW0]; exact HL.out.grows (by repeat (first | exact Grows.refl _ | apply Grows.grow | apply Grows.alloc | apply Grows.drew))
  have ml := L0.out.le
  have ml2 := L0.out.most
  clear hW0 HFI CF HL HOF
  go_loopw [8, 9] (fun v i wr => ∃ (k : Nat) (a : Option Addr) (cap : Nat) (g : Nat → Bf), k ≤ ll ∧ i = .int .i64 k ∧ v = .slice a k cap ∧ Hid (BsSt W0 wr a k cap g FW ∧ (∀ j, j < k → (g j).r = M) ∧ (0 < k → A ≤ 3000))) (fun _ i _ => ll - (intOf i).toNat)
  case atStart => exact ⟨0, none, 0, fun _ => ⟨zeroR, none, 0, 0, fun _ => noP⟩, by omega, rfl, rfl, BsSt.nil W0 _ FW, fun j hj => by omega, fun h => by omega⟩
  case round =>
    obtain ⟨k, a, cap, g, hk, rfl, rfl, hh⟩ := hrel
    have hcap := ownL_le hh.out.1.own
    have GR := Lib.hid (G0.out.trans hh.out.1.gr)
    by_cases hlt : k < ll
    · obtain ⟨b', off', rfl, hbw, f0, f1, f2, f3, f4⟩ := hb.out.at hlt
      obtain ⟨bl, ol, rfl, hbl, q0, q1, q2, q3⟩ := L0.out.at hlt
      by_cases hA : 3000 < A
      · have q0' := gcell' hh.out.1.gr hbl q0
        have q1' := gcell' hh.out.1.gr hbl q1
        have q2' := gcell' hh.out.1.gr hbl q2
        have q3' := gcell' hh.out.1.gr hbl q3
        have hbl' : bl < wr.heap.size := by have := hh.out.1.gr.below.size; omega
        go_wp2_with (go_at_call 10; (with_reducible refine Calls.mono (HAREA.out _) ?_); rintro e w' ⟨rfl, hgw⟩; first | (obtain ⟨ga, rfl⟩ := grows_of_grow hgw) | (obtain ⟨ga, rfl⟩ := hgw))
        go_ret
        exact ⟨rfl, GR.out.trans (by repeat (first | exact Grows.refl _ | apply Grows.grow | apply Grows.alloc | apply Grows.drew))⟩
      · have hA2 : A ≤ 3000 := by omega
        have HWI' := HWN.out hA2 k hlt
        obtain ⟨rk, hrk⟩ : ∃ z, z = (g5 k).r := ⟨_, rfl⟩
        obtain ⟨ak, hak⟩ : ∃ z, z = (g5 k).a := ⟨_, rfl⟩
        obtain ⟨lk, hlk⟩ : ∃ z, z = (g5 k).len := ⟨_, rfl⟩
        obtain ⟨ck, hck⟩ : ∃ z, z = (g5 k).cap := ⟨_, rfl⟩
        obtain ⟨Fk, hFk⟩ : ∃ z, z = F k := ⟨_, rfl⟩
        obtain ⟨FWk, hFWk⟩ : ∃ z, z = FW k := ⟨_, rfl⟩
        rw [← hrk, ← hak, ← hlk, ← hck, ← hFWk] at HWI'
        rw [← hrk] at f0 f1 f2 f3
        rw [← hak, ← hlk, ← hck] at f4
        have HWI : Hid (∀ W, Grows wr W → Calls Tryd.prog 11 #[.agg #[.int .i64 rk.x0, .int .i64 rk.y0, .int .i64 rk.x1, .int .i64 rk.y1, .slice ak lk ck], .agg #[.int .i64 N.x0, .int .i64 N.y0, .int .i64 N.x1, .int .i64 N.y1]] W (RetBuf W M FWk)) := fun W gg => HWI' W (GR.out.trans gg)
        have HFW := Lib.hid hFWk
        have mlk := (HBA.out k hlt).1.most
        rw [← hlk, ← hck] at mlk
        have e0 := gcell' GR.out hbw f0
        have e1 := gcell' GR.out hbw f1
        have e2 := gcell' GR.out hbw f2
        have e3 := gcell' GR.out hbw f3
        have e4 := gcell' GR.out hbw f4
        have hb' : b' < wr.heap.size := by have := GR.out.below.size; omega
        have q0' := gcell' hh.out.1.gr hbl q0
        have q1' := gcell' hh.out.1.gr hbl q1
        have q2' := gcell' hh.out.1.gr hbl q2
        have q3' := gcell' hh.out.1.gr hbl q3
        have hbl' : bl < wr.heap.size := by have := hh.out.1.gr.below.size; omega
        have SZ0 := hh.out.1.gr.below.size
        clear hrk hak hlk hck hFk hFWk HWI'
        go_wp2_with (go_at_call 10; (with_reducible refine Calls.mono (HAREA.out _) ?_); rintro e w' ⟨rfl, hgw⟩; first | (obtain ⟨ga, rfl⟩ := grows_of_grow hgw) | (obtain ⟨ga, rfl⟩ := hgw))
        go_region_held3 (fun w' => w'.cell? ⟨b', off' + k * 5, none⟩ = some (.int .i64 rk.x0) ∧ w'.cell? ⟨b', off' + k * 5 + 1, none⟩ = some (.int .i64 rk.y0) ∧ w'.cell? ⟨b', off' + k * 5 + 2, none⟩ = some (.int .i64 rk.x1) ∧ w'.cell? ⟨b', off' + k * 5 + 3, none⟩ = some (.int .i64 rk.y1) ∧ w'.cell? ⟨b', off' + k * 5 + 4, none⟩ = some (.slice ak lk ck) ∧ w'.cell? ⟨bl, ol + k * 4, none⟩ = some (.int .i64 N.x0) ∧ w'.cell? ⟨bl, ol + k * 4 + 1, none⟩ = some (.int .i64 N.y0) ∧ w'.cell? ⟨bl, ol + k * 4 + 2, none⟩ = some (.int .i64 N.x1) ∧ w'.cell? ⟨bl, ol + k * 4 + 3, none⟩ = some (.int .i64 N.y1)) (first | (refine ⟨gcell' (GB.out.trans ?_) hbw f0, gcell' (GB.out.trans ?_) hbw f1, gcell' (GB.out.trans ?_) hbw f2, gcell' (GB.out.trans ?_) hbw f3, gcell' (GB.out.trans ?_) hbw f4, gcell' (GB0.out.trans ?_) hbl q0, gcell' (GB0.out.trans ?_) hbl q1, gcell' (GB0.out.trans ?_) hbl q2, gcell' (GB0.out.trans ?_) hbl q3⟩ <;> ((repeat (first | exact Grows.refl _ | apply Grows.grow | apply Grows.alloc | apply Grows.drew)); done)) | (refine ⟨gcell' (GR.out.trans ?_) hbw f0, gcell' (GR.out.trans ?_) hbw f1, gcell' (GR.out.trans ?_) hbw f2, gcell' (GR.out.trans ?_) hbw f3, gcell' (GR.out.trans ?_) hbw f4, gcell' (hh.out.1.gr.trans ?_) hbl q0, gcell' (hh.out.1.gr.trans ?_) hbl q1, gcell' (hh.out.1.gr.trans ?_) hbl q2, gcell' (hh.out.1.gr.trans ?_) hbl q3⟩ <;> ((repeat (first | exact Grows.refl _ | apply Grows.grow | apply Grows.alloc | apply Grows.drew)); done))) (first
          | (refine step_append_buf rfl (.tmp 35) (.tmp 45) (by rfl) W0.heap.size a k cap g ⟨M, aw, lw, cw, fun _ => noP⟩ (by rfl) (ownsRow_grows hh.out.1.own (by repeat (first | exact Grows.refl _ | apply Grows.grow | apply Grows.alloc | apply Grows.drew))) _ _ (by rfl) (by unfold Blk; repeat (first | exact blk_at _ _ _ (by first | omega | (simp; done) | (simp; omega)) | refine (blk_past _ _ _ (by first | omega | (simp; done) | (simp; omega))).trans ?_ | refine (heap_grow _ _ _ (by first | omega | (simp; done) | (simp; omega))).trans ?_ | refine (blk_drew _ _).trans ?_)) (by omega) (by have := hh.out.1.gr.below.size; simp <;> omega) ?_; intro p' cap' w2 h3 h4 h5 h6; have ST := Lib.hid (hh.out.1.push (b := ⟨M, aw, lw, cw, fun _ => noP⟩) (by repeat (first | exact Grows.refl _ | apply Grows.grow | apply Grows.alloc | apply Grows.drew)) (by { have z := Hw.out.1; rw [HFW.out] at z; exact z.grows (by repeat (first | exact Grows.refl _ | apply Grows.grow | apply Grows.alloc | apply Grows.drew)) }) (fun x hx => by { have z1 := Hw.out.2.2 x hx; have z2 := (Hw.out.2.1 x hx).1; simp at z1 z2 ⊢; omega }) h3 h4 h5); have GB0 : Hid (Grows W0 w2) := Lib.hid ST.out.gr; have GB : Hid (Grows w w2) := Lib.hid (G0.out.trans ST.out.gr); clear h3 h4 h5 h6)
          | (go_at_call 11; (with_reducible refine Calls.mono (HWI.out _ ?_) ?_); (exact (by repeat (first | exact Grows.refl _ | apply Grows.grow | apply Grows.alloc | apply Grows.drew))); rintro e w' ⟨aw, lw, cw, rfl, hgw, Hw⟩; (first | (obtain ⟨gv, rfl⟩ := grows_of_grow hgw) | (obtain ⟨gv, rfl⟩ := hgw)); (try simp only [grow_drew] at Hw))
          | fail)
        all_goals
          go_wp2
          go_roundw
          case rel =>
            refine ⟨k + 1, some ⟨p', 0, none⟩, cap', _, by omega, by go_num, rfl, ST.out.grows (by repeat (first | exact Grows.refl _ | apply Grows.grow | apply Grows.alloc | apply Grows.drew)), fun j hj => ?_, fun _ => hA2⟩
            by_cases e : j = k
            · subst e; rw [if_pos rfl]
            · rw [if_neg e]; exact hh.out.2.1 j (by omega)
          case measure => simp [intOf]; omega
    · obtain rfl : ll = k := by omega
      have HD2 : Hid (∀ W, Grows wr W → Calls Tryd.prog 13 #[.agg #[.int .i64 op, .slice ia ll ic, .slice pa pl pc], .slice a ll cap, .agg #[.int .i64 s.x0, .int .i64 s.y0, .int .i64 s.x1, .int .i64 s.y1]] W (RetBuf W t D)) := fun W gg => by
        exact HDP.out hh.out.2.2 W a cap g (GR.out.trans gg) (hh.out.1.bufs.grows gg) (fun i hi => ⟨(hh.out.1.buf i hi).grows gg, hh.out.2.1 i hi⟩)
      have D0 := Lib.hid (B0.out.grows hh.out.1.gr)
      have D1 := Lib.hid (B1.out.grows hh.out.1.gr)
      obtain ⟨n0, n1, n2, nf⟩ := D0.out.c3
      obtain ⟨s0, s1, s2, s3, sf⟩ := D1.out.c4
      have l0 := D0.out.lt
      have l1 := D1.out.lt
      clear hh B0 B1 HDP
      go_wp2
      go_region_held3 (fun w' => w'.cell? ⟨w.heap.size, 0, none⟩ = some (.int .i64 op) ∧ w'.cell? ⟨w.heap.size, 1, none⟩ = some (.slice ia ll ic) ∧ w'.cell? ⟨w.heap.size, 2, none⟩ = some (.slice pa pl pc) ∧ w'.cell? ⟨w.heap.size + 1, 0, none⟩ = some (.int .i64 s.x0) ∧ w'.cell? ⟨w.heap.size + 1, 1, none⟩ = some (.int .i64 s.y0) ∧ w'.cell? ⟨w.heap.size + 1, 2, none⟩ = some (.int .i64 s.x1) ∧ w'.cell? ⟨w.heap.size + 1, 3, none⟩ = some (.int .i64 s.y1)) ((refine ⟨(D0.out.grows ?_).cell 0, (D0.out.grows ?_).cell 1, (D0.out.grows ?_).cell 2, (D1.out.grows ?_).cell 0, (D1.out.grows ?_).cell 1, (D1.out.grows ?_).cell 2, (D1.out.grows ?_).cell 3⟩ <;> ((repeat (first | exact Grows.refl _ | apply Grows.grow | apply Grows.alloc | apply Grows.drew)); done))) (first
        | (go_at_call 13; (with_reducible refine Calls.mono (HDO.out _ ?_) ?_); (exact GR.out.trans (by repeat (first | exact Grows.refl _ | apply Grows.grow | apply Grows.alloc | apply Grows.drew))); rintro e w' ⟨ax, lx, cx, rfl, hgw, Hx⟩; (first | (obtain ⟨gx, rfl⟩ := grows_of_grow hgw) | (obtain ⟨gx, rfl⟩ := hgw)); (try simp only [grow_drew] at Hx))
        | (go_at_call 13; (with_reducible refine Calls.mono (HD2.out _ ?_) ?_); (exact (by repeat (first | exact Grows.refl _ | apply Grows.grow | apply Grows.alloc | apply Grows.drew))); rintro e w' ⟨ay, ly, cy, rfl, hgw, Hy⟩; (first | (obtain ⟨gy, rfl⟩ := grows_of_grow hgw) | (obtain ⟨gy, rfl⟩ := hgw)); (try simp only [grow_drew] at Hy))
        | (go_at_call 12; (with_reducible refine Calls.mono (ref05_Same t ax ay lx cx ly cy D _ ?_ ?_) ?_); (exact Lib.hid (BufAt.grows Hx.out.1 (by assumption))); (exact Lib.hid (BufAt.grows Hy.out.1 (by repeat (first | exact Grows.refl _ | apply Grows.grow | apply Grows.alloc | apply Grows.drew)))); rintro e w' ⟨rfl, hgw⟩; first | (obtain ⟨gz, rfl⟩ := grows_of_grow hgw) | (obtain ⟨gz, rfl⟩ := hgw)))
      go_wp2
      go_ret
      exact ⟨rfl, GR.out.trans (by repeat (first | exact Grows.refl _ | apply Grows.grow | apply Grows.alloc | apply Grows.drew))⟩
end Go.Proofs.YtklcmlbkhjcaiaaDoor
