/- Layer 13, the document's: the walk of Spread: moved, grown, clipped, tiled, with a shadow. -/
import Derived.Test.YtklcmlbkhjcaiaaDoorSpreadA
import Derived.Deep.RegionHeld3



namespace Go.Proofs.YtklcmlbkhjcaiaaDoor
open Go.RowKit
set_option linter.unusedVariables false

set_option maxRecDepth 100000 in
set_option maxHeartbeats 25600000 in
theorem ref13_Spread_1 (ia : Option Addr) (il ic : Nat) (pa : Option Addr) (pl pc : Nat) (p : Nat → Int) (al : Option Addr) (n cl : Nat) (ad : Option Addr) (na ca : Nat) (f : Nat → R) (r : R) (w : World) (hp : Hid (IsInts w pa pl pc p)) (hlp : (pl : Int) = prmN 1) (hl : Hid (IsOnes w al n cl (.slice ad na ca))) (hf : Hid (IsRects w ad na ca f)) (ho : Hid (OneReg f na r)) (hk : NodeOk 1 p n) :
    Calls Tryd.prog 19 #[.agg #[.int .i64 1, .slice ia il ic, .slice pa pl pc], .slice al n cl] w (RetSp w 1 p r) := by
  have m1 := hp.out.le
  have m2 := hp.out.most
  have m3 := hl.out.le
  have m4 := hl.out.most
  have m5 := hf.out.le
  have m6 := hf.out.most
  have hn8 := hk.few
  have hna := ho.out.few
  obtain rfl : pl = 2 := by have : prmN 1 = 2 := (by decide); omega
  obtain ⟨bp, offp, rfl, hbp, f0⟩ := hp.out.at (k := 0) (by omega)
  obtain ⟨b2, off2, e, -, f1⟩ := hp.out.at (k := 1) (by omega)
  cases e
  simp only [Nat.add_zero] at f0
  have n1 := hk.one (by omega)
  have hof := hk.off rfl
  have n1i : (0 : Int) < (n : Int) := by omega
  have n1n : 0 < n := by omega
  obtain ⟨bl, ol, rfl, hbl, l0⟩ := hl.out.at (k := 0) (by omega)
  simp only [Nat.add_zero] at l0
  obtain ⟨v0, hv0⟩ : ∃ z, z = p 0 := ⟨_, rfl⟩
  obtain ⟨v1, hv1⟩ : ∃ z, z = p 1 := ⟨_, rfl⟩
  rw [← hv0, ← hv1] at hof
  rw [← hv0] at f0
  rw [← hv1] at f1
  have HMV : Hid (∀ W, Grows w W → Calls Tryd.prog 49 #[.slice ad na ca, .int .i64 v0, .int .i64 v1] W (RetSets W onPl onPl na (fun u v => hasL (fun i => moveR (f i) v0 v1) na u v))) := fun W g => ref04_Move onPl onPl (fun _ h => h) (fun _ h => h) ad na ca f v0 v1 W (Lib.hid (hf.out.grows g)) (by omega) (by omega) ho.out.right (fun i hi => inBC_right (moveR_right (ho.out.right i hi)))
  have HSP : Hid (∀ o m, (∀ u v, hasL o m u v = hasL (fun i => moveR (f i) v0 v1) na u v) → SpreadOk 1 p r o m) := fun o m h => by rw [hv0, hv1] at h; exact spread_1 hk ho.out.has h ho.out.right
  clear hv0 hv1 hk hp hl hf ho hlp hof
  go_enter Tryd.func19, Tryd.ntmps19
  go_wp2
  go_region_held3 (fun w' => w'.cell? ⟨bl, ol, none⟩ = some (.slice ad na ca) ∧ w'.cell? ⟨bp, offp, none⟩ = some (.int .i64 v0) ∧ w'.cell? ⟨bp, offp + 1, none⟩ = some (.int .i64 v1)) (refine ⟨gcell' (Grows.trans (Grows.refl _) ?_) hbl l0, gcell' (Grows.trans (Grows.refl _) ?_) hbp f0, gcell' (Grows.trans (Grows.refl _) ?_) hbp f1⟩ <;> ((repeat (first | exact Grows.refl _ | apply Grows.grow | apply Grows.alloc | apply Grows.drew)); done)) (first
    | (go_at_call 49; (with_reducible refine Calls.mono (HMV.out _ (by repeat (first | exact Grows.refl _ | apply Grows.grow | apply Grows.alloc | apply Grows.drew))) ?_); rintro e w' ⟨ay, ny, cy, oy, rfl, hgw, Hy⟩; (first | (obtain ⟨gyg, rfl⟩ := grows_of_grow hgw) | (obtain ⟨gyg, rfl⟩ := hgw)); (try simp only [grow_drew] at Hy))
    | fail)
  go_wp2
  go_ret
  exact ⟨_, _, _, _, rfl, (by repeat (first | exact Grows.refl _ | apply Grows.grow | apply Grows.alloc | apply Grows.drew)), Lib.hid ⟨Hy.out.1.grows (by repeat (first | exact Grows.refl _ | apply Grows.grow | apply Grows.alloc | apply Grows.drew)), HSP.out _ _ Hy.out.2.1⟩⟩
set_option maxRecDepth 100000 in
set_option maxHeartbeats 25600000 in
theorem ref13_Spread_2 (ia : Option Addr) (il ic : Nat) (pa : Option Addr) (pl pc : Nat) (p : Nat → Int) (al : Option Addr) (n cl : Nat) (ad : Option Addr) (na ca : Nat) (f : Nat → R) (r : R) (w : World) (hp : Hid (IsInts w pa pl pc p)) (hlp : (pl : Int) = prmN 2) (hl : Hid (IsOnes w al n cl (.slice ad na ca))) (hf : Hid (IsRects w ad na ca f)) (ho : Hid (OneReg f na r)) (hk : NodeOk 2 p n) :
    Calls Tryd.prog 19 #[.agg #[.int .i64 2, .slice ia il ic, .slice pa pl pc], .slice al n cl] w (RetSp w 2 p r) := by
  have m1 := hp.out.le
  have m2 := hp.out.most
  have m3 := hl.out.le
  have m4 := hl.out.most
  have m5 := hf.out.le
  have m6 := hf.out.most
  have hn8 := hk.few
  have hna := ho.out.few
  obtain rfl : pl = 2 := by have : prmN 2 = 2 := (by decide); omega
  obtain ⟨bp, offp, rfl, hbp, f0⟩ := hp.out.at (k := 0) (by omega)
  obtain ⟨b2, off2, e, -, f1⟩ := hp.out.at (k := 1) (by omega)
  cases e
  simp only [Nat.add_zero] at f0
  have n1 := hk.one (by omega)
  have hof := hk.rad (by omega)
  have n1i : (0 : Int) < (n : Int) := by omega
  have n1n : 0 < n := by omega
  obtain ⟨bl, ol, rfl, hbl, l0⟩ := hl.out.at (k := 0) (by omega)
  simp only [Nat.add_zero] at l0
  obtain ⟨v0, hv0⟩ : ∃ z, z = p 0 := ⟨_, rfl⟩
  obtain ⟨v1, hv1⟩ : ∃ z, z = p 1 := ⟨_, rfl⟩
  rw [← hv0, ← hv1] at hof
  rw [← hv0] at f0
  rw [← hv1] at f1
  have HGW : Hid (∀ W, Grows w W → Calls Tryd.prog 50 #[.slice ad na ca, .int .i64 v0, .int .i64 v1, .int .i64 v0, .int .i64 v1] W (RetSets W onPl onPl na (fun u v => hasL (fun i => growR (f i) v0 v1 v0 v1) na u v))) := fun W g => ref04_Grow onPl onPl (fun _ h => h) (fun _ h => h) ad na ca f v0 v1 v0 v1 W (Lib.hid (hf.out.grows g)) (by omega) (by omega) ho.out.right (fun i hi => inBC_right (grow_rightS _ _ _ _ _))
  have HSP : Hid (∀ o m, (∀ u v, hasL o m u v = hasL (fun i => growR (f i) v0 v1 v0 v1) na u v) → SpreadOk 2 p r o m) := fun o m h => by rw [hv0, hv1] at h; exact spread_2 (by omega) ho.out.has h
  clear hv0 hv1 hk hp hl hf ho hlp hof
  go_enter Tryd.func19, Tryd.ntmps19
  go_wp2
  go_region_held3 (fun w' => w'.cell? ⟨bl, ol, none⟩ = some (.slice ad na ca) ∧ w'.cell? ⟨bp, offp, none⟩ = some (.int .i64 v0) ∧ w'.cell? ⟨bp, offp + 1, none⟩ = some (.int .i64 v1)) (refine ⟨gcell' (Grows.trans (Grows.refl _) ?_) hbl l0, gcell' (Grows.trans (Grows.refl _) ?_) hbp f0, gcell' (Grows.trans (Grows.refl _) ?_) hbp f1⟩ <;> ((repeat (first | exact Grows.refl _ | apply Grows.grow | apply Grows.alloc | apply Grows.drew)); done)) (first
    | (go_at_call 50; (with_reducible refine Calls.mono (HGW.out _ (by repeat (first | exact Grows.refl _ | apply Grows.grow | apply Grows.alloc | apply Grows.drew))) ?_); rintro e w' ⟨ay, ny, cy, oy, rfl, hgw, Hy⟩; (first | (obtain ⟨gyg, rfl⟩ := grows_of_grow hgw) | (obtain ⟨gyg, rfl⟩ := hgw)); (try simp only [grow_drew] at Hy))
    | fail)
  go_wp2
  go_ret
  exact ⟨_, _, _, _, rfl, (by repeat (first | exact Grows.refl _ | apply Grows.grow | apply Grows.alloc | apply Grows.drew)), Lib.hid ⟨Hy.out.1.grows (by repeat (first | exact Grows.refl _ | apply Grows.grow | apply Grows.alloc | apply Grows.drew)), HSP.out _ _ Hy.out.2.1⟩⟩
set_option maxRecDepth 100000 in
set_option maxHeartbeats 25600000 in
theorem ref13_Spread_3 (ia : Option Addr) (il ic : Nat) (pa : Option Addr) (pl pc : Nat) (p : Nat → Int) (al : Option Addr) (n cl : Nat) (ad : Option Addr) (na ca : Nat) (f : Nat → R) (r : R) (w : World) (hp : Hid (IsInts w pa pl pc p)) (hlp : (pl : Int) = prmN 3) (hl : Hid (IsOnes w al n cl (.slice ad na ca))) (hf : Hid (IsRects w ad na ca f)) (ho : Hid (OneReg f na r)) (hk : NodeOk 3 p n) :
    Calls Tryd.prog 19 #[.agg #[.int .i64 3, .slice ia il ic, .slice pa pl pc], .slice al n cl] w (RetSp w 3 p r) := by
  have m1 := hp.out.le
  have m2 := hp.out.most
  have m3 := hl.out.le
  have m4 := hl.out.most
  have m5 := hf.out.le
  have m6 := hf.out.most
  have hn8 := hk.few
  have hna := ho.out.few
  obtain rfl : pl = 2 := by have : prmN 3 = 2 := (by decide); omega
  obtain ⟨bp, offp, rfl, hbp, f0⟩ := hp.out.at (k := 0) (by omega)
  obtain ⟨b2, off2, e, -, f1⟩ := hp.out.at (k := 1) (by omega)
  cases e
  simp only [Nat.add_zero] at f0
  have n1 := hk.one (by omega)
  have hof := hk.rad (by omega)
  have n1i : (0 : Int) < (n : Int) := by omega
  have n1n : 0 < n := by omega
  obtain ⟨bl, ol, rfl, hbl, l0⟩ := hl.out.at (k := 0) (by omega)
  simp only [Nat.add_zero] at l0
  obtain ⟨v0, hv0⟩ : ∃ z, z = p 0 := ⟨_, rfl⟩
  obtain ⟨v1, hv1⟩ : ∃ z, z = p 1 := ⟨_, rfl⟩
  rw [← hv0, ← hv1] at hof
  rw [← hv0] at f0
  rw [← hv1] at f1
  have HGW : Hid (∀ W, Grows w W → Calls Tryd.prog 50 #[.slice ad na ca, .int .i64 v0, .int .i64 v1, .int .i64 v0, .int .i64 v1] W (RetSets W onPl onPl na (fun u v => hasL (fun i => growR (f i) v0 v1 v0 v1) na u v))) := fun W g => ref04_Grow onPl onPl (fun _ h => h) (fun _ h => h) ad na ca f v0 v1 v0 v1 W (Lib.hid (hf.out.grows g)) (by omega) (by omega) ho.out.right (fun i hi => inBC_right (grow_rightS _ _ _ _ _))
  have HSP : Hid (∀ o m, (∀ u v, hasL o m u v = hasL (fun i => growR (f i) v0 v1 v0 v1) na u v) → SpreadOk 3 p r o m) := fun o m h => by rw [hv0, hv1] at h; exact spread_2 (by omega) ho.out.has h
  clear hv0 hv1 hk hp hl hf ho hlp hof
  go_enter Tryd.func19, Tryd.ntmps19
  go_wp2
  go_region_held3 (fun w' => w'.cell? ⟨bl, ol, none⟩ = some (.slice ad na ca) ∧ w'.cell? ⟨bp, offp, none⟩ = some (.int .i64 v0) ∧ w'.cell? ⟨bp, offp + 1, none⟩ = some (.int .i64 v1)) (refine ⟨gcell' (Grows.trans (Grows.refl _) ?_) hbl l0, gcell' (Grows.trans (Grows.refl _) ?_) hbp f0, gcell' (Grows.trans (Grows.refl _) ?_) hbp f1⟩ <;> ((repeat (first | exact Grows.refl _ | apply Grows.grow | apply Grows.alloc | apply Grows.drew)); done)) (first
    | (go_at_call 50; (with_reducible refine Calls.mono (HGW.out _ (by repeat (first | exact Grows.refl _ | apply Grows.grow | apply Grows.alloc | apply Grows.drew))) ?_); rintro e w' ⟨ay, ny, cy, oy, rfl, hgw, Hy⟩; (first | (obtain ⟨gyg, rfl⟩ := grows_of_grow hgw) | (obtain ⟨gyg, rfl⟩ := hgw)); (try simp only [grow_drew] at Hy))
    | fail)
  go_wp2
  go_ret
  exact ⟨_, _, _, _, rfl, (by repeat (first | exact Grows.refl _ | apply Grows.grow | apply Grows.alloc | apply Grows.drew)), Lib.hid ⟨Hy.out.1.grows (by repeat (first | exact Grows.refl _ | apply Grows.grow | apply Grows.alloc | apply Grows.drew)), HSP.out _ _ Hy.out.2.1⟩⟩
set_option maxRecDepth 100000 in
set_option maxHeartbeats 25600000 in
theorem ref13_Spread_4 (ia : Option Addr) (il ic : Nat) (pa : Option Addr) (pl pc : Nat) (p : Nat → Int) (al : Option Addr) (n cl : Nat) (ad : Option Addr) (na ca : Nat) (f : Nat → R) (r : R) (w : World) (hp : Hid (IsInts w pa pl pc p)) (hlp : (pl : Int) = prmN 4) (hl : Hid (IsOnes w al n cl (.slice ad na ca))) (hf : Hid (IsRects w ad na ca f)) (ho : Hid (OneReg f na r)) (hk : NodeOk 4 p n) :
    Calls Tryd.prog 19 #[.agg #[.int .i64 4, .slice ia il ic, .slice pa pl pc], .slice al n cl] w (RetSp w 4 p r) := by
  have m1 := hp.out.le
  have m2 := hp.out.most
  have m3 := hl.out.le
  have m4 := hl.out.most
  have m5 := hf.out.le
  have m6 := hf.out.most
  have hn8 := hk.few
  have hna := ho.out.few
  obtain rfl : pl = 2 := by have : prmN 4 = 2 := (by decide); omega
  obtain ⟨bp, offp, rfl, hbp, f0⟩ := hp.out.at (k := 0) (by omega)
  obtain ⟨b2, off2, e, -, f1⟩ := hp.out.at (k := 1) (by omega)
  cases e
  simp only [Nat.add_zero] at f0
  have n1 := hk.one (by omega)
  have hof := hk.rad (by omega)
  have n1i : (0 : Int) < (n : Int) := by omega
  have n1n : 0 < n := by omega
  obtain ⟨bl, ol, rfl, hbl, l0⟩ := hl.out.at (k := 0) (by omega)
  simp only [Nat.add_zero] at l0
  obtain ⟨v0, hv0⟩ : ∃ z, z = p 0 := ⟨_, rfl⟩
  obtain ⟨v1, hv1⟩ : ∃ z, z = p 1 := ⟨_, rfl⟩
  rw [← hv0, ← hv1] at hof
  rw [← hv0] at f0
  rw [← hv1] at f1
  have HGW : Hid (∀ W, Grows w W → Calls Tryd.prog 50 #[.slice ad na ca, .int .i64 v0, .int .i64 v1, .int .i64 v0, .int .i64 v1] W (RetSets W onPl onPl na (fun u v => hasL (fun i => growR (f i) v0 v1 v0 v1) na u v))) := fun W g => ref04_Grow onPl onPl (fun _ h => h) (fun _ h => h) ad na ca f v0 v1 v0 v1 W (Lib.hid (hf.out.grows g)) (by omega) (by omega) ho.out.right (fun i hi => inBC_right (grow_rightS _ _ _ _ _))
  have HSP : Hid (∀ o m, (∀ u v, hasL o m u v = hasL (fun i => growR (f i) v0 v1 v0 v1) na u v) → SpreadOk 4 p r o m) := fun o m h => by rw [hv0, hv1] at h; exact spread_2 (by omega) ho.out.has h
  clear hv0 hv1 hk hp hl hf ho hlp hof
  go_enter Tryd.func19, Tryd.ntmps19
  go_wp2
  go_region_held3 (fun w' => w'.cell? ⟨bl, ol, none⟩ = some (.slice ad na ca) ∧ w'.cell? ⟨bp, offp, none⟩ = some (.int .i64 v0) ∧ w'.cell? ⟨bp, offp + 1, none⟩ = some (.int .i64 v1)) (refine ⟨gcell' (Grows.trans (Grows.refl _) ?_) hbl l0, gcell' (Grows.trans (Grows.refl _) ?_) hbp f0, gcell' (Grows.trans (Grows.refl _) ?_) hbp f1⟩ <;> ((repeat (first | exact Grows.refl _ | apply Grows.grow | apply Grows.alloc | apply Grows.drew)); done)) (first
    | (go_at_call 50; (with_reducible refine Calls.mono (HGW.out _ (by repeat (first | exact Grows.refl _ | apply Grows.grow | apply Grows.alloc | apply Grows.drew))) ?_); rintro e w' ⟨ay, ny, cy, oy, rfl, hgw, Hy⟩; (first | (obtain ⟨gyg, rfl⟩ := grows_of_grow hgw) | (obtain ⟨gyg, rfl⟩ := hgw)); (try simp only [grow_drew] at Hy))
    | fail)
  go_wp2
  go_ret
  exact ⟨_, _, _, _, rfl, (by repeat (first | exact Grows.refl _ | apply Grows.grow | apply Grows.alloc | apply Grows.drew)), Lib.hid ⟨Hy.out.1.grows (by repeat (first | exact Grows.refl _ | apply Grows.grow | apply Grows.alloc | apply Grows.drew)), HSP.out _ _ Hy.out.2.1⟩⟩
set_option maxRecDepth 100000 in
set_option maxHeartbeats 25600000 in
theorem ref13_Spread_12 (ia : Option Addr) (il ic : Nat) (pa : Option Addr) (pl pc : Nat) (p : Nat → Int) (al : Option Addr) (n cl : Nat) (ad : Option Addr) (na ca : Nat) (f : Nat → R) (r : R) (w : World) (hp : Hid (IsInts w pa pl pc p)) (hlp : (pl : Int) = prmN 12) (hl : Hid (IsOnes w al n cl (.slice ad na ca))) (hf : Hid (IsRects w ad na ca f)) (ho : Hid (OneReg f na r)) (hk : NodeOk 12 p n) :
    Calls Tryd.prog 19 #[.agg #[.int .i64 12, .slice ia il ic, .slice pa pl pc], .slice al n cl] w (RetSp w 12 p r) := by
  have m1 := hp.out.le
  have m2 := hp.out.most
  have m3 := hl.out.le
  have m4 := hl.out.most
  have m5 := hf.out.le
  have m6 := hf.out.most
  have hn8 := hk.few
  have hna := ho.out.few
  obtain rfl : pl = 4 := by have : prmN 12 = 4 := (by decide); omega
  have n1 := hk.one (by omega)
  have n1i : (0 : Int) < (n : Int) := by omega
  have n1n : 0 < n := by omega
  obtain ⟨bl, ol, rfl, hbl, l0⟩ := hl.out.at (k := 0) (by omega)
  simp only [Nat.add_zero] at l0
  obtain ⟨x, hx⟩ : ∃ z, z = boxO p 0 := ⟨_, rfl⟩
  have HBX : Hid (∀ W, Grows w W → Calls Tryd.prog 32 #[.slice pa 4 pc, .int .i64 0] W fun e w' => e = .returned (.agg #[.int .i64 x.x0, .int .i64 x.y0, .int .i64 x.x1, .int .i64 x.y1]) ∧ Grows W w') := fun W g => ref13_Box pa 4 pc p 0 0 x W (Lib.hid (hp.out.grows g)) rfl (by omega) (by omega) (Lib.hid hx.symm)
  have HXR : rightR x = true := by rw [hx]; exact (hk.box12 rfl).right
  have HST : Hid (∀ W b c, Grows w W → Blk W b 27 #[.int .i64 x.x0, .int .i64 x.y0, .int .i64 x.x1, .int .i64 x.y1] → 1 ≤ c ∧ c ≤ 9223372036854775807 → Calls Tryd.prog 45 #[.slice ad na ca, .slice (some ⟨b, 0, none⟩) 1 c, .int .i64 1] W (RetSets W onPl onPl (na + 1) (fun u v => wantB 1 (hasL f na u v) (hasL (fun _ => x) 1 u v)))) := fun W b c g hb hc => ref04_Sets onPl onPl (fun _ h => h) (fun _ h => h) ad (some ⟨b, 0, none⟩) na ca 1 c f (fun _ => x) 1 W (Lib.hid (hf.out.grows g)) (Lib.hid (rects_one hb hc)) (by omega) (by omega) (by omega) (fun i hi => inBC_right (ho.out.right i hi)) (fun i hi => inBC_right HXR)
  have HSP : Hid (∀ o m, (∀ u v, hasL o m u v = wantB 1 (hasL f na u v) (hasL (fun _ => x) 1 u v)) → SpreadOk 12 p r o m) := fun o m h => by rw [hx] at h; exact spread_12 ho.out.has h
  clear hx hk hp hl hf ho hlp HXR
  go_enter Tryd.func19, Tryd.ntmps19
  go_wp2
  go_region_held3 (fun w' => w'.cell? ⟨bl, ol, none⟩ = some (.slice ad na ca)) (exact gcell' (by (repeat (first | exact Grows.refl _ | apply Grows.grow | apply Grows.alloc | apply Grows.drew))) hbl l0) (first
    | (go_at_call 32; (with_reducible refine Calls.mono (HBX.out _ (by repeat (first | exact Grows.refl _ | apply Grows.grow | apply Grows.alloc | apply Grows.drew))) ?_); rintro e w' ⟨rfl, hgw⟩; (first | (obtain ⟨gbx, rfl⟩ := grows_of_grow hgw) | (obtain ⟨gbx, rfl⟩ := hgw)))
    | (go_at_call 45; (with_reducible refine Calls.mono (HST.out _ _ _ ?_ ?_ ?_) ?_); (exact (by repeat (first | exact Grows.refl _ | apply Grows.grow | apply Grows.alloc | apply Grows.drew))); (exact (by unfold Blk; repeat (first | exact blk_at _ _ _ (by first | omega | (simp; done) | (simp; omega)) | refine (blk_past _ _ _ (by first | omega | (simp; done) | (simp; omega))).trans ?_ | refine (heap_grow _ _ _ (by first | omega | (simp; done) | (simp; omega))).trans ?_ | refine (blk_drew _ _).trans ?_))); (omega); rintro e w' ⟨ay, ny, cy, oy, rfl, hgw, Hy⟩; (first | (obtain ⟨gyg, rfl⟩ := grows_of_grow hgw) | (obtain ⟨gyg, rfl⟩ := hgw)))
    | fail)
  all_goals
    go_wp2
    go_ret
    exact ⟨_, _, _, _, rfl, (by repeat (first | exact Grows.refl _ | apply Grows.grow | apply Grows.alloc | apply Grows.drew)), Lib.hid ⟨Hy.out.1.grows (by repeat (first | exact Grows.refl _ | apply Grows.grow | apply Grows.alloc | apply Grows.drew)), HSP.out _ _ Hy.out.2.1⟩⟩
set_option maxRecDepth 100000 in
set_option maxHeartbeats 25600000 in
theorem ref13_Spread_10 (ia : Option Addr) (il ic : Nat) (pa : Option Addr) (pl pc : Nat) (p : Nat → Int) (al : Option Addr) (n cl : Nat) (ad : Option Addr) (na ca : Nat) (f : Nat → R) (r : R) (w : World) (hp : Hid (IsInts w pa pl pc p)) (hlp : (pl : Int) = prmN 10) (hl : Hid (IsOnes w al n cl (.slice ad na ca))) (hf : Hid (IsRects w ad na ca f)) (ho : Hid (OneReg f na r)) (hk : NodeOk 10 p n) :
    Calls Tryd.prog 19 #[.agg #[.int .i64 10, .slice ia il ic, .slice pa pl pc], .slice al n cl] w (RetSp w 10 p r) := by
  have m1 := hp.out.le
  have m2 := hp.out.most
  have m3 := hl.out.le
  have m4 := hl.out.most
  have m5 := hf.out.le
  have m6 := hf.out.most
  have hn8 := hk.few
  have hna := ho.out.few
  obtain rfl : pl = 4 := by have : prmN 10 = 4 := (by decide); omega
  have n1 := hk.one (by omega)
  have n1i : (0 : Int) < (n : Int) := by omega
  have n1n : 0 < n := by omega
  obtain ⟨bl, ol, rfl, hbl, l0⟩ := hl.out.at (k := 0) (by omega)
  simp only [Nat.add_zero] at l0
  obtain ⟨x, hx⟩ : ∃ z, z = boxO p 0 := ⟨_, rfl⟩
  have HBX : Hid (∀ W, Grows w W → Calls Tryd.prog 32 #[.slice pa 4 pc, .int .i64 0] W fun e w' => e = .returned (.agg #[.int .i64 x.x0, .int .i64 x.y0, .int .i64 x.x1, .int .i64 x.y1]) ∧ Grows W w') := fun W g => ref13_Box pa 4 pc p 0 0 x W (Lib.hid (hp.out.grows g)) rfl (by omega) (by omega) (Lib.hid hx.symm)
  have HXR : rightR x = true := by rw [hx]; exact (hk.box10 rfl).1.right
  have HST : Hid (∀ W b c, Grows w W → Blk W b 27 #[.int .i64 x.x0, .int .i64 x.y0, .int .i64 x.x1, .int .i64 x.y1] → 1 ≤ c ∧ c ≤ 9223372036854775807 → Calls Tryd.prog 45 #[.slice ad na ca, .slice (some ⟨b, 0, none⟩) 1 c, .int .i64 1] W (RetSets W onPl onPl (na + 1) (fun u v => wantB 1 (hasL f na u v) (hasL (fun _ => x) 1 u v)))) := fun W b c g hb hc => ref04_Sets onPl onPl (fun _ h => h) (fun _ h => h) ad (some ⟨b, 0, none⟩) na ca 1 c f (fun _ => x) 1 W (Lib.hid (hf.out.grows g)) (Lib.hid (rects_one hb hc)) (by omega) (by omega) (by omega) (fun i hi => inBC_right (ho.out.right i hi)) (fun i hi => inBC_right HXR)
  have HSP : Hid (∀ o : Nat → R, (∀ u v, hasL o 0 u v = wantB 1 (hasL f na u v) (hasL (fun _ => x) 1 u v)) → SpreadOk 10 p r o 0) := fun o h => by rw [hx] at h; exact spread_10 hk ho.out.has h
  have HAL : Hid (∀ W, Grows w W → Calls Tryd.prog 51 #[] W fun e w' => e = .returned (.agg #[.int .i64 allR.x0, .int .i64 allR.y0, .int .i64 allR.x1, .int .i64 allR.y1]) ∧ Grows W w') := fun W g => ref13_all W
  clear hx hk hp hl hf ho hlp HXR
  go_enter Tryd.func19, Tryd.ntmps19
  go_wp2
  go_region_held3 (fun w' => w'.cell? ⟨bl, ol, none⟩ = some (.slice ad na ca)) (exact gcell' (by (repeat (first | exact Grows.refl _ | apply Grows.grow | apply Grows.alloc | apply Grows.drew))) hbl l0) (first
    | (go_at_call 32; (with_reducible refine Calls.mono (HBX.out _ (by repeat (first | exact Grows.refl _ | apply Grows.grow | apply Grows.alloc | apply Grows.drew))) ?_); rintro e w' ⟨rfl, hgw⟩; (first | (obtain ⟨gbx, rfl⟩ := grows_of_grow hgw) | (obtain ⟨gbx, rfl⟩ := hgw)))
    | (go_at_call 45; (with_reducible refine Calls.mono (HST.out _ _ _ ?_ ?_ ?_) ?_); (exact (by repeat (first | exact Grows.refl _ | apply Grows.grow | apply Grows.alloc | apply Grows.drew))); (exact (by unfold Blk; repeat (first | exact blk_at _ _ _ (by first | omega | (simp; done) | (simp; omega)) | refine (blk_past _ _ _ (by first | omega | (simp; done) | (simp; omega))).trans ?_ | refine (heap_grow _ _ _ (by first | omega | (simp; done) | (simp; omega))).trans ?_ | refine (blk_drew _ _).trans ?_))); (omega); rintro e w' ⟨ay, ny, cy, oy, rfl, hgw, Hy⟩; (first | (obtain ⟨gyg, rfl⟩ := grows_of_grow hgw) | (obtain ⟨gyg, rfl⟩ := hgw)))
    | fail)
  all_goals
    have hy1 := Hy.out.1.le
    have hy2 := Hy.out.1.most
    by_cases hn0 : ny = 0
    case pos =>
      subst hn0
      go_wp2
      go_ret
      exact ⟨none, 0, 0, oy, rfl, (by repeat (first | exact Grows.refl _ | apply Grows.grow | apply Grows.alloc | apply Grows.drew)), Lib.hid ⟨IsRects.nil0 _ _, HSP.out _ Hy.out.2.1⟩⟩
    case neg =>
      go_wp2_with ((first | (go_at_call 51; (with_reducible refine (HAL.out _ (by repeat (first | exact Grows.refl _ | apply Grows.grow | apply Grows.alloc | apply Grows.drew))).mono ?_); rintro e w' ⟨rfl, hgw⟩; first | (obtain ⟨gw, rfl⟩ := grows_of_grow hgw) | (obtain ⟨gw, rfl⟩ := hgw))))
      go_ret
      exact ⟨_, 1, _, fun _ => allR, rfl, (by repeat (first | exact Grows.refl _ | apply Grows.grow | apply Grows.alloc | apply Grows.drew)), Lib.hid ⟨rects_one (x := allR) (by unfold Blk; repeat (first | exact blk_at _ _ _ (by first | omega | (simp; done) | (simp; omega)) | refine (blk_past _ _ _ (by first | omega | (simp; done) | (simp; omega))).trans ?_ | refine (heap_grow _ _ _ (by first | omega | (simp; done) | (simp; omega))).trans ?_ | refine (blk_drew _ _).trans ?_)) (by omega), spread_all⟩⟩
set_option maxRecDepth 100000 in
set_option maxHeartbeats 25600000 in
theorem ref13_Spread_11 (ia : Option Addr) (il ic : Nat) (pa : Option Addr) (pl pc : Nat) (p : Nat → Int) (al : Option Addr) (n cl : Nat) (ad : Option Addr) (na ca : Nat) (f : Nat → R) (r : R) (w : World) (hp : Hid (IsInts w pa pl pc p)) (hlp : (pl : Int) = prmN 11) (hl : Hid (IsOnes w al n cl (.slice ad na ca))) (hf : Hid (IsRects w ad na ca f)) (ho : Hid (OneReg f na r)) (hk : NodeOk 11 p n) :
    Calls Tryd.prog 19 #[.agg #[.int .i64 11, .slice ia il ic, .slice pa pl pc], .slice al n cl] w (RetSp w 11 p r) := by
  have m1 := hp.out.le
  have m2 := hp.out.most
  have m3 := hl.out.le
  have m4 := hl.out.most
  have m5 := hf.out.le
  have m6 := hf.out.most
  have hn8 := hk.few
  have hna := ho.out.few
  obtain rfl : pl = 8 := by have : prmN 11 = 8 := (by decide); omega
  obtain ⟨bp, offp, rfl, hbp, f0⟩ := hp.out.at (k := 0) (by omega)
  obtain ⟨b2, off2, e, -, f1⟩ := hp.out.at (k := 1) (by omega)
  cases e
  obtain ⟨b2, off2, e, -, f2⟩ := hp.out.at (k := 2) (by omega)
  cases e
  obtain ⟨b2, off2, e, -, f3⟩ := hp.out.at (k := 3) (by omega)
  cases e
  simp only [Nat.add_zero] at f0
  have n1 := hk.one (by omega)
  have hof := hk.off11 rfl
  have n1i : (0 : Int) < (n : Int) := by omega
  have n1n : 0 < n := by omega
  obtain ⟨bl, ol, rfl, hbl, l0⟩ := hl.out.at (k := 0) (by omega)
  simp only [Nat.add_zero] at l0
  obtain ⟨v0, hv0⟩ : ∃ z, z = p 0 := ⟨_, rfl⟩
  obtain ⟨v1, hv1⟩ : ∃ z, z = p 1 := ⟨_, rfl⟩
  obtain ⟨v2, hv2⟩ : ∃ z, z = p 2 := ⟨_, rfl⟩
  obtain ⟨v3, hv3⟩ : ∃ z, z = p 3 := ⟨_, rfl⟩
  rw [← hv0, ← hv1, ← hv2, ← hv3] at hof
  rw [← hv0] at f0
  rw [← hv1] at f1
  rw [← hv2] at f2
  rw [← hv3] at f3
  have HMV : Hid (∀ W, Grows w W → Calls Tryd.prog 49 #[.slice ad na ca, .int .i64 v0, .int .i64 v1] W (RetSets W onPl onPl na (fun u v => hasL (fun i => moveR (f i) v0 v1) na u v))) := fun W g => ref04_Move onPl onPl (fun _ h => h) (fun _ h => h) ad na ca f v0 v1 W (Lib.hid (hf.out.grows g)) (by omega) (by omega) ho.out.right (fun i hi => inBC_right (moveR_right (ho.out.right i hi)))
  have HGW : Hid (∀ W a1 n1 c1 g1, IsRects W a1 n1 c1 g1 → SetsOk onPl onPl na g1 n1 → Calls Tryd.prog 50 #[.slice a1 n1 c1, .int .i64 v2, .int .i64 v3, .int .i64 v2, .int .i64 v3] W (RetSets W onPl onPl n1 (fun u v => hasL (fun i => growR (g1 i) v2 v3 v2 v3) n1 u v))) := fun W a1 n1 c1 g1 h1 h2 => ref04_Grow onPl onPl (fun _ h => h) (fun _ h => h) a1 n1 c1 g1 v2 v3 v2 v3 W (Lib.hid h1) (by have := h2.few1 hna; omega) (by omega) h2.rights (fun i hi => inBC_right (grow_rightS _ _ _ _ _))
  have HST : Hid (∀ W a1 n1 c1 g1 k1, Grows w W → IsRects W a1 n1 c1 g1 → SetsOk onPl onPl k1 g1 n1 → k1 ≤ 1 → Calls Tryd.prog 45 #[.slice ad na ca, .slice a1 n1 c1, .int .i64 0] W (RetSets W onPl onPl (na + n1) (fun u v => wantB 0 (hasL f na u v) (hasL g1 n1 u v)))) := fun W a1 n1 c1 g1 k1 g h1 h2 h3 => ref04_Sets onPl onPl (fun _ h => h) (fun _ h => h) ad a1 na ca n1 c1 f g1 0 W (Lib.hid (hf.out.grows g)) (Lib.hid h1) (by omega) (by omega) (by have := h2.few1 h3; omega) (fun i hi => inBC_right (ho.out.right i hi)) (fun i hi => inBC_right (h2.rights i hi))
  have HSP : Hid (∀ g1 n1 g2 n2 o m, (∀ u v, hasL g1 n1 u v = hasL (fun i => moveR (f i) v0 v1) na u v) → (∀ u v, hasL g2 n2 u v = hasL (fun i => growR (g1 i) v2 v3 v2 v3) n1 u v) → (∀ u v, hasL o m u v = wantB 0 (hasL f na u v) (hasL g2 n2 u v)) → SpreadOk 11 p r o m) := fun g1 n1 g2 n2 o m h1 h2 h3 => by rw [hv0, hv1] at h1; rw [hv2, hv3] at h2; exact spread_11 hk ho.out.has h1 h2 h3 ho.out.right
  clear hv0 hv1 hv2 hv3 hk hp hl hf ho hlp hof
  go_enter Tryd.func19, Tryd.ntmps19
  go_wp2
  go_region_held3 (fun w' => w'.cell? ⟨bl, ol, none⟩ = some (.slice ad na ca) ∧ w'.cell? ⟨bp, offp, none⟩ = some (.int .i64 v0) ∧ w'.cell? ⟨bp, offp + 1, none⟩ = some (.int .i64 v1) ∧ w'.cell? ⟨bp, offp + 2, none⟩ = some (.int .i64 v2) ∧ w'.cell? ⟨bp, offp + 3, none⟩ = some (.int .i64 v3)) (refine ⟨gcell' (Grows.trans (Grows.refl _) ?_) hbl l0, gcell' (Grows.trans (Grows.refl _) ?_) hbp f0, gcell' (Grows.trans (Grows.refl _) ?_) hbp f1, gcell' (Grows.trans (Grows.refl _) ?_) hbp f2, gcell' (Grows.trans (Grows.refl _) ?_) hbp f3⟩ <;> ((repeat (first | exact Grows.refl _ | apply Grows.grow | apply Grows.alloc | apply Grows.drew)); done)) (first
    | (go_at_call 45; (with_reducible refine Calls.mono (HST.out _ ay ny cy oy nx ?_ ?_ ?_ ?_) ?_); (exact (by repeat (first | exact Grows.refl _ | apply Grows.grow | apply Grows.alloc | apply Grows.drew))); (exact Hy.out.1.grows (by repeat (first | exact Grows.refl _ | apply Grows.grow | apply Grows.alloc | apply Grows.drew))); (exact Hy.out.2.2); (exact Hx.out.2.2.few1 hna); rintro e w' ⟨az, nz, cz, oz, rfl, hgw, Hz⟩; (first | (obtain ⟨gzg, rfl⟩ := grows_of_grow hgw) | (obtain ⟨gzg, rfl⟩ := hgw)))
    | (go_at_call 50; (with_reducible refine Calls.mono (HGW.out _ ax nx cx ox ?_ ?_) ?_); (exact Hx.out.1.grows (by repeat (first | exact Grows.refl _ | apply Grows.grow | apply Grows.alloc | apply Grows.drew))); (exact Hx.out.2.2); rintro e w' ⟨ay, ny, cy, oy, rfl, hgw, Hy⟩; (first | (obtain ⟨gyg, rfl⟩ := grows_of_grow hgw) | (obtain ⟨gyg, rfl⟩ := hgw)))
    | (go_at_call 49; (with_reducible refine Calls.mono (HMV.out _ (by repeat (first | exact Grows.refl _ | apply Grows.grow | apply Grows.alloc | apply Grows.drew))) ?_); rintro e w' ⟨ax, nx, cx, ox, rfl, hgw, Hx⟩; (first | (obtain ⟨gxg, rfl⟩ := grows_of_grow hgw) | (obtain ⟨gxg, rfl⟩ := hgw)); (try simp only [grow_drew] at Hx))
    | fail)
  all_goals
    go_wp2
    go_ret
    exact ⟨_, _, _, _, rfl, (by repeat (first | exact Grows.refl _ | apply Grows.grow | apply Grows.alloc | apply Grows.drew)), Lib.hid ⟨Hz.out.1.grows (by repeat (first | exact Grows.refl _ | apply Grows.grow | apply Grows.alloc | apply Grows.drew)), HSP.out _ _ _ _ _ _ Hx.out.2.1 Hy.out.2.1 Hz.out.2.1⟩⟩
end Go.Proofs.YtklcmlbkhjcaiaaDoor
/- Layer 13, the document's: the walk of Spread: joined, nothing. -/


namespace Go.Proofs.YtklcmlbkhjcaiaaDoor
open Go.RowKit
set_option linter.unusedVariables false

set_option maxRecDepth 100000 in
set_option maxHeartbeats 25600000 in
theorem ref13_Spread_5 (ia : Option Addr) (il ic : Nat) (pa : Option Addr) (pl pc : Nat) (p : Nat → Int) (al : Option Addr) (n cl : Nat) (ad : Option Addr) (na ca : Nat) (f : Nat → R) (r : R) (w : World) (hp : Hid (IsInts w pa pl pc p)) (hlp : (pl : Int) = prmN 5) (hl : Hid (IsOnes w al n cl (.slice ad na ca))) (hf : Hid (IsRects w ad na ca f)) (ho : Hid (OneReg f na r)) (hr : rightR r = true) (hk : NodeOk 5 p n) :
    Calls Tryd.prog 19 #[.agg #[.int .i64 5, .slice ia il ic, .slice pa pl pc], .slice al n cl] w (RetSp w 5 p r) := by
  have m1 := hp.out.le
  have m2 := hp.out.most
  have m3 := hl.out.le
  have m4 := hl.out.most
  have m5 := hf.out.le
  have m6 := hf.out.most
  have hn8 := hk.few
  have hna := ho.out.few
  have n1 := hk.one (by omega)
  have HS0 : Hid (∀ W a1 n1 c1 g1, IsRects W a1 n1 c1 g1 → n1 ≤ 1 → (∀ i, i < n1 → inBC (fun z => z = r.x0 ∨ z = r.x1) (fun z => z = r.y0 ∨ z = r.y1) (g1 i)) → Grows w W → Calls Tryd.prog 45 #[.slice a1 n1 c1, .slice ad na ca, .int .i64 0] W (RetSets W (fun z => z = r.x0 ∨ z = r.x1) (fun z => z = r.y0 ∨ z = r.y1) (n1 + na) (fun u v => wantB 0 (hasL g1 n1 u v) (hasL f na u v)))) := fun W a1 n1 c1 g1 h1 h2 h3 g => ref04_Sets _ _ (fun z h => by have := (rightR_iff r).1 hr; unfold onPl; rcases h with h | h <;> omega) (fun z h => by have := (rightR_iff r).1 hr; unfold onPl; rcases h with h | h <;> omega) a1 ad n1 c1 na ca g1 f 0 W (Lib.hid h1) (Lib.hid (hf.out.grows g)) (by omega) (by omega) (by omega) h3 ho.out.edge
  have HU : Hid (∀ (o : Nat → R) (m : Nat) (o2 : Nat → R) (m2 k : Nat), (k = 0 → m = 0) → (0 < k → ∀ u v, hasL o m u v = hasR r u v) → (∀ u v, hasL o2 m2 u v = wantB 0 (hasL o m u v) (hasL f na u v)) → ∀ u v, hasL o2 m2 u v = hasR r u v) := fun o m o2 m2 k h1 h2 h3 u v => by
    rw [h3, ho.out.has]
    rcases Nat.eq_zero_or_pos k with e | e
    · rw [h1 e]; simp [wantB, hasL]
    · rw [h2 e]; simp [wantB]
  have HSP : Hid (∀ o m, (∀ u v, hasL o m u v = hasR r u v) → SpreadOk 5 p r o m) := fun o m h => spread_u (by omega) h
  clear hk hp hf ho hlp hr
  go_enter Tryd.func19, Tryd.ntmps19
  go_wp2
  refine wp_name ?_
  intro W0 hW0
  have B0 : Hid (Blk W0 w.heap.size 24 #[.int .i64 5, .slice ia il ic, .slice pa pl pc]) := by rw [hW0]; exact (by unfold Blk; repeat (first | exact blk_at _ _ _ (by first | omega | (simp; done) | (simp; omega)) | refine (blk_past _ _ _ (by first | omega | (simp; done) | (simp; omega))).trans ?_ | refine (heap_grow _ _ _ (by first | omega | (simp; done) | (simp; omega))).trans ?_ | refine (blk_drew _ _).trans ?_))
  have G0 : Hid (Grows w W0) := by rw [hW0]; exact (by repeat (first | exact Grows.refl _ | apply Grows.grow | apply Grows.alloc | apply Grows.drew))
  clear hW0
  go_loopw [6, 7] (fun v i wr => ∃ (k : Nat) (a' : Option Addr) (m c : Nat) (o : Nat → R), k ≤ n ∧ i = .int .i64 k ∧ v = .slice a' m c ∧ Hid (Grows W0 wr ∧ IsRects wr a' m c o ∧ m ≤ 1 ∧ (∀ i, i < m → inBC (fun z => z = r.x0 ∨ z = r.x1) (fun z => z = r.y0 ∨ z = r.y1) (o i)) ∧ (k = 0 → m = 0) ∧ (0 < k → ∀ u v, hasL o m u v = hasR r u v))) (fun _ i _ => n - (intOf i).toNat)
  case atStart => exact ⟨0, none, 0, 0, fun _ => zeroR, by omega, rfl, rfl, (by repeat (first | exact Grows.refl _ | apply Grows.grow | apply Grows.alloc | apply Grows.drew)), IsRects.nil0 _ _, by omega, fun i hi => by omega, fun _ => rfl, fun h => by omega⟩
  case round =>
    obtain ⟨k, a2, m, c, o, hk, rfl, rfl, hh⟩ := hrel
    have b1 := hh.out.2.1.le
    have b2 := hh.out.2.1.most
    by_cases hlt : k < n
    · obtain ⟨bl, ol, rfl, hbl, l0⟩ := (hl.out.grows (G0.out.trans hh.out.1)).at hlt
      have d0 := B0.out.grows hh.out.1
      obtain ⟨c0, c1, c2, cf⟩ := d0.c3'
      have ld := d0.lt
      clear d0
      have HST : Hid (∀ W, Grows wr W → Calls Tryd.prog 45 #[.slice a2 m c, .slice ad na ca, .int .i64 0] W (RetSets W (fun z => z = r.x0 ∨ z = r.x1) (fun z => z = r.y0 ∨ z = r.y1) (m + na) (fun u v => wantB 0 (hasL o m u v) (hasL f na u v)))) := fun W g => HS0.out W a2 m c o (hh.out.2.1.grows g) hh.out.2.2.1 hh.out.2.2.2.1 (G0.out.trans (hh.out.1.trans g))
      go_wp2_with (first
        | (go_at_call 45; (with_reducible refine Calls.mono (HST.out _ (by repeat (first | exact Grows.refl _ | apply Grows.grow | apply Grows.alloc | apply Grows.drew))) ?_); rintro e w' ⟨ay, ny, cy, oy, rfl, hgw, Hy⟩; (first | (obtain ⟨gyg, rfl⟩ := grows_of_grow hgw) | (obtain ⟨gyg, rfl⟩ := hgw))))
      go_roundw
      case rel => exact ⟨k + 1, ay, ny, cy, oy, by omega, by go_num, rfl, hh.out.1.trans (by repeat (first | exact Grows.refl _ | apply Grows.grow | apply Grows.alloc | apply Grows.drew)), Hy.out.1.grows (by repeat (first | exact Grows.refl _ | apply Grows.grow | apply Grows.alloc | apply Grows.drew)), Hy.out.2.2.two, fun i hi _ => Hy.out.2.2.inb i hi, fun h => by omega, fun _ u v => HU.out o m oy ny k hh.out.2.2.2.2.1 hh.out.2.2.2.2.2 Hy.out.2.1 u v⟩
      case measure => simp [intOf]; omega
    · obtain rfl : n = k := by omega
      go_wp2
      go_ret
      exact ⟨_, _, _, _, rfl, G0.out.trans (hh.out.1.trans (by repeat (first | exact Grows.refl _ | apply Grows.grow | apply Grows.alloc | apply Grows.drew))), Lib.hid ⟨hh.out.2.1.grows (by repeat (first | exact Grows.refl _ | apply Grows.grow | apply Grows.alloc | apply Grows.drew)), HSP.out o m (hh.out.2.2.2.2.2 (by omega))⟩⟩
set_option maxRecDepth 100000 in
set_option maxHeartbeats 25600000 in
theorem ref13_Spread_7 (ia : Option Addr) (il ic : Nat) (pa : Option Addr) (pl pc : Nat) (p : Nat → Int) (al : Option Addr) (n cl : Nat) (ad : Option Addr) (na ca : Nat) (f : Nat → R) (r : R) (w : World) (hp : Hid (IsInts w pa pl pc p)) (hlp : (pl : Int) = prmN 7) (hl : Hid (IsOnes w al n cl (.slice ad na ca))) (hf : Hid (IsRects w ad na ca f)) (ho : Hid (OneReg f na r)) (hr : rightR r = true) (hk : NodeOk 7 p n) :
    Calls Tryd.prog 19 #[.agg #[.int .i64 7, .slice ia il ic, .slice pa pl pc], .slice al n cl] w (RetSp w 7 p r) := by
  have m1 := hp.out.le
  have m2 := hp.out.most
  have m3 := hl.out.le
  have m4 := hl.out.most
  have m5 := hf.out.le
  have m6 := hf.out.most
  have hn8 := hk.few
  have hna := ho.out.few
  have n1 := hk.one (by omega)
  have HS0 : Hid (∀ W a1 n1 c1 g1, IsRects W a1 n1 c1 g1 → n1 ≤ 1 → (∀ i, i < n1 → inBC (fun z => z = r.x0 ∨ z = r.x1) (fun z => z = r.y0 ∨ z = r.y1) (g1 i)) → Grows w W → Calls Tryd.prog 45 #[.slice a1 n1 c1, .slice ad na ca, .int .i64 0] W (RetSets W (fun z => z = r.x0 ∨ z = r.x1) (fun z => z = r.y0 ∨ z = r.y1) (n1 + na) (fun u v => wantB 0 (hasL g1 n1 u v) (hasL f na u v)))) := fun W a1 n1 c1 g1 h1 h2 h3 g => ref04_Sets _ _ (fun z h => by have := (rightR_iff r).1 hr; unfold onPl; rcases h with h | h <;> omega) (fun z h => by have := (rightR_iff r).1 hr; unfold onPl; rcases h with h | h <;> omega) a1 ad n1 c1 na ca g1 f 0 W (Lib.hid h1) (Lib.hid (hf.out.grows g)) (by omega) (by omega) (by omega) h3 ho.out.edge
  have HU : Hid (∀ (o : Nat → R) (m : Nat) (o2 : Nat → R) (m2 k : Nat), (k = 0 → m = 0) → (0 < k → ∀ u v, hasL o m u v = hasR r u v) → (∀ u v, hasL o2 m2 u v = wantB 0 (hasL o m u v) (hasL f na u v)) → ∀ u v, hasL o2 m2 u v = hasR r u v) := fun o m o2 m2 k h1 h2 h3 u v => by
    rw [h3, ho.out.has]
    rcases Nat.eq_zero_or_pos k with e | e
    · rw [h1 e]; simp [wantB, hasL]
    · rw [h2 e]; simp [wantB]
  have HSP : Hid (∀ o m, (∀ u v, hasL o m u v = hasR r u v) → SpreadOk 7 p r o m) := fun o m h => spread_u (by omega) h
  clear hk hp hf ho hlp hr
  go_enter Tryd.func19, Tryd.ntmps19
  go_wp2
  refine wp_name ?_
  intro W0 hW0
  have B0 : Hid (Blk W0 w.heap.size 24 #[.int .i64 7, .slice ia il ic, .slice pa pl pc]) := by rw [hW0]; exact (by unfold Blk; repeat (first | exact blk_at _ _ _ (by first | omega | (simp; done) | (simp; omega)) | refine (blk_past _ _ _ (by first | omega | (simp; done) | (simp; omega))).trans ?_ | refine (heap_grow _ _ _ (by first | omega | (simp; done) | (simp; omega))).trans ?_ | refine (blk_drew _ _).trans ?_))
  have G0 : Hid (Grows w W0) := by rw [hW0]; exact (by repeat (first | exact Grows.refl _ | apply Grows.grow | apply Grows.alloc | apply Grows.drew))
  clear hW0
  go_loopw [6, 7] (fun v i wr => ∃ (k : Nat) (a' : Option Addr) (m c : Nat) (o : Nat → R), k ≤ n ∧ i = .int .i64 k ∧ v = .slice a' m c ∧ Hid (Grows W0 wr ∧ IsRects wr a' m c o ∧ m ≤ 1 ∧ (∀ i, i < m → inBC (fun z => z = r.x0 ∨ z = r.x1) (fun z => z = r.y0 ∨ z = r.y1) (o i)) ∧ (k = 0 → m = 0) ∧ (0 < k → ∀ u v, hasL o m u v = hasR r u v))) (fun _ i _ => n - (intOf i).toNat)
  case atStart => exact ⟨0, none, 0, 0, fun _ => zeroR, by omega, rfl, rfl, (by repeat (first | exact Grows.refl _ | apply Grows.grow | apply Grows.alloc | apply Grows.drew)), IsRects.nil0 _ _, by omega, fun i hi => by omega, fun _ => rfl, fun h => by omega⟩
  case round =>
    obtain ⟨k, a2, m, c, o, hk, rfl, rfl, hh⟩ := hrel
    have b1 := hh.out.2.1.le
    have b2 := hh.out.2.1.most
    by_cases hlt : k < n
    · obtain ⟨bl, ol, rfl, hbl, l0⟩ := (hl.out.grows (G0.out.trans hh.out.1)).at hlt
      have d0 := B0.out.grows hh.out.1
      obtain ⟨c0, c1, c2, cf⟩ := d0.c3'
      have ld := d0.lt
      clear d0
      have HST : Hid (∀ W, Grows wr W → Calls Tryd.prog 45 #[.slice a2 m c, .slice ad na ca, .int .i64 0] W (RetSets W (fun z => z = r.x0 ∨ z = r.x1) (fun z => z = r.y0 ∨ z = r.y1) (m + na) (fun u v => wantB 0 (hasL o m u v) (hasL f na u v)))) := fun W g => HS0.out W a2 m c o (hh.out.2.1.grows g) hh.out.2.2.1 hh.out.2.2.2.1 (G0.out.trans (hh.out.1.trans g))
      go_wp2_with (first
        | (go_at_call 45; (with_reducible refine Calls.mono (HST.out _ (by repeat (first | exact Grows.refl _ | apply Grows.grow | apply Grows.alloc | apply Grows.drew))) ?_); rintro e w' ⟨ay, ny, cy, oy, rfl, hgw, Hy⟩; (first | (obtain ⟨gyg, rfl⟩ := grows_of_grow hgw) | (obtain ⟨gyg, rfl⟩ := hgw))))
      go_roundw
      case rel => exact ⟨k + 1, ay, ny, cy, oy, by omega, by go_num, rfl, hh.out.1.trans (by repeat (first | exact Grows.refl _ | apply Grows.grow | apply Grows.alloc | apply Grows.drew)), Hy.out.1.grows (by repeat (first | exact Grows.refl _ | apply Grows.grow | apply Grows.alloc | apply Grows.drew)), Hy.out.2.2.two, fun i hi _ => Hy.out.2.2.inb i hi, fun h => by omega, fun _ u v => HU.out o m oy ny k hh.out.2.2.2.2.1 hh.out.2.2.2.2.2 Hy.out.2.1 u v⟩
      case measure => simp [intOf]; omega
    · obtain rfl : n = k := by omega
      go_wp2
      go_ret
      exact ⟨_, _, _, _, rfl, G0.out.trans (hh.out.1.trans (by repeat (first | exact Grows.refl _ | apply Grows.grow | apply Grows.alloc | apply Grows.drew))), Lib.hid ⟨hh.out.2.1.grows (by repeat (first | exact Grows.refl _ | apply Grows.grow | apply Grows.alloc | apply Grows.drew)), HSP.out o m (hh.out.2.2.2.2.2 (by omega))⟩⟩
set_option maxRecDepth 100000 in
set_option maxHeartbeats 25600000 in
theorem ref13_Spread_8 (ia : Option Addr) (il ic : Nat) (pa : Option Addr) (pl pc : Nat) (p : Nat → Int) (al : Option Addr) (n cl : Nat) (ad : Option Addr) (na ca : Nat) (f : Nat → R) (r : R) (w : World) (hp : Hid (IsInts w pa pl pc p)) (hlp : (pl : Int) = prmN 8) (hl : Hid (IsOnes w al n cl (.slice ad na ca))) (hf : Hid (IsRects w ad na ca f)) (ho : Hid (OneReg f na r)) (hr : rightR r = true) (hk : NodeOk 8 p n) :
    Calls Tryd.prog 19 #[.agg #[.int .i64 8, .slice ia il ic, .slice pa pl pc], .slice al n cl] w (RetSp w 8 p r) := by
  have m1 := hp.out.le
  have m2 := hp.out.most
  have m3 := hl.out.le
  have m4 := hl.out.most
  have m5 := hf.out.le
  have m6 := hf.out.most
  have hn8 := hk.few
  have hna := ho.out.few
  have n1 := hk.one (by omega)
  have HS0 : Hid (∀ W a1 n1 c1 g1, IsRects W a1 n1 c1 g1 → n1 ≤ 1 → (∀ i, i < n1 → inBC (fun z => z = r.x0 ∨ z = r.x1) (fun z => z = r.y0 ∨ z = r.y1) (g1 i)) → Grows w W → Calls Tryd.prog 45 #[.slice a1 n1 c1, .slice ad na ca, .int .i64 0] W (RetSets W (fun z => z = r.x0 ∨ z = r.x1) (fun z => z = r.y0 ∨ z = r.y1) (n1 + na) (fun u v => wantB 0 (hasL g1 n1 u v) (hasL f na u v)))) := fun W a1 n1 c1 g1 h1 h2 h3 g => ref04_Sets _ _ (fun z h => by have := (rightR_iff r).1 hr; unfold onPl; rcases h with h | h <;> omega) (fun z h => by have := (rightR_iff r).1 hr; unfold onPl; rcases h with h | h <;> omega) a1 ad n1 c1 na ca g1 f 0 W (Lib.hid h1) (Lib.hid (hf.out.grows g)) (by omega) (by omega) (by omega) h3 ho.out.edge
  have HU : Hid (∀ (o : Nat → R) (m : Nat) (o2 : Nat → R) (m2 k : Nat), (k = 0 → m = 0) → (0 < k → ∀ u v, hasL o m u v = hasR r u v) → (∀ u v, hasL o2 m2 u v = wantB 0 (hasL o m u v) (hasL f na u v)) → ∀ u v, hasL o2 m2 u v = hasR r u v) := fun o m o2 m2 k h1 h2 h3 u v => by
    rw [h3, ho.out.has]
    rcases Nat.eq_zero_or_pos k with e | e
    · rw [h1 e]; simp [wantB, hasL]
    · rw [h2 e]; simp [wantB]
  have HSP : Hid (∀ o m, (∀ u v, hasL o m u v = hasR r u v) → SpreadOk 8 p r o m) := fun o m h => spread_u (by omega) h
  clear hk hp hf ho hlp hr
  go_enter Tryd.func19, Tryd.ntmps19
  go_wp2
  refine wp_name ?_
  intro W0 hW0
  have B0 : Hid (Blk W0 w.heap.size 24 #[.int .i64 8, .slice ia il ic, .slice pa pl pc]) := by rw [hW0]; exact (by unfold Blk; repeat (first | exact blk_at _ _ _ (by first | omega | (simp; done) | (simp; omega)) | refine (blk_past _ _ _ (by first | omega | (simp; done) | (simp; omega))).trans ?_ | refine (heap_grow _ _ _ (by first | omega | (simp; done) | (simp; omega))).trans ?_ | refine (blk_drew _ _).trans ?_))
  have G0 : Hid (Grows w W0) := by rw [hW0]; exact (by repeat (first | exact Grows.refl _ | apply Grows.grow | apply Grows.alloc | apply Grows.drew))
  clear hW0
  go_loopw [6, 7] (fun v i wr => ∃ (k : Nat) (a' : Option Addr) (m c : Nat) (o : Nat → R), k ≤ n ∧ i = .int .i64 k ∧ v = .slice a' m c ∧ Hid (Grows W0 wr ∧ IsRects wr a' m c o ∧ m ≤ 1 ∧ (∀ i, i < m → inBC (fun z => z = r.x0 ∨ z = r.x1) (fun z => z = r.y0 ∨ z = r.y1) (o i)) ∧ (k = 0 → m = 0) ∧ (0 < k → ∀ u v, hasL o m u v = hasR r u v))) (fun _ i _ => n - (intOf i).toNat)
  case atStart => exact ⟨0, none, 0, 0, fun _ => zeroR, by omega, rfl, rfl, (by repeat (first | exact Grows.refl _ | apply Grows.grow | apply Grows.alloc | apply Grows.drew)), IsRects.nil0 _ _, by omega, fun i hi => by omega, fun _ => rfl, fun h => by omega⟩
  case round =>
    obtain ⟨k, a2, m, c, o, hk, rfl, rfl, hh⟩ := hrel
    have b1 := hh.out.2.1.le
    have b2 := hh.out.2.1.most
    by_cases hlt : k < n
    · obtain ⟨bl, ol, rfl, hbl, l0⟩ := (hl.out.grows (G0.out.trans hh.out.1)).at hlt
      have d0 := B0.out.grows hh.out.1
      obtain ⟨c0, c1, c2, cf⟩ := d0.c3'
      have ld := d0.lt
      clear d0
      have HST : Hid (∀ W, Grows wr W → Calls Tryd.prog 45 #[.slice a2 m c, .slice ad na ca, .int .i64 0] W (RetSets W (fun z => z = r.x0 ∨ z = r.x1) (fun z => z = r.y0 ∨ z = r.y1) (m + na) (fun u v => wantB 0 (hasL o m u v) (hasL f na u v)))) := fun W g => HS0.out W a2 m c o (hh.out.2.1.grows g) hh.out.2.2.1 hh.out.2.2.2.1 (G0.out.trans (hh.out.1.trans g))
      go_wp2_with (first
        | (go_at_call 45; (with_reducible refine Calls.mono (HST.out _ (by repeat (first | exact Grows.refl _ | apply Grows.grow | apply Grows.alloc | apply Grows.drew))) ?_); rintro e w' ⟨ay, ny, cy, oy, rfl, hgw, Hy⟩; (first | (obtain ⟨gyg, rfl⟩ := grows_of_grow hgw) | (obtain ⟨gyg, rfl⟩ := hgw))))
      go_roundw
      case rel => exact ⟨k + 1, ay, ny, cy, oy, by omega, by go_num, rfl, hh.out.1.trans (by repeat (first | exact Grows.refl _ | apply Grows.grow | apply Grows.alloc | apply Grows.drew)), Hy.out.1.grows (by repeat (first | exact Grows.refl _ | apply Grows.grow | apply Grows.alloc | apply Grows.drew)), Hy.out.2.2.two, fun i hi _ => Hy.out.2.2.inb i hi, fun h => by omega, fun _ u v => HU.out o m oy ny k hh.out.2.2.2.2.1 hh.out.2.2.2.2.2 Hy.out.2.1 u v⟩
      case measure => simp [intOf]; omega
    · obtain rfl : n = k := by omega
      go_wp2
      go_ret
      exact ⟨_, _, _, _, rfl, G0.out.trans (hh.out.1.trans (by repeat (first | exact Grows.refl _ | apply Grows.grow | apply Grows.alloc | apply Grows.drew))), Lib.hid ⟨hh.out.2.1.grows (by repeat (first | exact Grows.refl _ | apply Grows.grow | apply Grows.alloc | apply Grows.drew)), HSP.out o m (hh.out.2.2.2.2.2 (by omega))⟩⟩
set_option maxRecDepth 100000 in
set_option maxHeartbeats 25600000 in
theorem ref13_Spread_9 (ia : Option Addr) (il ic : Nat) (pa : Option Addr) (pl pc : Nat) (p : Nat → Int) (al : Option Addr) (n cl : Nat) (ad : Option Addr) (na ca : Nat) (f : Nat → R) (r : R) (w : World) (hp : Hid (IsInts w pa pl pc p)) (hlp : (pl : Int) = prmN 9) (hl : Hid (IsOnes w al n cl (.slice ad na ca))) (hf : Hid (IsRects w ad na ca f)) (ho : Hid (OneReg f na r)) (hr : rightR r = true) (hk : NodeOk 9 p n) :
    Calls Tryd.prog 19 #[.agg #[.int .i64 9, .slice ia il ic, .slice pa pl pc], .slice al n cl] w (RetSp w 9 p r) := by
  have m1 := hp.out.le
  have m2 := hp.out.most
  have m3 := hl.out.le
  have m4 := hl.out.most
  have m5 := hf.out.le
  have m6 := hf.out.most
  have hn8 := hk.few
  have hna := ho.out.few
  have n1 := hk.one (by omega)
  have HS0 : Hid (∀ W a1 n1 c1 g1, IsRects W a1 n1 c1 g1 → n1 ≤ 1 → (∀ i, i < n1 → inBC (fun z => z = r.x0 ∨ z = r.x1) (fun z => z = r.y0 ∨ z = r.y1) (g1 i)) → Grows w W → Calls Tryd.prog 45 #[.slice a1 n1 c1, .slice ad na ca, .int .i64 0] W (RetSets W (fun z => z = r.x0 ∨ z = r.x1) (fun z => z = r.y0 ∨ z = r.y1) (n1 + na) (fun u v => wantB 0 (hasL g1 n1 u v) (hasL f na u v)))) := fun W a1 n1 c1 g1 h1 h2 h3 g => ref04_Sets _ _ (fun z h => by have := (rightR_iff r).1 hr; unfold onPl; rcases h with h | h <;> omega) (fun z h => by have := (rightR_iff r).1 hr; unfold onPl; rcases h with h | h <;> omega) a1 ad n1 c1 na ca g1 f 0 W (Lib.hid h1) (Lib.hid (hf.out.grows g)) (by omega) (by omega) (by omega) h3 ho.out.edge
  have HU : Hid (∀ (o : Nat → R) (m : Nat) (o2 : Nat → R) (m2 k : Nat), (k = 0 → m = 0) → (0 < k → ∀ u v, hasL o m u v = hasR r u v) → (∀ u v, hasL o2 m2 u v = wantB 0 (hasL o m u v) (hasL f na u v)) → ∀ u v, hasL o2 m2 u v = hasR r u v) := fun o m o2 m2 k h1 h2 h3 u v => by
    rw [h3, ho.out.has]
    rcases Nat.eq_zero_or_pos k with e | e
    · rw [h1 e]; simp [wantB, hasL]
    · rw [h2 e]; simp [wantB]
  have HSP : Hid (∀ o m, (∀ u v, hasL o m u v = hasR r u v) → SpreadOk 9 p r o m) := fun o m h => spread_u (by omega) h
  clear hk hp hf ho hlp hr
  go_enter Tryd.func19, Tryd.ntmps19
  go_wp2
  refine wp_name ?_
  intro W0 hW0
  have B0 : Hid (Blk W0 w.heap.size 24 #[.int .i64 9, .slice ia il ic, .slice pa pl pc]) := by rw [hW0]; exact (by unfold Blk; repeat (first | exact blk_at _ _ _ (by first | omega | (simp; done) | (simp; omega)) | refine (blk_past _ _ _ (by first | omega | (simp; done) | (simp; omega))).trans ?_ | refine (heap_grow _ _ _ (by first | omega | (simp; done) | (simp; omega))).trans ?_ | refine (blk_drew _ _).trans ?_))
  have G0 : Hid (Grows w W0) := by rw [hW0]; exact (by repeat (first | exact Grows.refl _ | apply Grows.grow | apply Grows.alloc | apply Grows.drew))
  clear hW0
  go_loopw [6, 7] (fun v i wr => ∃ (k : Nat) (a' : Option Addr) (m c : Nat) (o : Nat → R), k ≤ n ∧ i = .int .i64 k ∧ v = .slice a' m c ∧ Hid (Grows W0 wr ∧ IsRects wr a' m c o ∧ m ≤ 1 ∧ (∀ i, i < m → inBC (fun z => z = r.x0 ∨ z = r.x1) (fun z => z = r.y0 ∨ z = r.y1) (o i)) ∧ (k = 0 → m = 0) ∧ (0 < k → ∀ u v, hasL o m u v = hasR r u v))) (fun _ i _ => n - (intOf i).toNat)
  case atStart => exact ⟨0, none, 0, 0, fun _ => zeroR, by omega, rfl, rfl, (by repeat (first | exact Grows.refl _ | apply Grows.grow | apply Grows.alloc | apply Grows.drew)), IsRects.nil0 _ _, by omega, fun i hi => by omega, fun _ => rfl, fun h => by omega⟩
  case round =>
    obtain ⟨k, a2, m, c, o, hk, rfl, rfl, hh⟩ := hrel
    have b1 := hh.out.2.1.le
    have b2 := hh.out.2.1.most
    by_cases hlt : k < n
    · obtain ⟨bl, ol, rfl, hbl, l0⟩ := (hl.out.grows (G0.out.trans hh.out.1)).at hlt
      have d0 := B0.out.grows hh.out.1
      obtain ⟨c0, c1, c2, cf⟩ := d0.c3'
      have ld := d0.lt
      clear d0
      have HST : Hid (∀ W, Grows wr W → Calls Tryd.prog 45 #[.slice a2 m c, .slice ad na ca, .int .i64 0] W (RetSets W (fun z => z = r.x0 ∨ z = r.x1) (fun z => z = r.y0 ∨ z = r.y1) (m + na) (fun u v => wantB 0 (hasL o m u v) (hasL f na u v)))) := fun W g => HS0.out W a2 m c o (hh.out.2.1.grows g) hh.out.2.2.1 hh.out.2.2.2.1 (G0.out.trans (hh.out.1.trans g))
      go_wp2_with (first
        | (go_at_call 45; (with_reducible refine Calls.mono (HST.out _ (by repeat (first | exact Grows.refl _ | apply Grows.grow | apply Grows.alloc | apply Grows.drew))) ?_); rintro e w' ⟨ay, ny, cy, oy, rfl, hgw, Hy⟩; (first | (obtain ⟨gyg, rfl⟩ := grows_of_grow hgw) | (obtain ⟨gyg, rfl⟩ := hgw))))
      go_roundw
      case rel => exact ⟨k + 1, ay, ny, cy, oy, by omega, by go_num, rfl, hh.out.1.trans (by repeat (first | exact Grows.refl _ | apply Grows.grow | apply Grows.alloc | apply Grows.drew)), Hy.out.1.grows (by repeat (first | exact Grows.refl _ | apply Grows.grow | apply Grows.alloc | apply Grows.drew)), Hy.out.2.2.two, fun i hi _ => Hy.out.2.2.inb i hi, fun h => by omega, fun _ u v => HU.out o m oy ny k hh.out.2.2.2.2.1 hh.out.2.2.2.2.2 Hy.out.2.1 u v⟩
      case measure => simp [intOf]; omega
    · obtain rfl : n = k := by omega
      go_wp2
      go_ret
      exact ⟨_, _, _, _, rfl, G0.out.trans (hh.out.1.trans (by repeat (first | exact Grows.refl _ | apply Grows.grow | apply Grows.alloc | apply Grows.drew))), Lib.hid ⟨hh.out.2.1.grows (by repeat (first | exact Grows.refl _ | apply Grows.grow | apply Grows.alloc | apply Grows.drew)), HSP.out o m (hh.out.2.2.2.2.2 (by omega))⟩⟩
set_option maxRecDepth 100000 in
set_option maxHeartbeats 25600000 in
theorem ref13_Spread_6 (ia : Option Addr) (il ic : Nat) (pa : Option Addr) (pl pc : Nat) (p : Nat → Int) (al : Option Addr) (n cl : Nat) (ad : Option Addr) (na ca : Nat) (f : Nat → R) (r : R) (w : World) (hp : Hid (IsInts w pa pl pc p)) (hlp : (pl : Int) = prmN 6) (hl : Hid (IsOnes w al n cl (.slice ad na ca))) (hf : Hid (IsRects w ad na ca f)) (ho : Hid (OneReg f na r)) (hk : NodeOk 6 p n) :
    Calls Tryd.prog 19 #[.agg #[.int .i64 6, .slice ia il ic, .slice pa pl pc], .slice al n cl] w (RetSp w 6 p r) := by
  have m1 := hp.out.le
  have m2 := hp.out.most
  have m3 := hl.out.le
  have m4 := hl.out.most
  have m5 := hf.out.le
  have m6 := hf.out.most
  have hn8 := hk.few
  have hna := ho.out.few
  have HSP : Hid (∀ o m, SpreadOk 6 p r o m) := fun o m => spread_6
  clear hk hp hl hf ho hlp
  go_enter Tryd.func19, Tryd.ntmps19
  go_wp2
  refine wp_name ?_
  intro W0 hW0
  have B0 : Hid (Blk W0 w.heap.size 24 #[.int .i64 6, .slice ia il ic, .slice pa pl pc]) := by rw [hW0]; exact (by unfold Blk; repeat (first | exact blk_at _ _ _ (by first | omega | (simp; done) | (simp; omega)) | refine (blk_past _ _ _ (by first | omega | (simp; done) | (simp; omega))).trans ?_ | refine (heap_grow _ _ _ (by first | omega | (simp; done) | (simp; omega))).trans ?_ | refine (blk_drew _ _).trans ?_))
  have G0 : Hid (Grows w W0) := by rw [hW0]; exact (by repeat (first | exact Grows.refl _ | apply Grows.grow | apply Grows.alloc | apply Grows.drew))
  clear hW0
  go_loopw [6, 7] (fun v i wr => i = .int .i64 0 ∧ v = .slice none 0 0 ∧ Hid (Grows W0 wr)) (fun _ i _ => n - (intOf i).toNat)
  case atStart => exact ⟨rfl, rfl, Grows.refl _⟩
  case round =>
    obtain ⟨rfl, rfl, hh⟩ := hrel
    have d0 := B0.out.grows hh.out
    obtain ⟨c0, c1, c2, cf⟩ := d0.c3'
    have ld := d0.lt
    clear d0
    by_cases h0 : 0 < n
    · go_wp2
      go_ret
      exact ⟨none, 0, 0, fun _ => zeroR, rfl, G0.out.trans (hh.out.trans (by repeat (first | exact Grows.refl _ | apply Grows.grow | apply Grows.alloc | apply Grows.drew))), Lib.hid ⟨IsRects.nil0 _ _, HSP.out _ _⟩⟩
    · go_wp2
      go_ret
      exact ⟨none, 0, 0, fun _ => zeroR, rfl, G0.out.trans (hh.out.trans (by repeat (first | exact Grows.refl _ | apply Grows.grow | apply Grows.alloc | apply Grows.drew))), Lib.hid ⟨IsRects.nil0 _ _, HSP.out _ _⟩⟩
end Go.Proofs.YtklcmlbkhjcaiaaDoor

/- Layer 13, the document's: the walk of Spread. -/


namespace Go.Proofs.YtklcmlbkhjcaiaaDoor
open Go.RowKit
set_option linter.unusedVariables false

theorem ref13_Spread (op : Int) (ia : Option Addr) (il ic : Nat) (pa : Option Addr) (pl pc : Nat) (p : Nat → Int) (al : Option Addr) (n cl : Nat) (ad : Option Addr) (na ca : Nat) (f : Nat → R) (r : R) (w : World) (hp : Hid (IsInts w pa pl pc p)) (hlp : (pl : Int) = prmN op) (hl : Hid (IsOnes w al n cl (.slice ad na ca))) (hf : Hid (IsRects w ad na ca f)) (ho : Hid (OneReg f na r)) (hr : rightR r = true) (hk : NodeOk op p n) :
    Calls Tryd.prog 19 #[.agg #[.int .i64 op, .slice ia il ic, .slice pa pl pc], .slice al n cl] w (RetSp w op p r) := by
  have hop := hk.op_
  have hc : op = 1 ∨ op = 2 ∨ op = 3 ∨ op = 4 ∨ op = 5 ∨ op = 6 ∨ op = 7 ∨ op = 8 ∨ op = 9 ∨ op = 10 ∨ op = 11 ∨ op = 12 := by omega
  rcases hc with rfl | rfl | rfl | rfl | rfl | rfl | rfl | rfl | rfl | rfl | rfl | rfl
  · exact ref13_Spread_1 ia il ic pa pl pc p al n cl ad na ca f r w hp hlp hl hf ho hk
  · exact ref13_Spread_2 ia il ic pa pl pc p al n cl ad na ca f r w hp hlp hl hf ho hk
  · exact ref13_Spread_3 ia il ic pa pl pc p al n cl ad na ca f r w hp hlp hl hf ho hk
  · exact ref13_Spread_4 ia il ic pa pl pc p al n cl ad na ca f r w hp hlp hl hf ho hk
  · exact ref13_Spread_5 ia il ic pa pl pc p al n cl ad na ca f r w hp hlp hl hf ho hr hk
  · exact ref13_Spread_6 ia il ic pa pl pc p al n cl ad na ca f r w hp hlp hl hf ho hk
  · exact ref13_Spread_7 ia il ic pa pl pc p al n cl ad na ca f r w hp hlp hl hf ho hr hk
  · exact ref13_Spread_8 ia il ic pa pl pc p al n cl ad na ca f r w hp hlp hl hf ho hr hk
  · exact ref13_Spread_9 ia il ic pa pl pc p al n cl ad na ca f r w hp hlp hl hf ho hr hk
  · exact ref13_Spread_10 ia il ic pa pl pc p al n cl ad na ca f r w hp hlp hl hf ho hk
  · exact ref13_Spread_11 ia il ic pa pl pc p al n cl ad na ca f r w hp hlp hl hf ho hk
  · exact ref13_Spread_12 ia il ic pa pl pc p al n cl ad na ca f r w hp hlp hl hf ho hk
end Go.Proofs.YtklcmlbkhjcaiaaDoor
