/- The walk of chapter 15's law KernelDoes. -/
import Derived.Test.YtklcmlbkhjcaiaaGreatDoorLaw15B
import Derived.Test.YtklcmlbkhjcaiaaGreatDoorRef15D
import Derived.Test.YtklcmlbkhjcaiaaGreatDoorK14




namespace Go.Proofs.YtklcmlbkhjcaiaaGreatDoor
open Go.RowKit
set_option linter.unusedVariables false

theorem Fine15.rightF {op : Int} {il pl : Nat} {p : Nat → Int} {ll : Nat} {g : Nat → Bf} {box : R} (h : Fine15 op il pl p ll g box) {i : Nat} (hi : i < ll) (x y : Int) : rightP (imgOf (g i).r (g i).f x y) := by
  obtain ⟨k1, g1, n1, kr⟩ := right10_yes (h.bufs i hi)
  exact imgOf_right g1 (fun j hj => kr j (by omega)) x y
set_option maxRecDepth 100000 in
set_option maxHeartbeats 51200000 in
theorem kernelDoes_walk (op : Int) (ia : Option Addr) (il ic : Nat) (is : Nat → Int) (pa : Option Addr) (pl pc : Nat) (ps : Nat → Int) (al : Option Addr) (ll cl : Nat) (g5 : Nat → Bf) (s : R) (w : World) (hop : -9223372036854775808 ≤ op ∧ op ≤ 9223372036854775807) (ht : Tabs w) (hi : IsInts w ia il ic is) (hp : IsInts w pa pl pc ps) (hb : IsBufs w al ll cl g5) :
    Calls Tryz.prog 3 #[.agg #[.int .i64 op, .slice ia il ic, .slice pa pl pc], .slice al ll cl, .agg #[.int .i64 s.x0, .int .i64 s.y0, .int .i64 s.x1, .int .i64 s.y1]] w fun e w' => e = .returned (.bool true) ∧ Grows w w' := by
  have m1 := hi.le
  have m2 := hi.most
  have m3 := hp.le
  have m4 := hp.most
  have m5 := hb.le
  have m6 := hb.most
  replace ht := Lib.hid ht
  replace hi := Lib.hid hi
  replace hp := Lib.hid hp
  replace hb := Lib.hid hb
  have HFI : Hid (∀ W c, Grows w W → fine15 op il is pl ps ll g5 s = c → Calls Tryz.prog 6 #[.agg #[.int .i64 op, .slice ia il ic, .slice pa pl pc], .slice al ll cl, .agg #[.int .i64 s.x0, .int .i64 s.y0, .int .i64 s.x1, .int .i64 s.y1]] W fun e w' => e = .returned (.bool c) ∧ Grows W w') := fun W c g hc => law15_fine op ia il ic is pa pl pc ps al ll cl g5 s c W (Lib.hid (ht.out.grows g)) (Lib.hid (hi.out.grows g)) (Lib.hid (hp.out.grows g)) (Lib.hid (hb.out.grows g)) (Lib.hid hc)
  cases c_F : fine15 op il is pl ps ll g5 s
  case false =>
    have CF := Lib.hid c_F
    clear c_F
    go_enter Tryz.func3, Tryz.ntmps3
    go_wp2_with (first | (first | (go_at_call 5; refine (awake15 _ ).mono ?_; rintro e w' ⟨rfl, hgw⟩; first | (obtain ⟨gw, rfl⟩ := grows_of_grow hgw) | (obtain ⟨gw, rfl⟩ := hgw))) | (go_at_call 6; (with_reducible refine Calls.mono (HFI.out _ false ?_ CF.out) ?_); (exact (by repeat (first | exact Grows.refl _ | apply Grows.grow | apply Grows.alloc | apply Grows.drew))); rintro e w' ⟨rfl, hgw⟩; first | (obtain ⟨gw, rfl⟩ := grows_of_grow hgw) | (obtain ⟨gw, rfl⟩ := hgw)))
    go_ret
    exact ⟨rfl, (by repeat (first | exact Grows.refl _ | apply Grows.grow | apply Grows.alloc | apply Grows.drew))⟩
  have CF := Lib.hid c_F
  have FI := fine15_yes c_F
  clear c_F
  obtain rfl := FI.len
  have h8 := FI.few.1
  obtain ⟨F, hF⟩ : ∃ F : Nat → Img, F = fun i => imgOf (g5 i).r (g5 i).f := ⟨_, rfl⟩
  have HBA : Hid (∀ i, i < ll → BufAt w (g5 i).r (g5 i).a (g5 i).len (g5 i).cap (F i) ∧ cntR (g5 i).r ≤ 300) := fun i hi => by rw [hF]; exact FI.bufAt hb.out hi
  have HDO : Hid (∀ W, Grows w W → Calls Tryz.prog 7 #[.agg #[.int .i64 op, .slice ia ll ic, .slice pa pl pc], .slice al ll cl, .agg #[.int .i64 s.x0, .int .i64 s.y0, .int .i64 s.x1, .int .i64 s.y1]] W (RetBuf W (someR s) (doF op ps ll F s))) := fun W g => kernel_Do op ia ll ic pa pl pc ps al ll cl g5 F s W (Lib.hid (hp.out.grows g)) FI.plen (Lib.hid (hb.out.grows g)) (Lib.hid (fun i hi => ⟨(HBA.out i hi).1.grows g, by have := (HBA.out i hi).2; omega⟩)) FI.node FI.small (by have := FI.cnt; omega) FI.rad FI.rad11
  have K4 : cntR (someR s) ≤ 200 := FI.cnt
  have HRD : Hid (∀ W, Grows w W → Calls Tryz.prog 9 #[.agg #[.int .i64 op, .slice ia ll ic, .slice pa pl pc], .slice al ll cl, .agg #[.int .i64 s.x0, .int .i64 s.y0, .int .i64 s.x1, .int .i64 s.y1]] W (RetBuf W (someR s) (doF op ps ll F s))) := fun W g => ref15_Do op ia ll ic pa pl pc ps al ll cl g5 F s W (Lib.hid (hp.out.grows g)) FI.plen (Lib.hid (hb.out.grows g)) (Lib.hid (fun i hi => ⟨(HBA.out i hi).1.grows g, by have := (HBA.out i hi).2; omega⟩)) FI.node FI.small (by have := FI.cnt; omega) FI.rad FI.rad11
  have BR : Hid (∀ x y, rightP (doF op ps ll F s x y)) := doF_right FI.node (fun i hi => (HBA.out i hi).1.fits.ok) (fun i hi x y => by rw [hF]; exact FI.rightF hi x y)
  obtain ⟨D, hD⟩ : ∃ z, z = doF op ps ll F s := ⟨_, rfl⟩
  obtain ⟨t, ht'⟩ : ∃ z, z = someR s := ⟨_, rfl⟩
  rw [← hD, ← ht'] at HDO HRD
  rw [← hD] at BR
  rw [← ht'] at K4
  clear hD ht' hF FI hi hp ht HBA
  go_enter Tryz.func3, Tryz.ntmps3
  go_wp2_with (first | (first | (go_at_call 5; refine (awake15 _ ).mono ?_; rintro e w' ⟨rfl, hgw⟩; first | (obtain ⟨gw, rfl⟩ := grows_of_grow hgw) | (obtain ⟨gw, rfl⟩ := hgw))) | (go_at_call 6; (with_reducible refine Calls.mono (HFI.out _ true ?_ CF.out) ?_); (exact (by repeat (first | exact Grows.refl _ | apply Grows.grow | apply Grows.alloc | apply Grows.drew))); rintro e w' ⟨rfl, hgw⟩; first | (obtain ⟨gf, rfl⟩ := grows_of_grow hgw) | (obtain ⟨gf, rfl⟩ := hgw)) | (go_at_call 7; (with_reducible refine Calls.mono (HDO.out _ ?_) ?_); (exact (by repeat (first | exact Grows.refl _ | apply Grows.grow | apply Grows.alloc | apply Grows.drew))); rintro e w' ⟨aq, lq, cq, rfl, hgw, Hq⟩; (first | (obtain ⟨gq, rfl⟩ := grows_of_grow hgw) | (obtain ⟨gq, rfl⟩ := hgw)); (try simp only [grow_drew] at Hq)))
  refine wp_name ?_
  intro W1 hW1
  have E0 : Hid (Blk W1 w.heap.size 24 #[.int .i64 op, .slice ia ll ic, .slice pa pl pc]) := by rw [hW1]; exact (by unfold Blk; repeat (first | exact blk_at _ _ _ (by first | omega | (simp; done) | (simp; omega)) | refine (blk_past _ _ _ (by first | omega | (simp; done) | (simp; omega))).trans ?_ | refine (heap_grow _ _ _ (by first | omega | (simp; done) | (simp; omega))).trans ?_ | refine (blk_drew _ _).trans ?_))
  have E1 : Hid (Blk W1 (w.heap.size + 1) 27 #[.int .i64 s.x0, .int .i64 s.y0, .int .i64 s.x1, .int .i64 s.y1]) := by rw [hW1]; exact (by unfold Blk; repeat (first | exact blk_at _ _ _ (by first | omega | (simp; done) | (simp; omega)) | refine (blk_past _ _ _ (by first | omega | (simp; done) | (simp; omega))).trans ?_ | refine (heap_grow _ _ _ (by first | omega | (simp; done) | (simp; omega))).trans ?_ | refine (blk_drew _ _).trans ?_))
  have YC : Hid (BufAt W1 t aq lq cq D) := by rw [hW1]; exact Hq.out.1.grows (by repeat (first | exact Grows.refl _ | apply Grows.grow | apply Grows.alloc | apply Grows.drew))
  have GW : Hid (Grows w W1) := by rw [hW1]; exact (by repeat (first | exact Grows.refl _ | apply Grows.grow | apply Grows.alloc | apply Grows.drew))
  have E3 : Hid (Blk W1 (w.heap.size + 1 + 1 + gq.news.size) 32 #[.int .i64 t.x0, .int .i64 t.y0, .int .i64 t.x1, .int .i64 t.y1, .slice aq lq cq]) := by rw [hW1]; exact (by unfold Blk; repeat (first | exact blk_at _ _ _ (by first | omega | (simp; done) | (simp; omega)) | refine (blk_past _ _ _ (by first | omega | (simp; done) | (simp; omega))).trans ?_ | refine (heap_grow _ _ _ (by first | omega | (simp; done) | (simp; omega))).trans ?_ | refine (blk_drew _ _).trans ?_))
  obtain ⟨nx, hnx⟩ : ∃ n, n = w.heap.size + 1 + 1 + gq.news.size := ⟨_, rfl⟩
  rw [← hnx] at E3 ⊢
  have my := YC.out.most
  clear hW1 hnx Hq HFI CF HDO
  obtain ⟨n0, n1, n2, nf⟩ := E0.out.c3
  obtain ⟨s0, s1, s2, s3, sf⟩ := E1.out.c4
  obtain ⟨x0, x1, x2, x3, x4, xf⟩ := E3.out.c5
  have l0 := E0.out.lt
  have l1 := E1.out.lt
  have l3 := E3.out.lt
  go_region_held3 (fun w' => w'.cell? ⟨nx, 0, none⟩ = some (.int .i64 t.x0) ∧ w'.cell? ⟨nx, 1, none⟩ = some (.int .i64 t.y0) ∧ w'.cell? ⟨nx, 2, none⟩ = some (.int .i64 t.x1) ∧ w'.cell? ⟨nx, 3, none⟩ = some (.int .i64 t.y1) ∧ w'.cell? ⟨nx, 4, none⟩ = some (.slice aq lq cq) ∧ w'.cell? ⟨w.heap.size, 0, none⟩ = some (.int .i64 op) ∧ w'.cell? ⟨w.heap.size, 1, none⟩ = some (.slice ia ll ic) ∧ w'.cell? ⟨w.heap.size, 2, none⟩ = some (.slice pa pl pc) ∧ w'.cell? ⟨w.heap.size + 1, 0, none⟩ = some (.int .i64 s.x0) ∧ w'.cell? ⟨w.heap.size + 1, 1, none⟩ = some (.int .i64 s.y0) ∧ w'.cell? ⟨w.heap.size + 1, 2, none⟩ = some (.int .i64 s.x1) ∧ w'.cell? ⟨w.heap.size + 1, 3, none⟩ = some (.int .i64 s.y1)) ((refine ⟨(E3.out.grows ?_).cell 0, (E3.out.grows ?_).cell 1, (E3.out.grows ?_).cell 2, (E3.out.grows ?_).cell 3, (E3.out.grows ?_).cell 4, (E0.out.grows ?_).cell 0, (E0.out.grows ?_).cell 1, (E0.out.grows ?_).cell 2, (E1.out.grows ?_).cell 0, (E1.out.grows ?_).cell 1, (E1.out.grows ?_).cell 2, (E1.out.grows ?_).cell 3⟩ <;> ((repeat (first | exact Grows.refl _ | apply Grows.grow | apply Grows.alloc | apply Grows.drew)); done))) (first
    | (go_at_call 9; (with_reducible refine Calls.mono (HRD.out _ ?_) ?_); (exact GW.out.trans (by repeat (first | exact Grows.refl _ | apply Grows.grow | apply Grows.alloc | apply Grows.drew))); rintro e w' ⟨ay, ly, cy, rfl, hgw, Hy⟩; (first | (obtain ⟨gy, rfl⟩ := grows_of_grow hgw) | (obtain ⟨gy, rfl⟩ := hgw)); (try simp only [grow_drew] at Hy))
    | (go_at_call 8; (with_reducible refine Calls.mono (ref05_Same t aq ay lq cq ly cy D _ ?_ ?_) ?_); (exact Lib.hid (YC.out.grows (by repeat (first | exact Grows.refl _ | apply Grows.grow | apply Grows.alloc | apply Grows.drew)))); (exact Lib.hid (BufAt.grows Hy.out.1 (by repeat (first | exact Grows.refl _ | apply Grows.grow | apply Grows.alloc | apply Grows.drew)))); rintro e w' ⟨rfl, hgw⟩; first | (obtain ⟨gz, rfl⟩ := grows_of_grow hgw) | (obtain ⟨gz, rfl⟩ := hgw)))
  clear n0 n1 n2 nf s0 s1 s2 s3 sf x0 x1 x2 x3 x4 xf l0 l1 l3 HRD
  go_wp2
  refine wp_name ?_
  intro W2 hW2
  have E4 : Hid (Blk W2 nx 32 #[.int .i64 t.x0, .int .i64 t.y0, .int .i64 t.x1, .int .i64 t.y1, .slice aq lq cq]) := by rw [hW2]; exact E3.out.grows (by repeat (first | exact Grows.refl _ | apply Grows.grow | apply Grows.alloc | apply Grows.drew))
  have Y1 : Hid (BufAt W2 t aq lq cq D) := by rw [hW2]; exact YC.out.grows (by repeat (first | exact Grows.refl _ | apply Grows.grow | apply Grows.alloc | apply Grows.drew))
  have GW2 : Hid (Grows w W2) := by rw [hW2]; exact GW.out.trans (by repeat (first | exact Grows.refl _ | apply Grows.grow | apply Grows.alloc | apply Grows.drew))
  clear hW2 E0 E1 E3 YC GW
  go_loopw [8] (fun i wr => ∃ k : Nat, k ≤ lq ∧ i = .int .i64 k ∧ Hid (Grows W2 wr)) (fun i _ => lq - (intOf i).toNat)
  case atStart => exact ⟨0, by omega, rfl, Grows.refl _⟩
  case round =>
    obtain ⟨k, hk, rfl, hh⟩ := hrel
    have d3 := E4.out.grows hh.out
    obtain ⟨b0, b1, b2, b3, b4, bf⟩ := d3.c5
    have ld := d3.lt
    clear d3
    by_cases hlk : k < lq
    · obtain ⟨b', off', rfl, hb', hok, c0, c1, c2, c3⟩ := (Y1.out.pix.grows hh.out).px hlk
      obtain ⟨q, hq⟩ : ∃ q, q = D (ptX t k) (ptY t k) := ⟨_, rfl⟩
      have HOK : Hid (okP q) := by rw [hq]; exact hok
      have HRT : Hid (rightT q.r q.g q.b q.a = true) := by rw [hq]; exact (rightP_iff _).2 (BR.out _ _)
      rw [← hq] at c0 c1 c2 c3
      clear hok hq
      go_wp2_with (go_at_call 10; (with_reducible refine (ref01_rightIs q _ true HOK.out HRT.out).mono ?_); rintro e w' ⟨rfl, hgw⟩; first | (obtain ⟨gw, rfl⟩ := grows_of_grow hgw) | (obtain ⟨gw, rfl⟩ := hgw))
      go_roundw
      case rel => exact ⟨k + 1, by omega, by go_num, hh.out.trans (by repeat (first | exact Grows.refl _ | apply Grows.grow | apply Grows.alloc | apply Grows.drew))⟩
      case measure => simp [intOf]; omega
    · obtain rfl : k = lq := by omega
      go_wp2
      go_ret
      exact ⟨rfl, GW2.out.trans (hh.out.trans (by repeat (first | exact Grows.refl _ | apply Grows.grow | apply Grows.alloc | apply Grows.drew)))⟩
end Go.Proofs.YtklcmlbkhjcaiaaGreatDoor
