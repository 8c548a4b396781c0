/- The walk of chapter 15's law KernelPoints. -/
import Derived.Test.YtklcmlbkhjcaiaaGreatDoorLaw15B
import Derived.Test.YtklcmlbkhjcaiaaGreatDoorLaw15O
import Derived.Test.YtklcmlbkhjcaiaaGreatDoorRef15D




namespace Go.Proofs.YtklcmlbkhjcaiaaGreatDoor
open Go.RowKit
set_option linter.unusedVariables false

@[go_sem] theorem field_pix (a b c d s : Value) (w : World) : Sem.run Tryz.prog (Instr.field 32 (.agg #[a, b, c, d, s]) 1) w = .ok s w := by kernel_rfl
set_option maxRecDepth 100000 in
set_option maxHeartbeats 25600000 in
theorem kpoints_t (op : Int) (ia : Option Addr) (il ic : Nat) (is : Nat → Int) (pa : Option Addr) (pl pc : Nat) (ps : Nat → Int) (al : Option Addr) (ll cl : Nat) (g5 : Nat → Bf) (x y : Int) (w : World) (hop : -9223372036854775808 ≤ op ∧ op ≤ 9223372036854775807) (ht : Tabs w) (hi : IsInts w ia il ic is) (hp : IsInts w pa pl pc ps) (hb : IsBufs w al ll cl g5) (hx : -9223372036854775808 ≤ x ∧ x ≤ 9223372036854775807) (hy : -9223372036854775808 ≤ y ∧ y ≤ 9223372036854775807) (hr : (-1000000 ≤ x ∧ x ≤ 1000000) ∧ (-1000000 ≤ y ∧ y ≤ 1000000)) (c_F : fine15 op il is pl ps ll g5 (⟨x, y, x + 1, y + 1⟩ : R) = true) :
    Calls Tryz.prog 4 #[.agg #[.int .i64 op, .slice ia il ic, .slice pa pl pc], .slice al ll cl, .int .i64 x, .int .i64 y] w fun e w' => e = .returned (.bool true) ∧ Grows w w' := by
  have m1 := hi.le
  have m2 := hi.most
  have m3 := hp.le
  have m4 := hp.most
  have m5 := hb.le
  have m6 := hb.most
  replace ht := Lib.hid ht
  replace hi := Lib.hid hi
  replace hp := Lib.hid hp
  replace hb := Lib.hid hb
  have CF := Lib.hid c_F
  have HFI : Hid (∀ W c, Grows w W → fine15 op il is pl ps ll g5 (⟨x, y, x + 1, y + 1⟩ : R) = c → Calls Tryz.prog 6 #[.agg #[.int .i64 op, .slice ia il ic, .slice pa pl pc], .slice al ll cl, .agg #[.int .i64 x, .int .i64 y, .int .i64 (x + 1), .int .i64 (y + 1)]] W fun e w' => e = .returned (.bool c) ∧ Grows W w') := fun W c g hc => law15_fine op ia il ic is pa pl pc ps al ll cl g5 (⟨x, y, x + 1, y + 1⟩ : R) c W (Lib.hid (ht.out.grows g)) (Lib.hid (hi.out.grows g)) (Lib.hid (hp.out.grows g)) (Lib.hid (hb.out.grows g)) (Lib.hid hc)
  have FI := fine15_yes c_F
  clear c_F
  have HBP0 : Hid (∀ b, decide (op = 5 ∨ op = 6 ∨ op = 7 ∨ op = 8 ∨ op = 9 ∨ op = 12) = b → ∀ W, Calls Tryz.prog 11 #[.int .i64 op] W fun e w' => e = .returned (.bool b) ∧ Grows W w') := fun b hb W => by
    have := kernel_ByPoint op W
    rwa [hb] at this
  obtain ⟨⟨x1, x2⟩, y1, y2⟩ := hr
  have hwx : IntKind.i64.wrap (x + 1) = x + 1 := IntWalk.i64_in _ (by omega)
  have hwy : IntKind.i64.wrap (y + 1) = y + 1 := IntWalk.i64_in _ (by omega)
  have g1 : ¬ 1000000 < x := by omega
  have g2 : ¬ x < -1000000 := by omega
  have g3 : ¬ 1000000 < y := by omega
  have g4 : ¬ y < -1000000 := by omega
  have hopk := FI.node.op_
  obtain rfl := FI.len
  have h8 := FI.few.1
  obtain ⟨G, hG⟩ : ∃ G : Nat → Img, G = fun i => imgOf (g5 i).r (g5 i).f := ⟨_, rfl⟩
  have HBA : Hid (∀ i, i < ll → BufAt w (g5 i).r (g5 i).a (g5 i).len (g5 i).cap (G i) ∧ cntR (g5 i).r ≤ 300) := fun i hi => by rw [hG]; exact FI.bufAt hb.out hi
  have FOK : Hid (∀ i, i < ll → ∀ u v, okP (G i u v)) := fun i hi u v => (HBA.out i hi).1.fits.ok u v
  have hbe : emptyR (⟨x, y, x + 1, y + 1⟩ : R) = false := (emptyR_not _).2 ⟨by show x < x + 1; omega, by show y < y + 1; omega⟩
  have hsm : someR (⟨x, y, x + 1, y + 1⟩ : R) = (⟨x, y, x + 1, y + 1⟩ : R) := by simp [someR, hbe]
  have hin : hasR (⟨x, y, x + 1, y + 1⟩ : R) x y = true := (hasR_iff _ _ _).2 (by show x ≤ x ∧ x < x + 1 ∧ y ≤ y ∧ y < y + 1; omega)
  have HRD : Hid (∀ W, Grows w W → Calls Tryz.prog 9 #[.agg #[.int .i64 op, .slice ia ll ic, .slice pa pl pc], .slice al ll cl, .agg #[.int .i64 x, .int .i64 y, .int .i64 (x + 1), .int .i64 (y + 1)]] W (RetBuf W (⟨x, y, x + 1, y + 1⟩ : R) (doF op ps ll G (⟨x, y, x + 1, y + 1⟩ : R)))) := fun W g => by
    have := ref15_Do op ia ll ic pa pl pc ps al ll cl g5 G (⟨x, y, x + 1, y + 1⟩ : R) W (Lib.hid (hp.out.grows g)) FI.plen (Lib.hid (hb.out.grows g)) (Lib.hid (fun i hi => ⟨(HBA.out i hi).1.grows g, by have := (HBA.out i hi).2; omega⟩)) FI.node FI.small (by have := FI.cnt; omega) FI.rad FI.rad11
    rwa [hsm] at this
  have hD : op = 5 ∨ op = 6 ∨ op = 7 ∨ op = 8 ∨ op = 9 ∨ op = 12 → doF op ps ll G (⟨x, y, x + 1, y + 1⟩ : R) x y = atK op ps ll (fun i => G i x y) x y := fun hby => by
    have e : doF op ps ll G (⟨x, y, x + 1, y + 1⟩ : R) = cutF (someR (⟨x, y, x + 1, y + 1⟩ : R)) (fun u v => atK op ps ll (fun i => G i u v) u v) := by rcases hby with rfl | rfl | rfl | rfl | rfl | rfl <;> simp [doF]
    rw [e, hsm, cutF_in hin]
  have h0 : ((0 : Nat) : Int) = idxR (⟨x, y, x + 1, y + 1⟩ : R) x y := (idx_first (⟨x, y, x + 1, y + 1⟩ : R)).symm
  have e1 : ptX (⟨x, y, x + 1, y + 1⟩ : R) 0 = x := ptX_of hin h0
  have e2 : ptY (⟨x, y, x + 1, y + 1⟩ : R) 0 = y := ptY_of hin h0
  have hct1 : cntR (⟨x, y, x + 1, y + 1⟩ : R) = 1 := by simp [cntR]; omega
  obtain ⟨Q, hQ⟩ : ∃ Q : Nat → P4, Q = fun i => G i x y := ⟨_, rfl⟩
  rw [← hQ] at hD
  obtain ⟨D, hDD⟩ : ∃ z, z = doF op ps ll G (⟨x, y, x + 1, y + 1⟩ : R) := ⟨_, rfl⟩
  rw [← hDD] at HRD hD
  obtain ⟨r, hr'⟩ : ∃ z, z = atK op ps ll Q x y := ⟨_, rfl⟩
  rw [← hr'] at hD
  have HQI : Hid (∀ i, G i x y = Q i) := by rw [hQ]; exact fun i => rfl
  have QOK : Hid (∀ i, i < ll → okP (Q i)) := by rw [hQ]; exact fun i hi => FOK.out i hi x y
  have HAT0 : Hid (∀ W a cap, Grows w W → IsPix W a ll cap Q → Calls Tryz.prog 13 #[.agg #[.int .i64 op, .slice ia ll ic, .slice pa pl pc], .slice a ll cap, .int .i64 x, .int .i64 y] W fun e w' => e = .returned (.agg #[.int .u8 r.r, .int .u8 r.g, .int .u8 r.b, .int .u8 r.a]) ∧ Grows W w') := fun W a cap g hq => kernel_At op ia ll ic pa pl pc ps a ll cap Q x y r W (hp.out.grows g) FI.plen hq FI.node (Lib.hid hr'.symm)
  obtain ⟨t, ht'⟩ : ∃ z, z = (⟨x, y, x + 1, y + 1⟩ : R) := ⟨_, rfl⟩
  rw [← ht'] at e1 e2 hct1
  rw [← ht'] at HRD
  have HRX0 : Hid (op = 5 ∨ op = 6 ∨ op = 7 ∨ op = 8 ∨ op = 9 ∨ op = 12 → D (ptX t 0) (ptY t 0) = r) := fun hby => by rw [e1, e2]; exact hD hby
  clear e1 e2 hD hr' hDD hQ hin hsm hbe h0 ht' hG FI hi hp ht FOK
  go_enter Tryz.func4, Tryz.ntmps4
  go_wp2_with (first | (first | (go_at_call 5; refine (awake15 _ ).mono ?_; rintro e w' ⟨rfl, hgw⟩; first | (obtain ⟨gw, rfl⟩ := grows_of_grow hgw) | (obtain ⟨gw, rfl⟩ := hgw))))
  go_at_call 6; (with_reducible refine Calls.mono (HFI.out _ true ?_ CF.out) ?_); (exact (by repeat (first | exact Grows.refl _ | apply Grows.grow | apply Grows.alloc | apply Grows.drew))); rintro e w' ⟨rfl, hgw⟩; (first | (obtain ⟨gw, rfl⟩ := grows_of_grow hgw) | (obtain ⟨gw, rfl⟩ := hgw))
  clear HFI CF
  have hc : op = 5 ∨ (¬ op = 5 ∧ 6 ≤ op ∧ op ≤ 9) ∨ op = 12 ∨ (¬ op = 5 ∧ ¬ 6 ≤ op ∧ ¬ op = 12) ∨ (¬ op = 5 ∧ 6 ≤ op ∧ ¬ op ≤ 9 ∧ ¬ op = 12) := by omega
  by_cases hby : op = 5 ∨ op = 6 ∨ op = 7 ∨ op = 8 ∨ op = 9 ∨ op = 12
  · have HBP := Lib.hid (HBP0.out true (decide_eq_true hby))
    have HRX := Lib.hid (HRX0.out hby)
    clear HBP0 HRX0
    have hc3 : op = 5 ∨ (¬ op = 5 ∧ 6 ≤ op ∧ op ≤ 9) ∨ op = 12 := by omega
    clear hc hby
    rcases hc3 with rfl | ⟨k1, k2, k3⟩ | rfl
    · go_wp2_with ((go_at_call 11; (with_reducible refine Calls.mono (HBP.out _) ?_); rintro e w' ⟨rfl, hgw⟩; first | (obtain ⟨gb, rfl⟩ := grows_of_grow hgw) | (obtain ⟨gb, rfl⟩ := hgw)))
      refine wp_name ?_
      intro W0 hW0
      have B0 : Hid (Blk W0 w.heap.size 24 #[.int .i64 5, .slice ia ll ic, .slice pa pl pc]) := by rw [hW0]; exact (by unfold Blk; repeat (first | exact blk_at _ _ _ (by first | omega | (simp; done) | (simp; omega)) | refine (blk_past _ _ _ (by first | omega | (simp; done) | (simp; omega))).trans ?_ | refine (heap_grow _ _ _ (by first | omega | (simp; done) | (simp; omega))).trans ?_ | refine (blk_drew _ _).trans ?_))
      have B1 : Hid (Blk W0 (w.heap.size + 1) 27 #[.int .i64 x, .int .i64 y, .int .i64 (x + 1), .int .i64 (y + 1)]) := by rw [hW0]; exact (by unfold Blk; repeat (first | exact blk_at _ _ _ (by first | omega | (simp; done) | (simp; omega)) | refine (blk_past _ _ _ (by first | omega | (simp; done) | (simp; omega))).trans ?_ | refine (heap_grow _ _ _ (by first | omega | (simp; done) | (simp; omega))).trans ?_ | refine (blk_drew _ _).trans ?_))
      have G0 : Hid (Grows w W0) := by rw [hW0]; exact (by repeat (first | exact Grows.refl _ | apply Grows.grow | apply Grows.alloc | apply Grows.drew))
      clear hW0 HBP
      go_loopw [11, 12] (fun v i wr => ∃ (k : Nat) (a : Option Addr) (cap : Nat), k ≤ ll ∧ i = .int .i64 k ∧ v = .slice a k cap ∧ Grows W0 wr ∧ wr.ownsRow W0.heap.size 37 4 (.slice a k cap) k (cellsP Q k)) (fun _ i _ => ll - (intOf i).toNat)
      case atStart => exact ⟨0, none, 0, by omega, rfl, rfl, Grows.refl _, rfl, .inl ⟨rfl, rfl⟩⟩
      case round =>
        obtain ⟨k, a, cap, hk, rfl, rfl, hgr, hown⟩ := hrel
        have GRW := Lib.hid hgr
        have OWN := Lib.hid hown
        have GR := Lib.hid (G0.out.trans hgr)
        have hcap := ownL_le hown
        have SZ0 := hgr.below.size
        clear hgr hown
        by_cases hlt : k < ll
        · obtain ⟨b', off', rfl, hb', f0, f1, f2, f3, f4⟩ := (hb.out.grows GR.out).at hlt
          have HSRC := Lib.hid ((HBA.out k hlt).1.grows GR.out)
          have hct := (HBA.out k hlt).2
          have HQ0 := Lib.hid (HQI.out k)
          obtain ⟨q, hq⟩ : ∃ z, z = Q k := ⟨_, rfl⟩
          rw [← hq] at HQ0
          have HQK : Hid (Q k = q) := hq.symm
          obtain ⟨rk, hrk⟩ : ∃ z, z = (g5 k).r := ⟨_, rfl⟩
          obtain ⟨ak, hak⟩ : ∃ z, z = (g5 k).a := ⟨_, rfl⟩
          obtain ⟨lk, hlk⟩ : ∃ z, z = (g5 k).len := ⟨_, rfl⟩
          obtain ⟨ck, hck⟩ : ∃ z, z = (g5 k).cap := ⟨_, rfl⟩
          obtain ⟨Fk, hFk⟩ : ∃ z, z = G k := ⟨_, rfl⟩
          rw [← hrk, ← hak, ← hlk, ← hck, ← hFk] at HSRC
          rw [← hrk] at f0 f1 f2 f3 hct
          rw [← hak, ← hlk, ← hck] at f4
          rw [← hFk] at HQ0
          clear hrk hak hlk hck hFk hq
          go_wp2_with (first | (first | (go_at_call 12; (with_reducible refine (ref05_AtIs _ _ _ _ _ _ _ _ _ (Lib.hid (BufAt.grows HSRC.out (by repeat (first | exact Grows.refl _ | apply Grows.grow | apply Grows.alloc | apply Grows.drew)))) (by omega) HQ0).mono ?_); rintro e w' ⟨rfl, hgw⟩; first | (obtain ⟨gw, rfl⟩ := grows_of_grow hgw) | (obtain ⟨gw, rfl⟩ := hgw))) | (at_builtin; refine wpList_append_one rfl (.tmp 77) (.tmp 85) rfl W0.heap.size a k cap Q q rfl (ownsRow_grows OWN.out (by repeat (first | exact Grows.refl _ | apply Grows.grow | apply Grows.alloc | apply Grows.drew))) _ 1 rfl (by unfold Blk; repeat (first | exact blk_at _ _ _ (by first | omega | (simp; done) | (simp; omega)) | refine (blk_past _ _ _ (by first | omega | (simp; done) | (simp; omega))).trans ?_ | refine (heap_grow _ _ _ (by first | omega | (simp; done) | (simp; omega))).trans ?_ | refine (blk_drew _ _).trans ?_)) HQK.out (by omega) (by have := SZ0; simp <;> omega) ?_; intro p' cap' w1 h1 h2 h3 h4; replace h1 := Lib.hid h1; replace h2 := Lib.hid h2))
          go_roundw
          case rel =>
            refine ⟨k + 1, some ⟨p', 0, none⟩, cap', by omega, by go_num, rfl, ?_, h1.out⟩
            exact (GRW.out.trans (by repeat (first | exact Grows.refl _ | apply Grows.grow | apply Grows.alloc | apply Grows.drew))).grown h2.out (fun j hj => (own_lt OWN.out j hj).1)
          case measure => simp [intOf]; omega
        · obtain rfl : ll = k := by omega
          have D0 := Lib.hid (B0.out.grows GRW.out)
          have D1 := Lib.hid (B1.out.grows GRW.out)
          obtain ⟨n0, n1, n2, nf⟩ := D0.out.c3
          obtain ⟨s0, s1, s2, s3, sf⟩ := D1.out.c4
          have l0 := D0.out.lt
          have l1 := D1.out.lt
          have PX := Lib.hid (isPix_own OWN.out QOK.out).1
          have HAT : Hid (∀ W, Grows wr W → Calls Tryz.prog 13 #[.agg #[.int .i64 5, .slice ia ll ic, .slice pa pl pc], .slice a ll cap, .int .i64 x, .int .i64 y] W fun e w' => e = .returned (.agg #[.int .u8 r.r, .int .u8 r.g, .int .u8 r.b, .int .u8 r.a]) ∧ Grows W w') := fun W g => HAT0.out W a cap (GR.out.trans g) (PX.out.grows g)
          clear B0 B1 HAT0 PX OWN
          go_wp2
          first | refine region_grow_tail2 8 (by kernel_rfl) (by kernel_rfl) ?_ | refine region_grow_tail 8 (by kernel_rfl) (by kernel_rfl) ?_
          simp only [List.take_succ_cons, List.take_zero, List.drop_succ_cons, List.drop_zero]
          repeat (go_big_quiet_step ((first | (go_at_call 13; exact grow_of (HAT.out _ (by repeat (first | exact Grows.refl _ | apply Grows.grow | apply Grows.alloc | apply Grows.drew)))))))
          refine wpQuiet_nil ?_
          rintro _ ⟨gd, rfl⟩
          go_wp2_with ((go_at_call 9; (with_reducible refine Calls.mono (HRD.out _ ?_) ?_); (exact GR.out.trans (by repeat (first | exact Grows.refl _ | apply Grows.grow | apply Grows.alloc | apply Grows.drew))); rintro e w' ⟨aq, lq, cq, rfl, hgw, Hq⟩; (obtain ⟨b9, o9, rfl, hb9, ok9, c0, c1, c2, c3⟩ := Hq.out.1.pix.px (k := 0) (by have := Hq.out.1.count; omega)); (have mq := Hq.out.1.most); (have cq1 := Hq.out.1.count); (first | (obtain ⟨gy, rfl⟩ := grows_of_grow hgw) | (obtain ⟨gy, rfl⟩ := hgw)); (try simp only [grow_drew] at c0 c1 c2 c3 hb9); (simp only [Nat.zero_mul, Nat.add_zero] at c0 c1 c2 c3); (rw [HRX.out] at c0 c1 c2 c3); (obtain rfl : lq = 1 := by omega); clear Hq ok9 cq1; (try simp at hb9)))
          go_ret
          exact ⟨rfl, GR.out.trans (by repeat (first | exact Grows.refl _ | apply Grows.grow | apply Grows.alloc | apply Grows.drew))⟩
    · go_wp2_with ((go_at_call 11; (with_reducible refine Calls.mono (HBP.out _) ?_); rintro e w' ⟨rfl, hgw⟩; first | (obtain ⟨gb, rfl⟩ := grows_of_grow hgw) | (obtain ⟨gb, rfl⟩ := hgw)))
      refine wp_name ?_
      intro W0 hW0
      have B0 : Hid (Blk W0 w.heap.size 24 #[.int .i64 op, .slice ia ll ic, .slice pa pl pc]) := by rw [hW0]; exact (by unfold Blk; repeat (first | exact blk_at _ _ _ (by first | omega | (simp; done) | (simp; omega)) | refine (blk_past _ _ _ (by first | omega | (simp; done) | (simp; omega))).trans ?_ | refine (heap_grow _ _ _ (by first | omega | (simp; done) | (simp; omega))).trans ?_ | refine (blk_drew _ _).trans ?_))
      have B1 : Hid (Blk W0 (w.heap.size + 1) 27 #[.int .i64 x, .int .i64 y, .int .i64 (x + 1), .int .i64 (y + 1)]) := by rw [hW0]; exact (by unfold Blk; repeat (first | exact blk_at _ _ _ (by first | omega | (simp; done) | (simp; omega)) | refine (blk_past _ _ _ (by first | omega | (simp; done) | (simp; omega))).trans ?_ | refine (heap_grow _ _ _ (by first | omega | (simp; done) | (simp; omega))).trans ?_ | refine (blk_drew _ _).trans ?_))
      have G0 : Hid (Grows w W0) := by rw [hW0]; exact (by repeat (first | exact Grows.refl _ | apply Grows.grow | apply Grows.alloc | apply Grows.drew))
      clear hW0 HBP
      go_loopw [11, 12] (fun v i wr => ∃ (k : Nat) (a : Option Addr) (cap : Nat), k ≤ ll ∧ i = .int .i64 k ∧ v = .slice a k cap ∧ Grows W0 wr ∧ wr.ownsRow W0.heap.size 37 4 (.slice a k cap) k (cellsP Q k)) (fun _ i _ => ll - (intOf i).toNat)
      case atStart => exact ⟨0, none, 0, by omega, rfl, rfl, Grows.refl _, rfl, .inl ⟨rfl, rfl⟩⟩
      case round =>
        obtain ⟨k, a, cap, hk, rfl, rfl, hgr, hown⟩ := hrel
        have GRW := Lib.hid hgr
        have OWN := Lib.hid hown
        have GR := Lib.hid (G0.out.trans hgr)
        have hcap := ownL_le hown
        have SZ0 := hgr.below.size
        clear hgr hown
        by_cases hlt : k < ll
        · obtain ⟨b', off', rfl, hb', f0, f1, f2, f3, f4⟩ := (hb.out.grows GR.out).at hlt
          have HSRC := Lib.hid ((HBA.out k hlt).1.grows GR.out)
          have hct := (HBA.out k hlt).2
          have HQ0 := Lib.hid (HQI.out k)
          obtain ⟨q, hq⟩ : ∃ z, z = Q k := ⟨_, rfl⟩
          rw [← hq] at HQ0
          have HQK : Hid (Q k = q) := hq.symm
          obtain ⟨rk, hrk⟩ : ∃ z, z = (g5 k).r := ⟨_, rfl⟩
          obtain ⟨ak, hak⟩ : ∃ z, z = (g5 k).a := ⟨_, rfl⟩
          obtain ⟨lk, hlk⟩ : ∃ z, z = (g5 k).len := ⟨_, rfl⟩
          obtain ⟨ck, hck⟩ : ∃ z, z = (g5 k).cap := ⟨_, rfl⟩
          obtain ⟨Fk, hFk⟩ : ∃ z, z = G k := ⟨_, rfl⟩
          rw [← hrk, ← hak, ← hlk, ← hck, ← hFk] at HSRC
          rw [← hrk] at f0 f1 f2 f3 hct
          rw [← hak, ← hlk, ← hck] at f4
          rw [← hFk] at HQ0
          clear hrk hak hlk hck hFk hq
          go_wp2_with (first | (first | (go_at_call 12; (with_reducible refine (ref05_AtIs _ _ _ _ _ _ _ _ _ (Lib.hid (BufAt.grows HSRC.out (by repeat (first | exact Grows.refl _ | apply Grows.grow | apply Grows.alloc | apply Grows.drew)))) (by omega) HQ0).mono ?_); rintro e w' ⟨rfl, hgw⟩; first | (obtain ⟨gw, rfl⟩ := grows_of_grow hgw) | (obtain ⟨gw, rfl⟩ := hgw))) | (at_builtin; refine wpList_append_one rfl (.tmp 77) (.tmp 85) rfl W0.heap.size a k cap Q q rfl (ownsRow_grows OWN.out (by repeat (first | exact Grows.refl _ | apply Grows.grow | apply Grows.alloc | apply Grows.drew))) _ 1 rfl (by unfold Blk; repeat (first | exact blk_at _ _ _ (by first | omega | (simp; done) | (simp; omega)) | refine (blk_past _ _ _ (by first | omega | (simp; done) | (simp; omega))).trans ?_ | refine (heap_grow _ _ _ (by first | omega | (simp; done) | (simp; omega))).trans ?_ | refine (blk_drew _ _).trans ?_)) HQK.out (by omega) (by have := SZ0; simp <;> omega) ?_; intro p' cap' w1 h1 h2 h3 h4; replace h1 := Lib.hid h1; replace h2 := Lib.hid h2))
          go_roundw
          case rel =>
            refine ⟨k + 1, some ⟨p', 0, none⟩, cap', by omega, by go_num, rfl, ?_, h1.out⟩
            exact (GRW.out.trans (by repeat (first | exact Grows.refl _ | apply Grows.grow | apply Grows.alloc | apply Grows.drew))).grown h2.out (fun j hj => (own_lt OWN.out j hj).1)
          case measure => simp [intOf]; omega
        · obtain rfl : ll = k := by omega
          have D0 := Lib.hid (B0.out.grows GRW.out)
          have D1 := Lib.hid (B1.out.grows GRW.out)
          obtain ⟨n0, n1, n2, nf⟩ := D0.out.c3
          obtain ⟨s0, s1, s2, s3, sf⟩ := D1.out.c4
          have l0 := D0.out.lt
          have l1 := D1.out.lt
          have PX := Lib.hid (isPix_own OWN.out QOK.out).1
          have HAT : Hid (∀ W, Grows wr W → Calls Tryz.prog 13 #[.agg #[.int .i64 op, .slice ia ll ic, .slice pa pl pc], .slice a ll cap, .int .i64 x, .int .i64 y] W fun e w' => e = .returned (.agg #[.int .u8 r.r, .int .u8 r.g, .int .u8 r.b, .int .u8 r.a]) ∧ Grows W w') := fun W g => HAT0.out W a cap (GR.out.trans g) (PX.out.grows g)
          clear B0 B1 HAT0 PX OWN
          go_wp2
          first | refine region_grow_tail2 8 (by kernel_rfl) (by kernel_rfl) ?_ | refine region_grow_tail 8 (by kernel_rfl) (by kernel_rfl) ?_
          simp only [List.take_succ_cons, List.take_zero, List.drop_succ_cons, List.drop_zero]
          repeat (go_big_quiet_step ((first | (go_at_call 13; exact grow_of (HAT.out _ (by repeat (first | exact Grows.refl _ | apply Grows.grow | apply Grows.alloc | apply Grows.drew)))))))
          refine wpQuiet_nil ?_
          rintro _ ⟨gd, rfl⟩
          go_wp2_with ((go_at_call 9; (with_reducible refine Calls.mono (HRD.out _ ?_) ?_); (exact GR.out.trans (by repeat (first | exact Grows.refl _ | apply Grows.grow | apply Grows.alloc | apply Grows.drew))); rintro e w' ⟨aq, lq, cq, rfl, hgw, Hq⟩; (obtain ⟨b9, o9, rfl, hb9, ok9, c0, c1, c2, c3⟩ := Hq.out.1.pix.px (k := 0) (by have := Hq.out.1.count; omega)); (have mq := Hq.out.1.most); (have cq1 := Hq.out.1.count); (first | (obtain ⟨gy, rfl⟩ := grows_of_grow hgw) | (obtain ⟨gy, rfl⟩ := hgw)); (try simp only [grow_drew] at c0 c1 c2 c3 hb9); (simp only [Nat.zero_mul, Nat.add_zero] at c0 c1 c2 c3); (rw [HRX.out] at c0 c1 c2 c3); (obtain rfl : lq = 1 := by omega); clear Hq ok9 cq1; (try simp at hb9)))
          go_ret
          exact ⟨rfl, GR.out.trans (by repeat (first | exact Grows.refl _ | apply Grows.grow | apply Grows.alloc | apply Grows.drew))⟩
    · go_wp2_with ((go_at_call 11; (with_reducible refine Calls.mono (HBP.out _) ?_); rintro e w' ⟨rfl, hgw⟩; first | (obtain ⟨gb, rfl⟩ := grows_of_grow hgw) | (obtain ⟨gb, rfl⟩ := hgw)))
      refine wp_name ?_
      intro W0 hW0
      have B0 : Hid (Blk W0 w.heap.size 24 #[.int .i64 12, .slice ia ll ic, .slice pa pl pc]) := by rw [hW0]; exact (by unfold Blk; repeat (first | exact blk_at _ _ _ (by first | omega | (simp; done) | (simp; omega)) | refine (blk_past _ _ _ (by first | omega | (simp; done) | (simp; omega))).trans ?_ | refine (heap_grow _ _ _ (by first | omega | (simp; done) | (simp; omega))).trans ?_ | refine (blk_drew _ _).trans ?_))
      have B1 : Hid (Blk W0 (w.heap.size + 1) 27 #[.int .i64 x, .int .i64 y, .int .i64 (x + 1), .int .i64 (y + 1)]) := by rw [hW0]; exact (by unfold Blk; repeat (first | exact blk_at _ _ _ (by first | omega | (simp; done) | (simp; omega)) | refine (blk_past _ _ _ (by first | omega | (simp; done) | (simp; omega))).trans ?_ | refine (heap_grow _ _ _ (by first | omega | (simp; done) | (simp; omega))).trans ?_ | refine (blk_drew _ _).trans ?_))
      have G0 : Hid (Grows w W0) := by rw [hW0]; exact (by repeat (first | exact Grows.refl _ | apply Grows.grow | apply Grows.alloc | apply Grows.drew))
      clear hW0 HBP
      go_loopw [11, 12] (fun v i wr => ∃ (k : Nat) (a : Option Addr) (cap : Nat), k ≤ ll ∧ i = .int .i64 k ∧ v = .slice a k cap ∧ Grows W0 wr ∧ wr.ownsRow W0.heap.size 37 4 (.slice a k cap) k (cellsP Q k)) (fun _ i _ => ll - (intOf i).toNat)
      case atStart => exact ⟨0, none, 0, by omega, rfl, rfl, Grows.refl _, rfl, .inl ⟨rfl, rfl⟩⟩
      case round =>
        obtain ⟨k, a, cap, hk, rfl, rfl, hgr, hown⟩ := hrel
        have GRW := Lib.hid hgr
        have OWN := Lib.hid hown
        have GR := Lib.hid (G0.out.trans hgr)
        have hcap := ownL_le hown
        have SZ0 := hgr.below.size
        clear hgr hown
        by_cases hlt : k < ll
        · obtain ⟨b', off', rfl, hb', f0, f1, f2, f3, f4⟩ := (hb.out.grows GR.out).at hlt
          have HSRC := Lib.hid ((HBA.out k hlt).1.grows GR.out)
          have hct := (HBA.out k hlt).2
          have HQ0 := Lib.hid (HQI.out k)
          obtain ⟨q, hq⟩ : ∃ z, z = Q k := ⟨_, rfl⟩
          rw [← hq] at HQ0
          have HQK : Hid (Q k = q) := hq.symm
          obtain ⟨rk, hrk⟩ : ∃ z, z = (g5 k).r := ⟨_, rfl⟩
          obtain ⟨ak, hak⟩ : ∃ z, z = (g5 k).a := ⟨_, rfl⟩
          obtain ⟨lk, hlk⟩ : ∃ z, z = (g5 k).len := ⟨_, rfl⟩
          obtain ⟨ck, hck⟩ : ∃ z, z = (g5 k).cap := ⟨_, rfl⟩
          obtain ⟨Fk, hFk⟩ : ∃ z, z = G k := ⟨_, rfl⟩
          rw [← hrk, ← hak, ← hlk, ← hck, ← hFk] at HSRC
          rw [← hrk] at f0 f1 f2 f3 hct
          rw [← hak, ← hlk, ← hck] at f4
          rw [← hFk] at HQ0
          clear hrk hak hlk hck hFk hq
          go_wp2_with (first | (first | (go_at_call 12; (with_reducible refine (ref05_AtIs _ _ _ _ _ _ _ _ _ (Lib.hid (BufAt.grows HSRC.out (by repeat (first | exact Grows.refl _ | apply Grows.grow | apply Grows.alloc | apply Grows.drew)))) (by omega) HQ0).mono ?_); rintro e w' ⟨rfl, hgw⟩; first | (obtain ⟨gw, rfl⟩ := grows_of_grow hgw) | (obtain ⟨gw, rfl⟩ := hgw))) | (at_builtin; refine wpList_append_one rfl (.tmp 77) (.tmp 85) rfl W0.heap.size a k cap Q q rfl (ownsRow_grows OWN.out (by repeat (first | exact Grows.refl _ | apply Grows.grow | apply Grows.alloc | apply Grows.drew))) _ 1 rfl (by unfold Blk; repeat (first | exact blk_at _ _ _ (by first | omega | (simp; done) | (simp; omega)) | refine (blk_past _ _ _ (by first | omega | (simp; done) | (simp; omega))).trans ?_ | refine (heap_grow _ _ _ (by first | omega | (simp; done) | (simp; omega))).trans ?_ | refine (blk_drew _ _).trans ?_)) HQK.out (by omega) (by have := SZ0; simp <;> omega) ?_; intro p' cap' w1 h1 h2 h3 h4; replace h1 := Lib.hid h1; replace h2 := Lib.hid h2))
          go_roundw
          case rel =>
            refine ⟨k + 1, some ⟨p', 0, none⟩, cap', by omega, by go_num, rfl, ?_, h1.out⟩
            exact (GRW.out.trans (by repeat (first | exact Grows.refl _ | apply Grows.grow | apply Grows.alloc | apply Grows.drew))).grown h2.out (fun j hj => (own_lt OWN.out j hj).1)
          case measure => simp [intOf]; omega
        · obtain rfl : ll = k := by omega
          have D0 := Lib.hid (B0.out.grows GRW.out)
          have D1 := Lib.hid (B1.out.grows GRW.out)
          obtain ⟨n0, n1, n2, nf⟩ := D0.out.c3
          obtain ⟨s0, s1, s2, s3, sf⟩ := D1.out.c4
          have l0 := D0.out.lt
          have l1 := D1.out.lt
          have PX := Lib.hid (isPix_own OWN.out QOK.out).1
          have HAT : Hid (∀ W, Grows wr W → Calls Tryz.prog 13 #[.agg #[.int .i64 12, .slice ia ll ic, .slice pa pl pc], .slice a ll cap, .int .i64 x, .int .i64 y] W fun e w' => e = .returned (.agg #[.int .u8 r.r, .int .u8 r.g, .int .u8 r.b, .int .u8 r.a]) ∧ Grows W w') := fun W g => HAT0.out W a cap (GR.out.trans g) (PX.out.grows g)
          clear B0 B1 HAT0 PX OWN
          go_wp2
          first | refine region_grow_tail2 8 (by kernel_rfl) (by kernel_rfl) ?_ | refine region_grow_tail 8 (by kernel_rfl) (by kernel_rfl) ?_
          simp only [List.take_succ_cons, List.take_zero, List.drop_succ_cons, List.drop_zero]
          repeat (go_big_quiet_step ((first | (go_at_call 13; exact grow_of (HAT.out _ (by repeat (first | exact Grows.refl _ | apply Grows.grow | apply Grows.alloc | apply Grows.drew)))))))
          refine wpQuiet_nil ?_
          rintro _ ⟨gd, rfl⟩
          go_wp2_with ((go_at_call 9; (with_reducible refine Calls.mono (HRD.out _ ?_) ?_); (exact GR.out.trans (by repeat (first | exact Grows.refl _ | apply Grows.grow | apply Grows.alloc | apply Grows.drew))); rintro e w' ⟨aq, lq, cq, rfl, hgw, Hq⟩; (obtain ⟨b9, o9, rfl, hb9, ok9, c0, c1, c2, c3⟩ := Hq.out.1.pix.px (k := 0) (by have := Hq.out.1.count; omega)); (have mq := Hq.out.1.most); (have cq1 := Hq.out.1.count); (first | (obtain ⟨gy, rfl⟩ := grows_of_grow hgw) | (obtain ⟨gy, rfl⟩ := hgw)); (try simp only [grow_drew] at c0 c1 c2 c3 hb9); (simp only [Nat.zero_mul, Nat.add_zero] at c0 c1 c2 c3); (rw [HRX.out] at c0 c1 c2 c3); (obtain rfl : lq = 1 := by omega); clear Hq ok9 cq1; (try simp at hb9)))
          go_ret
          exact ⟨rfl, GR.out.trans (by repeat (first | exact Grows.refl _ | apply Grows.grow | apply Grows.alloc | apply Grows.drew))⟩
  · have HBP := Lib.hid (HBP0.out false (decide_eq_false hby))
    clear HBP0 HRX0
    have hc3 : (¬ op = 5 ∧ ¬ 6 ≤ op ∧ ¬ op = 12) ∨ (¬ op = 5 ∧ 6 ≤ op ∧ ¬ op ≤ 9 ∧ ¬ op = 12) := by omega
    clear hc hby
    rcases hc3 with ⟨k1, k2, k3⟩ | ⟨k1, k2, k3, k4⟩
    · have e5 : (op == 5) = false := by simp; omega
      have e12 : (op == 12) = false := by simp; omega
      go_wp2_with ((go_at_call 11; (with_reducible refine Calls.mono (HBP.out _) ?_); rintro e w' ⟨rfl, hgw⟩; first | (obtain ⟨gb, rfl⟩ := grows_of_grow hgw) | (obtain ⟨gb, rfl⟩ := hgw)))
      go_ret
      exact ⟨rfl, (by repeat (first | exact Grows.refl _ | apply Grows.grow | apply Grows.alloc | apply Grows.drew))⟩
    · have e5 : (op == 5) = false := by simp; omega
      have e12 : (op == 12) = false := by simp; omega
      have e9 : decide (op ≤ 9) = false := by simp; omega
      go_wp2_with ((go_at_call 11; (with_reducible refine Calls.mono (HBP.out _) ?_); rintro e w' ⟨rfl, hgw⟩; first | (obtain ⟨gb, rfl⟩ := grows_of_grow hgw) | (obtain ⟨gb, rfl⟩ := hgw)))
      go_ret
      exact ⟨rfl, (by repeat (first | exact Grows.refl _ | apply Grows.grow | apply Grows.alloc | apply Grows.drew))⟩
set_option maxRecDepth 100000 in
set_option maxHeartbeats 25600000 in
theorem kernelPoints_walk (op : Int) (ia : Option Addr) (il ic : Nat) (is : Nat → Int) (pa : Option Addr) (pl pc : Nat) (ps : Nat → Int) (al : Option Addr) (ll cl : Nat) (g5 : Nat → Bf) (x y : Int) (w : World) (hop : -9223372036854775808 ≤ op ∧ op ≤ 9223372036854775807) (ht : Tabs w) (hi : IsInts w ia il ic is) (hp : IsInts w pa pl pc ps) (hb : IsBufs w al ll cl g5) (hx : -9223372036854775808 ≤ x ∧ x ≤ 9223372036854775807) (hy : -9223372036854775808 ≤ y ∧ y ≤ 9223372036854775807) :
    Calls Tryz.prog 4 #[.agg #[.int .i64 op, .slice ia il ic, .slice pa pl pc], .slice al ll cl, .int .i64 x, .int .i64 y] w fun e w' => e = .returned (.bool true) ∧ Grows w w' := by
  by_cases hr : (-1000000 ≤ x ∧ x ≤ 1000000) ∧ (-1000000 ≤ y ∧ y ≤ 1000000)
  · cases c_F : fine15 op il is pl ps ll g5 (⟨x, y, x + 1, y + 1⟩ : R)
    · exact kpoints_f op ia il ic is pa pl pc ps al ll cl g5 x y w hop ht hi hp hb hx hy hr c_F
    · exact kpoints_t op ia il ic is pa pl pc ps al ll cl g5 x y w hop ht hi hp hb hx hy hr c_F
  by_cases h1 : 1000000 < x
  · exact kpoints_a op ia il ic is pa pl pc ps al ll cl g5 x y w hop ht hi hp hb hx hy h1
  by_cases h2 : x < -1000000
  · exact kpoints_b op ia il ic is pa pl pc ps al ll cl g5 x y w hop ht hi hp hb hx hy h1 h2
  by_cases h3 : 1000000 < y
  · exact kpoints_c op ia il ic is pa pl pc ps al ll cl g5 x y w hop ht hi hp hb hx hy h1 h2 h3
  · exact kpoints_d op ia il ic is pa pl pc ps al ll cl g5 x y w hop ht hi hp hb hx hy h1 h2 h3 (by omega)
end Go.Proofs.YtklcmlbkhjcaiaaGreatDoor
