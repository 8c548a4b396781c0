/- The walk of the document's mixed (layer 15). -/
import Derived.Test.YtklcmlbkhjcaiaaGreatDoorK20
import Derived.Test.YtklcmlbkhjcaiaaGreatDoorK9
import Derived.Test.YtklcmlbkhjcaiaaGreatDoorMixBRF




namespace Go.Proofs.YtklcmlbkhjcaiaaGreatDoor
open Go.RowKit
set_option linter.unusedVariables false

theorem gcell {w w' : World} {b i : Nat} {v : Value} (g : Grows w w') (hb : b < w.heap.size) (h : w.cell? ⟨b, i, none⟩ = some v) : w'.cell? ⟨b, i, none⟩ = some v := (g.below.cell (p := ⟨b, i, none⟩) hb).trans h
set_option maxRecDepth 100000 in
set_option maxHeartbeats 12800000 in
theorem ref15_mixed_5 (ia : Option Addr) (il ic : Nat) (pa : Option Addr) (pl pc : Nat) (p : Nat → Int) (al : Option Addr) (ll cl : Nat) (g5 : Nat → Bf) (F : Nat → Img) (b : R) (w : World) (hp : Hid (IsInts w pa pl pc p)) (hlp : (pl : Int) = prmN 5) (hl : Hid (IsBufs w al ll cl g5)) (hbs : Hid (∀ i, i < ll → BufAt w (g5 i).r (g5 i).a (g5 i).len (g5 i).cap (F i) ∧ cntR (g5 i).r ≤ 30000000000000)) (hk : NodeOk 5 p ll) (hb : rightR b = true) (hs : cntR (someR b) ≤ 300) :
    Calls Tryz.prog 37 #[.agg #[.int .i64 5, .slice ia il ic, .slice pa pl pc], .slice al ll cl, .agg #[.int .i64 b.x0, .int .i64 b.y0, .int .i64 b.x1, .int .i64 b.y1]] w (RetBuf w (someR b) (cutF (someR b) (fun x y => tintP p (F 0 x y)))) := by
  have m1 := hp.out.le
  have m2 := hp.out.most
  have m3 := hl.out.le
  have m4 := hl.out.most
  have n1 := hk.one (by omega)
  have hg : GoodR (someR b) := good_some hb
  cases he : emptyR b
  case true =>
    have e : someR b = zeroR := by simp [someR, he]
    rw [e]
    have e2 : cutF zeroR (fun x y => tintP p (F 0 x y)) = noF := by
      funext u v
      rw [cutF_out (hasR_zero u v)]; rfl
    rw [e2]
    clear e e2 hg hs hb hk hp hl hbs hlp
    go_enter Tryz.func37, Tryz.ntmps37
    go_wp2_with ((first | (go_at_call 63; refine (ref03_emptyR _ _).mono ?_; rintro e w' ⟨rfl, hgw⟩; first | (obtain ⟨gw, rfl⟩ := grows_of_grow hgw) | (obtain ⟨gw, rfl⟩ := hgw))))
    refine bodyPost_ret (results_cell_row rfl _ _ _ 32 #[.int .i64 0, .int .i64 0, .int .i64 0, .int .i64 0, .slice none 0 0] (0, 0) _ rfl ?_ Tryz.underlying32 rfl buf_info) rfl ⟨_, _, _, rfl, (by repeat (first | exact Grows.refl _ | apply Grows.grow | apply Grows.alloc | apply Grows.drew)), bufAt_zero _, Open.none_ _, fun x hx => by cases hx⟩
    exact (by repeat (first | exact blk_at _ _ _ (by first | omega | (simp; done) | (simp; omega)) | refine (blk_past _ _ _ (by first | omega | (simp; done) | (simp; omega))).trans ?_ | refine (heap_grow _ _ _ (by first | omega | (simp; done) | (simp; omega))).trans ?_ | refine (blk_drew _ _).trans ?_))
  have e : someR b = b := by simp [someR, he]
  rw [e] at hg hs ⊢
  obtain rfl : pl = 20 := by have : prmN 5 = 20 := (by decide); omega
  obtain ⟨b', off', rfl, hbk, ek0, ek1, ek2, ek3, ek4⟩ := hl.out.at (k := 0) (by omega)
  have hbkk := hbs.out 0 (by omega)
  simp only [Nat.zero_mul, Nat.add_zero] at ek0 ek1 ek2 ek3 ek4
  obtain ⟨rk, hrk⟩ : ∃ z, z = (g5 0).r := ⟨_, rfl⟩
  obtain ⟨ak, hak⟩ : ∃ z, z = (g5 0).a := ⟨_, rfl⟩
  obtain ⟨lk, hlk⟩ : ∃ z, z = (g5 0).len := ⟨_, rfl⟩
  obtain ⟨ck, hck⟩ : ∃ z, z = (g5 0).cap := ⟨_, rfl⟩
  obtain ⟨Fk, hFk⟩ : ∃ z, z = F 0 := ⟨_, rfl⟩
  rw [← hrk, ← hak, ← hlk, ← hck, ← hFk] at hbkk
  rw [← hrk] at ek0 ek1 ek2 ek3
  rw [← hak, ← hlk, ← hck] at ek4
  obtain ⟨hbkk1, hckk⟩ := hbkk
  have BKk := Lib.hid hbkk1
  have okFk : Hid (∀ u v, okP (Fk u v)) := hbkk1.fits.ok
  obtain ⟨bp, offp, rfl, hbp, f0⟩ := hp.out.at (k := 0) (by omega)
  simp only [Nat.add_zero] at f0
  have HTI0 : Hid (∀ W q, Grows w W → okP q → Calls Tryz.prog 70 #[.slice (some ⟨bp, offp, none⟩) 20 pc, .agg #[.int .u8 q.r, .int .u8 q.g, .int .u8 q.b, .int .u8 q.a]] W fun e w' => e = .returned (.agg #[.int .u8 (tintP p q).r, .int .u8 (tintP p q).g, .int .u8 (tintP p q).b, .int .u8 (tintP p q).a]) ∧ Grows W w') := fun W q g hq => ref07_pixel p bp offp pc q.r q.g q.b q.a W (mat_of (hp.out.grows g) (hk.mat rfl)) hq.1 hq.2.1 hq.2.2.1 hq.2.2.2
  have GOK : Hid (∀ u v, okP (tintP p (Fk u v))) := fun u v => tintP_ok _ _
  obtain ⟨T, hT⟩ : ∃ z : P4 → P4, z = tintP p := ⟨_, rfl⟩
  rw [← hFk]
  rw [← hT] at HTI0 GOK ⊢
  clear hT f0
  have HF : Hid (Fits b (cutF b (fun x y => T (Fk x y)))) := Fits.cut (s := b) (fun x y _ => GOK.out x y)
  have HFF : Hid (∀ u v, hasR b u v = true → cutF b (fun x y => T (Fk x y)) u v = T (Fk u v)) := fun u v k => cutF_in k
  obtain ⟨F', hF'⟩ : ∃ F', F' = cutF b (fun x y => T (Fk x y)) := ⟨_, rfl⟩
  rw [← hF'] at HF HFF ⊢
  have hbd := hg.bd
  have hle := hg.le
  have HG := Lib.hid hg
  have KK := Lib.hid hk
  clear hg hF' e hb hrk hak hlk hck hFk hbkk1 hk hlp
  go_enter Tryz.func37, Tryz.ntmps37
  go_wp2_with ((first | (go_at_call 63; refine (ref03_emptyR _ _).mono ?_; rintro e w' ⟨rfl, hgw⟩; first | (obtain ⟨gw, rfl⟩ := grows_of_grow hgw) | (obtain ⟨gw, rfl⟩ := hgw))))
  refine wp_name ?_
  intro W0 hW0
  have B0 : Hid (Blk W0 w.heap.size 24 #[.int .i64 5, .slice ia il ic, .slice (some ⟨bp, offp, none⟩) 20 pc]) := by rw [hW0]; exact (by unfold Blk; repeat (first | exact blk_at _ _ _ (by first | omega | (simp; done) | (simp; omega)) | refine (blk_past _ _ _ (by first | omega | (simp; done) | (simp; omega))).trans ?_ | refine (heap_grow _ _ _ (by first | omega | (simp; done) | (simp; omega))).trans ?_ | refine (blk_drew _ _).trans ?_))
  have B1 : Hid (Blk W0 (w.heap.size + 1) 27 #[.int .i64 b.x0, .int .i64 b.y0, .int .i64 b.x1, .int .i64 b.y1]) := by rw [hW0]; exact (by unfold Blk; repeat (first | exact blk_at _ _ _ (by first | omega | (simp; done) | (simp; omega)) | refine (blk_past _ _ _ (by first | omega | (simp; done) | (simp; omega))).trans ?_ | refine (heap_grow _ _ _ (by first | omega | (simp; done) | (simp; omega))).trans ?_ | refine (blk_drew _ _).trans ?_))
  have B2 : Hid (Blk W0 (w.heap.size + 1 + 1) 32 #[.int .i64 0, .int .i64 0, .int .i64 0, .int .i64 0, .slice none 0 0]) := by rw [hW0]; exact (by unfold Blk; repeat (first | exact blk_at _ _ _ (by first | omega | (simp; done) | (simp; omega)) | refine (blk_past _ _ _ (by first | omega | (simp; done) | (simp; omega))).trans ?_ | refine (heap_grow _ _ _ (by first | omega | (simp; done) | (simp; omega))).trans ?_ | refine (blk_drew _ _).trans ?_))
  have B4 : Blk W0 (w.heap.size + 1 + 1 + 1) 32 #[.int .i64 b.x0, .int .i64 b.y0, .int .i64 b.x1, .int .i64 b.y1, .slice none 0 0] := by rw [hW0]; exact (by unfold Blk; repeat (first | exact blk_at _ _ _ (by first | omega | (simp; done) | (simp; omega)) | refine (blk_past _ _ _ (by first | omega | (simp; done) | (simp; omega))).trans ?_ | refine (heap_grow _ _ _ (by first | omega | (simp; done) | (simp; omega))).trans ?_ | refine (blk_drew _ _).trans ?_))
  have GW : Hid (Grows w W0) := by rw [hW0]; exact (by repeat (first | exact Grows.refl _ | apply Grows.grow | apply Grows.alloc | apply Grows.drew))
  have hsz' : w.heap.size + 1 + 1 + 1 < W0.heap.size := B4.lt
  have ST : Hid (AppSt W0 W0 (w.heap.size + 1 + 1 + 1) b none 0 0 (fun i => F' (ptX b i) (ptY b i))) := AppSt.start _ B4
  clear hW0 B4
  go_loopw [8] (fun y wr => ∃ (v : Int) (k : Nat) (a' : Option Addr) (cap' : Nat), b.y0 ≤ v ∧ v ≤ b.y1 ∧ y = .int .i64 v ∧ Hid ((k : Int) = idxR b b.x0 v ∧ AppSt W0 wr (w.heap.size + 1 + 1 + 1) b a' k cap' (fun i => F' (ptX b i) (ptY b i)))) (fun y _ => (b.y1 - intOf y).toNat)
  case atStart => exact ⟨_, 0, none, 0, by omega, by omega, rfl, by rw [idx_first]; rfl, ST.out⟩
  case round =>
    clear ST
    obtain ⟨v, k, a', cap', hv1, hv2, rfl, hh⟩ := hrel
    have b1 := hh.out.2.blk B1.out (by omega)
    obtain ⟨d0, d1, d2, d3, df⟩ := b1.c4
    have l1 := b1.lt
    by_cases hlt : v < b.y1
    · go_wp2
      clear d0 d1 d2 d3 df l1 b1
      go_loopw [9] (fun x wr => ∃ (u : Int) (k : Nat) (a' : Option Addr) (cap' : Nat), b.x0 ≤ u ∧ u ≤ b.x1 ∧ x = .int .i64 u ∧ Hid ((k : Int) = idxR b u v ∧ AppSt W0 wr (w.heap.size + 1 + 1 + 1) b a' k cap' (fun i => F' (ptX b i) (ptY b i)))) (fun x _ => (b.x1 - intOf x).toNat)
      case atStart => exact ⟨_, k, a', cap', by omega, by omega, rfl, hh.out⟩
      case round =>
        clear hh
        obtain ⟨u, k, a', cap', hu1, hu2, rfl, hh⟩ := hrel
        have b1 := hh.out.2.blk B1.out (by omega)
        obtain ⟨d0, d1, d2, d3, df⟩ := b1.c4
        have l1 := b1.lt
        by_cases hltx : u < b.x1
        · have hin : hasR b u v = true := (hasR_iff _ _ _).2 (by omega)
          have hcnt := HG.out.idx hin
          have hk : k ≤ 30000000000000 := by have := hh.out.1; omega
          have hfk : Hid ((fun i => F' (ptX b i) (ptY b i)) k = T (Fk u v)) := by
            show F' (ptX b k) (ptY b k) = _
            rw [ptX_of hin hh.out.1, ptY_of hin hh.out.1]
            exact HFF.out u v hin
          have hki := hh.out.1
          have GR : Hid (Grows w wr) := GW.out.grown hh.out.2.by_ (fun j hj => by injection hj with hj; omega)
          obtain ⟨q, hq⟩ : ∃ z, z = Fk u v := ⟨_, rfl⟩
          have okq : okP q := by rw [hq]; exact okFk.out u v
          have HQ0 : Hid (Fk u v = q) := hq.symm
          have HTI : Hid (∀ W, Grows wr W → Calls Tryz.prog 70 #[.slice (some ⟨bp, offp, none⟩) 20 pc, .agg #[.int .u8 q.r, .int .u8 q.g, .int .u8 q.b, .int .u8 q.a]] W fun e w' => e = .returned (.agg #[.int .u8 (T q).r, .int .u8 (T q).g, .int .u8 (T q).b, .int .u8 (T q).a]) ∧ Grows W w') := fun W g => HTI0.out W q (GR.out.trans g) okq
          rw [← hq] at hfk
          obtain ⟨A, hA⟩ : ∃ z, z = T q := ⟨_, rfl⟩
          have okA : okP A := by rw [hA, hq]; exact GOK.out u v
          rw [← hA] at hfk HTI
          have HSRC := Lib.hid (BKk.out.grows GR.out)
          have x0 := gcell GR.out hbk ek0
          have x1 := gcell GR.out hbk ek1
          have x2 := gcell GR.out hbk ek2
          have x3 := gcell GR.out hbk ek3
          have x4 := gcell GR.out hbk ek4
          have hbk2 : b' < wr.heap.size := by have := GR.out.below.size; omega
          have b0 := hh.out.2.blk B0.out (by omega)
          obtain ⟨s0, s1, s2, sf⟩ := b0.c3
          have l0 := b0.lt
          have bo := hh.out.2.ob
          obtain ⟨o0, o1, o2, o3, o4, of⟩ := bo.c5
          have lo := bo.lt
          have hbase := hh.out.2.by_.size
          clear b0 bo hq hA
          go_wp2_with (first
            | (first | (go_at_call 12; (with_reducible refine (ref05_AtIs _ _ _ _ _ _ _ _ _ (Lib.hid (BufAt.grows HSRC.out (by repeat (first | exact Grows.refl _ | apply Grows.grow | apply Grows.alloc | apply Grows.drew)))) (by omega) HQ0).mono ?_); rintro e w' ⟨rfl, hgw⟩; first | (obtain ⟨gw, rfl⟩ := grows_of_grow hgw) | (obtain ⟨gw, rfl⟩ := hgw)) | (go_at_call 70; (with_reducible refine (HTI.out _ (by repeat (first | exact Grows.refl _ | apply Grows.grow | apply Grows.alloc | apply Grows.drew))).mono ?_); rintro e w' ⟨rfl, hgw⟩; first | (obtain ⟨gw, rfl⟩ := grows_of_grow hgw) | (obtain ⟨gw, rfl⟩ := hgw)))
            | (go_at_call 65; refine (ref05_With b a' k cap' (fun i => F' (ptX b i) (ptY b i)) A W0.heap.size _ (Lib.hid (ownsRow_grows hh.out.2.own (by repeat (first | exact Grows.refl _ | apply Grows.grow | apply Grows.alloc | apply Grows.drew)))) hfk hk (by simp; omega)).mono ?_; rintro e w1 ⟨g, c1', rfl, h1, h2, h4⟩; obtain ⟨PB, PST⟩ := hh.out.2.push5 (by exact (by repeat (first | exact Grows.refl _ | apply Grows.grow | apply Grows.alloc | apply Grows.drew))) h1 h2; obtain ⟨q0, q1, q2, q3, q4, qf⟩ := PB.c5; have ql := PB.lt; replace PST := Lib.hid PST; clear h1 h2 h4 PB))
          go_roundw
          case rel => exact ⟨u + 1, k + 1, _, _, by omega, by omega, by go_num, by rw [idx_next]; omega, PST.out⟩
          case measure => simp [intOf]; omega
        · obtain rfl : u = b.x1 := by omega
          go_wp2
          go_roundw
          case rel => exact ⟨v + 1, k, a', cap', by omega, by omega, by go_num, by have := hh.out.1; rw [idx_row] at this; exact this, hh.out.2⟩
          case measure => simp [intOf]; omega
    · obtain rfl : v = b.y1 := by omega
      have bo := hh.out.2.ob
      obtain ⟨o0, o1, o2, o3, o4, of⟩ := bo.c5
      have b3 := hh.out.2.blk B2.out (by omega)
      obtain ⟨e0, e1, e2, e3, e4, ef⟩ := b3.c5
      have H3 := Lib.hid b3
      have l3 := b3.lt
      have lo := bo.lt
      clear b3 bo b1
      go_wp2
      obtain ⟨D1, D2⟩ := hh.out.2.done HG.out HF.out hh.out.1 GW.out (n := w.heap.size + 1 + 1) (by omega) (by omega) (by omega) (.int .i64 b.x0) (.int .i64 b.y0) (.int .i64 b.x1) (.int .i64 b.y1) (.slice a' k cap')
      refine bodyPost_ret (results_cell_row rfl _ _ _ 32 #[.int .i64 b.x0, .int .i64 b.y0, .int .i64 b.x1, .int .i64 b.y1, .slice a' k cap'] (0, 0) _ rfl (H3.out.set5 _ _ _ _ _) Tryz.underlying32 rfl buf_info) rfl ⟨_, _, _, rfl, D1, D2⟩
set_option maxRecDepth 100000 in
set_option maxHeartbeats 12800000 in
theorem ref15_mixed_7 (ia : Option Addr) (il ic : Nat) (pa : Option Addr) (pl pc : Nat) (p : Nat → Int) (al : Option Addr) (ll cl : Nat) (g5 : Nat → Bf) (F : Nat → Img) (b : R) (w : World) (hp : Hid (IsInts w pa pl pc p)) (hlp : (pl : Int) = prmN 7) (hl : Hid (IsBufs w al ll cl g5)) (hbs : Hid (∀ i, i < ll → BufAt w (g5 i).r (g5 i).a (g5 i).len (g5 i).cap (F i) ∧ cntR (g5 i).r ≤ 30000000000000)) (hk : NodeOk 7 p ll) (hb : rightR b = true) (hs : cntR (someR b) ≤ 300) :
    Calls Tryz.prog 37 #[.agg #[.int .i64 7, .slice ia il ic, .slice pa pl pc], .slice al ll cl, .agg #[.int .i64 b.x0, .int .i64 b.y0, .int .i64 b.x1, .int .i64 b.y1]] w (RetBuf w (someR b) (cutF (someR b) (fun x y => blendP (p 0) (F 0 x y) (F 1 x y)))) := by
  have m1 := hp.out.le
  have m2 := hp.out.most
  have m3 := hl.out.le
  have m4 := hl.out.most
  have n1 := hk.one (by omega)
  have n2 := hk.two (by omega)
  have hg : GoodR (someR b) := good_some hb
  cases he : emptyR b
  case true =>
    have e : someR b = zeroR := by simp [someR, he]
    rw [e]
    have e2 : cutF zeroR (fun x y => blendP (p 0) (F 0 x y) (F 1 x y)) = noF := by
      funext u v
      rw [cutF_out (hasR_zero u v)]; rfl
    rw [e2]
    clear e e2 hg hs hb hk hp hl hbs hlp
    go_enter Tryz.func37, Tryz.ntmps37
    go_wp2_with ((first | (go_at_call 63; refine (ref03_emptyR _ _).mono ?_; rintro e w' ⟨rfl, hgw⟩; first | (obtain ⟨gw, rfl⟩ := grows_of_grow hgw) | (obtain ⟨gw, rfl⟩ := hgw))))
    refine bodyPost_ret (results_cell_row rfl _ _ _ 32 #[.int .i64 0, .int .i64 0, .int .i64 0, .int .i64 0, .slice none 0 0] (0, 0) _ rfl ?_ Tryz.underlying32 rfl buf_info) rfl ⟨_, _, _, rfl, (by repeat (first | exact Grows.refl _ | apply Grows.grow | apply Grows.alloc | apply Grows.drew)), bufAt_zero _, Open.none_ _, fun x hx => by cases hx⟩
    exact (by repeat (first | exact blk_at _ _ _ (by first | omega | (simp; done) | (simp; omega)) | refine (blk_past _ _ _ (by first | omega | (simp; done) | (simp; omega))).trans ?_ | refine (heap_grow _ _ _ (by first | omega | (simp; done) | (simp; omega))).trans ?_ | refine (blk_drew _ _).trans ?_))
  have e : someR b = b := by simp [someR, he]
  rw [e] at hg hs ⊢
  obtain rfl : pl = 1 := by have : prmN 7 = 1 := (by decide); omega
  obtain ⟨b', off', rfl, hbk, ek0, ek1, ek2, ek3, ek4⟩ := hl.out.at (k := 0) (by omega)
  have hbkk := hbs.out 0 (by omega)
  simp only [Nat.zero_mul, Nat.add_zero] at ek0 ek1 ek2 ek3 ek4
  obtain ⟨rk, hrk⟩ : ∃ z, z = (g5 0).r := ⟨_, rfl⟩
  obtain ⟨ak, hak⟩ : ∃ z, z = (g5 0).a := ⟨_, rfl⟩
  obtain ⟨lk, hlk⟩ : ∃ z, z = (g5 0).len := ⟨_, rfl⟩
  obtain ⟨ck, hck⟩ : ∃ z, z = (g5 0).cap := ⟨_, rfl⟩
  obtain ⟨Fk, hFk⟩ : ∃ z, z = F 0 := ⟨_, rfl⟩
  rw [← hrk, ← hak, ← hlk, ← hck, ← hFk] at hbkk
  rw [← hrk] at ek0 ek1 ek2 ek3
  rw [← hak, ← hlk, ← hck] at ek4
  obtain ⟨hbkk1, hckk⟩ := hbkk
  have BKk := Lib.hid hbkk1
  have okFk : Hid (∀ u v, okP (Fk u v)) := hbkk1.fits.ok
  obtain ⟨b2, off2, ee, -, ej0, ej1, ej2, ej3, ej4⟩ := hl.out.at (k := 1) (by omega)
  cases ee
  have hbkj := hbs.out 1 (by omega)
  simp only [Nat.one_mul] at ej0 ej1 ej2 ej3 ej4
  obtain ⟨rj, hrj⟩ : ∃ z, z = (g5 1).r := ⟨_, rfl⟩
  obtain ⟨aj, haj⟩ : ∃ z, z = (g5 1).a := ⟨_, rfl⟩
  obtain ⟨lj, hlj⟩ : ∃ z, z = (g5 1).len := ⟨_, rfl⟩
  obtain ⟨cj, hcj⟩ : ∃ z, z = (g5 1).cap := ⟨_, rfl⟩
  obtain ⟨Fj, hFj⟩ : ∃ z, z = F 1 := ⟨_, rfl⟩
  rw [← hrj, ← haj, ← hlj, ← hcj, ← hFj] at hbkj
  rw [← hrj] at ej0 ej1 ej2 ej3
  rw [← haj, ← hlj, ← hcj] at ej4
  obtain ⟨hbkj1, hckj⟩ := hbkj
  have BKj := Lib.hid hbkj1
  have okFj : Hid (∀ u v, okP (Fj u v)) := hbkj1.fits.ok
  obtain ⟨bp, offp, rfl, hbp, f0⟩ := hp.out.at (k := 0) (by omega)
  simp only [Nat.add_zero] at f0
  have hmo := hk.mode rfl
  have HBL0 : Hid (∀ W q z, okP q → okP z → Calls Tryz.prog 71 #[.int .i64 (p 0), .agg #[.int .u8 q.r, .int .u8 q.g, .int .u8 q.b, .int .u8 q.a], .agg #[.int .u8 z.r, .int .u8 z.g, .int .u8 z.b, .int .u8 z.a]] W fun e w' => e = .returned (.agg #[.int .u8 (blendP (p 0) q z).r, .int .u8 (blendP (p 0) q z).g, .int .u8 (blendP (p 0) q z).b, .int .u8 (blendP (p 0) q z).a]) ∧ Grows W w') := fun W q z hq hz => ref06_blend (p 0) q.r q.g q.b q.a z.r z.g z.b z.a W hmo hq.1 hq.2.1 hq.2.2.1 hq.2.2.2 hz.1 hz.2.1 hz.2.2.1 hz.2.2.2
  have GOK : Hid (∀ u v, okP (blendP (p 0) (Fk u v) (Fj u v))) := fun u v => blendP_ok _ _ _
  obtain ⟨m, hm⟩ : ∃ z, z = p 0 := ⟨_, rfl⟩
  obtain ⟨T, hT⟩ : ∃ z : P4 → P4 → P4, z = blendP (p 0) := ⟨_, rfl⟩
  rw [← hFk, ← hFj]
  rw [← hT] at HBL0 GOK ⊢
  rw [← hm] at HBL0 f0
  clear hT hm hmo
  have HF : Hid (Fits b (cutF b (fun x y => T (Fk x y) (Fj x y)))) := Fits.cut (s := b) (fun x y _ => GOK.out x y)
  have HFF : Hid (∀ u v, hasR b u v = true → cutF b (fun x y => T (Fk x y) (Fj x y)) u v = T (Fk u v) (Fj u v)) := fun u v k => cutF_in k
  obtain ⟨F', hF'⟩ : ∃ F', F' = cutF b (fun x y => T (Fk x y) (Fj x y)) := ⟨_, rfl⟩
  rw [← hF'] at HF HFF ⊢
  have hbd := hg.bd
  have hle := hg.le
  have HG := Lib.hid hg
  have KK := Lib.hid hk
  clear hg hF' e hb hrk hak hlk hck hFk hbkk1 hk hlp hrj haj hlj hcj hFj hbkj1
  go_enter Tryz.func37, Tryz.ntmps37
  go_wp2_with ((first | (go_at_call 63; refine (ref03_emptyR _ _).mono ?_; rintro e w' ⟨rfl, hgw⟩; first | (obtain ⟨gw, rfl⟩ := grows_of_grow hgw) | (obtain ⟨gw, rfl⟩ := hgw))))
  refine wp_name ?_
  intro W0 hW0
  have B0 : Hid (Blk W0 w.heap.size 24 #[.int .i64 7, .slice ia il ic, .slice (some ⟨bp, offp, none⟩) 1 pc]) := by rw [hW0]; exact (by unfold Blk; repeat (first | exact blk_at _ _ _ (by first | omega | (simp; done) | (simp; omega)) | refine (blk_past _ _ _ (by first | omega | (simp; done) | (simp; omega))).trans ?_ | refine (heap_grow _ _ _ (by first | omega | (simp; done) | (simp; omega))).trans ?_ | refine (blk_drew _ _).trans ?_))
  have B1 : Hid (Blk W0 (w.heap.size + 1) 27 #[.int .i64 b.x0, .int .i64 b.y0, .int .i64 b.x1, .int .i64 b.y1]) := by rw [hW0]; exact (by unfold Blk; repeat (first | exact blk_at _ _ _ (by first | omega | (simp; done) | (simp; omega)) | refine (blk_past _ _ _ (by first | omega | (simp; done) | (simp; omega))).trans ?_ | refine (heap_grow _ _ _ (by first | omega | (simp; done) | (simp; omega))).trans ?_ | refine (blk_drew _ _).trans ?_))
  have B2 : Hid (Blk W0 (w.heap.size + 1 + 1) 32 #[.int .i64 0, .int .i64 0, .int .i64 0, .int .i64 0, .slice none 0 0]) := by rw [hW0]; exact (by unfold Blk; repeat (first | exact blk_at _ _ _ (by first | omega | (simp; done) | (simp; omega)) | refine (blk_past _ _ _ (by first | omega | (simp; done) | (simp; omega))).trans ?_ | refine (heap_grow _ _ _ (by first | omega | (simp; done) | (simp; omega))).trans ?_ | refine (blk_drew _ _).trans ?_))
  have B4 : Blk W0 (w.heap.size + 1 + 1 + 1) 32 #[.int .i64 b.x0, .int .i64 b.y0, .int .i64 b.x1, .int .i64 b.y1, .slice none 0 0] := by rw [hW0]; exact (by unfold Blk; repeat (first | exact blk_at _ _ _ (by first | omega | (simp; done) | (simp; omega)) | refine (blk_past _ _ _ (by first | omega | (simp; done) | (simp; omega))).trans ?_ | refine (heap_grow _ _ _ (by first | omega | (simp; done) | (simp; omega))).trans ?_ | refine (blk_drew _ _).trans ?_))
  have GW : Hid (Grows w W0) := by rw [hW0]; exact (by repeat (first | exact Grows.refl _ | apply Grows.grow | apply Grows.alloc | apply Grows.drew))
  have hsz' : w.heap.size + 1 + 1 + 1 < W0.heap.size := B4.lt
  have ST : Hid (AppSt W0 W0 (w.heap.size + 1 + 1 + 1) b none 0 0 (fun i => F' (ptX b i) (ptY b i))) := AppSt.start _ B4
  clear hW0 B4
  go_loopw [8] (fun y wr => ∃ (v : Int) (k : Nat) (a' : Option Addr) (cap' : Nat), b.y0 ≤ v ∧ v ≤ b.y1 ∧ y = .int .i64 v ∧ Hid ((k : Int) = idxR b b.x0 v ∧ AppSt W0 wr (w.heap.size + 1 + 1 + 1) b a' k cap' (fun i => F' (ptX b i) (ptY b i)))) (fun y _ => (b.y1 - intOf y).toNat)
  case atStart => exact ⟨_, 0, none, 0, by omega, by omega, rfl, by rw [idx_first]; rfl, ST.out⟩
  case round =>
    clear ST
    obtain ⟨v, k, a', cap', hv1, hv2, rfl, hh⟩ := hrel
    have b1 := hh.out.2.blk B1.out (by omega)
    obtain ⟨d0, d1, d2, d3, df⟩ := b1.c4
    have l1 := b1.lt
    by_cases hlt : v < b.y1
    · go_wp2
      clear d0 d1 d2 d3 df l1 b1
      go_loopw [9] (fun x wr => ∃ (u : Int) (k : Nat) (a' : Option Addr) (cap' : Nat), b.x0 ≤ u ∧ u ≤ b.x1 ∧ x = .int .i64 u ∧ Hid ((k : Int) = idxR b u v ∧ AppSt W0 wr (w.heap.size + 1 + 1 + 1) b a' k cap' (fun i => F' (ptX b i) (ptY b i)))) (fun x _ => (b.x1 - intOf x).toNat)
      case atStart => exact ⟨_, k, a', cap', by omega, by omega, rfl, hh.out⟩
      case round =>
        clear hh
        obtain ⟨u, k, a', cap', hu1, hu2, rfl, hh⟩ := hrel
        have b1 := hh.out.2.blk B1.out (by omega)
        obtain ⟨d0, d1, d2, d3, df⟩ := b1.c4
        have l1 := b1.lt
        by_cases hltx : u < b.x1
        · have hin : hasR b u v = true := (hasR_iff _ _ _).2 (by omega)
          have hcnt := HG.out.idx hin
          have hk : k ≤ 30000000000000 := by have := hh.out.1; omega
          have hfk : Hid ((fun i => F' (ptX b i) (ptY b i)) k = T (Fk u v) (Fj u v)) := by
            show F' (ptX b k) (ptY b k) = _
            rw [ptX_of hin hh.out.1, ptY_of hin hh.out.1]
            exact HFF.out u v hin
          have hki := hh.out.1
          have GR : Hid (Grows w wr) := GW.out.grown hh.out.2.by_ (fun j hj => by injection hj with hj; omega)
          obtain ⟨q, hq⟩ : ∃ z, z = Fk u v := ⟨_, rfl⟩
          have okq : okP q := by rw [hq]; exact okFk.out u v
          have HQ0 : Hid (Fk u v = q) := hq.symm
          obtain ⟨z, hz⟩ : ∃ z, z = Fj u v := ⟨_, rfl⟩
          have okz : okP z := by rw [hz]; exact okFj.out u v
          have HQ1 : Hid (Fj u v = z) := hz.symm
          have HBL : Hid (∀ W, Calls Tryz.prog 71 #[.int .i64 m, .agg #[.int .u8 q.r, .int .u8 q.g, .int .u8 q.b, .int .u8 q.a], .agg #[.int .u8 z.r, .int .u8 z.g, .int .u8 z.b, .int .u8 z.a]] W fun e w' => e = .returned (.agg #[.int .u8 (T q z).r, .int .u8 (T q z).g, .int .u8 (T q z).b, .int .u8 (T q z).a]) ∧ Grows W w') := fun W => HBL0.out W q z okq okz
          rw [← hq, ← hz] at hfk
          obtain ⟨A, hA⟩ : ∃ z', z' = T q z := ⟨_, rfl⟩
          have okA : okP A := by rw [hA, hq, hz]; exact GOK.out u v
          rw [← hA] at hfk HBL
          have HSRC2 := Lib.hid (BKj.out.grows GR.out)
          have HSRC := Lib.hid (BKk.out.grows GR.out)
          have x0 := gcell GR.out hbk ek0
          have x1 := gcell GR.out hbk ek1
          have x2 := gcell GR.out hbk ek2
          have x3 := gcell GR.out hbk ek3
          have x4 := gcell GR.out hbk ek4
          have hbk2 : b' < wr.heap.size := by have := GR.out.below.size; omega
          have y0 := gcell GR.out hbk ej0
          have y1 := gcell GR.out hbk ej1
          have y2 := gcell GR.out hbk ej2
          have y3 := gcell GR.out hbk ej3
          have y4 := gcell GR.out hbk ej4
          have f0' := gcell GR.out hbp f0
          have hbp2 : bp < wr.heap.size := by have := GR.out.below.size; omega
          have b0 := hh.out.2.blk B0.out (by omega)
          obtain ⟨s0, s1, s2, sf⟩ := b0.c3
          have l0 := b0.lt
          have bo := hh.out.2.ob
          obtain ⟨o0, o1, o2, o3, o4, of⟩ := bo.c5
          have lo := bo.lt
          have hbase := hh.out.2.by_.size
          clear b0 bo hq hz hA
          go_wp2_with (first
            | (first | (go_at_call 12; (with_reducible refine (ref05_AtIs _ _ _ _ _ _ _ _ _ (Lib.hid (BufAt.grows HSRC.out (by repeat (first | exact Grows.refl _ | apply Grows.grow | apply Grows.alloc | apply Grows.drew)))) (by omega) HQ0).mono ?_); rintro e w' ⟨rfl, hgw⟩; first | (obtain ⟨gw, rfl⟩ := grows_of_grow hgw) | (obtain ⟨gw, rfl⟩ := hgw)))
            | (go_at_call 65; refine (ref05_With b a' k cap' (fun i => F' (ptX b i) (ptY b i)) A W0.heap.size _ (Lib.hid (ownsRow_grows hh.out.2.own (by repeat (first | exact Grows.refl _ | apply Grows.grow | apply Grows.alloc | apply Grows.drew)))) hfk hk (by simp; omega)).mono ?_; rintro e w1 ⟨g, c1', rfl, h1, h2, h4⟩; obtain ⟨PB, PST⟩ := hh.out.2.push5 (by exact (by repeat (first | exact Grows.refl _ | apply Grows.grow | apply Grows.alloc | apply Grows.drew))) h1 h2; obtain ⟨q0, q1, q2, q3, q4, qf⟩ := PB.c5; have ql := PB.lt; replace PST := Lib.hid PST; clear h1 h2 h4 PB))
          first | refine region_grow_tail2 12 (by kernel_rfl) (by kernel_rfl) ?_ | refine region_grow_tail 12 (by kernel_rfl) (by kernel_rfl) ?_
          simp only [List.take_succ_cons, List.take_zero, List.drop_succ_cons, List.drop_zero]
          repeat (go_big_quiet_step ((first | (go_at_call 12; exact grow_of (ref05_AtIs _ _ _ _ _ _ _ _ _ (Lib.hid (BufAt.grows HSRC2.out (by repeat (first | exact Grows.refl _ | apply Grows.grow | apply Grows.alloc | apply Grows.drew)))) (by omega) HQ1)) | (go_at_call 71; exact grow_of (HBL.out _)))))
          refine wpQuiet_nil ?_
          rintro _ ⟨gd, rfl⟩
          go_wp2_with (first
            | (go_at_call 65; refine (ref05_With b a' k cap' (fun i => F' (ptX b i) (ptY b i)) A W0.heap.size _ (Lib.hid (ownsRow_grows hh.out.2.own (by repeat (first | exact Grows.refl _ | apply Grows.grow | apply Grows.alloc | apply Grows.drew)))) hfk hk (by simp; omega)).mono ?_; rintro e w1 ⟨g, c1', rfl, h1, h2, h4⟩; obtain ⟨PB, PST⟩ := hh.out.2.push5 (by exact (by repeat (first | exact Grows.refl _ | apply Grows.grow | apply Grows.alloc | apply Grows.drew))) h1 h2; obtain ⟨q0, q1, q2, q3, q4, qf⟩ := PB.c5; have ql := PB.lt; replace PST := Lib.hid PST; clear h1 h2 h4 PB))
          go_roundw
          case rel => exact ⟨u + 1, k + 1, _, _, by omega, by omega, by go_num, by rw [idx_next]; omega, PST.out⟩
          case measure => simp [intOf]; omega
        · obtain rfl : u = b.x1 := by omega
          go_wp2
          go_roundw
          case rel => exact ⟨v + 1, k, a', cap', by omega, by omega, by go_num, by have := hh.out.1; rw [idx_row] at this; exact this, hh.out.2⟩
          case measure => simp [intOf]; omega
    · obtain rfl : v = b.y1 := by omega
      have bo := hh.out.2.ob
      obtain ⟨o0, o1, o2, o3, o4, of⟩ := bo.c5
      have b3 := hh.out.2.blk B2.out (by omega)
      obtain ⟨e0, e1, e2, e3, e4, ef⟩ := b3.c5
      have H3 := Lib.hid b3
      have l3 := b3.lt
      have lo := bo.lt
      clear b3 bo b1
      go_wp2
      obtain ⟨D1, D2⟩ := hh.out.2.done HG.out HF.out hh.out.1 GW.out (n := w.heap.size + 1 + 1) (by omega) (by omega) (by omega) (.int .i64 b.x0) (.int .i64 b.y0) (.int .i64 b.x1) (.int .i64 b.y1) (.slice a' k cap')
      refine bodyPost_ret (results_cell_row rfl _ _ _ 32 #[.int .i64 b.x0, .int .i64 b.y0, .int .i64 b.x1, .int .i64 b.y1, .slice a' k cap'] (0, 0) _ rfl (H3.out.set5 _ _ _ _ _) Tryz.underlying32 rfl buf_info) rfl ⟨_, _, _, rfl, D1, D2⟩
set_option maxRecDepth 100000 in
set_option maxHeartbeats 12800000 in
theorem ref15_mixed_8 (ia : Option Addr) (il ic : Nat) (pa : Option Addr) (pl pc : Nat) (p : Nat → Int) (al : Option Addr) (ll cl : Nat) (g5 : Nat → Bf) (F : Nat → Img) (b : R) (w : World) (hp : Hid (IsInts w pa pl pc p)) (hlp : (pl : Int) = prmN 8) (hl : Hid (IsBufs w al ll cl g5)) (hbs : Hid (∀ i, i < ll → BufAt w (g5 i).r (g5 i).a (g5 i).len (g5 i).cap (F i) ∧ cntR (g5 i).r ≤ 30000000000000)) (hk : NodeOk 8 p ll) (hb : rightR b = true) (hs : cntR (someR b) ≤ 300) :
    Calls Tryz.prog 37 #[.agg #[.int .i64 8, .slice ia il ic, .slice pa pl pc], .slice al ll cl, .agg #[.int .i64 b.x0, .int .i64 b.y0, .int .i64 b.x1, .int .i64 b.y1]] w (RetBuf w (someR b) (cutF (someR b) (fun x y => compP (p 0) (F 0 x y) (F 1 x y)))) := by
  have m1 := hp.out.le
  have m2 := hp.out.most
  have m3 := hl.out.le
  have m4 := hl.out.most
  have n1 := hk.one (by omega)
  have n2 := hk.two (by omega)
  have hg : GoodR (someR b) := good_some hb
  cases he : emptyR b
  case true =>
    have e : someR b = zeroR := by simp [someR, he]
    rw [e]
    have e2 : cutF zeroR (fun x y => compP (p 0) (F 0 x y) (F 1 x y)) = noF := by
      funext u v
      rw [cutF_out (hasR_zero u v)]; rfl
    rw [e2]
    clear e e2 hg hs hb hk hp hl hbs hlp
    go_enter Tryz.func37, Tryz.ntmps37
    go_wp2_with ((first | (go_at_call 63; refine (ref03_emptyR _ _).mono ?_; rintro e w' ⟨rfl, hgw⟩; first | (obtain ⟨gw, rfl⟩ := grows_of_grow hgw) | (obtain ⟨gw, rfl⟩ := hgw))))
    refine bodyPost_ret (results_cell_row rfl _ _ _ 32 #[.int .i64 0, .int .i64 0, .int .i64 0, .int .i64 0, .slice none 0 0] (0, 0) _ rfl ?_ Tryz.underlying32 rfl buf_info) rfl ⟨_, _, _, rfl, (by repeat (first | exact Grows.refl _ | apply Grows.grow | apply Grows.alloc | apply Grows.drew)), bufAt_zero _, Open.none_ _, fun x hx => by cases hx⟩
    exact (by repeat (first | exact blk_at _ _ _ (by first | omega | (simp; done) | (simp; omega)) | refine (blk_past _ _ _ (by first | omega | (simp; done) | (simp; omega))).trans ?_ | refine (heap_grow _ _ _ (by first | omega | (simp; done) | (simp; omega))).trans ?_ | refine (blk_drew _ _).trans ?_))
  have e : someR b = b := by simp [someR, he]
  rw [e] at hg hs ⊢
  obtain rfl : pl = 1 := by have : prmN 8 = 1 := (by decide); omega
  obtain ⟨b', off', rfl, hbk, ek0, ek1, ek2, ek3, ek4⟩ := hl.out.at (k := 0) (by omega)
  have hbkk := hbs.out 0 (by omega)
  simp only [Nat.zero_mul, Nat.add_zero] at ek0 ek1 ek2 ek3 ek4
  obtain ⟨rk, hrk⟩ : ∃ z, z = (g5 0).r := ⟨_, rfl⟩
  obtain ⟨ak, hak⟩ : ∃ z, z = (g5 0).a := ⟨_, rfl⟩
  obtain ⟨lk, hlk⟩ : ∃ z, z = (g5 0).len := ⟨_, rfl⟩
  obtain ⟨ck, hck⟩ : ∃ z, z = (g5 0).cap := ⟨_, rfl⟩
  obtain ⟨Fk, hFk⟩ : ∃ z, z = F 0 := ⟨_, rfl⟩
  rw [← hrk, ← hak, ← hlk, ← hck, ← hFk] at hbkk
  rw [← hrk] at ek0 ek1 ek2 ek3
  rw [← hak, ← hlk, ← hck] at ek4
  obtain ⟨hbkk1, hckk⟩ := hbkk
  have BKk := Lib.hid hbkk1
  have okFk : Hid (∀ u v, okP (Fk u v)) := hbkk1.fits.ok
  obtain ⟨b2, off2, ee, -, ej0, ej1, ej2, ej3, ej4⟩ := hl.out.at (k := 1) (by omega)
  cases ee
  have hbkj := hbs.out 1 (by omega)
  simp only [Nat.one_mul] at ej0 ej1 ej2 ej3 ej4
  obtain ⟨rj, hrj⟩ : ∃ z, z = (g5 1).r := ⟨_, rfl⟩
  obtain ⟨aj, haj⟩ : ∃ z, z = (g5 1).a := ⟨_, rfl⟩
  obtain ⟨lj, hlj⟩ : ∃ z, z = (g5 1).len := ⟨_, rfl⟩
  obtain ⟨cj, hcj⟩ : ∃ z, z = (g5 1).cap := ⟨_, rfl⟩
  obtain ⟨Fj, hFj⟩ : ∃ z, z = F 1 := ⟨_, rfl⟩
  rw [← hrj, ← haj, ← hlj, ← hcj, ← hFj] at hbkj
  rw [← hrj] at ej0 ej1 ej2 ej3
  rw [← haj, ← hlj, ← hcj] at ej4
  obtain ⟨hbkj1, hckj⟩ := hbkj
  have BKj := Lib.hid hbkj1
  have okFj : Hid (∀ u v, okP (Fj u v)) := hbkj1.fits.ok
  obtain ⟨bp, offp, rfl, hbp, f0⟩ := hp.out.at (k := 0) (by omega)
  simp only [Nat.add_zero] at f0
  have hmo := hk.oper rfl
  have HBL0 : Hid (∀ W q z, okP q → okP z → Calls Tryz.prog 72 #[.int .i64 (p 0), .agg #[.int .u8 q.r, .int .u8 q.g, .int .u8 q.b, .int .u8 q.a], .agg #[.int .u8 z.r, .int .u8 z.g, .int .u8 z.b, .int .u8 z.a]] W fun e w' => e = .returned (.agg #[.int .u8 (compP (p 0) q z).r, .int .u8 (compP (p 0) q z).g, .int .u8 (compP (p 0) q z).b, .int .u8 (compP (p 0) q z).a]) ∧ Grows W w') := fun W q z hq hz => ref06_comp (p 0) q.r q.g q.b q.a z.r z.g z.b z.a W hmo hq.1 hq.2.1 hq.2.2.1 hq.2.2.2 hz.1 hz.2.1 hz.2.2.1 hz.2.2.2
  have GOK : Hid (∀ u v, okP (compP (p 0) (Fk u v) (Fj u v))) := fun u v => compP_ok _ _ _
  obtain ⟨m, hm⟩ : ∃ z, z = p 0 := ⟨_, rfl⟩
  obtain ⟨T, hT⟩ : ∃ z : P4 → P4 → P4, z = compP (p 0) := ⟨_, rfl⟩
  rw [← hFk, ← hFj]
  rw [← hT] at HBL0 GOK ⊢
  rw [← hm] at HBL0 f0
  clear hT hm hmo
  have HF : Hid (Fits b (cutF b (fun x y => T (Fk x y) (Fj x y)))) := Fits.cut (s := b) (fun x y _ => GOK.out x y)
  have HFF : Hid (∀ u v, hasR b u v = true → cutF b (fun x y => T (Fk x y) (Fj x y)) u v = T (Fk u v) (Fj u v)) := fun u v k => cutF_in k
  obtain ⟨F', hF'⟩ : ∃ F', F' = cutF b (fun x y => T (Fk x y) (Fj x y)) := ⟨_, rfl⟩
  rw [← hF'] at HF HFF ⊢
  have hbd := hg.bd
  have hle := hg.le
  have HG := Lib.hid hg
  have KK := Lib.hid hk
  clear hg hF' e hb hrk hak hlk hck hFk hbkk1 hk hlp hrj haj hlj hcj hFj hbkj1
  go_enter Tryz.func37, Tryz.ntmps37
  go_wp2_with ((first | (go_at_call 63; refine (ref03_emptyR _ _).mono ?_; rintro e w' ⟨rfl, hgw⟩; first | (obtain ⟨gw, rfl⟩ := grows_of_grow hgw) | (obtain ⟨gw, rfl⟩ := hgw))))
  refine wp_name ?_
  intro W0 hW0
  have B0 : Hid (Blk W0 w.heap.size 24 #[.int .i64 8, .slice ia il ic, .slice (some ⟨bp, offp, none⟩) 1 pc]) := by rw [hW0]; exact (by unfold Blk; repeat (first | exact blk_at _ _ _ (by first | omega | (simp; done) | (simp; omega)) | refine (blk_past _ _ _ (by first | omega | (simp; done) | (simp; omega))).trans ?_ | refine (heap_grow _ _ _ (by first | omega | (simp; done) | (simp; omega))).trans ?_ | refine (blk_drew _ _).trans ?_))
  have B1 : Hid (Blk W0 (w.heap.size + 1) 27 #[.int .i64 b.x0, .int .i64 b.y0, .int .i64 b.x1, .int .i64 b.y1]) := by rw [hW0]; exact (by unfold Blk; repeat (first | exact blk_at _ _ _ (by first | omega | (simp; done) | (simp; omega)) | refine (blk_past _ _ _ (by first | omega | (simp; done) | (simp; omega))).trans ?_ | refine (heap_grow _ _ _ (by first | omega | (simp; done) | (simp; omega))).trans ?_ | refine (blk_drew _ _).trans ?_))
  have B2 : Hid (Blk W0 (w.heap.size + 1 + 1) 32 #[.int .i64 0, .int .i64 0, .int .i64 0, .int .i64 0, .slice none 0 0]) := by rw [hW0]; exact (by unfold Blk; repeat (first | exact blk_at _ _ _ (by first | omega | (simp; done) | (simp; omega)) | refine (blk_past _ _ _ (by first | omega | (simp; done) | (simp; omega))).trans ?_ | refine (heap_grow _ _ _ (by first | omega | (simp; done) | (simp; omega))).trans ?_ | refine (blk_drew _ _).trans ?_))
  have B4 : Blk W0 (w.heap.size + 1 + 1 + 1) 32 #[.int .i64 b.x0, .int .i64 b.y0, .int .i64 b.x1, .int .i64 b.y1, .slice none 0 0] := by rw [hW0]; exact (by unfold Blk; repeat (first | exact blk_at _ _ _ (by first | omega | (simp; done) | (simp; omega)) | refine (blk_past _ _ _ (by first | omega | (simp; done) | (simp; omega))).trans ?_ | refine (heap_grow _ _ _ (by first | omega | (simp; done) | (simp; omega))).trans ?_ | refine (blk_drew _ _).trans ?_))
  have GW : Hid (Grows w W0) := by rw [hW0]; exact (by repeat (first | exact Grows.refl _ | apply Grows.grow | apply Grows.alloc | apply Grows.drew))
  have hsz' : w.heap.size + 1 + 1 + 1 < W0.heap.size := B4.lt
  have ST : Hid (AppSt W0 W0 (w.heap.size + 1 + 1 + 1) b none 0 0 (fun i => F' (ptX b i) (ptY b i))) := AppSt.start _ B4
  clear hW0 B4
  go_loopw [8] (fun y wr => ∃ (v : Int) (k : Nat) (a' : Option Addr) (cap' : Nat), b.y0 ≤ v ∧ v ≤ b.y1 ∧ y = .int .i64 v ∧ Hid ((k : Int) = idxR b b.x0 v ∧ AppSt W0 wr (w.heap.size + 1 + 1 + 1) b a' k cap' (fun i => F' (ptX b i) (ptY b i)))) (fun y _ => (b.y1 - intOf y).toNat)
  case atStart => exact ⟨_, 0, none, 0, by omega, by omega, rfl, by rw [idx_first]; rfl, ST.out⟩
  case round =>
    clear ST
    obtain ⟨v, k, a', cap', hv1, hv2, rfl, hh⟩ := hrel
    have b1 := hh.out.2.blk B1.out (by omega)
    obtain ⟨d0, d1, d2, d3, df⟩ := b1.c4
    have l1 := b1.lt
    by_cases hlt : v < b.y1
    · go_wp2
      clear d0 d1 d2 d3 df l1 b1
      go_loopw [9] (fun x wr => ∃ (u : Int) (k : Nat) (a' : Option Addr) (cap' : Nat), b.x0 ≤ u ∧ u ≤ b.x1 ∧ x = .int .i64 u ∧ Hid ((k : Int) = idxR b u v ∧ AppSt W0 wr (w.heap.size + 1 + 1 + 1) b a' k cap' (fun i => F' (ptX b i) (ptY b i)))) (fun x _ => (b.x1 - intOf x).toNat)
      case atStart => exact ⟨_, k, a', cap', by omega, by omega, rfl, hh.out⟩
      case round =>
        clear hh
        obtain ⟨u, k, a', cap', hu1, hu2, rfl, hh⟩ := hrel
        have b1 := hh.out.2.blk B1.out (by omega)
        obtain ⟨d0, d1, d2, d3, df⟩ := b1.c4
        have l1 := b1.lt
        by_cases hltx : u < b.x1
        · have hin : hasR b u v = true := (hasR_iff _ _ _).2 (by omega)
          have hcnt := HG.out.idx hin
          have hk : k ≤ 30000000000000 := by have := hh.out.1; omega
          have hfk : Hid ((fun i => F' (ptX b i) (ptY b i)) k = T (Fk u v) (Fj u v)) := by
            show F' (ptX b k) (ptY b k) = _
            rw [ptX_of hin hh.out.1, ptY_of hin hh.out.1]
            exact HFF.out u v hin
          have hki := hh.out.1
          have GR : Hid (Grows w wr) := GW.out.grown hh.out.2.by_ (fun j hj => by injection hj with hj; omega)
          obtain ⟨q, hq⟩ : ∃ z, z = Fk u v := ⟨_, rfl⟩
          have okq : okP q := by rw [hq]; exact okFk.out u v
          have HQ0 : Hid (Fk u v = q) := hq.symm
          obtain ⟨z, hz⟩ : ∃ z, z = Fj u v := ⟨_, rfl⟩
          have okz : okP z := by rw [hz]; exact okFj.out u v
          have HQ1 : Hid (Fj u v = z) := hz.symm
          have HBL : Hid (∀ W, Calls Tryz.prog 72 #[.int .i64 m, .agg #[.int .u8 q.r, .int .u8 q.g, .int .u8 q.b, .int .u8 q.a], .agg #[.int .u8 z.r, .int .u8 z.g, .int .u8 z.b, .int .u8 z.a]] W fun e w' => e = .returned (.agg #[.int .u8 (T q z).r, .int .u8 (T q z).g, .int .u8 (T q z).b, .int .u8 (T q z).a]) ∧ Grows W w') := fun W => HBL0.out W q z okq okz
          rw [← hq, ← hz] at hfk
          obtain ⟨A, hA⟩ : ∃ z', z' = T q z := ⟨_, rfl⟩
          have okA : okP A := by rw [hA, hq, hz]; exact GOK.out u v
          rw [← hA] at hfk HBL
          have HSRC2 := Lib.hid (BKj.out.grows GR.out)
          have HSRC := Lib.hid (BKk.out.grows GR.out)
          have x0 := gcell GR.out hbk ek0
          have x1 := gcell GR.out hbk ek1
          have x2 := gcell GR.out hbk ek2
          have x3 := gcell GR.out hbk ek3
          have x4 := gcell GR.out hbk ek4
          have hbk2 : b' < wr.heap.size := by have := GR.out.below.size; omega
          have y0 := gcell GR.out hbk ej0
          have y1 := gcell GR.out hbk ej1
          have y2 := gcell GR.out hbk ej2
          have y3 := gcell GR.out hbk ej3
          have y4 := gcell GR.out hbk ej4
          have f0' := gcell GR.out hbp f0
          have hbp2 : bp < wr.heap.size := by have := GR.out.below.size; omega
          have b0 := hh.out.2.blk B0.out (by omega)
          obtain ⟨s0, s1, s2, sf⟩ := b0.c3
          have l0 := b0.lt
          have bo := hh.out.2.ob
          obtain ⟨o0, o1, o2, o3, o4, of⟩ := bo.c5
          have lo := bo.lt
          have hbase := hh.out.2.by_.size
          clear b0 bo hq hz hA
          go_wp2_with (first
            | (first | (go_at_call 12; (with_reducible refine (ref05_AtIs _ _ _ _ _ _ _ _ _ (Lib.hid (BufAt.grows HSRC.out (by repeat (first | exact Grows.refl _ | apply Grows.grow | apply Grows.alloc | apply Grows.drew)))) (by omega) HQ0).mono ?_); rintro e w' ⟨rfl, hgw⟩; first | (obtain ⟨gw, rfl⟩ := grows_of_grow hgw) | (obtain ⟨gw, rfl⟩ := hgw)))
            | (go_at_call 65; refine (ref05_With b a' k cap' (fun i => F' (ptX b i) (ptY b i)) A W0.heap.size _ (Lib.hid (ownsRow_grows hh.out.2.own (by repeat (first | exact Grows.refl _ | apply Grows.grow | apply Grows.alloc | apply Grows.drew)))) hfk hk (by simp; omega)).mono ?_; rintro e w1 ⟨g, c1', rfl, h1, h2, h4⟩; obtain ⟨PB, PST⟩ := hh.out.2.push5 (by exact (by repeat (first | exact Grows.refl _ | apply Grows.grow | apply Grows.alloc | apply Grows.drew))) h1 h2; obtain ⟨q0, q1, q2, q3, q4, qf⟩ := PB.c5; have ql := PB.lt; replace PST := Lib.hid PST; clear h1 h2 h4 PB))
          first | refine region_grow_tail2 12 (by kernel_rfl) (by kernel_rfl) ?_ | refine region_grow_tail 12 (by kernel_rfl) (by kernel_rfl) ?_
          simp only [List.take_succ_cons, List.take_zero, List.drop_succ_cons, List.drop_zero]
          repeat (go_big_quiet_step ((first | (go_at_call 12; exact grow_of (ref05_AtIs _ _ _ _ _ _ _ _ _ (Lib.hid (BufAt.grows HSRC2.out (by repeat (first | exact Grows.refl _ | apply Grows.grow | apply Grows.alloc | apply Grows.drew)))) (by omega) HQ1)) | (go_at_call 72; exact grow_of (HBL.out _)))))
          refine wpQuiet_nil ?_
          rintro _ ⟨gd, rfl⟩
          go_wp2_with (first
            | (go_at_call 65; refine (ref05_With b a' k cap' (fun i => F' (ptX b i) (ptY b i)) A W0.heap.size _ (Lib.hid (ownsRow_grows hh.out.2.own (by repeat (first | exact Grows.refl _ | apply Grows.grow | apply Grows.alloc | apply Grows.drew)))) hfk hk (by simp; omega)).mono ?_; rintro e w1 ⟨g, c1', rfl, h1, h2, h4⟩; obtain ⟨PB, PST⟩ := hh.out.2.push5 (by exact (by repeat (first | exact Grows.refl _ | apply Grows.grow | apply Grows.alloc | apply Grows.drew))) h1 h2; obtain ⟨q0, q1, q2, q3, q4, qf⟩ := PB.c5; have ql := PB.lt; replace PST := Lib.hid PST; clear h1 h2 h4 PB))
          go_roundw
          case rel => exact ⟨u + 1, k + 1, _, _, by omega, by omega, by go_num, by rw [idx_next]; omega, PST.out⟩
          case measure => simp [intOf]; omega
        · obtain rfl : u = b.x1 := by omega
          go_wp2
          go_roundw
          case rel => exact ⟨v + 1, k, a', cap', by omega, by omega, by go_num, by have := hh.out.1; rw [idx_row] at this; exact this, hh.out.2⟩
          case measure => simp [intOf]; omega
    · obtain rfl : v = b.y1 := by omega
      have bo := hh.out.2.ob
      obtain ⟨o0, o1, o2, o3, o4, of⟩ := bo.c5
      have b3 := hh.out.2.blk B2.out (by omega)
      obtain ⟨e0, e1, e2, e3, e4, ef⟩ := b3.c5
      have H3 := Lib.hid b3
      have l3 := b3.lt
      have lo := bo.lt
      clear b3 bo b1
      go_wp2
      obtain ⟨D1, D2⟩ := hh.out.2.done HG.out HF.out hh.out.1 GW.out (n := w.heap.size + 1 + 1) (by omega) (by omega) (by omega) (.int .i64 b.x0) (.int .i64 b.y0) (.int .i64 b.x1) (.int .i64 b.y1) (.slice a' k cap')
      refine bodyPost_ret (results_cell_row rfl _ _ _ 32 #[.int .i64 b.x0, .int .i64 b.y0, .int .i64 b.x1, .int .i64 b.y1, .slice a' k cap'] (0, 0) _ rfl (H3.out.set5 _ _ _ _ _) Tryz.underlying32 rfl buf_info) rfl ⟨_, _, _, rfl, D1, D2⟩
end Go.Proofs.YtklcmlbkhjcaiaaGreatDoor
