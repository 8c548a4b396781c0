/- Layer 4, the document's: the walk of Sets. -/
import Derived.Test.YtklcmlbkhjcaiaaDoorK21
import Derived.Deep.RegionHeld3



namespace Go.Proofs.YtklcmlbkhjcaiaaDoor
open Go.RowKit
set_option linter.unusedVariables false

theorem appF_zero {α : Type} (g f : Nat → α) : appF g 0 f = f := by
  funext i
  simp [appF]
theorem gcell' {w w' : World} {b i : Nat} {v : Value} (g : Grows w w') (hb : b < w.heap.size) (h : w.cell? ⟨b, i, none⟩ = some v) : w'.cell? ⟨b, i, none⟩ = some v := (g.below.cell (p := ⟨b, i, none⟩) hb).trans h
set_option maxRecDepth 100000 in
set_option maxHeartbeats 25600000 in
theorem ref04_Sets (B C : Int → Prop) (hB : ∀ z, B z → onPl z) (hC : ∀ z, C z → onPl z) (a c : Option Addr) (la ca lc cc : Nat) (f g : Nat → R) (how : Int) (w : World) (hf : Hid (IsRects w a la ca f)) (hg : Hid (IsRects w c lc cc g)) (hw2 : 0 ≤ how ∧ how ≤ 2) (hla : la ≤ 40) (hlc : lc ≤ 40) (pf : ∀ i, i < la → inBC B C (f i)) (pg : ∀ i, i < lc → inBC B C (g i)) :
    Calls Tryd.prog 45 #[.slice a la ca, .slice c lc cc, .int .i64 how] w (RetSets w B C (la + lc) (fun u v => wantB how (hasL f la u v) (hasL g lc u v))) := by

  have m1 := hf.out.le
  have m2 := hf.out.most
  have m3 := hg.out.le
  have m4 := hg.out.most
  go_enter Tryd.func45, Tryd.ntmps45
  go_wp2_with (first
    | (at_builtin; refine wpList_append_rects rfl (.tmp 20) (.tmp 21) 30 Tryd.underlying30 rfl w.heap.size none 0 0 (fun _ => zeroR) rfl ⟨rfl, .inl ⟨rfl, rfl⟩⟩ a la ca f rfl (hf.out.grows (by repeat (first | exact Grows.refl _ | apply Grows.grow | apply Grows.alloc | apply Grows.drew))) (by omega) (by omega) (Nat.le_refl _) ?_; intro ad1 cap1 w1 h1 h2; rw [Nat.zero_add, appF_zero] at h1; replace h1 := Lib.hid h1; replace h2 := Lib.hid (Grows.grown (w1 := _) (Grows.refl w) h2 (fun j hj => by cases hj)))
    | (at_builtin; refine wpList_append_rects rfl (.tmp 23) (.tmp 24) 30 Tryd.underlying30 rfl w.heap.size ad1 la cap1 f rfl h1.out c lc cc g rfl (hg.out.grows h2.out) (by omega) (by omega) h2.out.below.size ?_; intro ad2 cap2 w2 h3 h4; replace h3 := Lib.hid h3; replace h4 := Lib.hid (h2.out.grown h4 (fun j hj => (own_lt h1.out j hj).1))))
  have ALL := Lib.hid ((rects_own h3.out).grows (Grows.refl _))
  have PL : Hid (∀ i, i < la + lc → inBC B C (appF f la g i)) := fun i hi => by
    by_cases e : i < la
    · rw [appF_lt f g e]; exact pf i e
    · obtain ⟨j, rfl⟩ : ∃ j, i = la + j := ⟨i - la, by omega⟩
      rw [appF_ge]; exact pg j (by omega)
  have m5 := ALL.out.le
  have m6 := ALL.out.most
  obtain ⟨al, hal⟩ : ∃ z, z = appF f la g := ⟨_, rfl⟩
  obtain ⟨na, hna⟩ : ∃ z, z = la + lc := ⟨_, rfl⟩
  rw [← hal, ← hna] at ALL PL
  rw [← hna] at m5 ⊢
  have HAL := Lib.hid hal
  have HNA := Lib.hid hna
  have hn80 : na ≤ 80 := by omega
  have HB := Lib.hid hB
  have HC := Lib.hid hC
  clear hal hna h1 h2 h3 pf pg hB hC
  go_loopw [7, 8, 10] (fun xs ys i wr => ∃ (k : Nat) (a1 : Option Addr) (n1 c1 : Nat) (x1 : Nat → Int) (a2 : Option Addr) (n2 c2 : Nat) (y1 : Nat → Int), k ≤ na ∧ i = .int .i64 k ∧ xs = .slice a1 n1 c1 ∧ ys = .slice a2 n2 c2 ∧ Hid (Grows w2 wr ∧ EdgeSt B wr a1 n1 c1 x1 al k (fun r => r.x0) (fun r => r.x1) ∧ EdgeSt C wr a2 n2 c2 y1 al k (fun r => r.y0) (fun r => r.y1))) (fun _ _ i _ => na - (intOf i).toNat)
  case atStart => exact ⟨0, none, 0, 0, fun _ => 0, none, 0, 0, fun _ => 0, by omega, rfl, rfl, rfl, Grows.refl _, EdgeSt.nil _ _ _ _ _ _, EdgeSt.nil _ _ _ _ _ _⟩
  case round =>
    obtain ⟨k, a1, n1, c1, x1, a2, n2, c2, y1, hk, rfl, rfl, rfl, hh⟩ := hrel
    by_cases hlt : k < na
    · obtain ⟨b', off', rfl, hb', e0, e1, e2, e3⟩ := (ALL.out.grows hh.out.1).at hlt
      obtain ⟨rk, hrk⟩ : ∃ z, z = al k := ⟨_, rfl⟩
      rw [← hrk] at e0 e1 e2 e3
      have HRK := Lib.hid hrk
      have GR := Lib.hid hh.out.1
      cases he : emptyR rk
      case true =>
        as_aux_lemma =>
          have HEM : Hid (∀ W, Calls Tryd.prog 28 #[.agg #[.int .i64 rk.x0, .int .i64 rk.y0, .int .i64 rk.x1, .int .i64 rk.y1]] W fun e w' => e = .returned (.bool true) ∧ Grows W w') := fun W => by have := ref03_emptyR rk W; rwa [he] at this
          have he' : emptyR (al k) = true := by rw [← hrk]; exact he
          have E1 := Lib.hid (hh.out.2.1.skip he')
          have E2 := Lib.hid (hh.out.2.2.skip he')
          clear he he' hrk hh
          go_wp2_with (go_at_call 28; (with_reducible refine Calls.mono (HEM.out _) ?_); rintro e w' ⟨rfl, hgw⟩; first | (obtain ⟨gx, rfl⟩ := grows_of_grow hgw) | (obtain ⟨gx, rfl⟩ := hgw))
          go_roundw
          case rel => exact ⟨k + 1, a1, n1, c1, x1, a2, n2, c2, y1, by omega, by go_num, rfl, rfl, GR.out.trans (by repeat (first | exact Grows.refl _ | apply Grows.grow | apply Grows.alloc | apply Grows.drew)), E1.out.grows (by repeat (first | exact Grows.refl _ | apply Grows.grow | apply Grows.alloc | apply Grows.drew)), E2.out.grows (by repeat (first | exact Grows.refl _ | apply Grows.grow | apply Grows.alloc | apply Grows.drew))⟩
          case measure => simp [intOf]; omega
      case false =>
        as_aux_lemma =>
          have HEM : Hid (∀ W, Calls Tryd.prog 28 #[.agg #[.int .i64 rk.x0, .int .i64 rk.y0, .int .i64 rk.x1, .int .i64 rk.y1]] W fun e w' => e = .returned (.bool false) ∧ Grows W w') := fun W => by have := ref03_emptyR rk W; rwa [he] at this
          have pk := PL.out k hlt (by rw [← hrk]; exact he)
          rw [← hrk] at pk
          obtain ⟨⟨q0, q1⟩, q2, q3⟩ := pk
          have ⟨p0, p0'⟩ := HB.out _ q0
          have ⟨p1, p1'⟩ := HB.out _ q1
          have ⟨p2, p2'⟩ := HC.out _ q2
          have ⟨p3, p3'⟩ := HC.out _ q3
          have f1 := hh.out.2.1.few
          have f2 := hh.out.2.2.few
          have HX1 : Hid (∀ W, Grows wr W → Calls Tryd.prog 71 #[.slice a1 n1 c1, .int .i64 rk.x0] W fun e w' => ∃ a' m cap' g, e = .returned (.slice a' m cap') ∧ Grows W w' ∧ Hid (IsInts w' a' m cap' g ∧ SortS g m ∧ (∀ z, inL g m z ↔ z = rk.x0 ∨ inL x1 n1 z) ∧ m ≤ n1 + 1)) := fun W gg => ref04_put a1 n1 c1 x1 rk.x0 W (Lib.hid (hh.out.2.1.ints.grows gg)) hh.out.2.1.sort (by omega) (by omega)
          have HY1 : Hid (∀ W, Grows wr W → Calls Tryd.prog 71 #[.slice a2 n2 c2, .int .i64 rk.y0] W fun e w' => ∃ a' m cap' g, e = .returned (.slice a' m cap') ∧ Grows W w' ∧ Hid (IsInts w' a' m cap' g ∧ SortS g m ∧ (∀ z, inL g m z ↔ z = rk.y0 ∨ inL y1 n2 z) ∧ m ≤ n2 + 1)) := fun W gg => ref04_put a2 n2 c2 y1 rk.y0 W (Lib.hid (hh.out.2.2.ints.grows gg)) hh.out.2.2.sort (by omega) (by omega)
          have hbn : b' < wr.heap.size := hb'
          clear he hrk
          go_wp2_with (go_at_call 28; (with_reducible refine Calls.mono (HEM.out _) ?_); rintro e w' ⟨rfl, hgw⟩; first | (obtain ⟨gx, rfl⟩ := grows_of_grow hgw) | (obtain ⟨gx, rfl⟩ := hgw))
          go_region_held3 (fun w' => w'.cell? ⟨b', off' + k * 4, none⟩ = some (.int .i64 rk.x0) ∧ w'.cell? ⟨b', off' + k * 4 + 2, none⟩ = some (.int .i64 rk.x1)) ((refine ⟨gcell' (Grows.trans (Grows.refl _) ?_) hb' e0, gcell' (Grows.trans (Grows.refl _) ?_) hb' e2⟩ <;> ((repeat (first | exact Grows.refl _ | apply Grows.grow | apply Grows.alloc | apply Grows.drew)); done))) (first
            | (go_at_call 71; (with_reducible refine Calls.mono (HX1.out _ ?_) ?_); (exact (by repeat (first | exact Grows.refl _ | apply Grows.grow | apply Grows.alloc | apply Grows.drew))); rintro e w' ⟨ap, np, cp, gp, rfl, hgw, Hp⟩; (first | (obtain ⟨gpg, rfl⟩ := grows_of_grow hgw) | (obtain ⟨gpg, rfl⟩ := hgw)); (try simp only [grow_drew] at Hp))
            | (go_at_call 71; (with_reducible refine Calls.mono (ref04_put ap np cp gp rk.x1 _ ?_ Hp.out.2.1 ?_ ?_) ?_); (exact Lib.hid (Hp.out.1.grows (by repeat (first | exact Grows.refl _ | apply Grows.grow | apply Grows.alloc | apply Grows.drew)))); (have := Hp.out.2.2.2; omega); (omega); rintro e w' ⟨aq, nq, cq, gq, rfl, hgw, Hq⟩; (first | (obtain ⟨gqg, rfl⟩ := grows_of_grow hgw) | (obtain ⟨gqg, rfl⟩ := hgw)); (try simp only [grow_drew] at Hq))
            | fail)
          go_wp2
          refine wp_name ?_
          intro W5 hW5
          have E1 : Hid (EdgeSt B W5 aq nq cq gq al (k + 1) (fun r => r.x0) (fun r => r.x1)) := by
            rw [hW5]
            exact hh.out.2.1.put2 (p := fun r => r.x0) (q := fun r => r.x1) Hq.out.1 Hq.out.2.1 (by rw [← HRK.out]; exact Hp.out.2.2.1) (by rw [← HRK.out]; exact Hq.out.2.2.1) Hp.out.2.2.2 Hq.out.2.2.2 (by rw [← HRK.out]; exact q0) (by rw [← HRK.out]; exact q1)
          have GR5 : Hid (Grows wr W5) := by rw [hW5]; exact (by repeat (first | exact Grows.refl _ | apply Grows.grow | apply Grows.alloc | apply Grows.drew))
          have e1' := gcell' GR5.out hb' e1
          have e3' := gcell' GR5.out hb' e3
          have hb5 : b' < W5.heap.size := by have := GR5.out.below.size; omega
          have HY5 : Hid (∀ W, Grows W5 W → Calls Tryd.prog 71 #[.slice a2 n2 c2, .int .i64 rk.y0] W fun e w' => ∃ a' m cap' g, e = .returned (.slice a' m cap') ∧ Grows W w' ∧ Hid (IsInts w' a' m cap' g ∧ SortS g m ∧ (∀ z, inL g m z ↔ z = rk.y0 ∨ inL y1 n2 z) ∧ m ≤ n2 + 1)) := fun W gg => HY1.out W (GR5.out.trans gg)
          clear hW5 Hp Hq HX1 HY1 e0 e1 e2 e3
          go_region_held3 (fun w' => w'.cell? ⟨b', off' + k * 4 + 1, none⟩ = some (.int .i64 rk.y0) ∧ w'.cell? ⟨b', off' + k * 4 + 3, none⟩ = some (.int .i64 rk.y1)) ((refine ⟨gcell' (Grows.trans (Grows.refl _) ?_) hb5 e1', gcell' (Grows.trans (Grows.refl _) ?_) hb5 e3'⟩ <;> ((repeat (first | exact Grows.refl _ | apply Grows.grow | apply Grows.alloc | apply Grows.drew)); done))) (first
            | (go_at_call 71; (with_reducible refine Calls.mono (HY5.out _ ?_) ?_); (exact (by repeat (first | exact Grows.refl _ | apply Grows.grow | apply Grows.alloc | apply Grows.drew))); rintro e w' ⟨ar, nr, cr, gr, rfl, hgw, Hr⟩; (first | (obtain ⟨grg, rfl⟩ := grows_of_grow hgw) | (obtain ⟨grg, rfl⟩ := hgw)); (try simp only [grow_drew] at Hr))
            | (go_at_call 71; (with_reducible refine Calls.mono (ref04_put ar nr cr gr rk.y1 _ ?_ Hr.out.2.1 ?_ ?_) ?_); (exact Lib.hid (Hr.out.1.grows (by repeat (first | exact Grows.refl _ | apply Grows.grow | apply Grows.alloc | apply Grows.drew)))); (have := Hr.out.2.2.2; omega); (omega); rintro e w' ⟨at4, ns, cs, gs, rfl, hgw, Hs⟩; (first | (obtain ⟨gsg, rfl⟩ := grows_of_grow hgw) | (obtain ⟨gsg, rfl⟩ := hgw)); (try simp only [grow_drew] at Hs))
            | fail)
          go_wp2
          go_roundw
          case rel =>
            have E2 := hh.out.2.2.put2 (p := fun r => r.y0) (q := fun r => r.y1) (Hs.out.1) Hs.out.2.1 (by rw [← HRK.out]; exact Hr.out.2.2.1) (by rw [← HRK.out]; exact Hs.out.2.2.1) Hr.out.2.2.2 Hs.out.2.2.2 (by rw [← HRK.out]; exact q2) (by rw [← HRK.out]; exact q3)
            exact ⟨k + 1, aq, nq, cq, gq, at4, ns, cs, gs, by omega, by go_num, rfl, rfl, GR.out.trans (GR5.out.trans (by repeat (first | exact Grows.refl _ | apply Grows.grow | apply Grows.alloc | apply Grows.drew))), E1.out.grows (by repeat (first | exact Grows.refl _ | apply Grows.grow | apply Grows.alloc | apply Grows.drew)), E2.grows (by repeat (first | exact Grows.refl _ | apply Grows.grow | apply Grows.alloc | apply Grows.drew))⟩
          case measure => simp [intOf]; omega
    · obtain rfl : na = k := by omega
      have hG := grid_ok (B := B) (C := C) (f := f) (g := g) (la := la) (lc := lc) how hh.out.2.1.sort hh.out.2.2.sort hh.out.2.1.pl hh.out.2.2.pl (by rw [← HAL.out, ← HNA.out]; exact hh.out.2.1.mem) (by rw [← HAL.out, ← HNA.out]; exact hh.out.2.2.mem)
      have GR3 : Hid (Grows w wr) := h4.out.trans hh.out.1
      have IX : Hid (IsInts wr a1 n1 c1 x1) := hh.out.2.1.ints
      have IY : Hid (IsInts wr a2 n2 c2 y1) := hh.out.2.2.ints
      have f1 := hh.out.2.1.few
      have f2 := hh.out.2.2.few
      have sx := IX.out.le
      have sx2 := IX.out.most
      have sy := IY.out.le
      have sy2 := IY.out.most
      obtain ⟨P, hP⟩ : ∃ z : Int → Int → Bool, z = fun u v => wantB how (hasL f la u v) (hasL g lc u v) := ⟨_, rfl⟩
      rw [← hP] at hG
      have HP : Hid (∀ u v, P u v = wantB how (hasL f la u v) (hasL g lc u v)) := fun u v => by rw [hP]
      have HG := Lib.hid hG
      have HWA0 : Hid (∀ W x y, Grows wr W → Calls Tryd.prog 72 #[.slice a la ca, .slice c lc cc, .int .i64 how, .int .i64 x, .int .i64 y] W fun e w' => e = .returned (.bool (P x y)) ∧ Grows W w') := fun W x y gg => ref04_want a c la ca lc cc f g how x y W (P x y) (Lib.hid (hf.out.grows (GR3.out.trans gg))) (Lib.hid (hg.out.grows (GR3.out.trans gg))) hw2 (Lib.hid (HP.out x y).symm)
      clear hh hP hG ALL PL HAL h4 hf hg hw2 hlt
      go_wp2
      refine wp_name ?_
      intro W3 hW3
      have G3 : Hid (Grows wr W3) := by rw [hW3]; exact (by repeat (first | exact Grows.refl _ | apply Grows.grow | apply Grows.alloc | apply Grows.drew))
      have IX3 : Hid (IsInts W3 a1 n1 c1 x1) := IX.out.grows G3.out
      have IY3 : Hid (IsInts W3 a2 n2 c2 y1) := IY.out.grows G3.out
      have HWA1 : Hid (∀ W x y, Grows W3 W → Calls Tryd.prog 72 #[.slice a la ca, .slice c lc cc, .int .i64 how, .int .i64 x, .int .i64 y] W fun e w' => e = .returned (.bool (P x y)) ∧ Grows W w') := fun W x y gg => HWA0.out W x y (G3.out.trans gg)
      have GW3 : Hid (Grows w W3) := GR3.out.trans G3.out
      clear hW3 HWA0 IX IY G3 GR3
      go_loopw [11, 12, 13] (fun out last j wr => ∃ (jn l2 : Nat) (ao : Option Addr) (no co : Nat) (o : Nat → R), (jn = 0 ∨ jn + 1 ≤ n2) ∧ out = .slice ao no co ∧ last = .int .i64 l2 ∧ j = .int .i64 jn ∧ Hid (Grows W3 wr ∧ wr.ownsRow W3.heap.size 27 4 (.slice ao no co) no (cellsL (fun i => rcC (o i)) no) ∧ OutOk B C P (y1 jn) o no ∧ l2 ≤ no ∧ no ≤ jn * (n1 - 1))) (fun _ _ j _ => n2 - (intOf j).toNat)
      case atStart => exact ⟨0, 0, none, 0, 0, fun _ => zeroR, Or.inl rfl, rfl, rfl, rfl, Grows.refl _, ⟨rfl, .inl ⟨rfl, rfl⟩⟩, HG.out.out0 _, by omega, by omega⟩
      case round =>
        rename World => wA
        obtain ⟨j, l2, ao, no, co, o, hj, rfl, rfl, rfl, ho⟩ := hrel
        have hcap := ownL_le ho.out.2.1
        have SZ := ho.out.1.below.size
        have hno : no ≤ 25600 := Nat.le_trans ho.out.2.2.2.2 (Nat.mul_le_mul (show j ≤ 160 by omega) (show n1 - 1 ≤ 160 by omega))
        have hl2 := ho.out.2.2.2.1
        by_cases hlj : j + 1 < n2
        · obtain ⟨q, oq, rfl, hq, e0⟩ := IY3.out.at (k := j) (by omega)
          obtain ⟨q2, oq2, e, -, e1⟩ := IY3.out.at (k := j + 1) hlj
          cases e
          obtain ⟨Y0, hY0⟩ : ∃ z, z = y1 j := ⟨_, rfl⟩
          obtain ⟨Y1, hY1⟩ : ∃ z, z = y1 (j + 1) := ⟨_, rfl⟩
          rw [← hY0] at e0
          rw [← hY1] at e1
          have HY0 := Lib.hid hY0
          have HY1 := Lib.hid hY1
          have HLT : Hid (Y0 < Y1) := by rw [hY0, hY1]; exact HG.out.sy j (j + 1) (by omega) hlj
          have E0 := Lib.hid e0
          have E1 := Lib.hid e1
          have tj : (j : Int) + 1 < (n2 : Int) := by omega
          have tj0 : (0 : Int) ≤ (j : Int) := by omega
          have tj1 : (j : Int) < (n2 : Int) := by omega
          have tj2 : (0 : Int) ≤ (j : Int) + 1 := by omega
          have tjw : IntKind.i64.wrap ((j : Int) + 1) = (j : Int) + 1 := IntWalk.i64_in _ (by omega)
          have tjt : ((j : Int) + 1).toNat = j + 1 := by omega
          have HLN : Hid (∀ u v, Y0 ≤ v → v < Y1 → P u v = P u Y0) := by rw [hY0, hY1]; exact fun u v h1 h2 => HG.out.line hlj h1 h2
          have HOO : Hid (OutOk B C P Y0 o no) := by rw [hY0]; exact ho.out.2.2.1
          have HC0 : Hid (C Y0) := by rw [hY0]; exact HG.out.iny (i := j) (by omega)
          have HC1 : Hid (C Y1) := by rw [hY1]; exact HG.out.iny hlj
          have OWO : Hid (wA.ownsRow W3.heap.size 27 4 (.slice ao no co) no (cellsL (fun i => rcC (o i)) no)) := ho.out.2.1
          have HNO : Hid (no ≤ j * (n1 - 1)) := ho.out.2.2.2.2
          have GA3 : Hid (Grows W3 wA) := ho.out.1
          clear hY0 hY1 e0 e1 ho
          go_wp2
          go_loopw [14, 15] (fun row i wq => ∃ (ii : Nat) (ar : Option Addr) (m cr : Nat) (rw_ : Nat → R), (ii = 0 ∨ ii + 1 ≤ n1) ∧ row = .slice ar m cr ∧ i = .int .i64 ii ∧ Hid (Grows wA wq ∧ wq.ownsRow wA.heap.size 27 4 (.slice ar m cr) m (cellsL (fun i => rcC (rw_ i)) m) ∧ RowOk B Y0 Y1 (fun u => P u Y0) (x1 ii) rw_ m ∧ m ≤ ii)) (fun _ i _ => n1 - (intOf i).toNat)
          case atStart => exact ⟨0, none, 0, 0, fun _ => zeroR, Or.inl rfl, rfl, rfl, Grows.refl _, ⟨rfl, .inl ⟨rfl, rfl⟩⟩, HG.out.row0 _ _ _ _, by omega⟩
          case round =>
            rename World => wB
            obtain ⟨i, ar, m, cr, row, hi, rfl, rfl, hr⟩ := hrel
            have hcr := ownL_le hr.out.2.1
            have hm := hr.out.2.2.2
            have SZB := hr.out.1.below.size
            have GB3 : Hid (Grows W3 wB) := GA3.out.trans hr.out.1
            have e0 := gcell' GB3.out hq E0.out
            have e1 := gcell' GB3.out hq E1.out
            have hqB : q < wB.heap.size := by have := GB3.out.below.size; omega
            by_cases hli : i + 1 < n1
            · obtain ⟨p, op_, rfl, hp, x0c⟩ := IX3.out.at (k := i) (by omega)
              obtain ⟨p2, op2, e, -, x1c⟩ := IX3.out.at (k := i + 1) hli
              cases e
              have ti : (i : Int) + 1 < (n1 : Int) := by omega
              have ti0 : (0 : Int) ≤ (i : Int) := by omega
              have ti1 : (i : Int) < (n1 : Int) := by omega
              have ti2 : (0 : Int) ≤ (i : Int) + 1 := by omega
              have tiw : IntKind.i64.wrap ((i : Int) + 1) = (i : Int) + 1 := IntWalk.i64_in _ (by omega)
              have tit : ((i : Int) + 1).toNat = i + 1 := by omega
              have hpB : p < wB.heap.size := by have := GB3.out.below.size; omega
              have hpr := HG.out.row hli hlj
              have bx0 := HG.out.inx (i := i) (by omega)
              have bx1 := HG.out.inx hli
              have sx01 := HG.out.sx i (i + 1) (by omega) hli
              rw [← HY0.out] at hpr
              obtain ⟨X0, hX0⟩ : ∃ z, z = x1 i := ⟨_, rfl⟩
              obtain ⟨X1, hX1⟩ : ∃ z, z = x1 (i + 1) := ⟨_, rfl⟩
              rw [← hX0, ← hX1] at hpr sx01
              rw [← hX0] at x0c bx0
              rw [← hX1] at x1c bx1
              have X0C := Lib.hid x0c
              have X1C := Lib.hid x1c
              replace x0c := gcell' GB3.out hp x0c
              replace x1c := gcell' GB3.out hp x1c
              have HPR := Lib.hid hpr
              have BX0 := Lib.hid bx0
              have BX1 := Lib.hid bx1
              have HX0 := Lib.hid hX0
              have HX1 := Lib.hid hX1
              have HLX := Lib.hid sx01
              have HRO : Hid (RowOk B Y0 Y1 (fun u => P u Y0) X0 row m) := by rw [hX0]; exact hr.out.2.2.1
              have OWR : Hid (wB.ownsRow wA.heap.size 27 4 (.slice ar m cr) m (cellsL (fun i => rcC (row i)) m)) := hr.out.2.1
              have GAB : Hid (Grows wA wB) := hr.out.1
              clear hpr bx0 bx1 hX0 hX1 sx01 hr
              have HWA' := HWA1.out
              cases cP : P X0 Y0
              case false =>
                as_aux_lemma =>
                  have HWA : Hid (∀ W, Grows wB W → Calls Tryd.prog 72 #[.slice a la ca, .slice c lc cc, .int .i64 how, .int .i64 X0, .int .i64 Y0] W fun e w' => e = .returned (.bool false) ∧ Grows W w') := fun W gg => by rw [← cP]; exact HWA' W X0 Y0 (GB3.out.trans gg)
                  have HCP : Hid ((fun u => P u Y0) X0 = false) := cP
                  clear cP HWA'
                  go_wp2
                  first | refine region_grow2 (by kernel_rfl) (by kernel_rfl) ?_ | refine region_grow (by kernel_rfl) (by kernel_rfl) ?_
                  repeat (go_big_quiet_step ((first | (go_at_call 72; exact grow_of (HWA.out _ (by repeat (first | exact Grows.refl _ | apply Grows.grow | apply Grows.alloc | apply Grows.drew)))))))
                  refine wpQuiet_nil ?_
                  rintro _ ⟨gd, rfl⟩
                  go_wp2
                  go_roundw
                  case rel => exact ⟨i + 1, ar, m, cr, row, by omega, rfl, by go_num, GAB.out.trans (by repeat (first | exact Grows.refl _ | apply Grows.grow | apply Grows.alloc | apply Grows.drew)), ownsRow_grows OWR.out (by repeat (first | exact Grows.refl _ | apply Grows.grow | apply Grows.alloc | apply Grows.drew)), by rw [← HX1.out]; exact HRO.out.skip HLX.out HPR.out HCP.out, by omega⟩
                  case measure => simp [intOf]; omega
              case true =>
                have HWA : Hid (∀ W, Grows wB W → Calls Tryd.prog 72 #[.slice a la ca, .slice c lc cc, .int .i64 how, .int .i64 X0, .int .i64 Y0] W fun e w' => e = .returned (.bool true) ∧ Grows W w') := fun W gg => by rw [← cP]; exact HWA' W X0 Y0 (GB3.out.trans gg)
                have HCP : Hid ((fun u => P u Y0) X0 = true) := cP
                clear cP HWA'
                by_cases hjn : 0 < m ∧ (row (m - 1)).x1 = X0
                case pos =>
                  obtain ⟨t, rfl⟩ : ∃ t, m = t + 1 := ⟨m - 1, by omega⟩
                  obtain ⟨pr, zr, rfl, hzr, hprB, hcl, hfz⟩ := own_rects OWR.out (by omega)
                  as_aux_lemma =>
                    have c2 := (hcl.out t (by omega)).2.2.1
                    have HRX : Hid ((row t).x1 = X0) := hjn.2
                    rw [HRX.out] at c2
                    have wt : IntKind.i64.wrap (((t + 1 : Nat) : Int) - 1) = (t : Int) := by rw [IntWalk.i64_in _ (by omega)]; omega
                    have ht0 : (0 : Int) ≤ (t : Int) := by omega
                    clear hjn hcl
                    go_wp2
                    first | refine region_grow2 (by kernel_rfl) (by kernel_rfl) ?_ | refine region_grow (by kernel_rfl) (by kernel_rfl) ?_
                    repeat (go_big_quiet_step ((first | (go_at_call 72; exact grow_of (HWA.out _ (by repeat (first | exact Grows.refl _ | apply Grows.grow | apply Grows.alloc | apply Grows.drew)))))))
                    refine wpQuiet_nil ?_
                    rintro _ ⟨gd, rfl⟩
                    go_wp2
                    first | refine region_grow2 (by kernel_rfl) (by kernel_rfl) ?_ | refine region_grow (by kernel_rfl) (by kernel_rfl) ?_
                    repeat (go_big_quiet_step (fail))
                    refine wpQuiet_nil ?_
                    rintro _ ⟨ge, rfl⟩
                    go_wp2
                    go_roundw
                    case rel =>
                      obtain ⟨s1, s2⟩ := rects_put2 hzr.out OWR.out (i := t) (by omega) X1
                      refine ⟨i + 1, some ⟨pr, zr, none⟩, t + 1, cr, upd row t ⟨(row t).x0, (row t).y0, X1, (row t).y1⟩, by omega, rfl, by go_num, ?_, ownsRow_grows s1 (by repeat (first | exact Grows.refl _ | apply Grows.grow | apply Grows.alloc | apply Grows.drew)), ?_, by omega⟩
                      · exact (GAB.out.grown s2 (fun j hj => (own_lt OWR.out j hj).1)).trans (by repeat (first | exact Grows.refl _ | apply Grows.grow | apply Grows.alloc | apply Grows.drew))
                      · rw [← HX1.out]
                        exact HRO.out.grow HLX.out HPR.out HCP.out BX1.out HRX.out
                    case measure => simp [intOf]; omega
                case neg =>
                  as_aux_lemma =>
                    have S0 := SZB
                    by_cases hm0 : m = 0
                    case pos =>
                      subst hm0
                      clear hjn
                      go_wp2
                      first | refine region_grow2 (by kernel_rfl) (by kernel_rfl) ?_ | refine region_grow (by kernel_rfl) (by kernel_rfl) ?_
                      repeat (go_big_quiet_step ((first | (go_at_call 72; exact grow_of (HWA.out _ (by repeat (first | exact Grows.refl _ | apply Grows.grow | apply Grows.alloc | apply Grows.drew)))))))
                      refine wpQuiet_nil ?_
                      rintro _ ⟨gd, rfl⟩
                      go_wp2
                      first | refine region_grow2 (by kernel_rfl) (by kernel_rfl) ?_ | refine region_grow (by kernel_rfl) (by kernel_rfl) ?_
                      repeat (go_big_quiet_step (fail))
                      refine wpQuiet_nil ?_
                      rintro _ ⟨ge, rfl⟩
                      go_wp2
                      go_region_held3 (fun w' => w'.cell? ⟨p, op_ + i, none⟩ = some (.int .i64 X0) ∧ w'.cell? ⟨p, op_ + (i + 1), none⟩ = some (.int .i64 X1) ∧ w'.cell? ⟨q, oq + j, none⟩ = some (.int .i64 Y0) ∧ w'.cell? ⟨q, oq + (j + 1), none⟩ = some (.int .i64 Y1)) (first | (refine ⟨gcell' (GB3.out.trans ?_) hp X0C.out, gcell' (GB3.out.trans ?_) hp X1C.out, gcell' (GB3.out.trans ?_) hq E0.out, gcell' (GB3.out.trans ?_) hq E1.out⟩ <;> ((repeat (first | exact Grows.refl _ | apply Grows.grow | apply Grows.alloc | apply Grows.drew)); done)) | (refine ⟨gcell' (G32.out.trans ?_) hp X0C.out, gcell' (G32.out.trans ?_) hp X1C.out, gcell' (G32.out.trans ?_) hq E0.out, gcell' (G32.out.trans ?_) hq E1.out⟩ <;> ((repeat (first | exact Grows.refl _ | apply Grows.grow | apply Grows.alloc | apply Grows.drew)); done))) (first
                        | (refine step_append_rectT rfl (.tmp 117) (.tmp 137) 43 Tryd.underlying43 (by rfl) wA.heap.size ar (0) cr row ⟨X0, Y0, X1, Y1⟩ (by rfl) (ownsRow_grows OWR.out (by repeat (first | exact Grows.refl _ | apply Grows.grow | apply Grows.alloc | apply Grows.drew))) _ _ (by rfl) (by unfold Blk; repeat (first | exact blk_at _ _ _ (by first | omega | (simp; done) | (simp; omega)) | refine (blk_past _ _ _ (by first | omega | (simp; done) | (simp; omega))).trans ?_ | refine (heap_grow _ _ _ (by first | omega | (simp; done) | (simp; omega))).trans ?_ | refine (blk_drew _ _).trans ?_)) (by omega) (by simp <;> omega) ?_; intro p' cap' w2 h3 h4 h5 h6; replace h3 := Lib.hid h3; have GA2 : Hid (Grows wA w2) := Lib.hid ((GAB.out.trans (by repeat (first | exact Grows.refl _ | apply Grows.grow | apply Grows.alloc | apply Grows.drew))).grown h4 (fun j hj => (own_lt OWR.out j hj).1)); have G32 : Hid (Grows W3 w2) := Lib.hid (GA3.out.trans GA2.out); clear h4 h5 h6)
                        | fail)
                      all_goals
                        go_wp2
                        go_roundw
                        case rel =>
                          refine ⟨i + 1, some ⟨p', 0, none⟩, 0 + 1, cap', upd row (0) ⟨X0, Y0, X1, Y1⟩, by omega, rfl, by go_num, GA2.out.trans (by repeat (first | exact Grows.refl _ | apply Grows.grow | apply Grows.alloc | apply Grows.drew)), ownsRow_grows h3.out (by repeat (first | exact Grows.refl _ | apply Grows.grow | apply Grows.alloc | apply Grows.drew)), ?_, by omega⟩
                          rw [← HX1.out]
                          exact HRO.out.push HLX.out HPR.out HCP.out BX0.out BX1.out
                        case measure => simp [intOf]; omega
                    case neg =>
                      obtain ⟨t, rfl⟩ : ∃ t, m = t + 1 := ⟨m - 1, by omega⟩
                      obtain ⟨pr, zr, rfl, hzr, hprB, hcl, hfz⟩ := own_rects OWR.out (by omega)
                      have c2 := (hcl.out t (by omega)).2.2.1
                      obtain ⟨RX, hRX⟩ : ∃ z, z = (row t).x1 := ⟨_, rfl⟩
                      rw [← hRX] at c2
                      have hne : (RX == X0) = false := by
                        have : ¬ (row t).x1 = X0 := fun e => hjn ⟨by omega, e⟩
                        rw [hRX]; simpa using this
                      have hne2 : decide (RX = X0) = false := by simpa using hne
                      have wt : IntKind.i64.wrap (((t + 1 : Nat) : Int) - 1) = (t : Int) := by rw [IntWalk.i64_in _ (by omega)]; omega
                      have ht0 : (0 : Int) ≤ (t : Int) := by omega
                      clear hjn hcl hRX hm0
                      go_wp2
                      first | refine region_grow2 (by kernel_rfl) (by kernel_rfl) ?_ | refine region_grow (by kernel_rfl) (by kernel_rfl) ?_
                      repeat (go_big_quiet_step ((first | (go_at_call 72; exact grow_of (HWA.out _ (by repeat (first | exact Grows.refl _ | apply Grows.grow | apply Grows.alloc | apply Grows.drew)))))))
                      refine wpQuiet_nil ?_
                      rintro _ ⟨gd, rfl⟩
                      go_wp2
                      first | refine region_grow2 (by kernel_rfl) (by kernel_rfl) ?_ | refine region_grow (by kernel_rfl) (by kernel_rfl) ?_
                      repeat (go_big_quiet_step (fail))
                      refine wpQuiet_nil ?_
                      rintro _ ⟨ge, rfl⟩
                      go_wp2
                      go_region_held3 (fun w' => w'.cell? ⟨p, op_ + i, none⟩ = some (.int .i64 X0) ∧ w'.cell? ⟨p, op_ + (i + 1), none⟩ = some (.int .i64 X1) ∧ w'.cell? ⟨q, oq + j, none⟩ = some (.int .i64 Y0) ∧ w'.cell? ⟨q, oq + (j + 1), none⟩ = some (.int .i64 Y1)) (first | (refine ⟨gcell' (GB3.out.trans ?_) hp X0C.out, gcell' (GB3.out.trans ?_) hp X1C.out, gcell' (GB3.out.trans ?_) hq E0.out, gcell' (GB3.out.trans ?_) hq E1.out⟩ <;> ((repeat (first | exact Grows.refl _ | apply Grows.grow | apply Grows.alloc | apply Grows.drew)); done)) | (refine ⟨gcell' (G32.out.trans ?_) hp X0C.out, gcell' (G32.out.trans ?_) hp X1C.out, gcell' (G32.out.trans ?_) hq E0.out, gcell' (G32.out.trans ?_) hq E1.out⟩ <;> ((repeat (first | exact Grows.refl _ | apply Grows.grow | apply Grows.alloc | apply Grows.drew)); done))) (first
                        | (refine step_append_rectT rfl (.tmp 117) (.tmp 137) 43 Tryd.underlying43 (by rfl) wA.heap.size (some ⟨pr, zr, none⟩) (t + 1) cr row ⟨X0, Y0, X1, Y1⟩ (by rfl) (ownsRow_grows OWR.out (by repeat (first | exact Grows.refl _ | apply Grows.grow | apply Grows.alloc | apply Grows.drew))) _ _ (by rfl) (by unfold Blk; repeat (first | exact blk_at _ _ _ (by first | omega | (simp; done) | (simp; omega)) | refine (blk_past _ _ _ (by first | omega | (simp; done) | (simp; omega))).trans ?_ | refine (heap_grow _ _ _ (by first | omega | (simp; done) | (simp; omega))).trans ?_ | refine (blk_drew _ _).trans ?_)) (by omega) (by simp <;> omega) ?_; intro p' cap' w2 h3 h4 h5 h6; replace h3 := Lib.hid h3; have GA2 : Hid (Grows wA w2) := Lib.hid ((GAB.out.trans (by repeat (first | exact Grows.refl _ | apply Grows.grow | apply Grows.alloc | apply Grows.drew))).grown h4 (fun j hj => (own_lt OWR.out j hj).1)); have G32 : Hid (Grows W3 w2) := Lib.hid (GA3.out.trans GA2.out); clear h4 h5 h6)
                        | fail)
                      all_goals
                        go_wp2
                        go_roundw
                        case rel =>
                          refine ⟨i + 1, some ⟨p', 0, none⟩, t + 1 + 1, cap', upd row (t + 1) ⟨X0, Y0, X1, Y1⟩, by omega, rfl, by go_num, GA2.out.trans (by repeat (first | exact Grows.refl _ | apply Grows.grow | apply Grows.alloc | apply Grows.drew)), ownsRow_grows h3.out (by repeat (first | exact Grows.refl _ | apply Grows.grow | apply Grows.alloc | apply Grows.drew)), ?_, by omega⟩
                          rw [← HX1.out]
                          exact HRO.out.push HLX.out HPR.out HCP.out BX0.out BX1.out
                        case measure => simp [intOf]; omega
            · have hie : i = n1 - 1 := by omega
              have ti : ¬ ((i : Int) + 1 < (n1 : Int)) := by omega
              have tid : decide ((i : Int) + 1 < (n1 : Int)) = false := decide_eq_false ti
              have HRO : Hid (RowOk B Y0 Y1 (fun u => P u Y0) (x1 (n1 - 1)) row m) := by rw [← hie]; exact hr.out.2.2.1
              have OWR : Hid (wB.ownsRow wA.heap.size 27 4 (.slice ar m cr) m (cellsL (fun i => rcC (row i)) m)) := hr.out.2.1
              have GAB : Hid (Grows wA wB) := hr.out.1
              have HXL : Hid (∀ u, P u Y0 = true → u < x1 (n1 - 1)) := HG.out.last Y0
              have hm1 : m ≤ n1 - 1 := by omega
              have OWB : Hid (wB.ownsRow W3.heap.size 27 4 (.slice ao no co) no (cellsL (fun i => rcC (o i)) no)) := ownsRow_grows OWO.out GAB.out
              have RRB : Hid (IsRects wB ar m cr row) := rects_own OWR.out
              have S0 := SZB
              clear hr hli hie
              as_aux_lemma =>
                have hl2o : l2 ≤ no := hl2
                by_cases hm0 : m = 0
                case pos =>
                  subst hm0
                  go_wp2
                  as_aux_lemma =>
                    go_loopw [17, 18] (fun sm i wC => sm = .bool false ∧ i = .int .i64 0 ∧ Hid (Grows wB wC)) (fun _ i _ => 1)
                    case atStart => exact ⟨rfl, rfl, (by repeat (first | exact Grows.refl _ | apply Grows.grow | apply Grows.alloc | apply Grows.drew))⟩
                    case round =>
                      rename World => wC
                      obtain ⟨rfl, rfl, hc⟩ := hrel
                      have OWC : Hid (wC.ownsRow W3.heap.size 27 4 (.slice ao no co) no (cellsL (fun i => rcC (o i)) no)) := ownsRow_grows OWB.out hc.out
                      have RRC : Hid (IsRects wC ar 0 cr row) := RRB.out.grows hc.out
                      have G3C : Hid (Grows W3 wC) := GB3.out.trans hc.out
                      have S9 := G3C.out.below.size
                      go_wp2_with (at_builtin; refine wpList_append_rects rfl (.tmp 221) (.tmp 222) 43 Tryd.underlying43 rfl W3.heap.size ao no co o rfl (ownsRow_grows OWC.out (by repeat (first | exact Grows.refl _ | apply Grows.grow | apply Grows.alloc | apply Grows.drew))) ar 0 cr row rfl (RRC.out.grows (by repeat (first | exact Grows.refl _ | apply Grows.grow | apply Grows.alloc | apply Grows.drew))) (by omega) (by omega) (by have := G3C.out.below.size; simp <;> omega) ?_; intro ad9 cap9 w9 h7 h8; replace h7 := Lib.hid h7; replace h8 := Lib.hid h8)
                      go_roundw
                      case rel =>
                        refine ⟨j + 1, no, ad9, no + 0, cap9, appF o no row, by omega, rfl, rfl, by go_num, (G3C.out.trans (by repeat (first | exact Grows.refl _ | apply Grows.grow | apply Grows.alloc | apply Grows.drew))).grown h8.out (fun j hj => (own_lt OWC.out j hj).1), h7.out, ?_, by omega, ?_⟩
                        · rw [← HY1.out]
                          exact HOO.out.app HRO.out HLT.out HC0.out HC1.out HLN.out HXL.out
                        · rw [Nat.succ_mul]
                          have := HNO.out
                          omega
                      case measure => simp [intOf]; omega
                case neg =>
                  by_cases hsm : no - l2 = m
                  case neg =>
                    have hd1 : ((no : Int) - (l2 : Int) == (m : Int)) = false := by simp; omega
                    have hd2 : decide ((no : Int) - (l2 : Int) = (m : Int)) = false := by simp; omega
                    have hm9 : 0 < m := by omega
                    clear hm0 hsm
                    go_wp2
                    as_aux_lemma =>
                      go_loopw [17, 18] (fun sm i wC => sm = .bool false ∧ i = .int .i64 0 ∧ Hid (Grows wB wC)) (fun _ i _ => 1)
                      case atStart => exact ⟨rfl, rfl, (by repeat (first | exact Grows.refl _ | apply Grows.grow | apply Grows.alloc | apply Grows.drew))⟩
                      case round =>
                        rename World => wC
                        obtain ⟨rfl, rfl, hc⟩ := hrel
                        have OWC : Hid (wC.ownsRow W3.heap.size 27 4 (.slice ao no co) no (cellsL (fun i => rcC (o i)) no)) := ownsRow_grows OWB.out hc.out
                        have RRC : Hid (IsRects wC ar m cr row) := RRB.out.grows hc.out
                        have G3C : Hid (Grows W3 wC) := GB3.out.trans hc.out
                        have S9 := G3C.out.below.size
                        go_wp2_with (at_builtin; refine wpList_append_rects rfl (.tmp 221) (.tmp 222) 43 Tryd.underlying43 rfl W3.heap.size ao no co o rfl (ownsRow_grows OWC.out (by repeat (first | exact Grows.refl _ | apply Grows.grow | apply Grows.alloc | apply Grows.drew))) ar m cr row rfl (RRC.out.grows (by repeat (first | exact Grows.refl _ | apply Grows.grow | apply Grows.alloc | apply Grows.drew))) (by omega) (by omega) (by have := G3C.out.below.size; simp <;> omega) ?_; intro ad9 cap9 w9 h7 h8; replace h7 := Lib.hid h7; replace h8 := Lib.hid h8)
                        go_roundw
                        case rel =>
                          refine ⟨j + 1, no, ad9, no + m, cap9, appF o no row, by omega, rfl, rfl, by go_num, (G3C.out.trans (by repeat (first | exact Grows.refl _ | apply Grows.grow | apply Grows.alloc | apply Grows.drew))).grown h8.out (fun j hj => (own_lt OWC.out j hj).1), h7.out, ?_, by omega, ?_⟩
                          · rw [← HY1.out]
                            exact HOO.out.app HRO.out HLT.out HC0.out HC1.out HLN.out HXL.out
                          · rw [Nat.succ_mul]
                            have := HNO.out
                            omega
                        case measure => simp [intOf]; omega
                  case pos =>
                    have hno2 : no = l2 + m := by omega
                    subst hno2
                    have hm9 : 0 < m := by omega
                    have wdf : ((l2 + m : Nat) : Int) - (l2 : Int) = (m : Int) := by omega
                    have weq : ((l2 : Int) + (m : Int) - (l2 : Int) == (m : Int)) = true := by rw [show (l2 : Int) + (m : Int) - (l2 : Int) = (m : Int) from by omega]; simp
                    clear hm0 hsm
                    go_wp2
                    go_loopw [17, 18] (fun sm i wC => ∃ (z : Bool) (kk : Nat), sm = .bool z ∧ i = .int .i64 kk ∧ kk ≤ m ∧ Hid (Grows wB wC ∧ (z = true → ∀ t, t < kk → (o (l2 + t)).x0 = (row t).x0 ∧ (o (l2 + t)).x1 = (row t).x1 ∧ (o (l2 + t)).y1 = Y0))) (fun _ i _ => m - (intOf i).toNat)
                    case atStart => exact ⟨true, 0, rfl, rfl, by omega, (by repeat (first | exact Grows.refl _ | apply Grows.grow | apply Grows.alloc | apply Grows.drew)), fun _ t ht => by omega⟩
                    case round =>
                      rename World => wC
                      obtain ⟨z, kk, rfl, rfl, hkk, hc⟩ := hrel
                      have OWC : Hid (wC.ownsRow W3.heap.size 27 4 (.slice ao (l2 + m) co) (l2 + m) (cellsL (fun i => rcC (o i)) (l2 + m))) := ownsRow_grows OWB.out hc.out.1
                      have RRC : Hid (IsRects wC ar m cr row) := RRB.out.grows hc.out.1
                      have G3C : Hid (Grows W3 wC) := GB3.out.trans hc.out.1
                      have GBC : Hid (Grows wB wC) := hc.out.1
                      have S9 := G3C.out.below.size
                      cases z
                      case false =>
                        clear hc
                        by_cases hkm : kk < m
                        case pos =>
                          as_aux_lemma =>
                            go_wp2_with (at_builtin; refine wpList_append_rects rfl (.tmp 221) (.tmp 222) 43 Tryd.underlying43 rfl W3.heap.size ao (l2 + m) co o rfl (ownsRow_grows OWC.out (by repeat (first | exact Grows.refl _ | apply Grows.grow | apply Grows.alloc | apply Grows.drew))) ar m cr row rfl (RRC.out.grows (by repeat (first | exact Grows.refl _ | apply Grows.grow | apply Grows.alloc | apply Grows.drew))) (by omega) (by omega) (by have := G3C.out.below.size; simp <;> omega) ?_; intro ad9 cap9 w9 h7 h8; replace h7 := Lib.hid h7; replace h8 := Lib.hid h8)
                            go_roundw
                            case rel =>
                              refine ⟨j + 1, l2 + m, ad9, l2 + m + m, cap9, appF o (l2 + m) row, by omega, rfl, rfl, by go_num, (G3C.out.trans (by repeat (first | exact Grows.refl _ | apply Grows.grow | apply Grows.alloc | apply Grows.drew))).grown h8.out (fun j hj => (own_lt OWC.out j hj).1), h7.out, ?_, by omega, ?_⟩
                              · rw [← HY1.out]
                                exact HOO.out.app HRO.out HLT.out HC0.out HC1.out HLN.out HXL.out
                              · rw [Nat.succ_mul]
                                have := HNO.out
                                omega
                            case measure => simp [intOf]; omega
                        case neg =>
                          as_aux_lemma =>
                            go_wp2_with (at_builtin; refine wpList_append_rects rfl (.tmp 221) (.tmp 222) 43 Tryd.underlying43 rfl W3.heap.size ao (l2 + m) co o rfl (ownsRow_grows OWC.out (by repeat (first | exact Grows.refl _ | apply Grows.grow | apply Grows.alloc | apply Grows.drew))) ar m cr row rfl (RRC.out.grows (by repeat (first | exact Grows.refl _ | apply Grows.grow | apply Grows.alloc | apply Grows.drew))) (by omega) (by omega) (by have := G3C.out.below.size; simp <;> omega) ?_; intro ad9 cap9 w9 h7 h8; replace h7 := Lib.hid h7; replace h8 := Lib.hid h8)
                            go_roundw
                            case rel =>
                              refine ⟨j + 1, l2 + m, ad9, l2 + m + m, cap9, appF o (l2 + m) row, by omega, rfl, rfl, by go_num, (G3C.out.trans (by repeat (first | exact Grows.refl _ | apply Grows.grow | apply Grows.alloc | apply Grows.drew))).grown h8.out (fun j hj => (own_lt OWC.out j hj).1), h7.out, ?_, by omega, ?_⟩
                              · rw [← HY1.out]
                                exact HOO.out.app HRO.out HLT.out HC0.out HC1.out HLN.out HXL.out
                              · rw [Nat.succ_mul]
                                have := HNO.out
                                omega
                            case measure => simp [intOf]; omega
                      case true =>
                        have HMA : Hid (∀ t, t < kk → (o (l2 + t)).x0 = (row t).x0 ∧ (o (l2 + t)).x1 = (row t).x1 ∧ (o (l2 + t)).y1 = Y0) := hc.out.2 rfl
                        clear hc
                        by_cases hkm : kk < m
                        case pos =>
                          obtain ⟨po, zo, rfl, hzo, hpoC, hco, hfo⟩ := own_rects OWC.out (by omega)
                          obtain ⟨pr, zr, rfl, hprC, r0, r1, r2, r3⟩ := RRC.out.at hkm
                          obtain ⟨u0, u1, u2, u3⟩ := hco.out (l2 + kk) (by omega)
                          obtain ⟨OX0, hOX0⟩ : ∃ z, z = (o (l2 + kk)).x0 := ⟨_, rfl⟩
                          obtain ⟨OX1, hOX1⟩ : ∃ z, z = (o (l2 + kk)).x1 := ⟨_, rfl⟩
                          obtain ⟨OY1, hOY1⟩ : ∃ z, z = (o (l2 + kk)).y1 := ⟨_, rfl⟩
                          obtain ⟨RX0, hRX0⟩ : ∃ z, z = (row kk).x0 := ⟨_, rfl⟩
                          obtain ⟨RX1, hRX1⟩ : ∃ z, z = (row kk).x1 := ⟨_, rfl⟩
                          rw [← hOX0] at u0
                          rw [← hOX1] at u2
                          rw [← hOY1] at u3
                          rw [← hRX0] at r0
                          rw [← hRX1] at r2
                          have HH := Lib.hid (And.intro hOX0 (And.intro hOX1 (And.intro hOY1 (And.intro hRX0 hRX1))))
                          have yc := gcell' G3C.out hq E0.out
                          have hqC : q < wC.heap.size := by omega
                          have wlk : IntKind.i64.wrap ((l2 : Int) + (kk : Int)) = ((l2 + kk : Nat) : Int) := by rw [IntWalk.i64_in _ (by omega)]; omega
                          clear hOX0 hOX1 hOY1 hRX0 hRX1 hco u1 r1 r3
                          as_aux_lemma =>
                            by_cases q0 : OX0 = RX0
                            case neg =>
                              have d0 : (OX0 == RX0) = false := by simpa using q0
                              have d1 : decide (OX0 = RX0) = false := by simpa using q0
                              clear q0
                              go_wp2
                              first | refine region_grow2 (by kernel_rfl) (by kernel_rfl) ?_ | refine region_grow (by kernel_rfl) (by kernel_rfl) ?_
                              repeat (go_big_quiet_step (fail))
                              refine wpQuiet_nil ?_
                              rintro _ ⟨ge, rfl⟩
                              go_wp2
                              go_roundw
                              case rel => exact ⟨false, kk + 1, rfl, by go_num, by omega, GBC.out.trans (by repeat (first | exact Grows.refl _ | apply Grows.grow | apply Grows.alloc | apply Grows.drew)), fun h => by cases h⟩
                              case measure => simp [intOf]; omega
                            case pos =>
                              have HQ0 := Lib.hid q0
                              subst q0
                              by_cases q1 : OX1 = RX1
                              case neg =>
                                have d0 : (OX1 == RX1) = false := by simpa using q1
                                have d1 : decide (OX1 = RX1) = false := by simpa using q1
                                clear q1
                                go_wp2
                                first | refine region_grow2 (by kernel_rfl) (by kernel_rfl) ?_ | refine region_grow (by kernel_rfl) (by kernel_rfl) ?_
                                repeat (go_big_quiet_step (fail))
                                refine wpQuiet_nil ?_
                                rintro _ ⟨ge, rfl⟩
                                go_wp2
                                go_roundw
                                case rel => exact ⟨false, kk + 1, rfl, by go_num, by omega, GBC.out.trans (by repeat (first | exact Grows.refl _ | apply Grows.grow | apply Grows.alloc | apply Grows.drew)), fun h => by cases h⟩
                                case measure => simp [intOf]; omega
                              case pos =>
                                subst q1
                                by_cases q2 : OY1 = Y0
                                case neg =>
                                  have d0 : (OY1 == Y0) = false := by simpa using q2
                                  have d1 : decide (OY1 = Y0) = false := by simpa using q2
                                  clear q2
                                  go_wp2
                                  first | refine region_grow2 (by kernel_rfl) (by kernel_rfl) ?_ | refine region_grow (by kernel_rfl) (by kernel_rfl) ?_
                                  repeat (go_big_quiet_step (fail))
                                  refine wpQuiet_nil ?_
                                  rintro _ ⟨ge, rfl⟩
                                  go_wp2
                                  go_roundw
                                  case rel => exact ⟨false, kk + 1, rfl, by go_num, by omega, GBC.out.trans (by repeat (first | exact Grows.refl _ | apply Grows.grow | apply Grows.alloc | apply Grows.drew)), fun h => by cases h⟩
                                  case measure => simp [intOf]; omega
                                case pos =>
                                  have HY9 : Hid (OY1 = Y0) := q2
                                  rw [q2] at u3
                                  clear q2
                                  go_wp2
                                  first | refine region_grow2 (by kernel_rfl) (by kernel_rfl) ?_ | refine region_grow (by kernel_rfl) (by kernel_rfl) ?_
                                  repeat (go_big_quiet_step (fail))
                                  refine wpQuiet_nil ?_
                                  rintro _ ⟨ge, rfl⟩
                                  go_wp2
                                  go_roundw
                                  case rel =>
                                    refine ⟨true, kk + 1, rfl, by go_num, by omega, GBC.out.trans (by repeat (first | exact Grows.refl _ | apply Grows.grow | apply Grows.alloc | apply Grows.drew)), fun _ t ht => ?_⟩
                                    by_cases e : t = kk
                                    · subst e
                                      obtain ⟨a1, a2, a3, a4, a5⟩ := HH.out
                                      exact ⟨by rw [← a1, ← a4], by rw [← a2, ← a5], by rw [← a3]; exact HY9.out⟩
                                    · exact HMA.out t (by omega)
                                  case measure => simp [intOf]; omega
                        case neg =>
                          obtain rfl : m = kk := by omega
                          as_aux_lemma =>
                            go_wp2
                            go_loopw [19] (fun i wD => ∃ t : Nat, l2 ≤ t ∧ t ≤ l2 + m ∧ i = .int .i64 t ∧ Hid (Grows W3 wD ∧ wD.ownsRow W3.heap.size 27 4 (.slice ao (l2 + m) co) (l2 + m) (cellsL (fun i => rcC (drawn o l2 t Y1 i)) (l2 + m)))) (fun i _ => l2 + m - (intOf i).toNat)
                            case atStart => exact ⟨l2, by omega, by omega, rfl, G3C.out.trans (by repeat (first | exact Grows.refl _ | apply Grows.grow | apply Grows.alloc | apply Grows.drew)), by rw [drawn_none]; exact ownsRow_grows OWC.out (by repeat (first | exact Grows.refl _ | apply Grows.grow | apply Grows.alloc | apply Grows.drew))⟩
                            case round =>
                              rename World => wD
                              obtain ⟨t, ht1, ht2, rfl, hd⟩ := hrel
                              have S8 := hd.out.1.below.size
                              by_cases htm : t < l2 + m
                              · obtain ⟨po, zo, rfl, hzo, hpoC, hco, hfo⟩ := own_rects hd.out.2 (by omega)
                                obtain ⟨u0, u1, u2, u3⟩ := hco.out t htm
                                have yc := gcell' hd.out.1 hq E1.out
                                have hqD : q < wD.heap.size := by omega
                                clear u0 u1 u2 hco
                                go_wp2
                                go_roundw
                                case rel =>
                                  obtain ⟨s1, s2⟩ := rects_put3 hzo.out hd.out.2 (i := t) htm Y1
                                  refine ⟨t + 1, by omega, by omega, by go_num, ?_, ?_⟩
                                  · exact (hd.out.1.grown s2 (fun j hj => (own_lt hd.out.2 j hj).1)).trans (by repeat (first | exact Grows.refl _ | apply Grows.grow | apply Grows.alloc | apply Grows.drew))
                                  · rw [← drawn_step o l2 t Y1 ht1]
                                    exact ownsRow_grows s1 (by repeat (first | exact Grows.refl _ | apply Grows.grow | apply Grows.alloc | apply Grows.drew))
                                case measure => simp [intOf]; omega
                              · obtain rfl : t = l2 + m := by omega
                                go_wp2
                                go_roundw
                                case rel =>
                                  refine ⟨j + 1, l2, ao, l2 + m, co, drawn o l2 (l2 + m) Y1, by omega, rfl, rfl, by go_num, hd.out.1.trans (by repeat (first | exact Grows.refl _ | apply Grows.grow | apply Grows.alloc | apply Grows.drew)), ownsRow_grows hd.out.2 (by repeat (first | exact Grows.refl _ | apply Grows.grow | apply Grows.alloc | apply Grows.drew)), ?_, by omega, ?_⟩
                                  · rw [← HY1.out]
                                    exact HOO.out.join HRO.out HLT.out HC1.out HLN.out HXL.out rfl HMA.out
                                  · rw [Nat.succ_mul]
                                    have := HNO.out
                                    omega
                                case measure => simp [intOf]; omega
        · have hje : j = n2 - 1 := by omega
          as_aux_lemma =>
            have HOO : Hid (OutOk B C P (y1 (n2 - 1)) o no) := by rw [← hje]; exact ho.out.2.2.1
            have HNO : no ≤ (n2 - 1) * (n1 - 1) := by rw [← hje]; exact ho.out.2.2.2.2
            have OWO : Hid (wA.ownsRow W3.heap.size 27 4 (.slice ao no co) no (cellsL (fun i => rcC (o i)) no)) := ho.out.2.1
            have GA3 : Hid (Grows W3 wA) := ho.out.1
            have tj : ¬ ((j : Int) + 1 < (n2 : Int)) := by omega
            have tjd : decide ((j : Int) + 1 < (n2 : Int)) = false := decide_eq_false tj
            clear ho hje hlj
            go_wp2
            go_ret
            refine ⟨ao, no, co, o, rfl, GW3.out.trans (GA3.out.trans (by repeat (first | exact Grows.refl _ | apply Grows.grow | apply Grows.alloc | apply Grows.drew))), Lib.hid ⟨(rects_own OWO.out).grows (by repeat (first | exact Grows.refl _ | apply Grows.grow | apply Grows.alloc | apply Grows.drew)), fun u v => ?_, ?_⟩⟩
            · rw [HG.out.whole HOO.out u v, HP.out]
            · rw [← HNA.out]
              exact HG.out.done HOO.out f1 f2 HNO
end Go.Proofs.YtklcmlbkhjcaiaaDoor
