/- The walk of layer 9's row. -/
import Derived.Test.YtklcmlbkhjcaiaaDoorMorphS
import Derived.Deep.RegionHeld3



namespace Go.Proofs.YtklcmlbkhjcaiaaDoor
open Go.RowKit
set_option linter.unusedVariables false

set_option maxRecDepth 100000 in
set_option maxHeartbeats 12800000 in
theorem morph_row (kk : Bool) (o : Nat) (m rf : R) (a af : Option Addr) (len cap lf cf : Nat) (F : Img) (y : Int) (r bi bo li lo : Nat) (f0 g0 : Nat → Int) (w : World)
    (ho : Hid (Blk w o 35 #[.int .i64 m.x0, .int .i64 m.y0, .int .i64 m.x1, .int .i64 m.y1, .slice a len cap]))
    (h : Hid (BufAt w m a len cap (upTo m (morphH kk F (r : Int)) y m.x0 noF))) (hop : Hid (Open w a)) (hf : Hid (BufAt w rf af lf cf F)) (hi : Hid (U8Row w bi li f0)) (hq : Hid (U8Row w bo lo g0)) (AP : Hid (MorphAp w o w.heap.size (w.heap.size + 1) (w.heap.size + 1 + 1) a af lf bi bo))
    (hs : cntR m ≤ 140737488355328) (hsf : cntR rf ≤ 140737488355328) (hlo1 : (lo : Int) ≤ m.x1 - m.x0) (hlo2 : m.x1 - m.x0 ≤ (lo : Int)) (hli1 : li ≤ lo + 2 * r) (hli2 : lo + 2 * r ≤ li) (hr : r ≤ 255) (hlo3 : lo ≤ 50000) (hy0 : m.y0 ≤ y) (hy1 : y < m.y1) :
    Calls Tryd.prog 88 #[.pointer (some ⟨o, 0, none⟩), .agg #[.int .i64 rf.x0, .int .i64 rf.y0, .int .i64 rf.x1, .int .i64 rf.y1, .slice af lf cf], .int .i64 y, .int .i64 (r : Int), .int .u8 (flipB kk), .agg #[.slice (some ⟨bi, 0, none⟩) li li, .slice (some ⟨bo, 0, none⟩) lo lo]] w fun e w' => e = .returned (.tuple #[]) ∧ Chg (fun j => blkOf a = some j ∨ j = bi ∨ j = bo) w w' ∧ BufAt w' m a len cap (upTo m (morphH kk F (r : Int)) (y + 1) m.x0 noF) ∧ Open w' a ∧ (∃ f, U8Row w' bi li f) ∧ ∃ g, U8Row w' bo lo g := by
  have hm := h.out.most
  have hmf := hf.out.most
  have hg := h.out.good
  have hbd := hg.bd
  have hle := hg.le
  have holt := ho.out.lt
  obtain ⟨o0, o1, o2, o3, o4, of⟩ := ho.out.c5
  have FOK : Hid (∀ u v, okP (F u v)) := hf.out.fits.ok
  have fb := flipB_bd kk
  clear hg
  go_enter Tryd.func88, Tryd.ntmps88
  go_wp2
  refine wp_name ?_
  intro W0 hW0
  have GW : Hid (Grows w W0) := by rw [hW0]; exact (by repeat (first | exact Grows.refl _ | apply Grows.grow | apply Grows.alloc | apply Grows.drew))
  have ST : Hid (∃ fi fo, MorphSt w W0 o w.heap.size (w.heap.size + 1) (w.heap.size + 1 + 1) m a len cap (rowC m (morphH kk F (r : Int)) 0 y m.x0) rf af lf cf F bi bo li lo fi fo) := by
    refine ⟨f0, g0, ho.out.grows GW.out, ?_, ?_, ?_, chg_grows GW.out _, by rw [rowC_first]; exact h.out.grows GW.out, hop.out.grows GW.out, hf.out.grows GW.out, hi.out.grows GW.out, hq.out.grows GW.out⟩
    · rw [hW0]; exact (by unfold Blk; repeat (first | exact blk_at _ _ _ (by first | omega | (simp; done) | (simp; omega)) | refine (blk_past _ _ _ (by first | omega | (simp; done) | (simp; omega))).trans ?_ | refine (heap_grow _ _ _ (by first | omega | (simp; done) | (simp; omega))).trans ?_ | refine (blk_drew _ _).trans ?_))
    · rw [hW0]; exact (by unfold Blk; repeat (first | exact blk_at _ _ _ (by first | omega | (simp; done) | (simp; omega)) | refine (blk_past _ _ _ (by first | omega | (simp; done) | (simp; omega))).trans ?_ | refine (heap_grow _ _ _ (by first | omega | (simp; done) | (simp; omega))).trans ?_ | refine (blk_drew _ _).trans ?_))
    · rw [hW0]; exact (by unfold Blk; repeat (first | exact blk_at _ _ _ (by first | omega | (simp; done) | (simp; omega)) | refine (blk_past _ _ _ (by first | omega | (simp; done) | (simp; omega))).trans ?_ | refine (heap_grow _ _ _ (by first | omega | (simp; done) | (simp; omega))).trans ?_ | refine (blk_drew _ _).trans ?_))
  clear hW0 o0 o1 o2 o3 o4 of h hop hf ho hi hq
  go_loopw [22] (fun z wr => ∃ c : Nat, c ≤ 4 ∧ z = .int .i64 c ∧ Hid (∃ fi fo, MorphSt w wr o w.heap.size (w.heap.size + 1) (w.heap.size + 1 + 1) m a len cap (rowC m (morphH kk F (r : Int)) c y m.x0) rf af lf cf F bi bo li lo fi fo)) (fun z _ => 4 - (intOf z).toNat)
  case atStart => exact ⟨0, by omega, rfl, ST.out⟩
  case round =>
    clear ST
    obtain ⟨c, hc, rfl, hh⟩ := hrel
    have hc5 : c = 0 ∨ c = 1 ∨ c = 2 ∨ c = 3 ∨ c = 4 := by omega
    rcases hc5 with rfl | rfl | rfl | rfl | rfl
    · obtain ⟨fi, fo, HP⟩ := hh.out
      have HP := Lib.hid HP
      obtain ⟨l0, l1, lf'⟩ := HP.out.lb.c2
      have ll := HP.out.lb.lt
      clear hh
      go_wp2
      clear l0 l1 lf' ll
      obtain ⟨wo, hwo⟩ : ∃ wo : World, wo = wr := ⟨_, rfl⟩
      clear hwo
      go_loopw [28] (fun z wr => ∃ j : Nat, j ≤ li ∧ z = .int .i64 j ∧ Hid (MorphSt w wr o w.heap.size (w.heap.size + 1) (w.heap.size + 1 + 1) m a len cap (rowC m (morphH kk F (r : Int)) 0 y m.x0) rf af lf cf F bi bo li lo (fun t => if t < j then (rowM kk F (m.x0 - (r : Int)) y 0) t else fi t) fo)) (fun z _ => li - (intOf z).toNat)
      case atStart => exact ⟨0, by omega, rfl, HP.out.congr (fun i _ => by rw [if_neg (by omega)]) (fun _ _ => rfl)⟩
      case round =>
        clear HP
        obtain ⟨j, hj, rfl, hh⟩ := hrel
        obtain ⟨l0, l1, lf'⟩ := hh.out.lb.c2
        have ll := hh.out.lb.lt
        by_cases hlt : j < li
        · obtain ⟨m0, m1, m2, m3, mf⟩ := hh.out.mb.c4
          have lm := hh.out.mb.lt
          obtain ⟨s0, s1, s2, s3, s4, sf⟩ := hh.out.fb.c5
          have ls := hh.out.fb.lt
          have i0 := hh.out.inp.cell hlt
          have if' := hh.out.inp.frozen
          have lb' := hh.out.inp.lt
          have HSRC := Lib.hid hh.out.src
          obtain ⟨q, hq⟩ : ∃ q, q = F (m.x0 - (r : Int) + (j : Int)) y := ⟨_, rfl⟩
          have HQ0 : Hid (F (m.x0 - (r : Int) + (j : Int)) y = q) := hq.symm
          have HV : Hid (turnV kk q.r = (rowM kk F (m.x0 - (r : Int)) y 0) j) := by rw [hq]; rfl
          obtain ⟨⟨q0, q0'⟩, ⟨q1, q1'⟩, ⟨q2, q2'⟩, q3, q3'⟩ : okP q := by rw [hq]; exact FOK.out _ _
          clear hq
          go_wp2
          first | refine region_grow_tail2 17 (by kernel_rfl) (by kernel_rfl) ?_ | refine region_grow_tail 17 (by kernel_rfl) (by kernel_rfl) ?_
          simp only [List.take_succ_cons, List.take_zero, List.drop_succ_cons, List.drop_zero]
          repeat (go_big_quiet_step ((first | (go_at_call 67; exact grow_of (raster_AtIs _ _ _ _ _ _ _ _ _ (Lib.hid (BufAt.grows HSRC.out (by repeat (first | exact Grows.refl _ | apply Grows.grow | apply Grows.alloc | apply Grows.drew)))) (by omega) HQ0)))))
          refine wpQuiet_nil ?_
          rintro _ ⟨gb, rfl⟩
          go_wp2
          go_roundw
          case rel =>
            refine ⟨j + 1, by omega, by go_num, (((hh.out.grows (by exact (by repeat (first | exact Grows.refl _ | apply Grows.grow | apply Grows.alloc | apply Grows.drew)))).line AP.out j (turnV_bd kk (v := q.r) (by omega))).congr (fun t _ => ?_) (fun _ _ => rfl)).grows (by repeat (first | exact Grows.refl _ | apply Grows.grow | apply Grows.alloc | apply Grows.drew))⟩
            by_cases e : t = j
            · subst e; rw [if_pos rfl, if_pos (by omega)]; exact HV.out
            · rw [if_neg e]
              by_cases e2 : t < j
              · rw [if_pos e2, if_pos (by omega)]
              · rw [if_neg e2, if_neg (by omega)]
          case measure => simp [intOf]; omega
        · obtain rfl : li = j := by omega
          have HP := Lib.hid (hh.out.congr (fi' := (rowM kk F (m.x0 - (r : Int)) y 0)) (fun t ht => by rw [if_pos ht]) (fun _ _ => rfl))
          clear hh
          go_wp2_with (go_at_call 102; refine (morph_along bi bo li lo r (rowM kk F (m.x0 - (r : Int)) y 0) fo _ (Lib.hid (HP.out.inp.grows (by repeat (first | exact Grows.refl _ | apply Grows.grow | apply Grows.alloc | apply Grows.drew)))) (Lib.hid (HP.out.out.grows (by repeat (first | exact Grows.refl _ | apply Grows.grow | apply Grows.alloc | apply Grows.drew)))) (fun t => rowM_bd FOK.out _ _ _ t) AP.out.hio (by omega) (by omega)).mono ?_; rintro e w1 ⟨rfl, g1, hi1, ho1⟩; have S1 := Lib.hid ((HP.out.grows (by exact (by repeat (first | exact Grows.refl _ | apply Grows.grow | apply Grows.alloc | apply Grows.drew)))).along AP.out g1 hi1 ho1); clear g1 hi1 ho1 HP l0 l1 lf' ll; obtain ⟨l0, l1, lf'⟩ := S1.out.lb.c2; have ll := S1.out.lb.lt)
          clear l0 l1 lf' ll
          obtain ⟨wo, hwo⟩ : ∃ wo : World, wo = wr := ⟨_, rfl⟩
          clear hwo
          go_loopw [58] (fun z wr => ∃ j : Nat, j ≤ lo ∧ z = .int .i64 j ∧ Hid (MorphSt w wr o w.heap.size (w.heap.size + 1) (w.heap.size + 1 + 1) m a len cap (rowC m (morphH kk F (r : Int)) 0 y (m.x0 + (j : Int))) rf af lf cf F bi bo li lo (rowM kk F (m.x0 - (r : Int)) y 0) (mxN (rowM kk F (m.x0 - (r : Int)) y 0) r))) (fun z _ => lo - (intOf z).toNat)
          case atStart => exact ⟨0, by omega, rfl, by rw [show m.x0 + ((0 : Nat) : Int) = m.x0 from by omega]; exact S1.out.grows (by repeat (first | exact Grows.refl _ | apply Grows.grow | apply Grows.alloc | apply Grows.drew))⟩
          case round =>
            clear S1
            obtain ⟨j, hj, rfl, hh⟩ := hrel
            by_cases hlt : j < lo
            · have hhas : hasR m (m.x0 + (j : Int)) y = true := (hasR_iff _ _ _).2 (by omega)
              obtain ⟨m0, m1, m2, m3, mf⟩ := hh.out.mb.c4
              have lm := hh.out.mb.lt
              obtain ⟨o0, o1, o2, o3, o4, of⟩ := hh.out.ob.c5
              have lo' := hh.out.ob.lt
              have u0 := hh.out.out.cell hlt
              have lu := hh.out.out.lt
              obtain ⟨v0, v1⟩ := mxN_bd (f := (rowM kk F (m.x0 - (r : Int)) y 0)) (fun t => rowM_bd FOK.out _ _ _ t) r j
              have HSRC := Lib.hid hh.out.buf
              obtain ⟨q, hq⟩ : ∃ q, q = mixC 0 ((morphH kk F (r : Int)) (m.x0 + (j : Int)) y) noP := ⟨_, rfl⟩
              have HQ0 : Hid ((rowC m (morphH kk F (r : Int)) 0 y (m.x0 + (j : Int))) (m.x0 + (j : Int)) y = q) := by rw [hq]; exact rowC_at hhas
              obtain ⟨P, hP⟩ : ∃ P, P = mixC (0 + 1) ((morphH kk F (r : Int)) (m.x0 + (j : Int)) y) noP := ⟨_, rfl⟩
              have PO : okP P := by rw [hP]; exact mixC_ok (morphH_ok FOK.out kk _ _ _) okP_no
              have PE : Hid (P = ⟨(turnV kk (mxN (rowM kk F (m.x0 - (r : Int)) y 0) r j)), q.g, q.b, q.a⟩) := by
                have e := mixC_step 0 (by omega) ((morphH kk F (r : Int)) (m.x0 + (j : Int)) y) hq
                have e2 := row_val kk F m.x0 y r 0 j
                rw [hP, e, ← e2]
                rfl
              have NX : Hid (putF m (rowC m (morphH kk F (r : Int)) 0 y (m.x0 + (j : Int))) (m.x0 + (j : Int)) y P = (rowC m (morphH kk F (r : Int)) 0 y (m.x0 + ((j + 1 : Nat) : Int)))) := by rw [hP, show m.x0 + ((j + 1 : Nat) : Int) = m.x0 + (j : Int) + 1 from by omega]; exact rowC_next hhas
              have hwr : IntKind.i64.wrap (m.x0 + (j : Int)) = m.x0 + (j : Int) := IntWalk.i64_in _ (by omega)
              clear hq hP
              go_wp2
              go_region_held3 (fun w' => w'.cell? ⟨w.heap.size + 1 + 1, 0, none⟩ = some (.int .i64 m.x0) ∧ w'.cell? ⟨w.heap.size + 1 + 1, 1, none⟩ = some (.int .i64 m.y0) ∧ w'.cell? ⟨o, 0, none⟩ = some (.int .i64 m.x0) ∧ w'.cell? ⟨o, 1, none⟩ = some (.int .i64 m.y0) ∧ w'.cell? ⟨o, 2, none⟩ = some (.int .i64 m.x1) ∧ w'.cell? ⟨o, 3, none⟩ = some (.int .i64 m.y1) ∧ w'.cell? ⟨o, 4, none⟩ = some (.slice a len cap)) (go_simp) (first
                | (go_at_call 67; (try rw [hwr]); (with_reducible refine Calls.mono (raster_AtIs _ _ _ _ _ _ _ _ q ?_ (by omega) HQ0) ?_); (exact Lib.hid (BufAt.grows HSRC.out (by repeat (first | exact Grows.refl _ | apply Grows.grow | apply Grows.alloc | apply Grows.drew)))); rintro e w' ⟨rfl, hgw⟩; first | (obtain ⟨gw, rfl⟩ := grows_of_grow hgw) | (obtain ⟨gw, rfl⟩ := hgw)))
              all_goals go_wp2_with (go_at_call 66; refine (raster_PutIs o m a len cap _ _ _ _ _ _ _ P _ (Lib.hid (hh.out.ob.grows (by repeat (first | exact Grows.refl _ | apply Grows.grow | apply Grows.alloc | apply Grows.drew)))) (Lib.hid (hh.out.buf.grows (by repeat (first | exact Grows.refl _ | apply Grows.grow | apply Grows.alloc | apply Grows.drew)))) (Lib.hid (hh.out.open_.grows (by repeat (first | exact Grows.refl _ | apply Grows.grow | apply Grows.alloc | apply Grows.drew)))) hs PO PE).mono ?_; rintro e w2 ⟨rfl, hg1, hb1, hp1⟩; rw [NX.out] at hb1; have ST2 := Lib.hid ((hh.out.grows (by exact (by repeat (first | exact Grows.refl _ | apply Grows.grow | apply Grows.alloc | apply Grows.drew)))).put AP.out hg1 hb1 hp1); clear hg1 hb1 hp1)
              all_goals go_roundw
              all_goals first
                | exact ⟨j + 1, by omega, by go_num, ST2.out.grows (by repeat (first | exact Grows.refl _ | apply Grows.grow | apply Grows.alloc | apply Grows.drew))⟩
                | (simp [intOf]; omega)
            · obtain rfl : lo = j := by omega
              go_wp2
              go_roundw
              case rel =>
                have st := hh.out
                rw [show m.x0 + (lo : Int) = m.x1 from by omega, rowC_turn] at st
                exact ⟨0 + 1, by omega, by go_num, _, _, st.grows (by repeat (first | exact Grows.refl _ | apply Grows.grow | apply Grows.alloc | apply Grows.drew))⟩
              case measure => simp [intOf]
    · obtain ⟨fi, fo, HP⟩ := hh.out
      have HP := Lib.hid HP
      obtain ⟨l0, l1, lf'⟩ := HP.out.lb.c2
      have ll := HP.out.lb.lt
      clear hh
      go_wp2
      clear l0 l1 lf' ll
      obtain ⟨wo, hwo⟩ : ∃ wo : World, wo = wr := ⟨_, rfl⟩
      clear hwo
      go_loopw [28] (fun z wr => ∃ j : Nat, j ≤ li ∧ z = .int .i64 j ∧ Hid (MorphSt w wr o w.heap.size (w.heap.size + 1) (w.heap.size + 1 + 1) m a len cap (rowC m (morphH kk F (r : Int)) 1 y m.x0) rf af lf cf F bi bo li lo (fun t => if t < j then (rowM kk F (m.x0 - (r : Int)) y 1) t else fi t) fo)) (fun z _ => li - (intOf z).toNat)
      case atStart => exact ⟨0, by omega, rfl, HP.out.congr (fun i _ => by rw [if_neg (by omega)]) (fun _ _ => rfl)⟩
      case round =>
        clear HP
        obtain ⟨j, hj, rfl, hh⟩ := hrel
        obtain ⟨l0, l1, lf'⟩ := hh.out.lb.c2
        have ll := hh.out.lb.lt
        by_cases hlt : j < li
        · obtain ⟨m0, m1, m2, m3, mf⟩ := hh.out.mb.c4
          have lm := hh.out.mb.lt
          obtain ⟨s0, s1, s2, s3, s4, sf⟩ := hh.out.fb.c5
          have ls := hh.out.fb.lt
          have i0 := hh.out.inp.cell hlt
          have if' := hh.out.inp.frozen
          have lb' := hh.out.inp.lt
          have HSRC := Lib.hid hh.out.src
          obtain ⟨q, hq⟩ : ∃ q, q = F (m.x0 - (r : Int) + (j : Int)) y := ⟨_, rfl⟩
          have HQ0 : Hid (F (m.x0 - (r : Int) + (j : Int)) y = q) := hq.symm
          have HV : Hid (turnV kk q.g = (rowM kk F (m.x0 - (r : Int)) y 1) j) := by rw [hq]; rfl
          obtain ⟨⟨q0, q0'⟩, ⟨q1, q1'⟩, ⟨q2, q2'⟩, q3, q3'⟩ : okP q := by rw [hq]; exact FOK.out _ _
          clear hq
          go_wp2
          first | refine region_grow_tail2 17 (by kernel_rfl) (by kernel_rfl) ?_ | refine region_grow_tail 17 (by kernel_rfl) (by kernel_rfl) ?_
          simp only [List.take_succ_cons, List.take_zero, List.drop_succ_cons, List.drop_zero]
          repeat (go_big_quiet_step ((first | (go_at_call 67; exact grow_of (raster_AtIs _ _ _ _ _ _ _ _ _ (Lib.hid (BufAt.grows HSRC.out (by repeat (first | exact Grows.refl _ | apply Grows.grow | apply Grows.alloc | apply Grows.drew)))) (by omega) HQ0)))))
          refine wpQuiet_nil ?_
          rintro _ ⟨gb, rfl⟩
          go_wp2
          go_roundw
          case rel =>
            refine ⟨j + 1, by omega, by go_num, (((hh.out.grows (by exact (by repeat (first | exact Grows.refl _ | apply Grows.grow | apply Grows.alloc | apply Grows.drew)))).line AP.out j (turnV_bd kk (v := q.g) (by omega))).congr (fun t _ => ?_) (fun _ _ => rfl)).grows (by repeat (first | exact Grows.refl _ | apply Grows.grow | apply Grows.alloc | apply Grows.drew))⟩
            by_cases e : t = j
            · subst e; rw [if_pos rfl, if_pos (by omega)]; exact HV.out
            · rw [if_neg e]
              by_cases e2 : t < j
              · rw [if_pos e2, if_pos (by omega)]
              · rw [if_neg e2, if_neg (by omega)]
          case measure => simp [intOf]; omega
        · obtain rfl : li = j := by omega
          have HP := Lib.hid (hh.out.congr (fi' := (rowM kk F (m.x0 - (r : Int)) y 1)) (fun t ht => by rw [if_pos ht]) (fun _ _ => rfl))
          clear hh
          go_wp2_with (go_at_call 102; refine (morph_along bi bo li lo r (rowM kk F (m.x0 - (r : Int)) y 1) fo _ (Lib.hid (HP.out.inp.grows (by repeat (first | exact Grows.refl _ | apply Grows.grow | apply Grows.alloc | apply Grows.drew)))) (Lib.hid (HP.out.out.grows (by repeat (first | exact Grows.refl _ | apply Grows.grow | apply Grows.alloc | apply Grows.drew)))) (fun t => rowM_bd FOK.out _ _ _ t) AP.out.hio (by omega) (by omega)).mono ?_; rintro e w1 ⟨rfl, g1, hi1, ho1⟩; have S1 := Lib.hid ((HP.out.grows (by exact (by repeat (first | exact Grows.refl _ | apply Grows.grow | apply Grows.alloc | apply Grows.drew)))).along AP.out g1 hi1 ho1); clear g1 hi1 ho1 HP l0 l1 lf' ll; obtain ⟨l0, l1, lf'⟩ := S1.out.lb.c2; have ll := S1.out.lb.lt)
          clear l0 l1 lf' ll
          obtain ⟨wo, hwo⟩ : ∃ wo : World, wo = wr := ⟨_, rfl⟩
          clear hwo
          go_loopw [58] (fun z wr => ∃ j : Nat, j ≤ lo ∧ z = .int .i64 j ∧ Hid (MorphSt w wr o w.heap.size (w.heap.size + 1) (w.heap.size + 1 + 1) m a len cap (rowC m (morphH kk F (r : Int)) 1 y (m.x0 + (j : Int))) rf af lf cf F bi bo li lo (rowM kk F (m.x0 - (r : Int)) y 1) (mxN (rowM kk F (m.x0 - (r : Int)) y 1) r))) (fun z _ => lo - (intOf z).toNat)
          case atStart => exact ⟨0, by omega, rfl, by rw [show m.x0 + ((0 : Nat) : Int) = m.x0 from by omega]; exact S1.out.grows (by repeat (first | exact Grows.refl _ | apply Grows.grow | apply Grows.alloc | apply Grows.drew))⟩
          case round =>
            clear S1
            obtain ⟨j, hj, rfl, hh⟩ := hrel
            by_cases hlt : j < lo
            · have hhas : hasR m (m.x0 + (j : Int)) y = true := (hasR_iff _ _ _).2 (by omega)
              obtain ⟨m0, m1, m2, m3, mf⟩ := hh.out.mb.c4
              have lm := hh.out.mb.lt
              obtain ⟨o0, o1, o2, o3, o4, of⟩ := hh.out.ob.c5
              have lo' := hh.out.ob.lt
              have u0 := hh.out.out.cell hlt
              have lu := hh.out.out.lt
              obtain ⟨v0, v1⟩ := mxN_bd (f := (rowM kk F (m.x0 - (r : Int)) y 1)) (fun t => rowM_bd FOK.out _ _ _ t) r j
              have HSRC := Lib.hid hh.out.buf
              obtain ⟨q, hq⟩ : ∃ q, q = mixC 1 ((morphH kk F (r : Int)) (m.x0 + (j : Int)) y) noP := ⟨_, rfl⟩
              have HQ0 : Hid ((rowC m (morphH kk F (r : Int)) 1 y (m.x0 + (j : Int))) (m.x0 + (j : Int)) y = q) := by rw [hq]; exact rowC_at hhas
              obtain ⟨P, hP⟩ : ∃ P, P = mixC (1 + 1) ((morphH kk F (r : Int)) (m.x0 + (j : Int)) y) noP := ⟨_, rfl⟩
              have PO : okP P := by rw [hP]; exact mixC_ok (morphH_ok FOK.out kk _ _ _) okP_no
              have PE : Hid (P = ⟨q.r, (turnV kk (mxN (rowM kk F (m.x0 - (r : Int)) y 1) r j)), q.b, q.a⟩) := by
                have e := mixC_step 1 (by omega) ((morphH kk F (r : Int)) (m.x0 + (j : Int)) y) hq
                have e2 := row_val kk F m.x0 y r 1 j
                rw [hP, e, ← e2]
                rfl
              have NX : Hid (putF m (rowC m (morphH kk F (r : Int)) 1 y (m.x0 + (j : Int))) (m.x0 + (j : Int)) y P = (rowC m (morphH kk F (r : Int)) 1 y (m.x0 + ((j + 1 : Nat) : Int)))) := by rw [hP, show m.x0 + ((j + 1 : Nat) : Int) = m.x0 + (j : Int) + 1 from by omega]; exact rowC_next hhas
              have hwr : IntKind.i64.wrap (m.x0 + (j : Int)) = m.x0 + (j : Int) := IntWalk.i64_in _ (by omega)
              clear hq hP
              go_wp2
              go_region_held3 (fun w' => w'.cell? ⟨w.heap.size + 1 + 1, 0, none⟩ = some (.int .i64 m.x0) ∧ w'.cell? ⟨w.heap.size + 1 + 1, 1, none⟩ = some (.int .i64 m.y0) ∧ w'.cell? ⟨o, 0, none⟩ = some (.int .i64 m.x0) ∧ w'.cell? ⟨o, 1, none⟩ = some (.int .i64 m.y0) ∧ w'.cell? ⟨o, 2, none⟩ = some (.int .i64 m.x1) ∧ w'.cell? ⟨o, 3, none⟩ = some (.int .i64 m.y1) ∧ w'.cell? ⟨o, 4, none⟩ = some (.slice a len cap)) (go_simp) (first
                | (go_at_call 67; (try rw [hwr]); (with_reducible refine Calls.mono (raster_AtIs _ _ _ _ _ _ _ _ q ?_ (by omega) HQ0) ?_); (exact Lib.hid (BufAt.grows HSRC.out (by repeat (first | exact Grows.refl _ | apply Grows.grow | apply Grows.alloc | apply Grows.drew)))); rintro e w' ⟨rfl, hgw⟩; first | (obtain ⟨gw, rfl⟩ := grows_of_grow hgw) | (obtain ⟨gw, rfl⟩ := hgw)))
              all_goals go_wp2_with (go_at_call 66; refine (raster_PutIs o m a len cap _ _ _ _ _ _ _ P _ (Lib.hid (hh.out.ob.grows (by repeat (first | exact Grows.refl _ | apply Grows.grow | apply Grows.alloc | apply Grows.drew)))) (Lib.hid (hh.out.buf.grows (by repeat (first | exact Grows.refl _ | apply Grows.grow | apply Grows.alloc | apply Grows.drew)))) (Lib.hid (hh.out.open_.grows (by repeat (first | exact Grows.refl _ | apply Grows.grow | apply Grows.alloc | apply Grows.drew)))) hs PO PE).mono ?_; rintro e w2 ⟨rfl, hg1, hb1, hp1⟩; rw [NX.out] at hb1; have ST2 := Lib.hid ((hh.out.grows (by exact (by repeat (first | exact Grows.refl _ | apply Grows.grow | apply Grows.alloc | apply Grows.drew)))).put AP.out hg1 hb1 hp1); clear hg1 hb1 hp1)
              all_goals go_roundw
              all_goals first
                | exact ⟨j + 1, by omega, by go_num, ST2.out.grows (by repeat (first | exact Grows.refl _ | apply Grows.grow | apply Grows.alloc | apply Grows.drew))⟩
                | (simp [intOf]; omega)
            · obtain rfl : lo = j := by omega
              go_wp2
              go_roundw
              case rel =>
                have st := hh.out
                rw [show m.x0 + (lo : Int) = m.x1 from by omega, rowC_turn] at st
                exact ⟨1 + 1, by omega, by go_num, _, _, st.grows (by repeat (first | exact Grows.refl _ | apply Grows.grow | apply Grows.alloc | apply Grows.drew))⟩
              case measure => simp [intOf]
    · obtain ⟨fi, fo, HP⟩ := hh.out
      have HP := Lib.hid HP
      obtain ⟨l0, l1, lf'⟩ := HP.out.lb.c2
      have ll := HP.out.lb.lt
      clear hh
      go_wp2
      clear l0 l1 lf' ll
      obtain ⟨wo, hwo⟩ : ∃ wo : World, wo = wr := ⟨_, rfl⟩
      clear hwo
      go_loopw [28] (fun z wr => ∃ j : Nat, j ≤ li ∧ z = .int .i64 j ∧ Hid (MorphSt w wr o w.heap.size (w.heap.size + 1) (w.heap.size + 1 + 1) m a len cap (rowC m (morphH kk F (r : Int)) 2 y m.x0) rf af lf cf F bi bo li lo (fun t => if t < j then (rowM kk F (m.x0 - (r : Int)) y 2) t else fi t) fo)) (fun z _ => li - (intOf z).toNat)
      case atStart => exact ⟨0, by omega, rfl, HP.out.congr (fun i _ => by rw [if_neg (by omega)]) (fun _ _ => rfl)⟩
      case round =>
        clear HP
        obtain ⟨j, hj, rfl, hh⟩ := hrel
        obtain ⟨l0, l1, lf'⟩ := hh.out.lb.c2
        have ll := hh.out.lb.lt
        by_cases hlt : j < li
        · obtain ⟨m0, m1, m2, m3, mf⟩ := hh.out.mb.c4
          have lm := hh.out.mb.lt
          obtain ⟨s0, s1, s2, s3, s4, sf⟩ := hh.out.fb.c5
          have ls := hh.out.fb.lt
          have i0 := hh.out.inp.cell hlt
          have if' := hh.out.inp.frozen
          have lb' := hh.out.inp.lt
          have HSRC := Lib.hid hh.out.src
          obtain ⟨q, hq⟩ : ∃ q, q = F (m.x0 - (r : Int) + (j : Int)) y := ⟨_, rfl⟩
          have HQ0 : Hid (F (m.x0 - (r : Int) + (j : Int)) y = q) := hq.symm
          have HV : Hid (turnV kk q.b = (rowM kk F (m.x0 - (r : Int)) y 2) j) := by rw [hq]; rfl
          obtain ⟨⟨q0, q0'⟩, ⟨q1, q1'⟩, ⟨q2, q2'⟩, q3, q3'⟩ : okP q := by rw [hq]; exact FOK.out _ _
          clear hq
          go_wp2
          first | refine region_grow_tail2 17 (by kernel_rfl) (by kernel_rfl) ?_ | refine region_grow_tail 17 (by kernel_rfl) (by kernel_rfl) ?_
          simp only [List.take_succ_cons, List.take_zero, List.drop_succ_cons, List.drop_zero]
          repeat (go_big_quiet_step ((first | (go_at_call 67; exact grow_of (raster_AtIs _ _ _ _ _ _ _ _ _ (Lib.hid (BufAt.grows HSRC.out (by repeat (first | exact Grows.refl _ | apply Grows.grow | apply Grows.alloc | apply Grows.drew)))) (by omega) HQ0)))))
          refine wpQuiet_nil ?_
          rintro _ ⟨gb, rfl⟩
          go_wp2
          go_roundw
          case rel =>
            refine ⟨j + 1, by omega, by go_num, (((hh.out.grows (by exact (by repeat (first | exact Grows.refl _ | apply Grows.grow | apply Grows.alloc | apply Grows.drew)))).line AP.out j (turnV_bd kk (v := q.b) (by omega))).congr (fun t _ => ?_) (fun _ _ => rfl)).grows (by repeat (first | exact Grows.refl _ | apply Grows.grow | apply Grows.alloc | apply Grows.drew))⟩
            by_cases e : t = j
            · subst e; rw [if_pos rfl, if_pos (by omega)]; exact HV.out
            · rw [if_neg e]
              by_cases e2 : t < j
              · rw [if_pos e2, if_pos (by omega)]
              · rw [if_neg e2, if_neg (by omega)]
          case measure => simp [intOf]; omega
        · obtain rfl : li = j := by omega
          have HP := Lib.hid (hh.out.congr (fi' := (rowM kk F (m.x0 - (r : Int)) y 2)) (fun t ht => by rw [if_pos ht]) (fun _ _ => rfl))
          clear hh
          go_wp2_with (go_at_call 102; refine (morph_along bi bo li lo r (rowM kk F (m.x0 - (r : Int)) y 2) fo _ (Lib.hid (HP.out.inp.grows (by repeat (first | exact Grows.refl _ | apply Grows.grow | apply Grows.alloc | apply Grows.drew)))) (Lib.hid (HP.out.out.grows (by repeat (first | exact Grows.refl _ | apply Grows.grow | apply Grows.alloc | apply Grows.drew)))) (fun t => rowM_bd FOK.out _ _ _ t) AP.out.hio (by omega) (by omega)).mono ?_; rintro e w1 ⟨rfl, g1, hi1, ho1⟩; have S1 := Lib.hid ((HP.out.grows (by exact (by repeat (first | exact Grows.refl _ | apply Grows.grow | apply Grows.alloc | apply Grows.drew)))).along AP.out g1 hi1 ho1); clear g1 hi1 ho1 HP l0 l1 lf' ll; obtain ⟨l0, l1, lf'⟩ := S1.out.lb.c2; have ll := S1.out.lb.lt)
          clear l0 l1 lf' ll
          obtain ⟨wo, hwo⟩ : ∃ wo : World, wo = wr := ⟨_, rfl⟩
          clear hwo
          go_loopw [58] (fun z wr => ∃ j : Nat, j ≤ lo ∧ z = .int .i64 j ∧ Hid (MorphSt w wr o w.heap.size (w.heap.size + 1) (w.heap.size + 1 + 1) m a len cap (rowC m (morphH kk F (r : Int)) 2 y (m.x0 + (j : Int))) rf af lf cf F bi bo li lo (rowM kk F (m.x0 - (r : Int)) y 2) (mxN (rowM kk F (m.x0 - (r : Int)) y 2) r))) (fun z _ => lo - (intOf z).toNat)
          case atStart => exact ⟨0, by omega, rfl, by rw [show m.x0 + ((0 : Nat) : Int) = m.x0 from by omega]; exact S1.out.grows (by repeat (first | exact Grows.refl _ | apply Grows.grow | apply Grows.alloc | apply Grows.drew))⟩
          case round =>
            clear S1
            obtain ⟨j, hj, rfl, hh⟩ := hrel
            by_cases hlt : j < lo
            · have hhas : hasR m (m.x0 + (j : Int)) y = true := (hasR_iff _ _ _).2 (by omega)
              obtain ⟨m0, m1, m2, m3, mf⟩ := hh.out.mb.c4
              have lm := hh.out.mb.lt
              obtain ⟨o0, o1, o2, o3, o4, of⟩ := hh.out.ob.c5
              have lo' := hh.out.ob.lt
              have u0 := hh.out.out.cell hlt
              have lu := hh.out.out.lt
              obtain ⟨v0, v1⟩ := mxN_bd (f := (rowM kk F (m.x0 - (r : Int)) y 2)) (fun t => rowM_bd FOK.out _ _ _ t) r j
              have HSRC := Lib.hid hh.out.buf
              obtain ⟨q, hq⟩ : ∃ q, q = mixC 2 ((morphH kk F (r : Int)) (m.x0 + (j : Int)) y) noP := ⟨_, rfl⟩
              have HQ0 : Hid ((rowC m (morphH kk F (r : Int)) 2 y (m.x0 + (j : Int))) (m.x0 + (j : Int)) y = q) := by rw [hq]; exact rowC_at hhas
              obtain ⟨P, hP⟩ : ∃ P, P = mixC (2 + 1) ((morphH kk F (r : Int)) (m.x0 + (j : Int)) y) noP := ⟨_, rfl⟩
              have PO : okP P := by rw [hP]; exact mixC_ok (morphH_ok FOK.out kk _ _ _) okP_no
              have PE : Hid (P = ⟨q.r, q.g, (turnV kk (mxN (rowM kk F (m.x0 - (r : Int)) y 2) r j)), q.a⟩) := by
                have e := mixC_step 2 (by omega) ((morphH kk F (r : Int)) (m.x0 + (j : Int)) y) hq
                have e2 := row_val kk F m.x0 y r 2 j
                rw [hP, e, ← e2]
                rfl
              have NX : Hid (putF m (rowC m (morphH kk F (r : Int)) 2 y (m.x0 + (j : Int))) (m.x0 + (j : Int)) y P = (rowC m (morphH kk F (r : Int)) 2 y (m.x0 + ((j + 1 : Nat) : Int)))) := by rw [hP, show m.x0 + ((j + 1 : Nat) : Int) = m.x0 + (j : Int) + 1 from by omega]; exact rowC_next hhas
              have hwr : IntKind.i64.wrap (m.x0 + (j : Int)) = m.x0 + (j : Int) := IntWalk.i64_in _ (by omega)
              clear hq hP
              go_wp2
              go_region_held3 (fun w' => w'.cell? ⟨w.heap.size + 1 + 1, 0, none⟩ = some (.int .i64 m.x0) ∧ w'.cell? ⟨w.heap.size + 1 + 1, 1, none⟩ = some (.int .i64 m.y0) ∧ w'.cell? ⟨o, 0, none⟩ = some (.int .i64 m.x0) ∧ w'.cell? ⟨o, 1, none⟩ = some (.int .i64 m.y0) ∧ w'.cell? ⟨o, 2, none⟩ = some (.int .i64 m.x1) ∧ w'.cell? ⟨o, 3, none⟩ = some (.int .i64 m.y1) ∧ w'.cell? ⟨o, 4, none⟩ = some (.slice a len cap)) (go_simp) (first
                | (go_at_call 67; (try rw [hwr]); (with_reducible refine Calls.mono (raster_AtIs _ _ _ _ _ _ _ _ q ?_ (by omega) HQ0) ?_); (exact Lib.hid (BufAt.grows HSRC.out (by repeat (first | exact Grows.refl _ | apply Grows.grow | apply Grows.alloc | apply Grows.drew)))); rintro e w' ⟨rfl, hgw⟩; first | (obtain ⟨gw, rfl⟩ := grows_of_grow hgw) | (obtain ⟨gw, rfl⟩ := hgw)))
              all_goals go_wp2_with (go_at_call 66; refine (raster_PutIs o m a len cap _ _ _ _ _ _ _ P _ (Lib.hid (hh.out.ob.grows (by repeat (first | exact Grows.refl _ | apply Grows.grow | apply Grows.alloc | apply Grows.drew)))) (Lib.hid (hh.out.buf.grows (by repeat (first | exact Grows.refl _ | apply Grows.grow | apply Grows.alloc | apply Grows.drew)))) (Lib.hid (hh.out.open_.grows (by repeat (first | exact Grows.refl _ | apply Grows.grow | apply Grows.alloc | apply Grows.drew)))) hs PO PE).mono ?_; rintro e w2 ⟨rfl, hg1, hb1, hp1⟩; rw [NX.out] at hb1; have ST2 := Lib.hid ((hh.out.grows (by exact (by repeat (first | exact Grows.refl _ | apply Grows.grow | apply Grows.alloc | apply Grows.drew)))).put AP.out hg1 hb1 hp1); clear hg1 hb1 hp1)
              all_goals go_roundw
              all_goals first
                | exact ⟨j + 1, by omega, by go_num, ST2.out.grows (by repeat (first | exact Grows.refl _ | apply Grows.grow | apply Grows.alloc | apply Grows.drew))⟩
                | (simp [intOf]; omega)
            · obtain rfl : lo = j := by omega
              go_wp2
              go_roundw
              case rel =>
                have st := hh.out
                rw [show m.x0 + (lo : Int) = m.x1 from by omega, rowC_turn] at st
                exact ⟨2 + 1, by omega, by go_num, _, _, st.grows (by repeat (first | exact Grows.refl _ | apply Grows.grow | apply Grows.alloc | apply Grows.drew))⟩
              case measure => simp [intOf]
    · obtain ⟨fi, fo, HP⟩ := hh.out
      have HP := Lib.hid HP
      obtain ⟨l0, l1, lf'⟩ := HP.out.lb.c2
      have ll := HP.out.lb.lt
      clear hh
      go_wp2
      clear l0 l1 lf' ll
      obtain ⟨wo, hwo⟩ : ∃ wo : World, wo = wr := ⟨_, rfl⟩
      clear hwo
      go_loopw [28] (fun z wr => ∃ j : Nat, j ≤ li ∧ z = .int .i64 j ∧ Hid (MorphSt w wr o w.heap.size (w.heap.size + 1) (w.heap.size + 1 + 1) m a len cap (rowC m (morphH kk F (r : Int)) 3 y m.x0) rf af lf cf F bi bo li lo (fun t => if t < j then (rowM kk F (m.x0 - (r : Int)) y 3) t else fi t) fo)) (fun z _ => li - (intOf z).toNat)
      case atStart => exact ⟨0, by omega, rfl, HP.out.congr (fun i _ => by rw [if_neg (by omega)]) (fun _ _ => rfl)⟩
      case round =>
        clear HP
        obtain ⟨j, hj, rfl, hh⟩ := hrel
        obtain ⟨l0, l1, lf'⟩ := hh.out.lb.c2
        have ll := hh.out.lb.lt
        by_cases hlt : j < li
        · obtain ⟨m0, m1, m2, m3, mf⟩ := hh.out.mb.c4
          have lm := hh.out.mb.lt
          obtain ⟨s0, s1, s2, s3, s4, sf⟩ := hh.out.fb.c5
          have ls := hh.out.fb.lt
          have i0 := hh.out.inp.cell hlt
          have if' := hh.out.inp.frozen
          have lb' := hh.out.inp.lt
          have HSRC := Lib.hid hh.out.src
          obtain ⟨q, hq⟩ : ∃ q, q = F (m.x0 - (r : Int) + (j : Int)) y := ⟨_, rfl⟩
          have HQ0 : Hid (F (m.x0 - (r : Int) + (j : Int)) y = q) := hq.symm
          have HV : Hid (turnV kk q.a = (rowM kk F (m.x0 - (r : Int)) y 3) j) := by rw [hq]; rfl
          obtain ⟨⟨q0, q0'⟩, ⟨q1, q1'⟩, ⟨q2, q2'⟩, q3, q3'⟩ : okP q := by rw [hq]; exact FOK.out _ _
          clear hq
          go_wp2
          first | refine region_grow_tail2 17 (by kernel_rfl) (by kernel_rfl) ?_ | refine region_grow_tail 17 (by kernel_rfl) (by kernel_rfl) ?_
          simp only [List.take_succ_cons, List.take_zero, List.drop_succ_cons, List.drop_zero]
          repeat (go_big_quiet_step ((first | (go_at_call 67; exact grow_of (raster_AtIs _ _ _ _ _ _ _ _ _ (Lib.hid (BufAt.grows HSRC.out (by repeat (first | exact Grows.refl _ | apply Grows.grow | apply Grows.alloc | apply Grows.drew)))) (by omega) HQ0)))))
          refine wpQuiet_nil ?_
          rintro _ ⟨gb, rfl⟩
          go_wp2
          go_roundw
          case rel =>
            refine ⟨j + 1, by omega, by go_num, (((hh.out.grows (by exact (by repeat (first | exact Grows.refl _ | apply Grows.grow | apply Grows.alloc | apply Grows.drew)))).line AP.out j (turnV_bd kk (v := q.a) (by omega))).congr (fun t _ => ?_) (fun _ _ => rfl)).grows (by repeat (first | exact Grows.refl _ | apply Grows.grow | apply Grows.alloc | apply Grows.drew))⟩
            by_cases e : t = j
            · subst e; rw [if_pos rfl, if_pos (by omega)]; exact HV.out
            · rw [if_neg e]
              by_cases e2 : t < j
              · rw [if_pos e2, if_pos (by omega)]
              · rw [if_neg e2, if_neg (by omega)]
          case measure => simp [intOf]; omega
        · obtain rfl : li = j := by omega
          have HP := Lib.hid (hh.out.congr (fi' := (rowM kk F (m.x0 - (r : Int)) y 3)) (fun t ht => by rw [if_pos ht]) (fun _ _ => rfl))
          clear hh
          go_wp2_with (go_at_call 102; refine (morph_along bi bo li lo r (rowM kk F (m.x0 - (r : Int)) y 3) fo _ (Lib.hid (HP.out.inp.grows (by repeat (first | exact Grows.refl _ | apply Grows.grow | apply Grows.alloc | apply Grows.drew)))) (Lib.hid (HP.out.out.grows (by repeat (first | exact Grows.refl _ | apply Grows.grow | apply Grows.alloc | apply Grows.drew)))) (fun t => rowM_bd FOK.out _ _ _ t) AP.out.hio (by omega) (by omega)).mono ?_; rintro e w1 ⟨rfl, g1, hi1, ho1⟩; have S1 := Lib.hid ((HP.out.grows (by exact (by repeat (first | exact Grows.refl _ | apply Grows.grow | apply Grows.alloc | apply Grows.drew)))).along AP.out g1 hi1 ho1); clear g1 hi1 ho1 HP l0 l1 lf' ll; obtain ⟨l0, l1, lf'⟩ := S1.out.lb.c2; have ll := S1.out.lb.lt)
          clear l0 l1 lf' ll
          obtain ⟨wo, hwo⟩ : ∃ wo : World, wo = wr := ⟨_, rfl⟩
          clear hwo
          go_loopw [58] (fun z wr => ∃ j : Nat, j ≤ lo ∧ z = .int .i64 j ∧ Hid (MorphSt w wr o w.heap.size (w.heap.size + 1) (w.heap.size + 1 + 1) m a len cap (rowC m (morphH kk F (r : Int)) 3 y (m.x0 + (j : Int))) rf af lf cf F bi bo li lo (rowM kk F (m.x0 - (r : Int)) y 3) (mxN (rowM kk F (m.x0 - (r : Int)) y 3) r))) (fun z _ => lo - (intOf z).toNat)
          case atStart => exact ⟨0, by omega, rfl, by rw [show m.x0 + ((0 : Nat) : Int) = m.x0 from by omega]; exact S1.out.grows (by repeat (first | exact Grows.refl _ | apply Grows.grow | apply Grows.alloc | apply Grows.drew))⟩
          case round =>
            clear S1
            obtain ⟨j, hj, rfl, hh⟩ := hrel
            by_cases hlt : j < lo
            · have hhas : hasR m (m.x0 + (j : Int)) y = true := (hasR_iff _ _ _).2 (by omega)
              obtain ⟨m0, m1, m2, m3, mf⟩ := hh.out.mb.c4
              have lm := hh.out.mb.lt
              obtain ⟨o0, o1, o2, o3, o4, of⟩ := hh.out.ob.c5
              have lo' := hh.out.ob.lt
              have u0 := hh.out.out.cell hlt
              have lu := hh.out.out.lt
              obtain ⟨v0, v1⟩ := mxN_bd (f := (rowM kk F (m.x0 - (r : Int)) y 3)) (fun t => rowM_bd FOK.out _ _ _ t) r j
              have HSRC := Lib.hid hh.out.buf
              obtain ⟨q, hq⟩ : ∃ q, q = mixC 3 ((morphH kk F (r : Int)) (m.x0 + (j : Int)) y) noP := ⟨_, rfl⟩
              have HQ0 : Hid ((rowC m (morphH kk F (r : Int)) 3 y (m.x0 + (j : Int))) (m.x0 + (j : Int)) y = q) := by rw [hq]; exact rowC_at hhas
              obtain ⟨P, hP⟩ : ∃ P, P = mixC (3 + 1) ((morphH kk F (r : Int)) (m.x0 + (j : Int)) y) noP := ⟨_, rfl⟩
              have PO : okP P := by rw [hP]; exact mixC_ok (morphH_ok FOK.out kk _ _ _) okP_no
              have PE : Hid (P = ⟨q.r, q.g, q.b, (turnV kk (mxN (rowM kk F (m.x0 - (r : Int)) y 3) r j))⟩) := by
                have e := mixC_step 3 (by omega) ((morphH kk F (r : Int)) (m.x0 + (j : Int)) y) hq
                have e2 := row_val kk F m.x0 y r 3 j
                rw [hP, e, ← e2]
                rfl
              have NX : Hid (putF m (rowC m (morphH kk F (r : Int)) 3 y (m.x0 + (j : Int))) (m.x0 + (j : Int)) y P = (rowC m (morphH kk F (r : Int)) 3 y (m.x0 + ((j + 1 : Nat) : Int)))) := by rw [hP, show m.x0 + ((j + 1 : Nat) : Int) = m.x0 + (j : Int) + 1 from by omega]; exact rowC_next hhas
              have hwr : IntKind.i64.wrap (m.x0 + (j : Int)) = m.x0 + (j : Int) := IntWalk.i64_in _ (by omega)
              clear hq hP
              go_wp2
              go_region_held3 (fun w' => w'.cell? ⟨w.heap.size + 1 + 1, 0, none⟩ = some (.int .i64 m.x0) ∧ w'.cell? ⟨w.heap.size + 1 + 1, 1, none⟩ = some (.int .i64 m.y0) ∧ w'.cell? ⟨o, 0, none⟩ = some (.int .i64 m.x0) ∧ w'.cell? ⟨o, 1, none⟩ = some (.int .i64 m.y0) ∧ w'.cell? ⟨o, 2, none⟩ = some (.int .i64 m.x1) ∧ w'.cell? ⟨o, 3, none⟩ = some (.int .i64 m.y1) ∧ w'.cell? ⟨o, 4, none⟩ = some (.slice a len cap)) (go_simp) (first
                | (go_at_call 67; (try rw [hwr]); (with_reducible refine Calls.mono (raster_AtIs _ _ _ _ _ _ _ _ q ?_ (by omega) HQ0) ?_); (exact Lib.hid (BufAt.grows HSRC.out (by repeat (first | exact Grows.refl _ | apply Grows.grow | apply Grows.alloc | apply Grows.drew)))); rintro e w' ⟨rfl, hgw⟩; first | (obtain ⟨gw, rfl⟩ := grows_of_grow hgw) | (obtain ⟨gw, rfl⟩ := hgw)))
              all_goals go_wp2_with (go_at_call 66; refine (raster_PutIs o m a len cap _ _ _ _ _ _ _ P _ (Lib.hid (hh.out.ob.grows (by repeat (first | exact Grows.refl _ | apply Grows.grow | apply Grows.alloc | apply Grows.drew)))) (Lib.hid (hh.out.buf.grows (by repeat (first | exact Grows.refl _ | apply Grows.grow | apply Grows.alloc | apply Grows.drew)))) (Lib.hid (hh.out.open_.grows (by repeat (first | exact Grows.refl _ | apply Grows.grow | apply Grows.alloc | apply Grows.drew)))) hs PO PE).mono ?_; rintro e w2 ⟨rfl, hg1, hb1, hp1⟩; rw [NX.out] at hb1; have ST2 := Lib.hid ((hh.out.grows (by exact (by repeat (first | exact Grows.refl _ | apply Grows.grow | apply Grows.alloc | apply Grows.drew)))).put AP.out hg1 hb1 hp1); clear hg1 hb1 hp1)
              all_goals go_roundw
              all_goals first
                | exact ⟨j + 1, by omega, by go_num, ST2.out.grows (by repeat (first | exact Grows.refl _ | apply Grows.grow | apply Grows.alloc | apply Grows.drew))⟩
                | (simp [intOf]; omega)
            · obtain rfl : lo = j := by omega
              go_wp2
              go_roundw
              case rel =>
                have st := hh.out
                rw [show m.x0 + (lo : Int) = m.x1 from by omega, rowC_turn] at st
                exact ⟨3 + 1, by omega, by go_num, _, _, st.grows (by repeat (first | exact Grows.refl _ | apply Grows.grow | apply Grows.alloc | apply Grows.drew))⟩
              case measure => simp [intOf]
    · go_wp2
      go_end0
      obtain ⟨fi, fo, s⟩ := hh.out
      have b := s.buf
      rw [rowC_last] at b
      exact ⟨rfl, s.by_, b, s.open_, ⟨_, s.inp⟩, _, s.out⟩
end Go.Proofs.YtklcmlbkhjcaiaaDoor
/- The walk of layer 9's column. -/


namespace Go.Proofs.YtklcmlbkhjcaiaaDoor
open Go.RowKit
set_option linter.unusedVariables false

set_option maxRecDepth 100000 in
set_option maxHeartbeats 12800000 in
theorem morph_col (kk : Bool) (o : Nat) (m rf : R) (a af : Option Addr) (len cap lf cf : Nat) (F : Img) (x : Int) (r bi bo li lo : Nat) (f0 g0 : Nat → Int) (w : World)
    (ho : Hid (Blk w o 35 #[.int .i64 m.x0, .int .i64 m.y0, .int .i64 m.x1, .int .i64 m.y1, .slice a len cap]))
    (h : Hid (BufAt w m a len cap (upToC m (morphV kk F (r : Int)) x m.y0 noF))) (hop : Hid (Open w a)) (hf : Hid (BufAt w rf af lf cf F)) (hi : Hid (U8Row w bi li f0)) (hq : Hid (U8Row w bo lo g0)) (AP : Hid (MorphAp w o w.heap.size (w.heap.size + 1) (w.heap.size + 1 + 1) a af lf bi bo))
    (hs : cntR m ≤ 140737488355328) (hsf : cntR rf ≤ 140737488355328) (hlo1 : (lo : Int) ≤ m.y1 - m.y0) (hlo2 : m.y1 - m.y0 ≤ (lo : Int)) (hli1 : li ≤ lo + 2 * r) (hli2 : lo + 2 * r ≤ li) (hr : r ≤ 255) (hlo3 : lo ≤ 50000) (hy0 : m.x0 ≤ x) (hy1 : x < m.x1) :
    Calls Tryd.prog 89 #[.pointer (some ⟨o, 0, none⟩), .agg #[.int .i64 rf.x0, .int .i64 rf.y0, .int .i64 rf.x1, .int .i64 rf.y1, .slice af lf cf], .int .i64 x, .int .i64 (r : Int), .int .u8 (flipB kk), .agg #[.slice (some ⟨bi, 0, none⟩) li li, .slice (some ⟨bo, 0, none⟩) lo lo]] w fun e w' => e = .returned (.tuple #[]) ∧ Chg (fun j => blkOf a = some j ∨ j = bi ∨ j = bo) w w' ∧ BufAt w' m a len cap (upToC m (morphV kk F (r : Int)) (x + 1) m.y0 noF) ∧ Open w' a ∧ (∃ f, U8Row w' bi li f) ∧ ∃ g, U8Row w' bo lo g := by
  have hm := h.out.most
  have hmf := hf.out.most
  have hg := h.out.good
  have hbd := hg.bd
  have hle := hg.le
  have holt := ho.out.lt
  obtain ⟨o0, o1, o2, o3, o4, of⟩ := ho.out.c5
  have FOK : Hid (∀ u v, okP (F u v)) := hf.out.fits.ok
  have fb := flipB_bd kk
  clear hg
  go_enter Tryd.func89, Tryd.ntmps89
  go_wp2
  refine wp_name ?_
  intro W0 hW0
  have GW : Hid (Grows w W0) := by rw [hW0]; exact (by repeat (first | exact Grows.refl _ | apply Grows.grow | apply Grows.alloc | apply Grows.drew))
  have ST : Hid (∃ fi fo, MorphSt w W0 o w.heap.size (w.heap.size + 1) (w.heap.size + 1 + 1) m a len cap (colC m (morphV kk F (r : Int)) 0 x m.y0) rf af lf cf F bi bo li lo fi fo) := by
    refine ⟨f0, g0, ho.out.grows GW.out, ?_, ?_, ?_, chg_grows GW.out _, by rw [colC_first]; exact h.out.grows GW.out, hop.out.grows GW.out, hf.out.grows GW.out, hi.out.grows GW.out, hq.out.grows GW.out⟩
    · rw [hW0]; exact (by unfold Blk; repeat (first | exact blk_at _ _ _ (by first | omega | (simp; done) | (simp; omega)) | refine (blk_past _ _ _ (by first | omega | (simp; done) | (simp; omega))).trans ?_ | refine (heap_grow _ _ _ (by first | omega | (simp; done) | (simp; omega))).trans ?_ | refine (blk_drew _ _).trans ?_))
    · rw [hW0]; exact (by unfold Blk; repeat (first | exact blk_at _ _ _ (by first | omega | (simp; done) | (simp; omega)) | refine (blk_past _ _ _ (by first | omega | (simp; done) | (simp; omega))).trans ?_ | refine (heap_grow _ _ _ (by first | omega | (simp; done) | (simp; omega))).trans ?_ | refine (blk_drew _ _).trans ?_))
    · rw [hW0]; exact (by unfold Blk; repeat (first | exact blk_at _ _ _ (by first | omega | (simp; done) | (simp; omega)) | refine (blk_past _ _ _ (by first | omega | (simp; done) | (simp; omega))).trans ?_ | refine (heap_grow _ _ _ (by first | omega | (simp; done) | (simp; omega))).trans ?_ | refine (blk_drew _ _).trans ?_))
  clear hW0 o0 o1 o2 o3 o4 of h hop hf ho hi hq
  go_loopw [22] (fun z wr => ∃ c : Nat, c ≤ 4 ∧ z = .int .i64 c ∧ Hid (∃ fi fo, MorphSt w wr o w.heap.size (w.heap.size + 1) (w.heap.size + 1 + 1) m a len cap (colC m (morphV kk F (r : Int)) c x m.y0) rf af lf cf F bi bo li lo fi fo)) (fun z _ => 4 - (intOf z).toNat)
  case atStart => exact ⟨0, by omega, rfl, ST.out⟩
  case round =>
    clear ST
    obtain ⟨c, hc, rfl, hh⟩ := hrel
    have hc5 : c = 0 ∨ c = 1 ∨ c = 2 ∨ c = 3 ∨ c = 4 := by omega
    rcases hc5 with rfl | rfl | rfl | rfl | rfl
    · obtain ⟨fi, fo, HP⟩ := hh.out
      have HP := Lib.hid HP
      obtain ⟨l0, l1, lf'⟩ := HP.out.lb.c2
      have ll := HP.out.lb.lt
      clear hh
      go_wp2
      clear l0 l1 lf' ll
      obtain ⟨wo, hwo⟩ : ∃ wo : World, wo = wr := ⟨_, rfl⟩
      clear hwo
      go_loopw [28] (fun z wr => ∃ j : Nat, j ≤ li ∧ z = .int .i64 j ∧ Hid (MorphSt w wr o w.heap.size (w.heap.size + 1) (w.heap.size + 1 + 1) m a len cap (colC m (morphV kk F (r : Int)) 0 x m.y0) rf af lf cf F bi bo li lo (fun t => if t < j then (colM kk F (m.y0 - (r : Int)) x 0) t else fi t) fo)) (fun z _ => li - (intOf z).toNat)
      case atStart => exact ⟨0, by omega, rfl, HP.out.congr (fun i _ => by rw [if_neg (by omega)]) (fun _ _ => rfl)⟩
      case round =>
        clear HP
        obtain ⟨j, hj, rfl, hh⟩ := hrel
        obtain ⟨l0, l1, lf'⟩ := hh.out.lb.c2
        have ll := hh.out.lb.lt
        by_cases hlt : j < li
        · obtain ⟨m0, m1, m2, m3, mf⟩ := hh.out.mb.c4
          have lm := hh.out.mb.lt
          obtain ⟨s0, s1, s2, s3, s4, sf⟩ := hh.out.fb.c5
          have ls := hh.out.fb.lt
          have i0 := hh.out.inp.cell hlt
          have if' := hh.out.inp.frozen
          have lb' := hh.out.inp.lt
          have HSRC := Lib.hid hh.out.src
          obtain ⟨q, hq⟩ : ∃ q, q = F x (m.y0 - (r : Int) + (j : Int)) := ⟨_, rfl⟩
          have HQ0 : Hid (F x (m.y0 - (r : Int) + (j : Int)) = q) := hq.symm
          have HV : Hid (turnV kk q.r = (colM kk F (m.y0 - (r : Int)) x 0) j) := by rw [hq]; rfl
          obtain ⟨⟨q0, q0'⟩, ⟨q1, q1'⟩, ⟨q2, q2'⟩, q3, q3'⟩ : okP q := by rw [hq]; exact FOK.out _ _
          clear hq
          go_wp2
          first | refine region_grow_tail2 17 (by kernel_rfl) (by kernel_rfl) ?_ | refine region_grow_tail 17 (by kernel_rfl) (by kernel_rfl) ?_
          simp only [List.take_succ_cons, List.take_zero, List.drop_succ_cons, List.drop_zero]
          repeat (go_big_quiet_step ((first | (go_at_call 67; exact grow_of (raster_AtIs _ _ _ _ _ _ _ _ _ (Lib.hid (BufAt.grows HSRC.out (by repeat (first | exact Grows.refl _ | apply Grows.grow | apply Grows.alloc | apply Grows.drew)))) (by omega) HQ0)))))
          refine wpQuiet_nil ?_
          rintro _ ⟨gb, rfl⟩
          go_wp2
          go_roundw
          case rel =>
            refine ⟨j + 1, by omega, by go_num, (((hh.out.grows (by exact (by repeat (first | exact Grows.refl _ | apply Grows.grow | apply Grows.alloc | apply Grows.drew)))).line AP.out j (turnV_bd kk (v := q.r) (by omega))).congr (fun t _ => ?_) (fun _ _ => rfl)).grows (by repeat (first | exact Grows.refl _ | apply Grows.grow | apply Grows.alloc | apply Grows.drew))⟩
            by_cases e : t = j
            · subst e; rw [if_pos rfl, if_pos (by omega)]; exact HV.out
            · rw [if_neg e]
              by_cases e2 : t < j
              · rw [if_pos e2, if_pos (by omega)]
              · rw [if_neg e2, if_neg (by omega)]
          case measure => simp [intOf]; omega
        · obtain rfl : li = j := by omega
          have HP := Lib.hid (hh.out.congr (fi' := (colM kk F (m.y0 - (r : Int)) x 0)) (fun t ht => by rw [if_pos ht]) (fun _ _ => rfl))
          clear hh
          go_wp2_with (go_at_call 102; refine (morph_along bi bo li lo r (colM kk F (m.y0 - (r : Int)) x 0) fo _ (Lib.hid (HP.out.inp.grows (by repeat (first | exact Grows.refl _ | apply Grows.grow | apply Grows.alloc | apply Grows.drew)))) (Lib.hid (HP.out.out.grows (by repeat (first | exact Grows.refl _ | apply Grows.grow | apply Grows.alloc | apply Grows.drew)))) (fun t => colM_bd FOK.out _ _ _ t) AP.out.hio (by omega) (by omega)).mono ?_; rintro e w1 ⟨rfl, g1, hi1, ho1⟩; have S1 := Lib.hid ((HP.out.grows (by exact (by repeat (first | exact Grows.refl _ | apply Grows.grow | apply Grows.alloc | apply Grows.drew)))).along AP.out g1 hi1 ho1); clear g1 hi1 ho1 HP l0 l1 lf' ll; obtain ⟨l0, l1, lf'⟩ := S1.out.lb.c2; have ll := S1.out.lb.lt)
          clear l0 l1 lf' ll
          obtain ⟨wo, hwo⟩ : ∃ wo : World, wo = wr := ⟨_, rfl⟩
          clear hwo
          go_loopw [58] (fun z wr => ∃ j : Nat, j ≤ lo ∧ z = .int .i64 j ∧ Hid (MorphSt w wr o w.heap.size (w.heap.size + 1) (w.heap.size + 1 + 1) m a len cap (colC m (morphV kk F (r : Int)) 0 x (m.y0 + (j : Int))) rf af lf cf F bi bo li lo (colM kk F (m.y0 - (r : Int)) x 0) (mxN (colM kk F (m.y0 - (r : Int)) x 0) r))) (fun z _ => lo - (intOf z).toNat)
          case atStart => exact ⟨0, by omega, rfl, by rw [show m.y0 + ((0 : Nat) : Int) = m.y0 from by omega]; exact S1.out.grows (by repeat (first | exact Grows.refl _ | apply Grows.grow | apply Grows.alloc | apply Grows.drew))⟩
          case round =>
            clear S1
            obtain ⟨j, hj, rfl, hh⟩ := hrel
            by_cases hlt : j < lo
            · have hhas : hasR m x (m.y0 + (j : Int)) = true := (hasR_iff _ _ _).2 (by omega)
              obtain ⟨m0, m1, m2, m3, mf⟩ := hh.out.mb.c4
              have lm := hh.out.mb.lt
              obtain ⟨o0, o1, o2, o3, o4, of⟩ := hh.out.ob.c5
              have lo' := hh.out.ob.lt
              have u0 := hh.out.out.cell hlt
              have lu := hh.out.out.lt
              obtain ⟨v0, v1⟩ := mxN_bd (f := (colM kk F (m.y0 - (r : Int)) x 0)) (fun t => colM_bd FOK.out _ _ _ t) r j
              have HSRC := Lib.hid hh.out.buf
              obtain ⟨q, hq⟩ : ∃ q, q = mixC 0 ((morphV kk F (r : Int)) x (m.y0 + (j : Int))) noP := ⟨_, rfl⟩
              have HQ0 : Hid ((colC m (morphV kk F (r : Int)) 0 x (m.y0 + (j : Int))) x (m.y0 + (j : Int)) = q) := by rw [hq]; exact colC_at hhas
              obtain ⟨P, hP⟩ : ∃ P, P = mixC (0 + 1) ((morphV kk F (r : Int)) x (m.y0 + (j : Int))) noP := ⟨_, rfl⟩
              have PO : okP P := by rw [hP]; exact mixC_ok (morphV_ok FOK.out kk _ _ _) okP_no
              have PE : Hid (P = ⟨(turnV kk (mxN (colM kk F (m.y0 - (r : Int)) x 0) r j)), q.g, q.b, q.a⟩) := by
                have e := mixC_step 0 (by omega) ((morphV kk F (r : Int)) x (m.y0 + (j : Int))) hq
                have e2 := col_val kk F m.y0 x r 0 j
                rw [hP, e, ← e2]
                rfl
              have NX : Hid (putF m (colC m (morphV kk F (r : Int)) 0 x (m.y0 + (j : Int))) x (m.y0 + (j : Int)) P = (colC m (morphV kk F (r : Int)) 0 x (m.y0 + ((j + 1 : Nat) : Int)))) := by rw [hP, show m.y0 + ((j + 1 : Nat) : Int) = m.y0 + (j : Int) + 1 from by omega]; exact colC_next hhas
              have hwr : IntKind.i64.wrap (m.y0 + (j : Int)) = m.y0 + (j : Int) := IntWalk.i64_in _ (by omega)
              clear hq hP
              go_wp2
              go_region_held3 (fun w' => w'.cell? ⟨w.heap.size + 1 + 1, 0, none⟩ = some (.int .i64 m.x0) ∧ w'.cell? ⟨w.heap.size + 1 + 1, 1, none⟩ = some (.int .i64 m.y0) ∧ w'.cell? ⟨o, 0, none⟩ = some (.int .i64 m.x0) ∧ w'.cell? ⟨o, 1, none⟩ = some (.int .i64 m.y0) ∧ w'.cell? ⟨o, 2, none⟩ = some (.int .i64 m.x1) ∧ w'.cell? ⟨o, 3, none⟩ = some (.int .i64 m.y1) ∧ w'.cell? ⟨o, 4, none⟩ = some (.slice a len cap)) (go_simp) (first
                | (go_at_call 67; (try rw [hwr]); (with_reducible refine Calls.mono (raster_AtIs _ _ _ _ _ _ _ _ q ?_ (by omega) HQ0) ?_); (exact Lib.hid (BufAt.grows HSRC.out (by repeat (first | exact Grows.refl _ | apply Grows.grow | apply Grows.alloc | apply Grows.drew)))); rintro e w' ⟨rfl, hgw⟩; first | (obtain ⟨gw, rfl⟩ := grows_of_grow hgw) | (obtain ⟨gw, rfl⟩ := hgw)))
              all_goals go_wp2_with (go_at_call 66; refine (raster_PutIs o m a len cap _ _ _ _ _ _ _ P _ (Lib.hid (hh.out.ob.grows (by repeat (first | exact Grows.refl _ | apply Grows.grow | apply Grows.alloc | apply Grows.drew)))) (Lib.hid (hh.out.buf.grows (by repeat (first | exact Grows.refl _ | apply Grows.grow | apply Grows.alloc | apply Grows.drew)))) (Lib.hid (hh.out.open_.grows (by repeat (first | exact Grows.refl _ | apply Grows.grow | apply Grows.alloc | apply Grows.drew)))) hs PO PE).mono ?_; rintro e w2 ⟨rfl, hg1, hb1, hp1⟩; rw [NX.out] at hb1; have ST2 := Lib.hid ((hh.out.grows (by exact (by repeat (first | exact Grows.refl _ | apply Grows.grow | apply Grows.alloc | apply Grows.drew)))).put AP.out hg1 hb1 hp1); clear hg1 hb1 hp1)
              all_goals go_roundw
              all_goals first
                | exact ⟨j + 1, by omega, by go_num, ST2.out.grows (by repeat (first | exact Grows.refl _ | apply Grows.grow | apply Grows.alloc | apply Grows.drew))⟩
                | (simp [intOf]; omega)
            · obtain rfl : lo = j := by omega
              go_wp2
              go_roundw
              case rel =>
                have st := hh.out
                rw [show m.y0 + (lo : Int) = m.y1 from by omega, colC_turn] at st
                exact ⟨0 + 1, by omega, by go_num, _, _, st.grows (by repeat (first | exact Grows.refl _ | apply Grows.grow | apply Grows.alloc | apply Grows.drew))⟩
              case measure => simp [intOf]
    · obtain ⟨fi, fo, HP⟩ := hh.out
      have HP := Lib.hid HP
      obtain ⟨l0, l1, lf'⟩ := HP.out.lb.c2
      have ll := HP.out.lb.lt
      clear hh
      go_wp2
      clear l0 l1 lf' ll
      obtain ⟨wo, hwo⟩ : ∃ wo : World, wo = wr := ⟨_, rfl⟩
      clear hwo
      go_loopw [28] (fun z wr => ∃ j : Nat, j ≤ li ∧ z = .int .i64 j ∧ Hid (MorphSt w wr o w.heap.size (w.heap.size + 1) (w.heap.size + 1 + 1) m a len cap (colC m (morphV kk F (r : Int)) 1 x m.y0) rf af lf cf F bi bo li lo (fun t => if t < j then (colM kk F (m.y0 - (r : Int)) x 1) t else fi t) fo)) (fun z _ => li - (intOf z).toNat)
      case atStart => exact ⟨0, by omega, rfl, HP.out.congr (fun i _ => by rw [if_neg (by omega)]) (fun _ _ => rfl)⟩
      case round =>
        clear HP
        obtain ⟨j, hj, rfl, hh⟩ := hrel
        obtain ⟨l0, l1, lf'⟩ := hh.out.lb.c2
        have ll := hh.out.lb.lt
        by_cases hlt : j < li
        · obtain ⟨m0, m1, m2, m3, mf⟩ := hh.out.mb.c4
          have lm := hh.out.mb.lt
          obtain ⟨s0, s1, s2, s3, s4, sf⟩ := hh.out.fb.c5
          have ls := hh.out.fb.lt
          have i0 := hh.out.inp.cell hlt
          have if' := hh.out.inp.frozen
          have lb' := hh.out.inp.lt
          have HSRC := Lib.hid hh.out.src
          obtain ⟨q, hq⟩ : ∃ q, q = F x (m.y0 - (r : Int) + (j : Int)) := ⟨_, rfl⟩
          have HQ0 : Hid (F x (m.y0 - (r : Int) + (j : Int)) = q) := hq.symm
          have HV : Hid (turnV kk q.g = (colM kk F (m.y0 - (r : Int)) x 1) j) := by rw [hq]; rfl
          obtain ⟨⟨q0, q0'⟩, ⟨q1, q1'⟩, ⟨q2, q2'⟩, q3, q3'⟩ : okP q := by rw [hq]; exact FOK.out _ _
          clear hq
          go_wp2
          first | refine region_grow_tail2 17 (by kernel_rfl) (by kernel_rfl) ?_ | refine region_grow_tail 17 (by kernel_rfl) (by kernel_rfl) ?_
          simp only [List.take_succ_cons, List.take_zero, List.drop_succ_cons, List.drop_zero]
          repeat (go_big_quiet_step ((first | (go_at_call 67; exact grow_of (raster_AtIs _ _ _ _ _ _ _ _ _ (Lib.hid (BufAt.grows HSRC.out (by repeat (first | exact Grows.refl _ | apply Grows.grow | apply Grows.alloc | apply Grows.drew)))) (by omega) HQ0)))))
          refine wpQuiet_nil ?_
          rintro _ ⟨gb, rfl⟩
          go_wp2
          go_roundw
          case rel =>
            refine ⟨j + 1, by omega, by go_num, (((hh.out.grows (by exact (by repeat (first | exact Grows.refl _ | apply Grows.grow | apply Grows.alloc | apply Grows.drew)))).line AP.out j (turnV_bd kk (v := q.g) (by omega))).congr (fun t _ => ?_) (fun _ _ => rfl)).grows (by repeat (first | exact Grows.refl _ | apply Grows.grow | apply Grows.alloc | apply Grows.drew))⟩
            by_cases e : t = j
            · subst e; rw [if_pos rfl, if_pos (by omega)]; exact HV.out
            · rw [if_neg e]
              by_cases e2 : t < j
              · rw [if_pos e2, if_pos (by omega)]
              · rw [if_neg e2, if_neg (by omega)]
          case measure => simp [intOf]; omega
        · obtain rfl : li = j := by omega
          have HP := Lib.hid (hh.out.congr (fi' := (colM kk F (m.y0 - (r : Int)) x 1)) (fun t ht => by rw [if_pos ht]) (fun _ _ => rfl))
          clear hh
          go_wp2_with (go_at_call 102; refine (morph_along bi bo li lo r (colM kk F (m.y0 - (r : Int)) x 1) fo _ (Lib.hid (HP.out.inp.grows (by repeat (first | exact Grows.refl _ | apply Grows.grow | apply Grows.alloc | apply Grows.drew)))) (Lib.hid (HP.out.out.grows (by repeat (first | exact Grows.refl _ | apply Grows.grow | apply Grows.alloc | apply Grows.drew)))) (fun t => colM_bd FOK.out _ _ _ t) AP.out.hio (by omega) (by omega)).mono ?_; rintro e w1 ⟨rfl, g1, hi1, ho1⟩; have S1 := Lib.hid ((HP.out.grows (by exact (by repeat (first | exact Grows.refl _ | apply Grows.grow | apply Grows.alloc | apply Grows.drew)))).along AP.out g1 hi1 ho1); clear g1 hi1 ho1 HP l0 l1 lf' ll; obtain ⟨l0, l1, lf'⟩ := S1.out.lb.c2; have ll := S1.out.lb.lt)
          clear l0 l1 lf' ll
          obtain ⟨wo, hwo⟩ : ∃ wo : World, wo = wr := ⟨_, rfl⟩
          clear hwo
          go_loopw [58] (fun z wr => ∃ j : Nat, j ≤ lo ∧ z = .int .i64 j ∧ Hid (MorphSt w wr o w.heap.size (w.heap.size + 1) (w.heap.size + 1 + 1) m a len cap (colC m (morphV kk F (r : Int)) 1 x (m.y0 + (j : Int))) rf af lf cf F bi bo li lo (colM kk F (m.y0 - (r : Int)) x 1) (mxN (colM kk F (m.y0 - (r : Int)) x 1) r))) (fun z _ => lo - (intOf z).toNat)
          case atStart => exact ⟨0, by omega, rfl, by rw [show m.y0 + ((0 : Nat) : Int) = m.y0 from by omega]; exact S1.out.grows (by repeat (first | exact Grows.refl _ | apply Grows.grow | apply Grows.alloc | apply Grows.drew))⟩
          case round =>
            clear S1
            obtain ⟨j, hj, rfl, hh⟩ := hrel
            by_cases hlt : j < lo
            · have hhas : hasR m x (m.y0 + (j : Int)) = true := (hasR_iff _ _ _).2 (by omega)
              obtain ⟨m0, m1, m2, m3, mf⟩ := hh.out.mb.c4
              have lm := hh.out.mb.lt
              obtain ⟨o0, o1, o2, o3, o4, of⟩ := hh.out.ob.c5
              have lo' := hh.out.ob.lt
              have u0 := hh.out.out.cell hlt
              have lu := hh.out.out.lt
              obtain ⟨v0, v1⟩ := mxN_bd (f := (colM kk F (m.y0 - (r : Int)) x 1)) (fun t => colM_bd FOK.out _ _ _ t) r j
              have HSRC := Lib.hid hh.out.buf
              obtain ⟨q, hq⟩ : ∃ q, q = mixC 1 ((morphV kk F (r : Int)) x (m.y0 + (j : Int))) noP := ⟨_, rfl⟩
              have HQ0 : Hid ((colC m (morphV kk F (r : Int)) 1 x (m.y0 + (j : Int))) x (m.y0 + (j : Int)) = q) := by rw [hq]; exact colC_at hhas
              obtain ⟨P, hP⟩ : ∃ P, P = mixC (1 + 1) ((morphV kk F (r : Int)) x (m.y0 + (j : Int))) noP := ⟨_, rfl⟩
              have PO : okP P := by rw [hP]; exact mixC_ok (morphV_ok FOK.out kk _ _ _) okP_no
              have PE : Hid (P = ⟨q.r, (turnV kk (mxN (colM kk F (m.y0 - (r : Int)) x 1) r j)), q.b, q.a⟩) := by
                have e := mixC_step 1 (by omega) ((morphV kk F (r : Int)) x (m.y0 + (j : Int))) hq
                have e2 := col_val kk F m.y0 x r 1 j
                rw [hP, e, ← e2]
                rfl
              have NX : Hid (putF m (colC m (morphV kk F (r : Int)) 1 x (m.y0 + (j : Int))) x (m.y0 + (j : Int)) P = (colC m (morphV kk F (r : Int)) 1 x (m.y0 + ((j + 1 : Nat) : Int)))) := by rw [hP, show m.y0 + ((j + 1 : Nat) : Int) = m.y0 + (j : Int) + 1 from by omega]; exact colC_next hhas
              have hwr : IntKind.i64.wrap (m.y0 + (j : Int)) = m.y0 + (j : Int) := IntWalk.i64_in _ (by omega)
              clear hq hP
              go_wp2
              go_region_held3 (fun w' => w'.cell? ⟨w.heap.size + 1 + 1, 0, none⟩ = some (.int .i64 m.x0) ∧ w'.cell? ⟨w.heap.size + 1 + 1, 1, none⟩ = some (.int .i64 m.y0) ∧ w'.cell? ⟨o, 0, none⟩ = some (.int .i64 m.x0) ∧ w'.cell? ⟨o, 1, none⟩ = some (.int .i64 m.y0) ∧ w'.cell? ⟨o, 2, none⟩ = some (.int .i64 m.x1) ∧ w'.cell? ⟨o, 3, none⟩ = some (.int .i64 m.y1) ∧ w'.cell? ⟨o, 4, none⟩ = some (.slice a len cap)) (go_simp) (first
                | (go_at_call 67; (try rw [hwr]); (with_reducible refine Calls.mono (raster_AtIs _ _ _ _ _ _ _ _ q ?_ (by omega) HQ0) ?_); (exact Lib.hid (BufAt.grows HSRC.out (by repeat (first | exact Grows.refl _ | apply Grows.grow | apply Grows.alloc | apply Grows.drew)))); rintro e w' ⟨rfl, hgw⟩; first | (obtain ⟨gw, rfl⟩ := grows_of_grow hgw) | (obtain ⟨gw, rfl⟩ := hgw)))
              all_goals go_wp2_with (go_at_call 66; refine (raster_PutIs o m a len cap _ _ _ _ _ _ _ P _ (Lib.hid (hh.out.ob.grows (by repeat (first | exact Grows.refl _ | apply Grows.grow | apply Grows.alloc | apply Grows.drew)))) (Lib.hid (hh.out.buf.grows (by repeat (first | exact Grows.refl _ | apply Grows.grow | apply Grows.alloc | apply Grows.drew)))) (Lib.hid (hh.out.open_.grows (by repeat (first | exact Grows.refl _ | apply Grows.grow | apply Grows.alloc | apply Grows.drew)))) hs PO PE).mono ?_; rintro e w2 ⟨rfl, hg1, hb1, hp1⟩; rw [NX.out] at hb1; have ST2 := Lib.hid ((hh.out.grows (by exact (by repeat (first | exact Grows.refl _ | apply Grows.grow | apply Grows.alloc | apply Grows.drew)))).put AP.out hg1 hb1 hp1); clear hg1 hb1 hp1)
              all_goals go_roundw
              all_goals first
                | exact ⟨j + 1, by omega, by go_num, ST2.out.grows (by repeat (first | exact Grows.refl _ | apply Grows.grow | apply Grows.alloc | apply Grows.drew))⟩
                | (simp [intOf]; omega)
            · obtain rfl : lo = j := by omega
              go_wp2
              go_roundw
              case rel =>
                have st := hh.out
                rw [show m.y0 + (lo : Int) = m.y1 from by omega, colC_turn] at st
                exact ⟨1 + 1, by omega, by go_num, _, _, st.grows (by repeat (first | exact Grows.refl _ | apply Grows.grow | apply Grows.alloc | apply Grows.drew))⟩
              case measure => simp [intOf]
    · obtain ⟨fi, fo, HP⟩ := hh.out
      have HP := Lib.hid HP
      obtain ⟨l0, l1, lf'⟩ := HP.out.lb.c2
      have ll := HP.out.lb.lt
      clear hh
      go_wp2
      clear l0 l1 lf' ll
      obtain ⟨wo, hwo⟩ : ∃ wo : World, wo = wr := ⟨_, rfl⟩
      clear hwo
      go_loopw [28] (fun z wr => ∃ j : Nat, j ≤ li ∧ z = .int .i64 j ∧ Hid (MorphSt w wr o w.heap.size (w.heap.size + 1) (w.heap.size + 1 + 1) m a len cap (colC m (morphV kk F (r : Int)) 2 x m.y0) rf af lf cf F bi bo li lo (fun t => if t < j then (colM kk F (m.y0 - (r : Int)) x 2) t else fi t) fo)) (fun z _ => li - (intOf z).toNat)
      case atStart => exact ⟨0, by omega, rfl, HP.out.congr (fun i _ => by rw [if_neg (by omega)]) (fun _ _ => rfl)⟩
      case round =>
        clear HP
        obtain ⟨j, hj, rfl, hh⟩ := hrel
        obtain ⟨l0, l1, lf'⟩ := hh.out.lb.c2
        have ll := hh.out.lb.lt
        by_cases hlt : j < li
        · obtain ⟨m0, m1, m2, m3, mf⟩ := hh.out.mb.c4
          have lm := hh.out.mb.lt
          obtain ⟨s0, s1, s2, s3, s4, sf⟩ := hh.out.fb.c5
          have ls := hh.out.fb.lt
          have i0 := hh.out.inp.cell hlt
          have if' := hh.out.inp.frozen
          have lb' := hh.out.inp.lt
          have HSRC := Lib.hid hh.out.src
          obtain ⟨q, hq⟩ : ∃ q, q = F x (m.y0 - (r : Int) + (j : Int)) := ⟨_, rfl⟩
          have HQ0 : Hid (F x (m.y0 - (r : Int) + (j : Int)) = q) := hq.symm
          have HV : Hid (turnV kk q.b = (colM kk F (m.y0 - (r : Int)) x 2) j) := by rw [hq]; rfl
          obtain ⟨⟨q0, q0'⟩, ⟨q1, q1'⟩, ⟨q2, q2'⟩, q3, q3'⟩ : okP q := by rw [hq]; exact FOK.out _ _
          clear hq
          go_wp2
          first | refine region_grow_tail2 17 (by kernel_rfl) (by kernel_rfl) ?_ | refine region_grow_tail 17 (by kernel_rfl) (by kernel_rfl) ?_
          simp only [List.take_succ_cons, List.take_zero, List.drop_succ_cons, List.drop_zero]
          repeat (go_big_quiet_step ((first | (go_at_call 67; exact grow_of (raster_AtIs _ _ _ _ _ _ _ _ _ (Lib.hid (BufAt.grows HSRC.out (by repeat (first | exact Grows.refl _ | apply Grows.grow | apply Grows.alloc | apply Grows.drew)))) (by omega) HQ0)))))
          refine wpQuiet_nil ?_
          rintro _ ⟨gb, rfl⟩
          go_wp2
          go_roundw
          case rel =>
            refine ⟨j + 1, by omega, by go_num, (((hh.out.grows (by exact (by repeat (first | exact Grows.refl _ | apply Grows.grow | apply Grows.alloc | apply Grows.drew)))).line AP.out j (turnV_bd kk (v := q.b) (by omega))).congr (fun t _ => ?_) (fun _ _ => rfl)).grows (by repeat (first | exact Grows.refl _ | apply Grows.grow | apply Grows.alloc | apply Grows.drew))⟩
            by_cases e : t = j
            · subst e; rw [if_pos rfl, if_pos (by omega)]; exact HV.out
            · rw [if_neg e]
              by_cases e2 : t < j
              · rw [if_pos e2, if_pos (by omega)]
              · rw [if_neg e2, if_neg (by omega)]
          case measure => simp [intOf]; omega
        · obtain rfl : li = j := by omega
          have HP := Lib.hid (hh.out.congr (fi' := (colM kk F (m.y0 - (r : Int)) x 2)) (fun t ht => by rw [if_pos ht]) (fun _ _ => rfl))
          clear hh
          go_wp2_with (go_at_call 102; refine (morph_along bi bo li lo r (colM kk F (m.y0 - (r : Int)) x 2) fo _ (Lib.hid (HP.out.inp.grows (by repeat (first | exact Grows.refl _ | apply Grows.grow | apply Grows.alloc | apply Grows.drew)))) (Lib.hid (HP.out.out.grows (by repeat (first | exact Grows.refl _ | apply Grows.grow | apply Grows.alloc | apply Grows.drew)))) (fun t => colM_bd FOK.out _ _ _ t) AP.out.hio (by omega) (by omega)).mono ?_; rintro e w1 ⟨rfl, g1, hi1, ho1⟩; have S1 := Lib.hid ((HP.out.grows (by exact (by repeat (first | exact Grows.refl _ | apply Grows.grow | apply Grows.alloc | apply Grows.drew)))).along AP.out g1 hi1 ho1); clear g1 hi1 ho1 HP l0 l1 lf' ll; obtain ⟨l0, l1, lf'⟩ := S1.out.lb.c2; have ll := S1.out.lb.lt)
          clear l0 l1 lf' ll
          obtain ⟨wo, hwo⟩ : ∃ wo : World, wo = wr := ⟨_, rfl⟩
          clear hwo
          go_loopw [58] (fun z wr => ∃ j : Nat, j ≤ lo ∧ z = .int .i64 j ∧ Hid (MorphSt w wr o w.heap.size (w.heap.size + 1) (w.heap.size + 1 + 1) m a len cap (colC m (morphV kk F (r : Int)) 2 x (m.y0 + (j : Int))) rf af lf cf F bi bo li lo (colM kk F (m.y0 - (r : Int)) x 2) (mxN (colM kk F (m.y0 - (r : Int)) x 2) r))) (fun z _ => lo - (intOf z).toNat)
          case atStart => exact ⟨0, by omega, rfl, by rw [show m.y0 + ((0 : Nat) : Int) = m.y0 from by omega]; exact S1.out.grows (by repeat (first | exact Grows.refl _ | apply Grows.grow | apply Grows.alloc | apply Grows.drew))⟩
          case round =>
            clear S1
            obtain ⟨j, hj, rfl, hh⟩ := hrel
            by_cases hlt : j < lo
            · have hhas : hasR m x (m.y0 + (j : Int)) = true := (hasR_iff _ _ _).2 (by omega)
              obtain ⟨m0, m1, m2, m3, mf⟩ := hh.out.mb.c4
              have lm := hh.out.mb.lt
              obtain ⟨o0, o1, o2, o3, o4, of⟩ := hh.out.ob.c5
              have lo' := hh.out.ob.lt
              have u0 := hh.out.out.cell hlt
              have lu := hh.out.out.lt
              obtain ⟨v0, v1⟩ := mxN_bd (f := (colM kk F (m.y0 - (r : Int)) x 2)) (fun t => colM_bd FOK.out _ _ _ t) r j
              have HSRC := Lib.hid hh.out.buf
              obtain ⟨q, hq⟩ : ∃ q, q = mixC 2 ((morphV kk F (r : Int)) x (m.y0 + (j : Int))) noP := ⟨_, rfl⟩
              have HQ0 : Hid ((colC m (morphV kk F (r : Int)) 2 x (m.y0 + (j : Int))) x (m.y0 + (j : Int)) = q) := by rw [hq]; exact colC_at hhas
              obtain ⟨P, hP⟩ : ∃ P, P = mixC (2 + 1) ((morphV kk F (r : Int)) x (m.y0 + (j : Int))) noP := ⟨_, rfl⟩
              have PO : okP P := by rw [hP]; exact mixC_ok (morphV_ok FOK.out kk _ _ _) okP_no
              have PE : Hid (P = ⟨q.r, q.g, (turnV kk (mxN (colM kk F (m.y0 - (r : Int)) x 2) r j)), q.a⟩) := by
                have e := mixC_step 2 (by omega) ((morphV kk F (r : Int)) x (m.y0 + (j : Int))) hq
                have e2 := col_val kk F m.y0 x r 2 j
                rw [hP, e, ← e2]
                rfl
              have NX : Hid (putF m (colC m (morphV kk F (r : Int)) 2 x (m.y0 + (j : Int))) x (m.y0 + (j : Int)) P = (colC m (morphV kk F (r : Int)) 2 x (m.y0 + ((j + 1 : Nat) : Int)))) := by rw [hP, show m.y0 + ((j + 1 : Nat) : Int) = m.y0 + (j : Int) + 1 from by omega]; exact colC_next hhas
              have hwr : IntKind.i64.wrap (m.y0 + (j : Int)) = m.y0 + (j : Int) := IntWalk.i64_in _ (by omega)
              clear hq hP
              go_wp2
              go_region_held3 (fun w' => w'.cell? ⟨w.heap.size + 1 + 1, 0, none⟩ = some (.int .i64 m.x0) ∧ w'.cell? ⟨w.heap.size + 1 + 1, 1, none⟩ = some (.int .i64 m.y0) ∧ w'.cell? ⟨o, 0, none⟩ = some (.int .i64 m.x0) ∧ w'.cell? ⟨o, 1, none⟩ = some (.int .i64 m.y0) ∧ w'.cell? ⟨o, 2, none⟩ = some (.int .i64 m.x1) ∧ w'.cell? ⟨o, 3, none⟩ = some (.int .i64 m.y1) ∧ w'.cell? ⟨o, 4, none⟩ = some (.slice a len cap)) (go_simp) (first
                | (go_at_call 67; (try rw [hwr]); (with_reducible refine Calls.mono (raster_AtIs _ _ _ _ _ _ _ _ q ?_ (by omega) HQ0) ?_); (exact Lib.hid (BufAt.grows HSRC.out (by repeat (first | exact Grows.refl _ | apply Grows.grow | apply Grows.alloc | apply Grows.drew)))); rintro e w' ⟨rfl, hgw⟩; first | (obtain ⟨gw, rfl⟩ := grows_of_grow hgw) | (obtain ⟨gw, rfl⟩ := hgw)))
              all_goals go_wp2_with (go_at_call 66; refine (raster_PutIs o m a len cap _ _ _ _ _ _ _ P _ (Lib.hid (hh.out.ob.grows (by repeat (first | exact Grows.refl _ | apply Grows.grow | apply Grows.alloc | apply Grows.drew)))) (Lib.hid (hh.out.buf.grows (by repeat (first | exact Grows.refl _ | apply Grows.grow | apply Grows.alloc | apply Grows.drew)))) (Lib.hid (hh.out.open_.grows (by repeat (first | exact Grows.refl _ | apply Grows.grow | apply Grows.alloc | apply Grows.drew)))) hs PO PE).mono ?_; rintro e w2 ⟨rfl, hg1, hb1, hp1⟩; rw [NX.out] at hb1; have ST2 := Lib.hid ((hh.out.grows (by exact (by repeat (first | exact Grows.refl _ | apply Grows.grow | apply Grows.alloc | apply Grows.drew)))).put AP.out hg1 hb1 hp1); clear hg1 hb1 hp1)
              all_goals go_roundw
              all_goals first
                | exact ⟨j + 1, by omega, by go_num, ST2.out.grows (by repeat (first | exact Grows.refl _ | apply Grows.grow | apply Grows.alloc | apply Grows.drew))⟩
                | (simp [intOf]; omega)
            · obtain rfl : lo = j := by omega
              go_wp2
              go_roundw
              case rel =>
                have st := hh.out
                rw [show m.y0 + (lo : Int) = m.y1 from by omega, colC_turn] at st
                exact ⟨2 + 1, by omega, by go_num, _, _, st.grows (by repeat (first | exact Grows.refl _ | apply Grows.grow | apply Grows.alloc | apply Grows.drew))⟩
              case measure => simp [intOf]
    · obtain ⟨fi, fo, HP⟩ := hh.out
      have HP := Lib.hid HP
      obtain ⟨l0, l1, lf'⟩ := HP.out.lb.c2
      have ll := HP.out.lb.lt
      clear hh
      go_wp2
      clear l0 l1 lf' ll
      obtain ⟨wo, hwo⟩ : ∃ wo : World, wo = wr := ⟨_, rfl⟩
      clear hwo
      go_loopw [28] (fun z wr => ∃ j : Nat, j ≤ li ∧ z = .int .i64 j ∧ Hid (MorphSt w wr o w.heap.size (w.heap.size + 1) (w.heap.size + 1 + 1) m a len cap (colC m (morphV kk F (r : Int)) 3 x m.y0) rf af lf cf F bi bo li lo (fun t => if t < j then (colM kk F (m.y0 - (r : Int)) x 3) t else fi t) fo)) (fun z _ => li - (intOf z).toNat)
      case atStart => exact ⟨0, by omega, rfl, HP.out.congr (fun i _ => by rw [if_neg (by omega)]) (fun _ _ => rfl)⟩
      case round =>
        clear HP
        obtain ⟨j, hj, rfl, hh⟩ := hrel
        obtain ⟨l0, l1, lf'⟩ := hh.out.lb.c2
        have ll := hh.out.lb.lt
        by_cases hlt : j < li
        · obtain ⟨m0, m1, m2, m3, mf⟩ := hh.out.mb.c4
          have lm := hh.out.mb.lt
          obtain ⟨s0, s1, s2, s3, s4, sf⟩ := hh.out.fb.c5
          have ls := hh.out.fb.lt
          have i0 := hh.out.inp.cell hlt
          have if' := hh.out.inp.frozen
          have lb' := hh.out.inp.lt
          have HSRC := Lib.hid hh.out.src
          obtain ⟨q, hq⟩ : ∃ q, q = F x (m.y0 - (r : Int) + (j : Int)) := ⟨_, rfl⟩
          have HQ0 : Hid (F x (m.y0 - (r : Int) + (j : Int)) = q) := hq.symm
          have HV : Hid (turnV kk q.a = (colM kk F (m.y0 - (r : Int)) x 3) j) := by rw [hq]; rfl
          obtain ⟨⟨q0, q0'⟩, ⟨q1, q1'⟩, ⟨q2, q2'⟩, q3, q3'⟩ : okP q := by rw [hq]; exact FOK.out _ _
          clear hq
          go_wp2
          first | refine region_grow_tail2 17 (by kernel_rfl) (by kernel_rfl) ?_ | refine region_grow_tail 17 (by kernel_rfl) (by kernel_rfl) ?_
          simp only [List.take_succ_cons, List.take_zero, List.drop_succ_cons, List.drop_zero]
          repeat (go_big_quiet_step ((first | (go_at_call 67; exact grow_of (raster_AtIs _ _ _ _ _ _ _ _ _ (Lib.hid (BufAt.grows HSRC.out (by repeat (first | exact Grows.refl _ | apply Grows.grow | apply Grows.alloc | apply Grows.drew)))) (by omega) HQ0)))))
          refine wpQuiet_nil ?_
          rintro _ ⟨gb, rfl⟩
          go_wp2
          go_roundw
          case rel =>
            refine ⟨j + 1, by omega, by go_num, (((hh.out.grows (by exact (by repeat (first | exact Grows.refl _ | apply Grows.grow | apply Grows.alloc | apply Grows.drew)))).line AP.out j (turnV_bd kk (v := q.a) (by omega))).congr (fun t _ => ?_) (fun _ _ => rfl)).grows (by repeat (first | exact Grows.refl _ | apply Grows.grow | apply Grows.alloc | apply Grows.drew))⟩
            by_cases e : t = j
            · subst e; rw [if_pos rfl, if_pos (by omega)]; exact HV.out
            · rw [if_neg e]
              by_cases e2 : t < j
              · rw [if_pos e2, if_pos (by omega)]
              · rw [if_neg e2, if_neg (by omega)]
          case measure => simp [intOf]; omega
        · obtain rfl : li = j := by omega
          have HP := Lib.hid (hh.out.congr (fi' := (colM kk F (m.y0 - (r : Int)) x 3)) (fun t ht => by rw [if_pos ht]) (fun _ _ => rfl))
          clear hh
          go_wp2_with (go_at_call 102; refine (morph_along bi bo li lo r (colM kk F (m.y0 - (r : Int)) x 3) fo _ (Lib.hid (HP.out.inp.grows (by repeat (first | exact Grows.refl _ | apply Grows.grow | apply Grows.alloc | apply Grows.drew)))) (Lib.hid (HP.out.out.grows (by repeat (first | exact Grows.refl _ | apply Grows.grow | apply Grows.alloc | apply Grows.drew)))) (fun t => colM_bd FOK.out _ _ _ t) AP.out.hio (by omega) (by omega)).mono ?_; rintro e w1 ⟨rfl, g1, hi1, ho1⟩; have S1 := Lib.hid ((HP.out.grows (by exact (by repeat (first | exact Grows.refl _ | apply Grows.grow | apply Grows.alloc | apply Grows.drew)))).along AP.out g1 hi1 ho1); clear g1 hi1 ho1 HP l0 l1 lf' ll; obtain ⟨l0, l1, lf'⟩ := S1.out.lb.c2; have ll := S1.out.lb.lt)
          clear l0 l1 lf' ll
          obtain ⟨wo, hwo⟩ : ∃ wo : World, wo = wr := ⟨_, rfl⟩
          clear hwo
          go_loopw [58] (fun z wr => ∃ j : Nat, j ≤ lo ∧ z = .int .i64 j ∧ Hid (MorphSt w wr o w.heap.size (w.heap.size + 1) (w.heap.size + 1 + 1) m a len cap (colC m (morphV kk F (r : Int)) 3 x (m.y0 + (j : Int))) rf af lf cf F bi bo li lo (colM kk F (m.y0 - (r : Int)) x 3) (mxN (colM kk F (m.y0 - (r : Int)) x 3) r))) (fun z _ => lo - (intOf z).toNat)
          case atStart => exact ⟨0, by omega, rfl, by rw [show m.y0 + ((0 : Nat) : Int) = m.y0 from by omega]; exact S1.out.grows (by repeat (first | exact Grows.refl _ | apply Grows.grow | apply Grows.alloc | apply Grows.drew))⟩
          case round =>
            clear S1
            obtain ⟨j, hj, rfl, hh⟩ := hrel
            by_cases hlt : j < lo
            · have hhas : hasR m x (m.y0 + (j : Int)) = true := (hasR_iff _ _ _).2 (by omega)
              obtain ⟨m0, m1, m2, m3, mf⟩ := hh.out.mb.c4
              have lm := hh.out.mb.lt
              obtain ⟨o0, o1, o2, o3, o4, of⟩ := hh.out.ob.c5
              have lo' := hh.out.ob.lt
              have u0 := hh.out.out.cell hlt
              have lu := hh.out.out.lt
              obtain ⟨v0, v1⟩ := mxN_bd (f := (colM kk F (m.y0 - (r : Int)) x 3)) (fun t => colM_bd FOK.out _ _ _ t) r j
              have HSRC := Lib.hid hh.out.buf
              obtain ⟨q, hq⟩ : ∃ q, q = mixC 3 ((morphV kk F (r : Int)) x (m.y0 + (j : Int))) noP := ⟨_, rfl⟩
              have HQ0 : Hid ((colC m (morphV kk F (r : Int)) 3 x (m.y0 + (j : Int))) x (m.y0 + (j : Int)) = q) := by rw [hq]; exact colC_at hhas
              obtain ⟨P, hP⟩ : ∃ P, P = mixC (3 + 1) ((morphV kk F (r : Int)) x (m.y0 + (j : Int))) noP := ⟨_, rfl⟩
              have PO : okP P := by rw [hP]; exact mixC_ok (morphV_ok FOK.out kk _ _ _) okP_no
              have PE : Hid (P = ⟨q.r, q.g, q.b, (turnV kk (mxN (colM kk F (m.y0 - (r : Int)) x 3) r j))⟩) := by
                have e := mixC_step 3 (by omega) ((morphV kk F (r : Int)) x (m.y0 + (j : Int))) hq
                have e2 := col_val kk F m.y0 x r 3 j
                rw [hP, e, ← e2]
                rfl
              have NX : Hid (putF m (colC m (morphV kk F (r : Int)) 3 x (m.y0 + (j : Int))) x (m.y0 + (j : Int)) P = (colC m (morphV kk F (r : Int)) 3 x (m.y0 + ((j + 1 : Nat) : Int)))) := by rw [hP, show m.y0 + ((j + 1 : Nat) : Int) = m.y0 + (j : Int) + 1 from by omega]; exact colC_next hhas
              have hwr : IntKind.i64.wrap (m.y0 + (j : Int)) = m.y0 + (j : Int) := IntWalk.i64_in _ (by omega)
              clear hq hP
              go_wp2
              go_region_held3 (fun w' => w'.cell? ⟨w.heap.size + 1 + 1, 0, none⟩ = some (.int .i64 m.x0) ∧ w'.cell? ⟨w.heap.size + 1 + 1, 1, none⟩ = some (.int .i64 m.y0) ∧ w'.cell? ⟨o, 0, none⟩ = some (.int .i64 m.x0) ∧ w'.cell? ⟨o, 1, none⟩ = some (.int .i64 m.y0) ∧ w'.cell? ⟨o, 2, none⟩ = some (.int .i64 m.x1) ∧ w'.cell? ⟨o, 3, none⟩ = some (.int .i64 m.y1) ∧ w'.cell? ⟨o, 4, none⟩ = some (.slice a len cap)) (go_simp) (first
                | (go_at_call 67; (try rw [hwr]); (with_reducible refine Calls.mono (raster_AtIs _ _ _ _ _ _ _ _ q ?_ (by omega) HQ0) ?_); (exact Lib.hid (BufAt.grows HSRC.out (by repeat (first | exact Grows.refl _ | apply Grows.grow | apply Grows.alloc | apply Grows.drew)))); rintro e w' ⟨rfl, hgw⟩; first | (obtain ⟨gw, rfl⟩ := grows_of_grow hgw) | (obtain ⟨gw, rfl⟩ := hgw)))
              all_goals go_wp2_with (go_at_call 66; refine (raster_PutIs o m a len cap _ _ _ _ _ _ _ P _ (Lib.hid (hh.out.ob.grows (by repeat (first | exact Grows.refl _ | apply Grows.grow | apply Grows.alloc | apply Grows.drew)))) (Lib.hid (hh.out.buf.grows (by repeat (first | exact Grows.refl _ | apply Grows.grow | apply Grows.alloc | apply Grows.drew)))) (Lib.hid (hh.out.open_.grows (by repeat (first | exact Grows.refl _ | apply Grows.grow | apply Grows.alloc | apply Grows.drew)))) hs PO PE).mono ?_; rintro e w2 ⟨rfl, hg1, hb1, hp1⟩; rw [NX.out] at hb1; have ST2 := Lib.hid ((hh.out.grows (by exact (by repeat (first | exact Grows.refl _ | apply Grows.grow | apply Grows.alloc | apply Grows.drew)))).put AP.out hg1 hb1 hp1); clear hg1 hb1 hp1)
              all_goals go_roundw
              all_goals first
                | exact ⟨j + 1, by omega, by go_num, ST2.out.grows (by repeat (first | exact Grows.refl _ | apply Grows.grow | apply Grows.alloc | apply Grows.drew))⟩
                | (simp [intOf]; omega)
            · obtain rfl : lo = j := by omega
              go_wp2
              go_roundw
              case rel =>
                have st := hh.out
                rw [show m.y0 + (lo : Int) = m.y1 from by omega, colC_turn] at st
                exact ⟨3 + 1, by omega, by go_num, _, _, st.grows (by repeat (first | exact Grows.refl _ | apply Grows.grow | apply Grows.alloc | apply Grows.drew))⟩
              case measure => simp [intOf]
    · go_wp2
      go_end0
      obtain ⟨fi, fo, s⟩ := hh.out
      have b := s.buf
      rw [colC_last] at b
      exact ⟨rfl, s.by_, b, s.open_, ⟨_, s.inp⟩, _, s.out⟩
end Go.Proofs.YtklcmlbkhjcaiaaDoor
