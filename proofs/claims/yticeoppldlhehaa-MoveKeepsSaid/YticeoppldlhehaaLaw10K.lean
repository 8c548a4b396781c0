/- The walk of chapter 10's law MoveKeeps. -/
import Derived.Test.YticeoppldlhehaaMerge
import Derived.Test.YticeoppldlhehaaKeep3
import Derived.Test.YticeoppldlhehaaLaw10B
namespace Go.Proofs.Yticeoppldlhehaa
open Go.RowKit
set_option linter.unusedVariables false

theorem own_ne {w : World} {base : Nat} {e : TypeId} {size n : Nat} {a : Option Addr} {c : Nat} {xs : List Value} (h : w.ownsRow base e size (.slice a n c) n xs) {m : Nat} {t : TypeId} {cs : Array Value} (hb : Blk w m t cs) (ht : t ≠ e) : blkOf a ≠ some m := by
  rcases h.2 with ⟨hv, _⟩ | ⟨b, c', cur, hv, _, hg, _⟩
  · injection hv with hv
    subst hv
    intro e; cases e
  · injection hv with hv
    subst hv
    intro e2
    have e3 : b = m := by simpa using e2
    subst e3
    have e4 := hg.symm.trans hb
    injection e4 with e4
    injection e4 with _ e5 _
    exact ht e5.symm
theorem Ret3.over {W0 : World} {t : R} {I : Img} {a : Option Addr} {l p : Nat} {w w' : World} {r2 : R} {a2 : Option Addr} {l2 p2 : Nat} {F2 : Img} {B2 : Nat} (h : Ret3 W0 t I a l p w) (H : BufAt w' r2 a2 l2 p2 F2 ∧ Open w' a2 ∧ ∀ x, a2 = some x → B2 ≤ x.block) (g : Grows w w') : Ret3 W0 t I a l p w' := h.grows g
theorem Grows.of_drew {w w' : World} (h : Grows w w') : Grows w.drew w' := by
  obtain ⟨g, rfl⟩ := h
  exact ⟨g, (grow_drew ..).symm⟩
set_option maxRecDepth 100000 in
set_option maxHeartbeats 25600000 in
theorem moveKeeps_walk (r1 : R) (a1 : Option Addr) (l1 p1 : Nat) (f1 : Nat → P4) (s : R) (w : World) (hb1 : IsPix w a1 l1 p1 f1) :
    Calls Try.prog 6 #[.agg #[.int .i64 r1.x0, .int .i64 r1.y0, .int .i64 r1.x1, .int .i64 r1.y1, .slice a1 l1 p1], .agg #[.int .i64 s.x0, .int .i64 s.y0, .int .i64 s.x1, .int .i64 s.y1]] w fun e w' => e = .returned (.bool true) ∧ Grows w w' := by
  have m1 := hb1.le
  have m1' := hb1.most
  replace hb1 := Lib.hid hb1
  cases c_HR10 : right10 l1 r1 f1
  case false =>
    have HR10 := Lib.hid c_HR10
    clear c_HR10
    go_enter Try.func6, Try.ntmps6
    go_wp2_with ((first | (go_at_call 9; refine (awake10 _ ).mono ?_; rintro e w' ⟨rfl, hgw⟩; first | (obtain ⟨gw, rfl⟩ := grows_of_grow hgw) | (obtain ⟨gw, rfl⟩ := hgw)) | (go_at_call 10; (with_reducible refine (ref10_RightIs _ _ _ _ _ _ _ (Lib.hid (hb1.out.grows (by repeat (first | exact Grows.refl _ | apply Grows.grow | apply Grows.alloc | apply Grows.drew)))) HR10).mono ?_); rintro e w' ⟨rfl, hgw⟩; first | (obtain ⟨gw, rfl⟩ := grows_of_grow hgw) | (obtain ⟨gw, rfl⟩ := hgw))))
    go_ret
    exact ⟨rfl, (by repeat (first | exact Grows.refl _ | apply Grows.grow | apply Grows.alloc | apply Grows.drew))⟩
  have HR10 := Lib.hid c_HR10
  cases c_HB101 : fineB s 0 0 400
  case false =>
    have HB101 := Lib.hid c_HB101
    clear c_HB101 c_HR10
    go_enter Try.func6, Try.ntmps6
    go_wp2_with ((first | (go_at_call 9; refine (awake10 _ ).mono ?_; rintro e w' ⟨rfl, hgw⟩; first | (obtain ⟨gw, rfl⟩ := grows_of_grow hgw) | (obtain ⟨gw, rfl⟩ := hgw)) | (go_at_call 10; (with_reducible refine (ref10_RightIs _ _ _ _ _ _ _ (Lib.hid (hb1.out.grows (by repeat (first | exact Grows.refl _ | apply Grows.grow | apply Grows.alloc | apply Grows.drew)))) HR10).mono ?_); rintro e w' ⟨rfl, hgw⟩; first | (obtain ⟨gw, rfl⟩ := grows_of_grow hgw) | (obtain ⟨gw, rfl⟩ := hgw)) | (go_at_call 11; (with_reducible refine (law10_boxIs _ _ _ HB101).mono ?_); rintro e w' ⟨rfl, hgw⟩; first | (obtain ⟨gw, rfl⟩ := grows_of_grow hgw) | (obtain ⟨gw, rfl⟩ := hgw))))
    go_ret
    exact ⟨rfl, (by repeat (first | exact Grows.refl _ | apply Grows.grow | apply Grows.alloc | apply Grows.drew))⟩
  have HB101 := Lib.hid c_HB101
  obtain ⟨k1, g1, n1, -⟩ := right10_yes c_HR10
  obtain ⟨hsm, -, -, hrs, -, k4, -⟩ := fine_cnt c_HB101 (by omega)
  obtain ⟨F, hF⟩ : ∃ F, F = imgOf r1 f1 := ⟨_, rfl⟩
  have X1 : Hid (BufAt w r1 a1 l1 p1 F) := by rw [hF]; exact bufAt_of g1 n1 hb1.out
  have H1 : Hid (∀ W, Grows w W → Calls Try.prog 22 #[.agg #[.int .i64 r1.x0, .int .i64 r1.y0, .int .i64 r1.x1, .int .i64 r1.y1, .slice a1 l1 p1], .agg #[.int .i64 s.x0, .int .i64 s.y0, .int .i64 s.x1, .int .i64 s.y1], .int .i64 0, .int .i64 0] W (RetBuf W (someR s) (moveF s 0 0 F))) := fun W g => move_Offset s r1 a1 l1 p1 F 0 0 W (X1.out.grows g) hrs (by omega) (by omega) (by omega) (by omega)
  have H2 : Hid (∀ W, Grows w W → Calls Try.prog 24 #[.agg #[.int .i64 r1.x0, .int .i64 r1.y0, .int .i64 r1.x1, .int .i64 r1.y1, .slice a1 l1 p1], .agg #[.int .i64 s.x0, .int .i64 s.y0, .int .i64 s.x1, .int .i64 s.y1], .agg #[.int .i64 s.x0, .int .i64 s.y0, .int .i64 s.x1, .int .i64 s.y1]] W (RetBuf W (someR s) (copyF (someR s) s 0 0 noF F))) := fun W g => move_Clip s s r1 a1 l1 p1 F W (X1.out.grows g) hrs hrs (by omega) (by omega)
  have H3 : Hid (∀ W n, Grows w W ∧ Blk W n 26 #[.int .i64 r1.x0, .int .i64 r1.y0, .int .i64 r1.x1, .int .i64 r1.y1, .slice a1 l1 p1] → Calls Try.prog 28 #[.slice (some ⟨n, 0, none⟩) 1 1, .agg #[.int .i64 s.x0, .int .i64 s.y0, .int .i64 s.x1, .int .i64 s.y1]] W (RetBuf W (someR s) (mergeF (someR s) (fun _ => F) 1))) := fun W n g => move_Merge s (some ⟨n, 0, none⟩) 1 1 _ (fun _ => F) W (Lib.hid (bufs1 g.2 (X1.out.grows g.1))) (fun i _ => ⟨X1.out.grows g.1, by simp only; omega⟩) hrs (by omega)
  obtain ⟨I1, hI1⟩ : ∃ B, B = moveF s 0 0 F := ⟨_, rfl⟩
  obtain ⟨I2, hI2⟩ : ∃ B, B = copyF (someR s) s 0 0 noF F := ⟨_, rfl⟩
  obtain ⟨I3, hI3⟩ : ∃ B, B = mergeF (someR s) (fun _ => F) 1 := ⟨_, rfl⟩
  obtain ⟨t, ht⟩ : ∃ t, t = someR s := ⟨_, rfl⟩
  rw [← hI1, ← ht] at H1
  rw [← hI2, ← ht] at H2
  rw [← hI3, ← ht] at H3
  rw [← ht] at k4
  have G1 := Lib.hid g1
  have N1 := Lib.hid n1
  clear g1 n1 hF hI1 hI2 hI3 ht hsm hrs c_HR10 c_HB101
  go_enter Try.func6, Try.ntmps6
  go_wp2_with ((first | (go_at_call 9; refine (awake10 _ ).mono ?_; rintro e w' ⟨rfl, hgw⟩; first | (obtain ⟨gw, rfl⟩ := grows_of_grow hgw) | (obtain ⟨gw, rfl⟩ := hgw)) | (go_at_call 10; (with_reducible refine (ref10_RightIs _ _ _ _ _ _ _ (Lib.hid (hb1.out.grows (by repeat (first | exact Grows.refl _ | apply Grows.grow | apply Grows.alloc | apply Grows.drew)))) HR10).mono ?_); rintro e w' ⟨rfl, hgw⟩; first | (obtain ⟨gw, rfl⟩ := grows_of_grow hgw) | (obtain ⟨gw, rfl⟩ := hgw)) | (go_at_call 11; (with_reducible refine (law10_boxIs _ _ _ HB101).mono ?_); rintro e w' ⟨rfl, hgw⟩; first | (obtain ⟨gw, rfl⟩ := grows_of_grow hgw) | (obtain ⟨gw, rfl⟩ := hgw))))
  rename_i K hK
  have TAIL : ∀ (nw : Nat) (W0 : World) (aw : Option Addr) (cw : Nat) (u4 u6 u7 u8 u9 u10 u11 u12 u13 u14 u15 u16 u17 u18 u19 u20 u21 u22 u23 u24 u25 u26 u27 u28 u29 u30 u31 u32 u33 u34 u35 u36 u37 u38 u39 u40 u41 u42 u43 u44 u45 u46 u47 u48 u49 u50 u51 u52 u53 u54 u55 u56 u57 u58 u59 u60 u61 u62 u63 u64 u65 u66 u67 : Value), w.heap.size + 1 < nw → Hid (Grows w W0) → Hid (Blk W0 w.heap.size 26 #[.int .i64 r1.x0, .int .i64 r1.y0, .int .i64 r1.x1, .int .i64 r1.y1, .slice a1 l1 p1]) → Hid (Blk W0 (w.heap.size + 1) 23 #[.int .i64 s.x0, .int .i64 s.y0, .int .i64 s.x1, .int .i64 s.y1]) → Hid (Blk W0 nw 26 #[.int .i64 r1.x0, .int .i64 r1.y0, .int .i64 r1.x1, .int .i64 r1.y1, .slice aw l1 cw]) → Hid (BufAt W0 r1 aw l1 cw F) → Hid (∀ k, blkOf aw = some k → k < W0.heap.size) → K { tmps := #[.agg #[.int .i64 r1.x0, .int .i64 r1.y0, .int .i64 r1.x1, .int .i64 r1.y1, .slice a1 l1 p1], .agg #[.int .i64 s.x0, .int .i64 s.y0, .int .i64 s.x1, .int .i64 s.y1], .pointer (some ⟨w.heap.size, 0, none⟩), .pointer (some ⟨w.heap.size + 1, 0, none⟩), u4, .pointer (some ⟨nw, 0, none⟩), u6, u7, u8, u9, u10, u11, u12, u13, u14, u15, u16, u17, u18, u19, u20, u21, u22, u23, u24, u25, u26, u27, u28, u29, u30, u31, u32, u33, u34, u35, u36, u37, u38, u39, u40, u41, u42, u43, u44, u45, u46, u47, u48, u49, u50, u51, u52, u53, u54, u55, u56, u57, u58, u59, u60, u61, u62, u63, u64, u65, u66, u67], defers := [] } W0 := by
    intro nw W0 aw cw u4 u6 u7 u8 u9 u10 u11 u12 u13 u14 u15 u16 u17 u18 u19 u20 u21 u22 u23 u24 u25 u26 u27 u28 u29 u30 u31 u32 u33 u34 u35 u36 u37 u38 u39 u40 u41 u42 u43 u44 u45 u46 u47 u48 u49 u50 u51 u52 u53 u54 u55 u56 u57 u58 u59 u60 u61 u62 u63 u64 u65 u66 u67 hnw1 GW D0 D1 D2 XB HAW
    refine hK _ _ ?_
    clear hK
    obtain ⟨b0, b1, b2, b3, b4, bf⟩ := D0.out.c5
    have lb := D0.out.lt
    obtain ⟨s0, s1, s2, s3, sf⟩ := D1.out.c4
    have ls := D1.out.lt
    have lw := D2.out.lt
    go_wp2
    rename_i K2 hK2
    have TAIL2 : ∀ (W1 : World) (al : Option Addr) (G : Nat → Bf) (u4 u7 u8 u9 u10 u11 u12 u13 u14 u15 u16 u17 u18 u19 u20 u21 u22 u23 u24 u25 u26 u27 u28 u29 u30 u31 u32 u33 u34 u35 u36 u37 u38 u39 u40 u41 u42 u43 u44 u45 u46 u47 u48 u49 u50 u51 u52 u53 u54 u55 u56 u57 u58 u59 u60 u61 u62 u63 u64 u65 u66 u67 : Value), Hid (K3 W0 W1 al G) → K2 { tmps := #[.agg #[.int .i64 r1.x0, .int .i64 r1.y0, .int .i64 r1.x1, .int .i64 r1.y1, .slice a1 l1 p1], .agg #[.int .i64 s.x0, .int .i64 s.y0, .int .i64 s.x1, .int .i64 s.y1], .pointer (some ⟨w.heap.size, 0, none⟩), .pointer (some ⟨w.heap.size + 1, 0, none⟩), u4, .pointer (some ⟨nw, 0, none⟩), .slice al 3 3, u7, u8, u9, u10, u11, u12, u13, u14, u15, u16, u17, u18, u19, u20, u21, u22, u23, u24, u25, u26, u27, u28, u29, u30, u31, u32, u33, u34, u35, u36, u37, u38, u39, u40, u41, u42, u43, u44, u45, u46, u47, u48, u49, u50, u51, u52, u53, u54, u55, u56, u57, u58, u59, u60, u61, u62, u63, u64, u65, u66, u67], defers := [] } W1 := by
      intro W1 al G u4 u7 u8 u9 u10 u11 u12 u13 u14 u15 u16 u17 u18 u19 u20 u21 u22 u23 u24 u25 u26 u27 u28 u29 u30 u31 u32 u33 u34 u35 u36 u37 u38 u39 u40 u41 u42 u43 u44 u45 u46 u47 u48 u49 u50 u51 u52 u53 u54 u55 u56 u57 u58 u59 u60 u61 u62 u63 u64 u65 u66 u67 KS
      refine hK2 _ _ ?_
      clear hK2 b0 b1 b2 b3 b4 bf s0 s1 s2 s3 sf H1 H2 H3
      go_wp2
      go_loopw [7] (fun i wr => ∃ k : Nat, k ≤ 3 ∧ i = .int .i64 k ∧ Hid (K3 W0 wr al G)) (fun i _ => 3 - (intOf i).toNat)
      case atStart => exact ⟨0, by omega, rfl, KS.out⟩
      case round =>
        clear KS
        obtain ⟨i, hi, rfl, hh⟩ := hrel
        by_cases hlt : i < 3
        · obtain ⟨li, hli⟩ : ∃ z, z = (G i).len := ⟨_, rfl⟩
          obtain ⟨ai, hai⟩ : ∃ z, z = (G i).a := ⟨_, rfl⟩
          obtain ⟨ci, hci⟩ : ∃ z, z = (G i).cap := ⟨_, rfl⟩
          have mi : li ≤ ci ∧ ci ≤ 9223372036854775807 := by obtain ⟨f, hf⟩ := hh.out.px hlt; rw [hli, hci]; exact ⟨hf.le, hf.most⟩
          have HE := Lib.hid (And.intro hli (And.intro hai hci))
          clear hli hai hci
          go_wp2
          go_loopw [8] (fun z wr => ∃ k : Nat, k ≤ li ∧ z = .int .i64 k ∧ Hid (K3 W0 wr al G)) (fun z _ => li - (intOf z).toNat)
          case atStart => exact ⟨0, by omega, rfl, hh.out⟩
          case round =>
            clear hh
            obtain ⟨k, hk, rfl, hh⟩ := hrel
            obtain ⟨b4', off4, rfl, hb4, c4⟩ := hh.out.at hlt
            rw [← HE.out.1, ← HE.out.2.1, ← HE.out.2.2] at c4
            by_cases hlk : k < li
            · obtain ⟨f, hf⟩ := hh.out.px hlt
              rw [← HE.out.1, ← HE.out.2.1, ← HE.out.2.2] at hf
              obtain ⟨b', off', rfl, hb', -, c0, c1, c2, c3⟩ := hf.px hlk
              have hfz := (hh.out.open_ i hlt _ HE.out.2.1.symm).2
              have NI := Lib.hid (hh.out.nine hlt HE.out.2.1.symm (k := k) (by have := HE.out.1; omega))
              clear hf
              go_wp2
              go_roundw
              case rel => exact ⟨k + 1, by omega, by go_num, NI.out⟩
              case measure => simp [intOf]; omega
            · obtain rfl : k = li := by omega
              go_wp2
              go_roundw
              case rel => exact ⟨i + 1, by omega, by go_num, hh.out⟩
              case measure => simp [intOf]; omega
        · obtain rfl : i = 3 := by omega
          have GR := Lib.hid (GW.out.trans hh.out.gr)
          have d0 := D0.out.grows hh.out.gr
          obtain ⟨x0, x1, x2, x3, x4, xf⟩ := d0.c5
          have lx := d0.lt
          have d2 := D2.out.grows hh.out.gr
          obtain ⟨y0, y1, y2, y3, y4, yf⟩ := d2.c5
          have ly := d2.lt
          have S1 := Lib.hid (X1.out.grows GR.out)
          have S2 := Lib.hid (XB.out.grows hh.out.gr)
          clear d0 d2
          go_wp2_with (go_at_call 20; (with_reducible refine Calls.mono (ref05_Same r1 a1 aw l1 p1 l1 cw F _ S1 S2) ?_); rintro e w' ⟨rfl, hgw⟩; first | (obtain ⟨gw, rfl⟩ := grows_of_grow hgw) | (obtain ⟨gw, rfl⟩ := hgw))
          go_ret
          exact ⟨rfl, GR.out.trans (by repeat (first | exact Grows.refl _ | apply Grows.grow | apply Grows.alloc | apply Grows.drew))⟩
    clear hK2
    go_region_held3 (fun w' => w'.cell? ⟨w.heap.size, 0, none⟩ = some (.int .i64 r1.x0) ∧ w'.cell? ⟨w.heap.size, 1, none⟩ = some (.int .i64 r1.y0) ∧ w'.cell? ⟨w.heap.size, 2, none⟩ = some (.int .i64 r1.x1) ∧ w'.cell? ⟨w.heap.size, 3, none⟩ = some (.int .i64 r1.y1) ∧ w'.cell? ⟨w.heap.size, 4, none⟩ = some (.slice a1 l1 p1) ∧ w'.cell? ⟨w.heap.size + 1, 0, none⟩ = some (.int .i64 s.x0) ∧ w'.cell? ⟨w.heap.size + 1, 1, none⟩ = some (.int .i64 s.y0) ∧ w'.cell? ⟨w.heap.size + 1, 2, none⟩ = some (.int .i64 s.x1) ∧ w'.cell? ⟨w.heap.size + 1, 3, none⟩ = some (.int .i64 s.y1)) (first | exact ⟨(D0.out.grows (by repeat (first | exact Grows.refl _ | apply Grows.grow | apply Grows.alloc | apply Grows.drew))).cell 0, (D0.out.grows (by repeat (first | exact Grows.refl _ | apply Grows.grow | apply Grows.alloc | apply Grows.drew))).cell 1, (D0.out.grows (by repeat (first | exact Grows.refl _ | apply Grows.grow | apply Grows.alloc | apply Grows.drew))).cell 2, (D0.out.grows (by repeat (first | exact Grows.refl _ | apply Grows.grow | apply Grows.alloc | apply Grows.drew))).cell 3, (D0.out.grows (by repeat (first | exact Grows.refl _ | apply Grows.grow | apply Grows.alloc | apply Grows.drew))).cell 4, (D1.out.grows (by repeat (first | exact Grows.refl _ | apply Grows.grow | apply Grows.alloc | apply Grows.drew))).cell 0, (D1.out.grows (by repeat (first | exact Grows.refl _ | apply Grows.grow | apply Grows.alloc | apply Grows.drew))).cell 1, (D1.out.grows (by repeat (first | exact Grows.refl _ | apply Grows.grow | apply Grows.alloc | apply Grows.drew))).cell 2, (D1.out.grows (by repeat (first | exact Grows.refl _ | apply Grows.grow | apply Grows.alloc | apply Grows.drew))).cell 3⟩ | go_simp) (first
      | (go_at_call 22; (with_reducible refine Calls.mono (H1.out _ ?_) ?_); (exact GW.out.trans (by repeat (first | exact Grows.refl _ | apply Grows.grow | apply Grows.alloc | apply Grows.drew))); rintro e w' ⟨aq1, lq1, pq1, rfl, hgw, Hq1⟩; (first | (obtain ⟨g1, rfl⟩ := grows_of_grow hgw) | (obtain ⟨g1, rfl⟩ := hgw)); (try simp only [grow_drew] at Hq1); have R1 := Lib.hid (Ret3.of (W0 := W0) (by repeat (first | exact Grows.refl _ | apply Grows.grow | apply Grows.alloc | apply Grows.drew)) (by first | assumption | (repeat (first | exact Grows.refl _ | assumption | with_reducible apply Grows.of_drew | apply Grows.grow | apply Grows.alloc | apply Grows.drew))) Hq1.out))
      | (go_at_call 24; (with_reducible refine Calls.mono (H2.out _ ?_) ?_); (exact GW.out.trans (by repeat (first | exact Grows.refl _ | apply Grows.grow | apply Grows.alloc | apply Grows.drew))); rintro e w' ⟨aq2, lq2, pq2, rfl, hgw, Hq2⟩; (first | (obtain ⟨g2, rfl⟩ := grows_of_grow hgw) | (obtain ⟨g2, rfl⟩ := hgw)); (try simp only [grow_drew] at Hq2); have R1 := Lib.hid (R1.out.over Hq2.out (by first | assumption | (repeat (first | exact Grows.refl _ | assumption | with_reducible apply Grows.of_drew | apply Grows.grow | apply Grows.alloc | apply Grows.drew)))); have R2 := Lib.hid (Ret3.of (W0 := W0) (by repeat (first | exact Grows.refl _ | apply Grows.grow | apply Grows.alloc | apply Grows.drew)) (by first | assumption | (repeat (first | exact Grows.refl _ | assumption | with_reducible apply Grows.of_drew | apply Grows.grow | apply Grows.alloc | apply Grows.drew))) Hq2.out))
      | (go_at_call 28; (with_reducible refine Calls.mono (H3.out _ _ ?_) ?_); (exact ⟨GW.out.trans (by repeat (first | exact Grows.refl _ | apply Grows.grow | apply Grows.alloc | apply Grows.drew)), (by unfold Blk; repeat (first | exact blk_at _ _ _ (by first | omega | (simp; done) | (simp; omega)) | refine (blk_past _ _ _ (by first | omega | (simp; done) | (simp; omega))).trans ?_ | refine (heap_grow _ _ _ (by first | omega | (simp; done) | (simp; omega))).trans ?_ | refine (blk_drew _ _).trans ?_))⟩); rintro e w' ⟨aq3, lq3, pq3, rfl, hgw, Hq3⟩; (first | (obtain ⟨g3, rfl⟩ := grows_of_grow hgw) | (obtain ⟨g3, rfl⟩ := hgw)); (try simp only [grow_drew] at Hq3); have R1 := Lib.hid (R1.out.over Hq3.out (by first | assumption | (repeat (first | exact Grows.refl _ | assumption | with_reducible apply Grows.of_drew | apply Grows.grow | apply Grows.alloc | apply Grows.drew)))); have R2 := Lib.hid (R2.out.over Hq3.out (by first | assumption | (repeat (first | exact Grows.refl _ | assumption | with_reducible apply Grows.of_drew | apply Grows.grow | apply Grows.alloc | apply Grows.drew)))); have R3 := Lib.hid (Ret3.of (W0 := W0) (by repeat (first | exact Grows.refl _ | apply Grows.grow | apply Grows.alloc | apply Grows.drew)) (by first | assumption | (repeat (first | exact Grows.refl _ | assumption | with_reducible apply Grows.of_drew | apply Grows.grow | apply Grows.alloc | apply Grows.drew))) Hq3.out)))
    · exact TAIL2 _ _ _ _ _ _ _ _ _ _ _ _ _ _ _ _ _ _ _ _ _ _ _ _ _ _ _ _ _ _ _ _ _ _ _ _ _ _ _ _ _ _ _ _ _ _ _ _ _ _ _ _ _ _ _ _ _ _ _ _ _ _ _ _ _ (Lib.hid (K3.made R1.out R2.out R3.out (by repeat (first | exact Grows.refl _ | apply Grows.grow | apply Grows.alloc | apply Grows.drew)) (by simp <;> omega) (by unfold Blk; repeat (first | exact blk_at _ _ _ (by first | omega | (simp; done) | (simp; omega)) | refine (blk_past _ _ _ (by first | omega | (simp; done) | (simp; omega))).trans ?_ | refine (heap_grow _ _ _ (by first | omega | (simp; done) | (simp; omega))).trans ?_ | refine (blk_drew _ _).trans ?_))))
    · exact TAIL2 _ _ _ _ _ _ _ _ _ _ _ _ _ _ _ _ _ _ _ _ _ _ _ _ _ _ _ _ _ _ _ _ _ _ _ _ _ _ _ _ _ _ _ _ _ _ _ _ _ _ _ _ _ _ _ _ _ _ _ _ _ _ _ _ _ (Lib.hid (K3.made R1.out R2.out R3.out (by repeat (first | exact Grows.refl _ | apply Grows.grow | apply Grows.alloc | apply Grows.drew)) (by simp <;> omega) (by unfold Blk; repeat (first | exact blk_at _ _ _ (by first | omega | (simp; done) | (simp; omega)) | refine (blk_past _ _ _ (by first | omega | (simp; done) | (simp; omega))).trans ?_ | refine (heap_grow _ _ _ (by first | omega | (simp; done) | (simp; omega))).trans ?_ | refine (blk_drew _ _).trans ?_))))
    · exact TAIL2 _ _ _ _ _ _ _ _ _ _ _ _ _ _ _ _ _ _ _ _ _ _ _ _ _ _ _ _ _ _ _ _ _ _ _ _ _ _ _ _ _ _ _ _ _ _ _ _ _ _ _ _ _ _ _ _ _ _ _ _ _ _ _ _ _ (Lib.hid (K3.made R1.out R2.out R3.out (by repeat (first | exact Grows.refl _ | apply Grows.grow | apply Grows.alloc | apply Grows.drew)) (by simp <;> omega) (by unfold Blk; repeat (first | exact blk_at _ _ _ (by first | omega | (simp; done) | (simp; omega)) | refine (blk_past _ _ _ (by first | omega | (simp; done) | (simp; omega))).trans ?_ | refine (heap_grow _ _ _ (by first | omega | (simp; done) | (simp; omega))).trans ?_ | refine (blk_drew _ _).trans ?_))))
  go_region_held3 (fun w' => w'.cell? ⟨w.heap.size, 0, none⟩ = some (.int .i64 r1.x0) ∧ w'.cell? ⟨w.heap.size, 1, none⟩ = some (.int .i64 r1.y0) ∧ w'.cell? ⟨w.heap.size, 2, none⟩ = some (.int .i64 r1.x1) ∧ w'.cell? ⟨w.heap.size, 3, none⟩ = some (.int .i64 r1.y1) ∧ w'.cell? ⟨w.heap.size, 4, none⟩ = some (.slice a1 l1 p1)) (go_simp) (first
    | (refine step_append_row (by rfl) (.tmp 24) (.tmp 26) (by rfl) (w.heap.size + 1 + 1 + gw.news.size + 1) (w.heap.size + 1 + 1 + gw.news.size + 1) (by rfl) (by unfold Blk; repeat (first | exact blk_at _ _ _ (by first | omega | (simp; done) | (simp; omega)) | refine (blk_past _ _ _ (by first | omega | (simp; done) | (simp; omega))).trans ?_ | refine (heap_grow _ _ _ (by first | omega | (simp; done) | (simp; omega))).trans ?_ | refine (blk_drew _ _).trans ?_)) (by omega) a1 l1 p1 _ (by rfl) (X1.out.pix.grows (by repeat (first | exact Grows.refl _ | apply Grows.grow | apply Grows.alloc | apply Grows.drew))) (by omega) ?_; intro aw cw w1 h1 h2; have B7 : Blk w1 (w.heap.size + 1 + 1 + gw.news.size) 26 #[.int .i64 0, .int .i64 0, .int .i64 0, .int .i64 0, .slice none 0 0] := (by { refine Blk.grown ?_ h2 (fun e => by { injection e with e; omega }); exact (by unfold Blk; repeat (first | exact blk_at _ _ _ (by first | omega | (simp; done) | (simp; omega)) | refine (blk_past _ _ _ (by first | omega | (simp; done) | (simp; omega))).trans ?_ | refine (heap_grow _ _ _ (by first | omega | (simp; done) | (simp; omega))).trans ?_ | refine (blk_drew _ _).trans ?_)) }); obtain ⟨e0, e1, e2, e3, e4, ef⟩ := B7.c5; have le := B7.lt; replace B7 := Lib.hid B7; have B0 : Blk w1 w.heap.size 26 #[.int .i64 r1.x0, .int .i64 r1.y0, .int .i64 r1.x1, .int .i64 r1.y1, .slice a1 l1 p1] := (by { refine Blk.grown ?_ h2 (fun e => by { injection e with e; omega }); exact (by unfold Blk; repeat (first | exact blk_at _ _ _ (by first | omega | (simp; done) | (simp; omega)) | refine (blk_past _ _ _ (by first | omega | (simp; done) | (simp; omega))).trans ?_ | refine (heap_grow _ _ _ (by first | omega | (simp; done) | (simp; omega))).trans ?_ | refine (blk_drew _ _).trans ?_)) }); have B1 : Blk w1 (w.heap.size + 1) 23 #[.int .i64 s.x0, .int .i64 s.y0, .int .i64 s.x1, .int .i64 s.y1] := (by { refine Blk.grown ?_ h2 (fun e => by { injection e with e; omega }); exact (by unfold Blk; repeat (first | exact blk_at _ _ _ (by first | omega | (simp; done) | (simp; omega)) | refine (blk_past _ _ _ (by first | omega | (simp; done) | (simp; omega))).trans ?_ | refine (heap_grow _ _ _ (by first | omega | (simp; done) | (simp; omega))).trans ?_ | refine (blk_drew _ _).trans ?_)) }); have GA : Hid (Grows w w1) := Grows.grown (w1 := _) (by exact (by repeat (first | exact Grows.refl _ | apply Grows.grow | apply Grows.alloc | apply Grows.drew))) h2 (fun k hk => by { injection hk with hk; omega }); obtain ⟨b0, b1, b2, b3, b4, bf⟩ := B0.c5; have lb := B0.lt; replace B0 := Lib.hid B0; replace B1 := Lib.hid B1; have hsz := h2.size; simp at hsz; replace h1 := Lib.hid h1; clear h2)
    | (refine step_append_row (w := World.alloc _ (.cells #[.int .i64 0, .int .i64 0, .int .i64 0, .int .i64 0, .slice none 0 0] 26)) (by rfl) (.tmp 24) (.tmp 26) (by rfl) (w.heap.size + 1 + 1 + gw.news.size) (w.heap.size + 1 + 1 + gw.news.size) (by rfl) (by unfold Blk; repeat (first | exact blk_at _ _ _ (by first | omega | (simp; done) | (simp; omega)) | refine (blk_past _ _ _ (by first | omega | (simp; done) | (simp; omega))).trans ?_ | refine (heap_grow _ _ _ (by first | omega | (simp; done) | (simp; omega))).trans ?_ | refine (blk_drew _ _).trans ?_)) (by omega) a1 l1 p1 _ (by rfl) (X1.out.pix.grows (by repeat (first | exact Grows.refl _ | apply Grows.grow | apply Grows.alloc | apply Grows.drew))) (by omega) ?_; intro aw cw w1 h1 h2; have B7 : Blk w1 (w.heap.size + 1 + 1 + gw.news.size + 1) 26 #[.int .i64 0, .int .i64 0, .int .i64 0, .int .i64 0, .slice none 0 0] := (by { refine Blk.grown ?_ h2 (fun e => by { injection e with e; omega }); exact (by unfold Blk; repeat (first | exact blk_at _ _ _ (by first | omega | (simp; done) | (simp; omega)) | refine (blk_past _ _ _ (by first | omega | (simp; done) | (simp; omega))).trans ?_ | refine (heap_grow _ _ _ (by first | omega | (simp; done) | (simp; omega))).trans ?_ | refine (blk_drew _ _).trans ?_)) }); obtain ⟨e0, e1, e2, e3, e4, ef⟩ := B7.c5; have le := B7.lt; replace B7 := Lib.hid B7; have B0 : Blk w1 w.heap.size 26 #[.int .i64 r1.x0, .int .i64 r1.y0, .int .i64 r1.x1, .int .i64 r1.y1, .slice a1 l1 p1] := (by { refine Blk.grown ?_ h2 (fun e => by { injection e with e; omega }); exact (by unfold Blk; repeat (first | exact blk_at _ _ _ (by first | omega | (simp; done) | (simp; omega)) | refine (blk_past _ _ _ (by first | omega | (simp; done) | (simp; omega))).trans ?_ | refine (heap_grow _ _ _ (by first | omega | (simp; done) | (simp; omega))).trans ?_ | refine (blk_drew _ _).trans ?_)) }); have B1 : Blk w1 (w.heap.size + 1) 23 #[.int .i64 s.x0, .int .i64 s.y0, .int .i64 s.x1, .int .i64 s.y1] := (by { refine Blk.grown ?_ h2 (fun e => by { injection e with e; omega }); exact (by unfold Blk; repeat (first | exact blk_at _ _ _ (by first | omega | (simp; done) | (simp; omega)) | refine (blk_past _ _ _ (by first | omega | (simp; done) | (simp; omega))).trans ?_ | refine (heap_grow _ _ _ (by first | omega | (simp; done) | (simp; omega))).trans ?_ | refine (blk_drew _ _).trans ?_)) }); have GA : Hid (Grows w w1) := Grows.grown (w1 := _) (by exact (by repeat (first | exact Grows.refl _ | apply Grows.grow | apply Grows.alloc | apply Grows.drew))) h2 (fun k hk => by { injection hk with hk; omega }); obtain ⟨b0, b1, b2, b3, b4, bf⟩ := B0.c5; have lb := B0.lt; replace B0 := Lib.hid B0; replace B1 := Lib.hid B1; have hsz := h2.size; simp at hsz; replace h1 := Lib.hid h1; clear h2)
    | (refine step_append_row (by rfl) (.tmp 24) (.tmp 26) (by rfl) (w.heap.size + 1 + 1 + gw.news.size) (w.heap.size + 1 + 1 + gw.news.size) (by rfl) (by unfold Blk; repeat (first | exact blk_at _ _ _ (by first | omega | (simp; done) | (simp; omega)) | refine (blk_past _ _ _ (by first | omega | (simp; done) | (simp; omega))).trans ?_ | refine (heap_grow _ _ _ (by first | omega | (simp; done) | (simp; omega))).trans ?_ | refine (blk_drew _ _).trans ?_)) (by omega) a1 l1 p1 _ (by rfl) (X1.out.pix.grows (by repeat (first | exact Grows.refl _ | apply Grows.grow | apply Grows.alloc | apply Grows.drew))) (by omega) ?_; intro aw cw w1 h1 h2; have B0 : Blk w1 w.heap.size 26 #[.int .i64 r1.x0, .int .i64 r1.y0, .int .i64 r1.x1, .int .i64 r1.y1, .slice a1 l1 p1] := (by { refine Blk.grown ?_ h2 (fun e => by { injection e with e; omega }); exact (by unfold Blk; repeat (first | exact blk_at _ _ _ (by first | omega | (simp; done) | (simp; omega)) | refine (blk_past _ _ _ (by first | omega | (simp; done) | (simp; omega))).trans ?_ | refine (heap_grow _ _ _ (by first | omega | (simp; done) | (simp; omega))).trans ?_ | refine (blk_drew _ _).trans ?_)) }); have B1 : Blk w1 (w.heap.size + 1) 23 #[.int .i64 s.x0, .int .i64 s.y0, .int .i64 s.x1, .int .i64 s.y1] := (by { refine Blk.grown ?_ h2 (fun e => by { injection e with e; omega }); exact (by unfold Blk; repeat (first | exact blk_at _ _ _ (by first | omega | (simp; done) | (simp; omega)) | refine (blk_past _ _ _ (by first | omega | (simp; done) | (simp; omega))).trans ?_ | refine (heap_grow _ _ _ (by first | omega | (simp; done) | (simp; omega))).trans ?_ | refine (blk_drew _ _).trans ?_)) }); have GA : Hid (Grows w w1) := Grows.grown (w1 := _) (by exact (by repeat (first | exact Grows.refl _ | apply Grows.grow | apply Grows.alloc | apply Grows.drew))) h2 (fun k hk => by { injection hk with hk; omega }); obtain ⟨b0, b1, b2, b3, b4, bf⟩ := B0.c5; have lb := B0.lt; replace B0 := Lib.hid B0; replace B1 := Lib.hid B1; have hsz := h2.size; simp at hsz; replace h1 := Lib.hid h1; clear h2))
  · have hl := own_lt h1.out
    refine then_name ?_
    intro W0 hW0
    have D0 : Hid (Blk W0 w.heap.size 26 #[.int .i64 r1.x0, .int .i64 r1.y0, .int .i64 r1.x1, .int .i64 r1.y1, .slice a1 l1 p1]) := by rw [hW0]; exact B0.out.grows (by repeat (first | exact Grows.refl _ | apply Grows.grow | apply Grows.alloc | apply Grows.drew))
    have D1 : Hid (Blk W0 (w.heap.size + 1) 23 #[.int .i64 s.x0, .int .i64 s.y0, .int .i64 s.x1, .int .i64 s.y1]) := by rw [hW0]; exact B1.out.grows (by repeat (first | exact Grows.refl _ | apply Grows.grow | apply Grows.alloc | apply Grows.drew))
    have D2 : Hid (Blk W0 (w1.heap.size) 26 #[.int .i64 r1.x0, .int .i64 r1.y0, .int .i64 r1.x1, .int .i64 r1.y1, .slice aw l1 cw]) := by rw [hW0]; exact (by unfold Blk; repeat (first | exact blk_at _ _ _ (by first | omega | (simp; done) | (simp; omega)) | refine (blk_past _ _ _ (by first | omega | (simp; done) | (simp; omega))).trans ?_ | refine (heap_grow _ _ _ (by first | omega | (simp; done) | (simp; omega))).trans ?_ | refine (blk_drew _ _).trans ?_))
    have XW : Hid (W0.ownsRow (w.heap.size + 1 + 1 + gw.news.size) 32 4 (.slice aw l1 cw) l1 (cellsP (fun i => F (ptX r1 i) (ptY r1 i)) l1)) := by rw [hW0]; exact ownsRow_grows h1.out (by repeat (first | exact Grows.refl _ | apply Grows.grow | apply Grows.alloc | apply Grows.drew))
    have GW : Hid (Grows w W0) := by rw [hW0]; exact GA.out.trans (by repeat (first | exact Grows.refl _ | apply Grows.grow | apply Grows.alloc | apply Grows.drew))
    obtain ⟨nw, hnw⟩ : ∃ n, n = w1.heap.size := ⟨_, rfl⟩
    have hnw1 : w.heap.size + 1 < nw := by omega
    rw [← hnw] at D2 ⊢
    have XB : Hid (BufAt W0 r1 aw l1 cw F) := bufAt_copied G1.out X1.out.fits N1.out XW.out
    have HAW : Hid (∀ k, blkOf aw = some k → k < W0.heap.size) := fun k hk => (own_lt XW.out k hk).2
    clear hW0 hnw hl h1 GA B0 B1 XW hsz b0 b1 b2 b3 b4 bf lb
    exact TAIL nw W0 aw cw _ _ _ _ _ _ _ _ _ _ _ _ _ _ _ _ _ _ _ _ _ _ _ _ _ _ _ _ _ _ _ _ _ _ _ _ _ _ _ _ _ _ _ _ _ _ _ _ _ _ _ _ _ _ _ _ _ _ _ _ _ _ _ hnw1 GW D0 D1 D2 XB HAW
  · have hl := own_lt h1.out
    refine then_name ?_
    intro W0 hW0
    have D0 : Hid (Blk W0 w.heap.size 26 #[.int .i64 r1.x0, .int .i64 r1.y0, .int .i64 r1.x1, .int .i64 r1.y1, .slice a1 l1 p1]) := by rw [hW0]; exact B0.out.far5 (by omega) _ _ _ _ _
    have D1 : Hid (Blk W0 (w.heap.size + 1) 23 #[.int .i64 s.x0, .int .i64 s.y0, .int .i64 s.x1, .int .i64 s.y1]) := by rw [hW0]; exact B1.out.far5 (by omega) _ _ _ _ _
    have D2 : Hid (Blk W0 (w.heap.size + 1 + 1 + gw.news.size + 1) 26 #[.int .i64 r1.x0, .int .i64 r1.y0, .int .i64 r1.x1, .int .i64 r1.y1, .slice aw l1 cw]) := by rw [hW0]; exact B7.out.set5 _ _ _ _ _
    have XW : Hid (W0.ownsRow (w.heap.size + 1 + 1 + gw.news.size) 32 4 (.slice aw l1 cw) l1 (cellsP (fun i => F (ptX r1 i) (ptY r1 i)) l1)) := by rw [hW0]; exact ownsRow_far5 h1.out (fun e => own_ne h1.out B7.out (by decide) e) _ _ _ _ _
    have GW : Hid (Grows w W0) := by rw [hW0]; exact GA.out.five (by omega) _ _ _ _ _
    obtain ⟨nw, hnw⟩ : ∃ n, n = w.heap.size + 1 + 1 + gw.news.size + 1 := ⟨_, rfl⟩
    have hnw1 : w.heap.size + 1 < nw := by omega
    rw [← hnw] at D2 ⊢
    have XB : Hid (BufAt W0 r1 aw l1 cw F) := bufAt_copied G1.out X1.out.fits N1.out XW.out
    have HAW : Hid (∀ k, blkOf aw = some k → k < W0.heap.size) := fun k hk => (own_lt XW.out k hk).2
    clear hW0 hnw hl h1 GA B0 B1 XW hsz b0 b1 b2 b3 b4 bf lb B7 e0 e1 e2 e3 e4 ef le
    exact TAIL nw W0 aw cw _ _ _ _ _ _ _ _ _ _ _ _ _ _ _ _ _ _ _ _ _ _ _ _ _ _ _ _ _ _ _ _ _ _ _ _ _ _ _ _ _ _ _ _ _ _ _ _ _ _ _ _ _ _ _ _ _ _ _ _ _ _ _ hnw1 GW D0 D1 D2 XB HAW
  · have hl := own_lt h1.out
    refine then_name ?_
    intro W0 hW0
    have D0 : Hid (Blk W0 w.heap.size 26 #[.int .i64 r1.x0, .int .i64 r1.y0, .int .i64 r1.x1, .int .i64 r1.y1, .slice a1 l1 p1]) := by rw [hW0]; exact B0.out.far5 (by omega) _ _ _ _ _
    have D1 : Hid (Blk W0 (w.heap.size + 1) 23 #[.int .i64 s.x0, .int .i64 s.y0, .int .i64 s.x1, .int .i64 s.y1]) := by rw [hW0]; exact B1.out.far5 (by omega) _ _ _ _ _
    have D2 : Hid (Blk W0 (w.heap.size + 1 + 1 + gw.news.size) 26 #[.int .i64 r1.x0, .int .i64 r1.y0, .int .i64 r1.x1, .int .i64 r1.y1, .slice aw l1 cw]) := by rw [hW0]; exact B7.out.set5 _ _ _ _ _
    have XW : Hid (W0.ownsRow (w.heap.size + 1 + 1 + gw.news.size + 1) 32 4 (.slice aw l1 cw) l1 (cellsP (fun i => F (ptX r1 i) (ptY r1 i)) l1)) := by rw [hW0]; exact ownsRow_far5 h1.out (fun e => own_ne h1.out B7.out (by decide) e) _ _ _ _ _
    have GW : Hid (Grows w W0) := by rw [hW0]; exact GA.out.five (by omega) _ _ _ _ _
    obtain ⟨nw, hnw⟩ : ∃ n, n = w.heap.size + 1 + 1 + gw.news.size := ⟨_, rfl⟩
    have hnw1 : w.heap.size + 1 < nw := by omega
    rw [← hnw] at D2 ⊢
    have XB : Hid (BufAt W0 r1 aw l1 cw F) := bufAt_copied G1.out X1.out.fits N1.out XW.out
    have HAW : Hid (∀ k, blkOf aw = some k → k < W0.heap.size) := fun k hk => (own_lt XW.out k hk).2
    clear hW0 hnw hl h1 GA B0 B1 XW hsz b0 b1 b2 b3 b4 bf lb B7 e0 e1 e2 e3 e4 ef le
    exact TAIL nw W0 aw cw _ _ _ _ _ _ _ _ _ _ _ _ _ _ _ _ _ _ _ _ _ _ _ _ _ _ _ _ _ _ _ _ _ _ _ _ _ _ _ _ _ _ _ _ _ _ _ _ _ _ _ _ _ _ _ _ _ _ _ _ _ _ _ hnw1 GW D0 D1 D2 XB HAW
end Go.Proofs.Yticeoppldlhehaa
