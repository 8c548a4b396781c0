/- The walk of chapter 10's law MoveMerges. -/
import Derived.Test.YticeoppldlhehaaMerge
import Derived.Test.YticeoppldlhehaaMergeR
import Derived.Test.YticeoppldlhehaaLaw10B
namespace Go.Proofs.Yticeoppldlhehaa
open Go.RowKit
set_option linter.unusedVariables false

set_option maxRecDepth 100000 in
set_option maxHeartbeats 12800000 in
theorem moveMerges_walk (al : Option Addr) (ll cl : Nat) (g5 : Nat → Bf) (s : R) (w : World) (hb1 : IsBufs w al ll cl g5) :
    Calls Try.prog 5 #[.slice al ll cl, .agg #[.int .i64 s.x0, .int .i64 s.y0, .int .i64 s.x1, .int .i64 s.y1]] w fun e w' => e = .returned (.bool true) ∧ Grows w w' := by
  have m1 := hb1.le
  have m1' := hb1.most
  replace hb1 := Lib.hid hb1
  by_cases d0 : 9 < ll
  · go_enter Try.func5, Try.ntmps5
    go_wp2_with ((first | (go_at_call 9; refine (awake10 _ ).mono ?_; rintro e w' ⟨rfl, hgw⟩; first | (obtain ⟨gw, rfl⟩ := grows_of_grow hgw) | (obtain ⟨gw, rfl⟩ := hgw))))
    go_ret
    exact ⟨rfl, (by repeat (first | exact Grows.refl _ | apply Grows.grow | apply Grows.alloc | apply Grows.drew))⟩
  cases c_HB101 : fineB s 0 0 400
  case false =>
    have HB101 := Lib.hid c_HB101
    clear c_HB101
    go_enter Try.func5, Try.ntmps5
    go_wp2_with ((first | (go_at_call 9; refine (awake10 _ ).mono ?_; rintro e w' ⟨rfl, hgw⟩; first | (obtain ⟨gw, rfl⟩ := grows_of_grow hgw) | (obtain ⟨gw, rfl⟩ := hgw)) | (go_at_call 11; (with_reducible refine (law10_boxIs _ _ _ HB101).mono ?_); rintro e w' ⟨rfl, hgw⟩; first | (obtain ⟨gw, rfl⟩ := grows_of_grow hgw) | (obtain ⟨gw, rfl⟩ := hgw))))
    go_ret
    exact ⟨rfl, (by repeat (first | exact Grows.refl _ | apply Grows.grow | apply Grows.alloc | apply Grows.drew))⟩
  have HB101 := Lib.hid c_HB101
  obtain ⟨-, -, -, hrs, -, k4, -⟩ := fine_cnt c_HB101 (by omega)
  have HRS := Lib.hid hrs
  clear c_HB101 hrs
  go_enter Try.func5, Try.ntmps5
  go_wp2_with ((first | (go_at_call 9; refine (awake10 _ ).mono ?_; rintro e w' ⟨rfl, hgw⟩; first | (obtain ⟨gw, rfl⟩ := grows_of_grow hgw) | (obtain ⟨gw, rfl⟩ := hgw)) | (go_at_call 11; (with_reducible refine (law10_boxIs _ _ _ HB101).mono ?_); rintro e w' ⟨rfl, hgw⟩; first | (obtain ⟨gw, rfl⟩ := grows_of_grow hgw) | (obtain ⟨gw, rfl⟩ := hgw))))
  refine wp_name ?_
  intro W0 hW0
  have D1 : Hid (Blk W0 w.heap.size 23 #[.int .i64 s.x0, .int .i64 s.y0, .int .i64 s.x1, .int .i64 s.y1]) := by rw [hW0]; exact (by unfold Blk; repeat (first | exact blk_at _ _ _ (by first | omega | (simp; done) | (simp; omega)) | refine (blk_past _ _ _ (by first | omega | (simp; done) | (simp; omega))).trans ?_ | refine (heap_grow _ _ _ (by first | omega | (simp; done) | (simp; omega))).trans ?_ | refine (blk_drew _ _).trans ?_))
  have GW : Hid (Grows w W0) := by rw [hW0]; exact (by repeat (first | exact Grows.refl _ | apply Grows.grow | apply Grows.alloc | apply Grows.drew))
  clear hW0
  go_loopw [5] (fun i wr => ∃ k : Nat, k ≤ ll ∧ i = .int .i64 k ∧ Hid (Grows W0 wr ∧ ∀ i, i < k → right10 (g5 i).len (g5 i).r (g5 i).f = true)) (fun i _ => ll - (intOf i).toNat)
  case atStart => exact ⟨0, by omega, rfl, Grows.refl _, fun i hi => by omega⟩
  case round =>
    obtain ⟨k, hk, rfl, hh⟩ := hrel
    have GR : Hid (Grows w wr) := GW.out.trans hh.out.1
    by_cases hlt : k < ll
    · obtain ⟨b', off', rfl, hb', e0, e1, e2, e3, e4⟩ := (hb1.out.grows GR.out).at hlt
      have PX := Lib.hid ((hb1.out.grows GR.out).pix k hlt)
      cases c_HRK : right10 (g5 k).len (g5 k).r (g5 k).f
      · obtain ⟨rk, hrk⟩ : ∃ z, z = (g5 k).r := ⟨_, rfl⟩
        obtain ⟨ak, hak⟩ : ∃ z, z = (g5 k).a := ⟨_, rfl⟩
        obtain ⟨lk, hlk⟩ : ∃ z, z = (g5 k).len := ⟨_, rfl⟩
        obtain ⟨ck, hck⟩ : ∃ z, z = (g5 k).cap := ⟨_, rfl⟩
        obtain ⟨fk, hfk⟩ : ∃ z, z = (g5 k).f := ⟨_, rfl⟩
        have HRK := Lib.hid c_HRK
        rw [← hrk, ← hlk, ← hfk] at HRK
        rw [← hak, ← hlk, ← hck, ← hfk] at PX
        rw [← hrk] at e0 e1 e2 e3
        rw [← hak, ← hlk, ← hck] at e4
        clear hrk hak hlk hck hfk c_HRK
        go_wp2_with (go_at_call 10; refine (ref10_RightIs rk ak lk ck fk _ false (Lib.hid (PX.out.grows (by repeat (first | exact Grows.refl _ | apply Grows.grow | apply Grows.alloc | apply Grows.drew)))) HRK).mono ?_; rintro e w' ⟨rfl, hgw⟩; first | (obtain ⟨gw, rfl⟩ := grows_of_grow hgw) | (obtain ⟨gw, rfl⟩ := hgw))
        go_ret
        exact ⟨rfl, GR.out.trans (by repeat (first | exact Grows.refl _ | apply Grows.grow | apply Grows.alloc | apply Grows.drew))⟩
      · obtain ⟨rk, hrk⟩ : ∃ z, z = (g5 k).r := ⟨_, rfl⟩
        obtain ⟨ak, hak⟩ : ∃ z, z = (g5 k).a := ⟨_, rfl⟩
        obtain ⟨lk, hlk⟩ : ∃ z, z = (g5 k).len := ⟨_, rfl⟩
        obtain ⟨ck, hck⟩ : ∃ z, z = (g5 k).cap := ⟨_, rfl⟩
        obtain ⟨fk, hfk⟩ : ∃ z, z = (g5 k).f := ⟨_, rfl⟩
        have HRK := Lib.hid c_HRK
        have HRZ := Lib.hid c_HRK
        rw [← hrk, ← hlk, ← hfk] at HRK
        rw [← hak, ← hlk, ← hck, ← hfk] at PX
        rw [← hrk] at e0 e1 e2 e3
        rw [← hak, ← hlk, ← hck] at e4
        clear hrk hak hlk hck hfk c_HRK
        go_wp2_with (go_at_call 10; refine (ref10_RightIs rk ak lk ck fk _ true (Lib.hid (PX.out.grows (by repeat (first | exact Grows.refl _ | apply Grows.grow | apply Grows.alloc | apply Grows.drew)))) HRK).mono ?_; rintro e w' ⟨rfl, hgw⟩; first | (obtain ⟨gw, rfl⟩ := grows_of_grow hgw) | (obtain ⟨gw, rfl⟩ := hgw))
        go_roundw
        case rel =>
          refine ⟨k + 1, by omega, by go_num, hh.out.1.trans (by repeat (first | exact Grows.refl _ | apply Grows.grow | apply Grows.alloc | apply Grows.drew)), fun i hi => ?_⟩
          by_cases e : i = k
          · subst e; exact HRZ.out
          · exact hh.out.2 i (by omega)
        case measure => simp [intOf]; omega
    · obtain rfl : ll = k := by omega
      have HBS : ∀ W, Grows w W → Hid (∀ i, i < ll → BufAt W (g5 i).r (g5 i).a (g5 i).len (g5 i).cap (imgOf (g5 i).r (g5 i).f) ∧ cntR (g5 i).r ≤ 30000000000000) := fun W g i hi => by
        obtain ⟨k1, g1, n1, -⟩ := right10_yes (hh.out.2 i hi)
        exact ⟨(bufAt_of g1 n1 (hb1.out.pix i hi)).grows g, by omega⟩
      have H1 : Hid (∀ W, Grows w W → Calls Try.prog 28 #[.slice al ll cl, .agg #[.int .i64 s.x0, .int .i64 s.y0, .int .i64 s.x1, .int .i64 s.y1]] W (RetBuf W (someR s) (mergeF (someR s) (fun i => imgOf (g5 i).r (g5 i).f) ll))) := fun W g => move_Merge s al ll cl g5 _ W (hb1.out.grows g) (HBS W g) HRS.out (by omega)
      have H2 : Hid (∀ W, Grows w W → Calls Try.prog 29 #[.slice al ll cl, .agg #[.int .i64 s.x0, .int .i64 s.y0, .int .i64 s.x1, .int .i64 s.y1]] W (RetBuf W (someR s) (mergeF (someR s) (fun i => imgOf (g5 i).r (g5 i).f) ll))) := fun W g => ref10_Merge s al ll cl g5 _ W (hb1.out.grows g) (HBS W g) HRS.out (by omega)
      obtain ⟨t, ht⟩ : ∃ t, t = someR s := ⟨_, rfl⟩
      obtain ⟨B, hB⟩ : ∃ B, B = mergeF t (fun i => imgOf (g5 i).r (g5 i).f) ll := ⟨_, rfl⟩
      rw [← ht, ← hB] at H1 H2
      have d1 := D1.out.grows hh.out.1
      obtain ⟨s0, s1, s2, s3, sf⟩ := d1.c4
      have ls := d1.lt
      clear d1 ht hB HBS hh
      go_wp2
      go_region_held3 (fun w' => w'.cell? ⟨w.heap.size, 0, none⟩ = some (.int .i64 s.x0) ∧ w'.cell? ⟨w.heap.size, 1, none⟩ = some (.int .i64 s.y0) ∧ w'.cell? ⟨w.heap.size, 2, none⟩ = some (.int .i64 s.x1) ∧ w'.cell? ⟨w.heap.size, 3, none⟩ = some (.int .i64 s.y1)) (go_simp) (first
        | (go_at_call 28; (with_reducible refine Calls.mono (H1.out _ ?_) ?_); (exact GR.out.trans (by repeat (first | exact Grows.refl _ | apply Grows.grow | apply Grows.alloc | apply Grows.drew))); rintro e w' ⟨aq1, lq1, pq1, rfl, hgw, Hq1⟩; (first | (obtain ⟨ga, rfl⟩ := grows_of_grow hgw) | (obtain ⟨ga, rfl⟩ := hgw)); (try simp only [grow_drew] at Hq1))
        | (go_at_call 29; (with_reducible refine Calls.mono (H2.out _ ?_) ?_); (exact GR.out.trans (by repeat (first | exact Grows.refl _ | apply Grows.grow | apply Grows.alloc | apply Grows.drew))); rintro e w' ⟨aq2, lq2, pq2, rfl, hgw, Hq2⟩; (first | (obtain ⟨gb, rfl⟩ := grows_of_grow hgw) | (obtain ⟨gb, rfl⟩ := hgw)); (try simp only [grow_drew] at Hq2))
        | (go_at_call 20; (with_reducible refine Calls.mono (ref05_Same t aq1 aq2 lq1 pq1 lq2 pq2 B _ ?_ ?_) ?_); (exact Lib.hid (BufAt.grows Hq1.out.1 (by assumption))); (exact Lib.hid (BufAt.grows Hq2.out.1 (by repeat (first | exact Grows.refl _ | apply Grows.grow | apply Grows.alloc | apply Grows.drew)))); rintro e w' ⟨rfl, hgw⟩; first | (obtain ⟨gc, rfl⟩ := grows_of_grow hgw) | (obtain ⟨gc, rfl⟩ := hgw)))
      go_wp2
      go_ret
      exact ⟨rfl, GR.out.trans (by repeat (first | exact Grows.refl _ | apply Grows.grow | apply Grows.alloc | apply Grows.drew))⟩
end Go.Proofs.Yticeoppldlhehaa
