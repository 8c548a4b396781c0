/- The walk of the reference's 'Same': two buffers that show the same. -/
import Derived.Test.YticeoppldlhehaaRef5
namespace Go.Proofs.Yticeoppldlhehaa
open Go.RowKit
set_option linter.unusedVariables false

set_option maxHeartbeats 1600000 in
/-- Two buffers that show the same are the same. -/
theorem ref05_Same (r : R) (a b : Option Addr) (la ca lb cb : Nat) (F : Img) (w : World) (h : Hid (BufAt w r a la ca F)) (k : Hid (BufAt w r b lb cb F)) :
    Calls Try.prog 20 #[.agg #[.int .i64 r.x0, .int .i64 r.y0, .int .i64 r.x1, .int .i64 r.y1, .slice a la ca], .agg #[.int .i64 r.x0, .int .i64 r.y0, .int .i64 r.x1, .int .i64 r.y1, .slice b lb cb]] w fun e w' => e = .returned (.bool true) ∧ Grows w w' := by
  obtain rfl : la = lb := h.out.count.trans k.out.count.symm
  have hm := h.out.most
  have km := k.out.most
  go_enter Try.func20, Try.ntmps20
  go_wp2
  refine wp_name ?_
  intro W0 hW0
  have B0 : Hid (Blk W0 w.heap.size 26 #[.int .i64 r.x0, .int .i64 r.y0, .int .i64 r.x1, .int .i64 r.y1, .slice a la ca]) := by rw [hW0]; exact (by unfold Blk; repeat (first | exact blk_at _ _ _ (by first | omega | (simp; done) | (simp; omega)) | refine (blk_past _ _ _ (by first | omega | (simp; done) | (simp; omega))).trans ?_ | refine (heap_grow _ _ _ (by first | omega | (simp; done) | (simp; omega))).trans ?_ | refine (blk_drew _ _).trans ?_))
  have B1 : Hid (Blk W0 (w.heap.size + 1) 26 #[.int .i64 r.x0, .int .i64 r.y0, .int .i64 r.x1, .int .i64 r.y1, .slice b la cb]) := by rw [hW0]; exact (by unfold Blk; repeat (first | exact blk_at _ _ _ (by first | omega | (simp; done) | (simp; omega)) | refine (blk_past _ _ _ (by first | omega | (simp; done) | (simp; omega))).trans ?_ | refine (heap_grow _ _ _ (by first | omega | (simp; done) | (simp; omega))).trans ?_ | refine (blk_drew _ _).trans ?_))
  have GW : Hid (Grows w W0) := by rw [hW0]; exact (by repeat (first | exact Grows.refl _ | apply Grows.grow | apply Grows.alloc | apply Grows.drew))
  clear hW0
  go_loopw [5] (fun i wr => ∃ j : Nat, j ≤ la ∧ i = .int .i64 j ∧ Hid (Grows W0 wr)) (fun i _ => la - (intOf i).toNat)
  case atStart => exact ⟨0, by omega, rfl, Grows.refl _⟩
  case round =>
    obtain ⟨j, hj, rfl, hh⟩ := hrel
    have b0 := B0.out.grows hh.out
    have b1 := B1.out.grows hh.out
    obtain ⟨d0, d1, d2, d3, d4, df⟩ := b0.c5
    obtain ⟨e0, e1, e2, e3, e4, ef⟩ := b1.c5
    have l0 := b0.lt
    have l1 := b1.lt
    clear b0 b1
    have G := GW.out.trans hh.out
    by_cases hlt : j < la
    · obtain ⟨b', off', rfl, hb', -, c0, c1, c2, c3⟩ := (h.out.pix.grows G).px hlt
      obtain ⟨b'', off'', rfl, hb'', -, s0, s1, s2, s3⟩ := (k.out.pix.grows G).px hlt
      clear G
      go_wp2
      first | refine region_grow2 (by kernel_rfl) (by kernel_rfl) ?_ | refine region_grow (by kernel_rfl) (by kernel_rfl) ?_
      repeat (go_big_quiet_step (fail))
      refine wpQuiet_nil ?_
      rintro _ ⟨gr, rfl⟩
      go_wp2
      go_roundw
      case rel => exact ⟨j + 1, by omega, by go_num, hh.out.trans (by repeat (first | exact Grows.refl _ | apply Grows.grow | apply Grows.alloc | apply Grows.drew))⟩
      case measure => simp [intOf]; omega
    · obtain rfl : j = la := by omega
      go_wp2
      go_ret
      exact ⟨rfl, G⟩

end Go.Proofs.Yticeoppldlhehaa
