/- The walk of layer 9's along: the greatest along a line. -/
import Derived.Test.YtbpcpndiohlchaaMorphA
namespace Go.Proofs.Ytbpcpndiohlchaa
open Go.RowKit
set_option linter.unusedVariables false

/-- The greatest of the window from a place on. -/
def mxN (f : Nat → Int) (r k : Nat) : Int := mxW (fun t => f t.toNat) (k : Int) (2 * r + 1)
theorem mxN_bd {f : Nat → Int} (h : ∀ t, 0 ≤ f t ∧ f t ≤ 255) (r k : Nat) : 0 ≤ mxN f r k ∧ mxN f r k ≤ 255 := mxW_bd (fun _ => h _) _ _
/-- What holds while a line's greatest are told: io: how far they are written; kq, iq: the window in the queue. -/
structure AlongSt (w wr : World) (bi bo : Nat) (f g : Nat → Int) (li lo r io kq iq : Nat) : Prop where
  gb : w.grownBy wr (some bo)
  inp : U8Row wr bi li f
  out : U8Row wr bo lo (fun k => if k + 2 * r < io then mxN f r k else g k)
  que : ∃ q a len cap h, QAt wr w.heap.size q a len cap h ∧ QInv f kq iq q h len
section
variable {w wr w1 : World} {bi bo : Nat} {f g : Nat → Int} {li lo r io kq iq kq' iq' : Nat}
theorem AlongSt.grows (s : AlongSt w wr bi bo f g li lo r io kq iq) (k : Grows wr w1) : AlongSt w w1 bi bo f g li lo r io kq iq :=
  ⟨grownBy_grows s.gb k, s.inp.grows k, s.out.grows k, by obtain ⟨q, a, len, cap, h, h1, h2⟩ := s.que; exact ⟨q, a, len, cap, h, h1.grows k, h2⟩⟩
/-- The queue alone is written. -/
theorem AlongSt.turn (s : AlongSt w wr bi bo f g li lo r io kq iq) (hi : bi < w.heap.size) (ho : bo < w.heap.size) (c : Chg (fun j => w.heap.size ≤ j) wr w1) {q : Nat → Nat × Int} {a : Option Addr} {len cap h : Nat} (k : QAt w1 w.heap.size q a len cap h) (I : QInv f kq' iq' q h len) : AlongSt w w1 bi bo f g li lo r io kq' iq' :=
  ⟨⟨c.os.trans s.gb.os, c.tape.trans s.gb.tape, c.output.trans s.gb.output, Nat.le_trans s.gb.size c.size, fun j hj hne => (c.block j (Nat.lt_of_lt_of_le hj s.gb.size) (by omega)).trans (s.gb.block j hj hne)⟩,
    s.inp.chg c (by omega), s.out.chg c (by omega), q, a, len, cap, h, k, I⟩
/-- A greatest is written. -/
theorem AlongSt.put {k : Nat} (s : AlongSt w wr bi bo f g li lo r (k + 2 * r) k iq) (hf : ∀ t, 0 ≤ f t ∧ f t ≤ 255) (hne : bi ≠ bo) (ho : bo < w.heap.size) : AlongSt w (wr.setCell ⟨bo, k, none⟩ (.int .u8 (mxN f r k))) bi bo f g li lo r (k + 2 * r + 1) k iq := by
  refine ⟨grownBy_setCell s.gb (.inl rfl) _, ?_, (s.out.set (mxN_bd hf r k)).congr fun j hj => ?_, ?_⟩
  · obtain ⟨cs, hb, hc⟩ := s.inp.blk
    exact ⟨s.inp.few, s.inp.ok, cs, hb.far (by exact hne) _, hc⟩
  · by_cases e : j = k
    · subst e; rw [if_pos rfl, if_pos (by omega)]
    · rw [if_neg e]
      by_cases e2 : j + 2 * r < k + 2 * r
      · rw [if_pos e2, if_pos (by omega)]
      · rw [if_neg e2, if_neg (by omega)]
  · obtain ⟨q, a, len, cap, h, h1, h2⟩ := s.que
    exact ⟨q, a, len, cap, h, ⟨h1.qb.far (by show w.heap.size ≠ bo; omega) _, ownsRow_far h1.own (fun e => by have := (own_lt h1.own _ e).1; simp at this; omega) _⟩, h2⟩
theorem AlongSt.idle (s : AlongSt w wr bi bo f g li lo r io kq iq) {io' : Nat} (h : io' ≤ 2 * r) (h' : io ≤ 2 * r) : AlongSt w wr bi bo f g li lo r io' kq iq :=
  ⟨s.gb, s.inp, s.out.congr fun j hj => by rw [if_neg (by omega), if_neg (by omega)], s.que⟩
end

theorem mxN_cell {w : World} {a : Addr} {f : Nat → Int} {k r : Nat} (h : w.cell? a = some (.int .u8 (mxW (fun t => f t.toNat) (k : Int) (2 * r + 1)))) : w.cell? a = some (.int .u8 (mxN f r k)) := h

set_option maxHeartbeats 3200000 in
theorem morph_along (bi bo li lo r : Nat) (f g : Nat → Int) (w : World) (HI : Hid (U8Row w bi li f)) (HO : Hid (U8Row w bo lo g)) (HF : Hid (∀ t, 0 ≤ f t ∧ f t ≤ 255)) (hne : bi ≠ bo) (hl : li = lo + 2 * r) (hs : li ≤ 100000) :
    Calls Try.prog 44 #[.slice (some ⟨bi, 0, none⟩) li li, .slice (some ⟨bo, 0, none⟩) lo lo, .int .i64 (r : Int)] w fun e w' => e = .returned (.tuple #[]) ∧ w.grownBy w' (some bo) ∧ U8Row w' bi li f ∧ U8Row w' bo lo (mxN f r) := by
  have hbi := HI.out.lt
  have hbo := HO.out.lt
  have hl1 : li ≤ lo + 2 * r := by omega
  have hl2 : lo + 2 * r ≤ li := by omega
  clear hl
  go_enter Try.func44, Try.ntmps44
  go_wp2
  refine wp_name ?_
  intro W0 hW0
  have ST : Hid (AlongSt w W0 bi bo f g li lo r 0 0 0) := by
    have G : Grows w W0 := by rw [hW0]; exact (by repeat (first | exact Grows.refl _ | apply Grows.grow | apply Grows.alloc | apply Grows.drew))
    refine ⟨grownBy_of_grows G _, HI.out.grows G, (HO.out.grows G).congr (fun j _ => by rw [if_neg (by omega)]), fun _ => (0, 0), none, 0, 0, 0, ⟨?_, rfl, .inl ⟨rfl, rfl⟩⟩, qinv_start f _⟩
    rw [hW0]
    exact (by unfold Blk; repeat (first | exact blk_at _ _ _ (by first | omega | (simp; done) | (simp; omega)) | refine (blk_past _ _ _ (by first | omega | (simp; done) | (simp; omega))).trans ?_ | refine (heap_grow _ _ _ (by first | omega | (simp; done) | (simp; omega))).trans ?_ | refine (blk_drew _ _).trans ?_))
  clear hW0 HI HO
  go_loopw [14] (fun z wr => ∃ i : Nat, i ≤ li ∧ z = .int .i64 i ∧ Hid (AlongSt w wr bi bo f g li lo r i (i - (2 * r + 1)) i)) (fun z _ => li - (intOf z).toNat)
  case atStart => exact ⟨0, by omega, rfl, by have := ST.out; rwa [Nat.zero_sub]⟩
  case round =>
    clear ST
    obtain ⟨i, hi, rfl, HP⟩ := hrel
    by_cases hlt : i < li
    · have c0 := HP.out.inp.cell hlt
      have hb := HP.out.inp.lt
      obtain ⟨f0, f1⟩ := HF.out i
      obtain ⟨q, a, len, cap, h, QA, QI⟩ := HP.out.que
      have hh := QI.le
      have hfew := QI.few
      have QA := Lib.hid QA
      have QI := Lib.hid QI
      by_cases hk : 2 * r ≤ i
      · obtain ⟨k, rfl⟩ : ∃ k, i = k + 2 * r := ⟨i - 2 * r, by omega⟩
        have hk1 : (k : Int) + 2 * (r : Int) - 2 * (r : Int) = k := by omega
        go_wp2_with (first | (go_at_call 49; refine (morph_push w.heap.size q a len cap h (k + 2 * r) (f (k + 2 * r)) _ (Lib.hid (QA.out.grows (by repeat (first | exact Grows.refl _ | apply Grows.grow | apply Grows.alloc | apply Grows.drew)))) hh (by omega) (by omega) f0 f1).mono ?_; rintro e w1 ⟨rfl, GC, m, a1, cap1, p1, p2, p3, p4, p5⟩; have I1 := Lib.hid (QI.out.push p1 p2 p3 p4 (by omega)); have S1 := Lib.hid ((HP.out.grows (w1 := _) (by exact (by repeat (first | exact Grows.refl _ | apply Grows.grow | apply Grows.alloc | apply Grows.drew)))).turn hbi hbo GC p5 I1.out); have QA1 := Lib.hid p5; clear GC p3 p4 p5) | (go_at_call 50; refine (morph_leave w.heap.size (putQ q m (k + 2 * r) (f (k + 2 * r))) a1 (m + 1) cap1 h k _ (Lib.hid (QA1.out.grows (by repeat (first | exact Grows.refl _ | apply Grows.grow | apply Grows.alloc | apply Grows.drew)))) (by omega) (by omega) (by omega)).mono ?_; rintro e w2 ⟨rfl, GC, h2, r1, r2, r3, r4, r5⟩; have I2 := Lib.hid (I1.out.leave (k' := k) (by omega) r1 r2 r3 r4); have S2 := Lib.hid ((S1.out.grows (w1 := _) (by exact (by repeat (first | exact Grows.refl _ | apply Grows.grow | apply Grows.alloc | apply Grows.drew)))).turn hbi hbo GC r5 I2.out); obtain ⟨t1, t2⟩ := I2.out.first (fun t => (HF.out t).1) (by omega); obtain ⟨bi2, rfl, hq1, hq2, e0, e1⟩ := r5.item t1; obtain ⟨d0, d1, df⟩ := r5.qb.c2; have ld := r5.qb.lt; rw [t2, show k + 2 * r + 1 - k = 2 * r + 1 from by omega] at e1; replace e1 := mxN_cell e1; have o0 := S2.out.out.cell (i := k) (by omega); have of := S2.out.out.frozen; have lo2 := S2.out.out.lt; have hm2 := r5.most; clear GC r3 r4 r5 t2 I1 I2 QA1 S1))
        first | refine region_grow_tail2 14 (by kernel_rfl) (by kernel_rfl) ?_ | refine region_grow_tail 14 (by kernel_rfl) (by kernel_rfl) ?_
        simp only [List.take_succ_cons, List.take_zero, List.drop_succ_cons, List.drop_zero]
        repeat (go_big_quiet_step (fail))
        refine wpQuiet_nil ?_
        rintro _ ⟨gb, rfl⟩
        go_wp2
        go_roundw
        case rel =>
          refine ⟨k + 2 * r + 1, by omega, by go_num, ?_⟩
          rw [show k + 2 * r + 1 - (2 * r + 1) = k from by omega]
          exact ((S2.out.grows (by exact (by repeat (first | exact Grows.refl _ | apply Grows.grow | apply Grows.alloc | apply Grows.drew)))).put HF.out hne hbo).grows (by repeat (first | exact Grows.refl _ | apply Grows.grow | apply Grows.alloc | apply Grows.drew))
        case measure => simp [intOf]; omega
      · have hk2 : ¬ (2 * (r : Int) ≤ (i : Int)) := by omega
        have hk3 : (i : Int) - 2 * (r : Int) < 0 := by omega
        go_wp2_with (go_at_call 49; refine (morph_push w.heap.size q a len cap h (i) (f (i)) _ (Lib.hid (QA.out.grows (by repeat (first | exact Grows.refl _ | apply Grows.grow | apply Grows.alloc | apply Grows.drew)))) hh (by omega) (by omega) f0 f1).mono ?_; rintro e w1 ⟨rfl, GC, m, a1, cap1, p1, p2, p3, p4, p5⟩; have I1 := Lib.hid (QI.out.push p1 p2 p3 p4 (by omega)); have S1 := Lib.hid ((HP.out.grows (w1 := _) (by exact (by repeat (first | exact Grows.refl _ | apply Grows.grow | apply Grows.alloc | apply Grows.drew)))).turn hbi hbo GC p5 I1.out); have QA1 := Lib.hid p5; clear GC p3 p4 p5)
        go_roundw
        case rel =>
          refine ⟨i + 1, by omega, by go_num, ?_⟩
          have e1 : i + 1 - (2 * r + 1) = 0 := by omega
          have e2 : i - (2 * r + 1) = 0 := by omega
          rw [e1]
          rw [e2] at S1
          exact (S1.out.grows (by repeat (first | exact Grows.refl _ | apply Grows.grow | apply Grows.alloc | apply Grows.drew))).idle (by omega) (by omega)
        case measure => simp [intOf]; omega
    · obtain rfl : i = li := by omega
      go_wp2
      go_end0
      have S := HP.out
      exact ⟨rfl, S.gb, S.inp, S.out.congr fun j hj => by rw [if_pos (by omega)]⟩
end Go.Proofs.Ytbpcpndiohlchaa
