/- The walks of layer 9: what stands ahead of a place leaves the queue; the greatest along a line. -/
import Derived.Test.YtbpcpndiohlchaaMorphQ
namespace Go.Proofs.Ytbpcpndiohlchaa
open Go.RowKit
set_option linter.unusedVariables false

/-- What holds while items leave. -/
structure LeaveSt (w wr : World) (n : Nat) (q : Nat → Nat × Int) (a : Option Addr) (len cap h k h' : Nat) : Prop where
  chg : Chg (fun j => n ≤ j) w wr
  qa : QAt wr n q a len cap h'
  gone : ∀ j, h ≤ j → j < h' → (q j).1 < k
theorem LeaveSt.next {w wr w' : World} {n : Nat} {q : Nat → Nat × Int} {a : Option Addr} {len cap h k h' : Nat} (s : LeaveSt w wr n q a len cap h k h') (hv : (q h').1 < k) (g : Grows (wr.setCell ⟨n, 1, none⟩ (.int .i64 ((h' + 1 : Nat) : Int))) w') : LeaveSt w w' n q a len cap h k (h' + 1) :=
  ⟨(s.chg.setCell (.inl (Nat.le_refl n)) _).grows g, (s.qa.head _).grows g, fun j h1 h2 => by
    by_cases e : j = h'
    · rw [e]; exact hv
    · exact s.gone j h1 (by omega)⟩
def qHd (w : World) (n : Nat) : Nat := match w.cell? ⟨n, 1, none⟩ with | some (.int _ l) => l.toNat | _ => 0
theorem qHd_of {w : World} {n : Nat} {q : Nat → Nat × Int} {a : Option Addr} {len cap h : Nat} (k : QAt w n q a len cap h) : qHd w n = h := by
  unfold qHd
  rw [k.qb.c2.2.1]
  simp

set_option maxHeartbeats 3200000 in
theorem morph_leave (n : Nat) (q : Nat → Nat × Int) (a : Option Addr) (len cap h k : Nat) (w : World) (H : Hid (QAt w n q a len cap h)) (hh : h ≤ len) (hl : len ≤ 100000) (hk : k ≤ 100000) :
    Calls Try.prog 50 #[.pointer (some ⟨n, 0, none⟩), .int .i64 (k : Int)] w fun e w' => e = .returned (.tuple #[]) ∧ Chg (fun j => n ≤ j) w w' ∧ ∃ h' : Nat, h ≤ h' ∧ h' ≤ len ∧ (∀ j, h ≤ j → j < h' → (q j).1 < k) ∧ (h' = len ∨ k ≤ (q h').1) ∧ QAt w' n q a len cap h' := by
  have hmost := H.out.most
  have lb0 := H.out.qb.lt
  go_enter Try.func50, Try.ntmps50
  go_wp2
  go_loopw [] (fun wr => ∃ h' : Nat, h ≤ h' ∧ h' ≤ len ∧ Hid (LeaveSt w wr n q a len cap h k h')) (fun wr => len - qHd wr n)
  case atStart => exact ⟨h, by omega, by omega, chg_grows (by repeat (first | exact Grows.refl _ | apply Grows.grow | apply Grows.alloc | apply Grows.drew)) _, H.out.grows (by repeat (first | exact Grows.refl _ | apply Grows.grow | apply Grows.alloc | apply Grows.drew)), fun j h1 h2 => by omega⟩
  case round =>
    obtain ⟨h', h1, h2, HP⟩ := hrel
    obtain ⟨b0, b1, bf⟩ := HP.out.qa.qb.c2
    have lb := HP.out.qa.qb.lt
    by_cases hlt : h' < len
    · have hg1 : (h' : Int) < (len : Int) := by omega
      obtain ⟨bi, rfl, hbi, hbl, i0, i1⟩ := HP.out.qa.item (j := h') (by omega)
      by_cases hle : (q h').1 < k
      · have hg2 : ((q h').1 : Int) < (k : Int) := by omega
        go_wp2
        first | refine region_grow2 (by kernel_rfl) (by kernel_rfl) ?_ | refine region_grow (by kernel_rfl) (by kernel_rfl) ?_
        repeat (go_big_quiet_step (fail))
        refine wpQuiet_nil ?_
        rintro _ ⟨ga, rfl⟩
        go_wp2
        go_roundw
        case rel =>
          have e : ((h' : Int) + 1) = ((h' + 1 : Nat) : Int) := by omega
          rw [e]
          exact ⟨h' + 1, by omega, by omega, HP.out.next hle (by repeat (first | exact Grows.refl _ | apply Grows.grow | apply Grows.alloc | apply Grows.drew))⟩
        case measure =>
          have e : ((h' : Int) + 1) = ((h' + 1 : Nat) : Int) := by omega
          rw [e, qHd_of (HP.out.next hle (by repeat (first | exact Grows.refl _ | apply Grows.grow | apply Grows.alloc | apply Grows.drew))).qa, qHd_of HP.out.qa]
          omega
      · have hg2 : ¬ ((q h').1 : Int) < (k : Int) := by omega
        go_wp2
        first | refine region_grow2 (by kernel_rfl) (by kernel_rfl) ?_ | refine region_grow (by kernel_rfl) (by kernel_rfl) ?_
        repeat (go_big_quiet_step (fail))
        refine wpQuiet_nil ?_
        rintro _ ⟨ga, rfl⟩
        go_wp2
        go_end0
        exact ⟨rfl, HP.out.chg.grows (by repeat (first | exact Grows.refl _ | apply Grows.grow | apply Grows.alloc | apply Grows.drew)), h', h1, h2, HP.out.gone, .inr (by omega), HP.out.qa.grows (by repeat (first | exact Grows.refl _ | apply Grows.grow | apply Grows.alloc | apply Grows.drew))⟩
    · obtain rfl : h' = len := by omega
      go_wp2
      first | refine region_grow2 (by kernel_rfl) (by kernel_rfl) ?_ | refine region_grow (by kernel_rfl) (by kernel_rfl) ?_
      repeat (go_big_quiet_step (fail))
      refine wpQuiet_nil ?_
      rintro _ ⟨ga, rfl⟩
      go_wp2
      go_end0
      exact ⟨rfl, HP.out.chg.grows (by repeat (first | exact Grows.refl _ | apply Grows.grow | apply Grows.alloc | apply Grows.drew)), h', h1, h2, HP.out.gone, .inl rfl, HP.out.qa.grows (by repeat (first | exact Grows.refl _ | apply Grows.grow | apply Grows.alloc | apply Grows.drew))⟩
end Go.Proofs.Ytbpcpndiohlchaa
