/- The walks of layer 7: whether nothing is made of nothing; the law's own matrices; awake. -/
import Derived.Test.YtghcpjahieaepaaTintR
namespace Go.Proofs.Ytghcpjahieaepaa
open Go.RowKit
set_option linter.unusedVariables false

/-- What a matrix makes of nothing is nothing. -/
def calmB (m : Nat → Int) : Bool := tint0 m 0 0 0 0 == 0 && (tint1 m 0 0 0 0 == 0 && (tint2 m 0 0 0 0 == 0 && tint3 m 0 0 0 0 == 0))

set_option maxHeartbeats 1600000 in
theorem tint_calm (m : Nat → Int) (b off cap : Nat) (w : World) (hm : Hid (Mat w b off cap m)) :
    Calls Try.prog 41 #[.slice (some ⟨b, off, none⟩) 20 cap] w fun e w' => e = .returned (.bool (calmB m)) ∧ Grows w w' := by
  go_enter Try.func41, Try.ntmps41
  go_wp2_with ((go_at_call 39; refine (tint_pixel m b off cap 0 0 0 0 _ hm.out (by omega) (by omega) (by omega) (by omega)).mono ?_; rintro e w' ⟨rfl, gw, rfl⟩))
  go_ret
  exact ⟨ret_bool (by simp [calmB]), (by repeat (first | exact Grows.refl _ | apply Grows.grow | apply Grows.alloc | apply Grows.drew))⟩

def sameL : List Int := [256, 0, 0, 0, 0, 0, 256, 0, 0, 0, 0, 0, 256, 0, 0, 0, 0, 0, 256, 0]
def alphasL : List Int := [0, 0, 0, 256, 0, 0, 0, 0, 256, 0, 0, 0, 0, 256, 0, 0, 0, 0, 256, 0]
def sameM (i : Nat) : Int := sameL.getD i 0
def alphasM (i : Nat) : Int := alphasL.getD i 0

/-- A block of the call's own whose cells are the numbers of a list is a matrix. -/
theorem mat_of_block {w : World} {b : Nat} {e : TypeId} {fz : Nat × Nat} (l : List Int) (hl : l.length = 20) (hb : w.heap[b]? = some (.cells (l.map fun n => Value.int .i64 n).toArray e fz)) (hbd : ∀ n ∈ l, -32768 ≤ n ∧ n ≤ 32767) :
    Mat w b 0 20 fun i => l.getD i 0 := by
  refine ⟨?_, by omega, by omega, fun i hi => ?_, fun i hi => ?_⟩
  · exact (Array.getElem?_eq_some_iff.1 hb).1
  · have hi' : i < l.length := by omega
    rw [getD_get _ _ hi']
    simp [World.cell?, hb, hi']
  · have hi' : i < l.length := by omega
    rw [getD_get _ _ hi']
    exact hbd _ (List.getElem_mem _)
theorem same_bd : ∀ n ∈ sameL, -32768 ≤ n ∧ n ≤ 32767 := by decide
theorem alphas_bd : ∀ n ∈ alphasL, -32768 ≤ n ∧ n ≤ 32767 := by decide

set_option maxHeartbeats 800000 in
theorem law07_same (w : World) : Calls Try.prog 42 #[] w fun e w' => e = .returned (.slice (some ⟨w.heap.size, 0, none⟩) 20 20) ∧ Grows w w' ∧ Mat w' w.heap.size 0 20 sameM := by
  go_enter Try.func42, Try.ntmps42
  go_wp2
  go_ret
  exact ⟨rfl, (by repeat (first | exact Grows.refl _ | apply Grows.grow | apply Grows.alloc | apply Grows.drew)), mat_of_block sameL rfl (blk_at _ _ _ rfl) same_bd⟩
set_option maxHeartbeats 800000 in
theorem law07_alphas (w : World) : Calls Try.prog 48 #[] w fun e w' => e = .returned (.slice (some ⟨w.heap.size, 0, none⟩) 20 20) ∧ Grows w w' ∧ Mat w' w.heap.size 0 20 alphasM := by
  go_enter Try.func48, Try.ntmps48
  go_wp2
  go_ret
  exact ⟨rfl, (by repeat (first | exact Grows.refl _ | apply Grows.grow | apply Grows.alloc | apply Grows.drew)), mat_of_block alphasL rfl (blk_at _ _ _ rfl) alphas_bd⟩

/-- A matrix is a row of integers. -/
theorem Mat.isRow {w : World} {b off : Nat} (l : List Int) (hl : l.length = 20) (h : Mat w b off 20 fun i => l.getD i 0) : IsRow .i64 w (some ⟨b, off, none⟩) 20 20 l := by
  refine .inr ⟨_, rfl, by omega, by unfold maxLen; omega, hl, fun i hi => ?_, fun n hn => ?_⟩
  · have := h.cell i (by omega)
    unfold Addr.add
    split
    · subst i; exact this
    · exact this
  · obtain ⟨i, hi, rfl⟩ := List.getElem_of_mem hn
    have := h.bd i (by omega)
    rw [getD_get _ _ hi] at this
    simp [Lit.wf, IntKind.min, IntKind.max, IntKind.signed, IntKind.bits]
    omega
theorem row_nil (w : World) : IsRow .i64 w none 0 0 [] := .inl ⟨rfl, rfl, rfl, rfl⟩

end Go.Proofs.Ytghcpjahieaepaa
