/- The walks of layer 7: whether numbers are a matrix. -/
import Derived.Test.YtghcpjahieaepaaTintW
import Derived.Test.YtghcpjahieaepaaOpen
namespace Go.Proofs.Ytghcpjahieaepaa
open Go.RowKit
set_option linter.unusedVariables false

theorem IsRow.len_le {k : IntKind} {w : World} {a : Option Addr} {len cap : Nat} {zs : List Int} (h : IsRow k w a len cap zs) : len ≤ zs.length := by
  rcases h with ⟨rfl, rfl, rfl, rfl⟩ | ⟨x, rfl, h1, h2, h3, _⟩
  · exact Nat.le_refl _
  · omega
theorem IsRow.cap_le {k : IntKind} {w : World} {a : Option Addr} {len cap : Nat} {zs : List Int} (h : IsRow k w a len cap zs) : len ≤ cap ∧ cap ≤ 9223372036854775807 := by
  rcases h with ⟨rfl, rfl, rfl, rfl⟩ | ⟨x, rfl, h1, h2, h3, _⟩
  · omega
  · unfold maxLen at h2; omega
/-- A slice that is not empty begins at a cell. -/
theorem IsRow.at {k : IntKind} {w : World} {a : Option Addr} {len cap : Nat} {zs : List Int} (h : IsRow k w a len cap zs) (h0 : 0 < len) :
    ∃ b off, a = some ⟨b, off, none⟩ ∧ b < w.heap.size ∧ (∀ i, i < len → w.cell? ⟨b, off + i, none⟩ = some (.int k (zs.getD i 0))) ∧ ∀ i, i < len → (Lit.int k (zs.getD i 0)).wf = true := by
  rcases h with ⟨_, rfl, _⟩ | ⟨x, rfl, h1, h2, h3, hc, hw⟩
  · omega
  · have c0 := hc 0 (by omega)
    obtain ⟨b, off, sp⟩ := x
    have hx : sp = none := by
      cases sp with
      | none => rfl
      | some j => simp [Addr.add, World.cell?] at c0; split at c0 <;> simp_all
    subst hx
    have hb : b < w.heap.size := by
      by_cases hb : b < w.heap.size
      · exact hb
      · simp [Addr.add, World.cell?, hb] at c0
    refine ⟨b, off, rfl, hb, fun i hi => ?_, fun i hi => ?_⟩
    · have := hc i (by omega)
      simp only [Addr.add] at this
      split at this
      · subst i; exact this
      · exact this
    · rw [getD_get _ _ (by omega)]; exact hw _ (List.getElem_mem _)

theorem matB_false_len {zs : List Int} {len : Nat} (h : ¬ len = 20) : matB zs len = false := by simp [matB, h]
theorem matB_false_at {zs : List Int} {len k : Nat} (hz : len ≤ zs.length) (hk : k < len) (h : zs.getD k 0 < -32768 ∨ 32767 < zs.getD k 0) : matB zs len = false := by
  cases hm : matB zs len with
  | false => rfl
  | true => have := ((matB_iff zs len hz).1 hm).2 k hk; omega
theorem matB_true {zs : List Int} (hz : 20 ≤ zs.length) (h : ∀ i, i < 20 → -32768 ≤ zs.getD i 0 ∧ zs.getD i 0 ≤ 32767) : matB zs 20 = true := (matB_iff zs 20 hz).2 ⟨rfl, h⟩

set_option maxHeartbeats 1600000 in
theorem tint_right (a : Option Addr) (len cap : Nat) (zs : List Int) (w : World) (h : IsRow .i64 w a len cap zs) :
    Calls Try.prog 37 #[.slice a len cap] w fun e w' => e = .returned (.bool (matB zs len)) ∧ w = w' := by
  have hz := h.len_le
  have hcap := h.cap_le
  by_cases h20 : len = 20
  · subst h20
    obtain ⟨b, off, rfl, hb, hc, hw⟩ := h.at (by omega)
    have HC := Lib.hid hc
    have HW := Lib.hid hw
    clear h hc hw
    go_enter Try.func37, Try.ntmps37
    go_wp2
    go_loop [4, 10] (fun _ i => ∃ k : Nat, k ≤ 20 ∧ i = .int .i64 k ∧ Hid (∀ j, j < k → -32768 ≤ zs.getD j 0 ∧ zs.getD j 0 ≤ 32767)) (fun _ i => 20 - (intOf i).toNat)
    case atStart => exact ⟨0, by omega, rfl, fun j hj => by omega⟩
    case round =>
      obtain ⟨k, hk, rfl, hseen⟩ := hrel
      have hcell : (k : Int) < 20 → w.cell? ⟨b, off + k, none⟩ = some (.int .i64 (zs.getD k 0)) := fun h => HC.out k (by omega)
      go_wp2
      all_goals first
        | (go_round
           case rel =>
             refine ⟨k + 1, by omega, by go_num, fun j hj => ?_⟩
             by_cases hjk : j = k
             · subst hjk
               show -32768 ≤ zs[j]?.getD 0 ∧ zs[j]?.getD 0 ≤ 32767
               omega
             · exact hseen.out j (by omega)
           case measure => simp [intOf]; omega)
        | (go_ret
           have hF : matB zs 20 = false := matB_false_at (k := k) hz (by omega) (by show zs[k]?.getD 0 < -32768 ∨ 32767 < zs[k]?.getD 0; omega)
           exact ⟨ret_bool hF.symm, rfl⟩)
        | (go_ret
           have hT : matB zs 20 = true := matB_true hz fun i hi => hseen.out i (by omega)
           exact ⟨ret_bool hT.symm, rfl⟩)
  · have h20' : ¬ ((len : Int) = 20) := by omega
    rw [matB_false_len h20]
    clear h
    go_enter Try.func37, Try.ntmps37
    go_wp2
    go_ret
    exact ⟨rfl, rfl⟩

set_option maxHeartbeats 1600000 in
theorem ref07_right (a : Option Addr) (len cap : Nat) (zs : List Int) (w : World) (h : IsRow .i64 w a len cap zs) :
    Calls Try.prog 38 #[.slice a len cap] w fun e w' => e = .returned (.bool (matB zs len)) ∧ w = w' := by
  have hz := h.len_le
  have hcap := h.cap_le
  by_cases h0 : len = 0
  · subst h0
    rw [matB_false_len (by omega)]
    clear h
    go_enter Try.func38, Try.ntmps38
    go_wp2
    refine wp_loop_rounds 1 ?_
    rw [rounds_succ]
    go_wp2
    go_ret
    exact ⟨rfl, rfl⟩
  · obtain ⟨b, off, rfl, hb, hc, hw⟩ := h.at (by omega)
    have HC := Lib.hid hc
    have HW := Lib.hid hw
    clear h hc hw
    go_enter Try.func38, Try.ntmps38
    go_wp2
    go_loop [3] (fun i => ∃ k : Nat, k ≤ len ∧ k ≤ 21 ∧ i = .int .i64 k ∧ Hid (∀ j, j < k → -32768 ≤ zs.getD j 0 ∧ zs.getD j 0 ≤ 32767)) (fun i => 21 - (intOf i).toNat)
    case atStart => exact ⟨0, by omega, by omega, rfl, fun j hj => by omega⟩
    case round =>
      obtain ⟨k, hk, hk2, rfl, hseen⟩ := hrel
      have hcell : k < len → w.cell? ⟨b, off + k, none⟩ = some (.int .i64 (zs.getD k 0)) := fun h => HC.out k (by omega)
      go_wp2
      all_goals first
        | (go_round
           case rel =>
             refine ⟨k + 1, by omega, by omega, by go_num, fun j hj => ?_⟩
             by_cases hjk : j = k
             · subst hjk
               show -32768 ≤ zs[j]?.getD 0 ∧ zs[j]?.getD 0 ≤ 32767
               omega
             · exact hseen.out j (by omega)
           case measure => simp [intOf]; omega)
        | (go_ret
           have hF : matB zs len = false := matB_false_at (k := k) hz (by omega) (by show zs[k]?.getD 0 < -32768 ∨ 32767 < zs[k]?.getD 0; omega)
           exact ⟨ret_bool hF.symm, rfl⟩)
        | (go_ret
           have hF : matB zs len = decide ((len : Int) = 20) := by
             by_cases h20 : len = 20
             · subst h20; exact matB_true hz fun i hi => hseen.out i (by omega)
             · rw [matB_false_len h20]; symm; simp; omega
           exact ⟨ret_bool (by rw [hF]; rfl), rfl⟩)
end Go.Proofs.Ytghcpjahieaepaa
