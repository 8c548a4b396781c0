/- The walk of chapter 7's law TintKeeps. -/
import Derived.Test.YtghcpjahieaepaaLawTint3
import Derived.ArgAppend
namespace Go.Proofs.Ytghcpjahieaepaa
open Go.RowKit
set_option linter.unusedVariables false

theorem grows_grown {w w' : World} {row : Option Nat} (g : w.grownBy w' row) (h : ∀ k, row = some k → w.heap.size ≤ k) : Grows w w' :=
  .of_below ((Below.refl w.heap.size w).grown g (Nat.le_refl _) h)

/-- A matrix' numbers as cells. -/
def matL (m : Nat → Int) : List Value := (List.range 20).map fun i => .int .i64 (m i)
theorem matL_length (m : Nat → Int) : (matL m).length = 20 := by simp [matL]
theorem matL_at {m : Nat → Int} {j : Nat} {u : Value} (h : (matL m)[j]? = some u) : j < 20 ∧ u = .int .i64 (m j) := by
  have hj : j < 20 := by have := (List.getElem?_eq_some_iff.1 h).1; rwa [matL_length] at this
  refine ⟨hj, ?_⟩
  simp [matL, hj] at h
  exact h.symm
theorem matL_one {m : Nat → Int} {u : Value} (h : u ∈ matL m) : u.oneCell' = true := by
  simp only [matL, List.mem_map] at h
  obtain ⟨i, _, rfl⟩ := h
  rfl
theorem Mat.addr {w : World} {b off cap : Nat} {m : Nat → Int} (h : Mat w b off cap m) {j : Nat} {u : Value} (hj : (matL m)[j]? = some u) : w.cell? (Addr.add ⟨b, off, none⟩ j) = some u := by
  obtain ⟨hlt, rfl⟩ := matL_at hj
  have := h.cell j hlt
  unfold Addr.add
  split
  · subst j; exact this
  · exact this
theorem mat_of_own {w : World} {B : Nat} {e : TypeId} {v : Value} {m : Nat → Int} {n : Nat} {xs : List Value} (hn : n = 20) (hx : xs = matL m) (h : w.ownsRow B e 1 v n xs) (hbd : ∀ i, i < 20 → -32768 ≤ m i ∧ m i ≤ 32767) :
    ∃ g c, v = .slice (some ⟨g, 0, none⟩) 20 c ∧ Mat w g 0 c m ∧ B ≤ g := by
  subst hn hx
  obtain ⟨_, ⟨_, h0⟩ | ⟨g, c, cur, rfl, hB, hg, hn, hc, hsz, htk⟩⟩ := h
  · omega
  · refine ⟨g, c, rfl, ⟨(Array.getElem?_eq_some_iff.1 hg).1, hn, by unfold maxLen at hc; omega, fun i hi => ?_, hbd⟩, hB⟩
    have h1 : (matL m)[i]? = some (.int .i64 (m i)) := by simp [matL, hi]
    rw [← htk, List.getElem?_take_of_lt (by omega), Array.getElem?_toList] at h1
    simp [World.cell?, hg, h1]

set_option maxHeartbeats 6400000 in
theorem tintKeeps_walk (a0 : Option Addr) (len cap : Nat) (zs : List Int) (r g b a : Int) (w : World) (h : IsRow .i64 w a0 len cap zs)
    (hr : 0 ≤ r ∧ r ≤ 255) (hg : 0 ≤ g ∧ g ≤ 255) (hb : 0 ≤ b ∧ b ≤ 255) (ha : 0 ≤ a ∧ a ≤ 255) :
    Calls Try.prog 12 #[.slice a0 len cap, .agg #[.int .u8 r, .int .u8 g, .int .u8 b, .int .u8 a]] w fun e w' => e = .returned (.bool true) ∧ Grows w w' := by
  have hcap := h.cap_le
  have HR := Lib.hid h
  by_cases hl : 100 < len
  · clear h HR
    go_enter Try.func12, Try.ntmps12
    go_wp2_with ((first | (go_at_call 36; refine (awake07 _ ).mono ?_; rintro e w' ⟨rfl, hgw⟩; first | (obtain ⟨gw, rfl⟩ := grows_of_grow hgw) | (obtain ⟨gw, rfl⟩ := hgw))))
    go_ret
    exact ⟨rfl, (by repeat (first | exact Grows.refl _ | apply Grows.grow | apply Grows.alloc | apply Grows.drew))⟩
  · have hl' : ¬ (100 < (len : Int)) := by omega
    by_cases hM : matB zs len = true
    · obtain ⟨rfl, bb, off, m, rfl, hm, -⟩ := mat_of_row h hM
      have HM : Hid (Mat w bb off cap m) := hm
      clear h hm hl'
      by_cases hT : rightT r g b a = true
      · obtain ⟨i0, hi0, hz0, hz1, hz2⟩ := info_of int_info
        have HI := Lib.hid hi0
        have HZ := Lib.hid hz0
        have HZ1 := Lib.hid hz1
        have HZ2 := Lib.hid hz2
        clear hi0 hz0 hz1 hz2
        go_enter Try.func12, Try.ntmps12
        go_wp2_with ((first
          | (first | (go_at_call 23; refine (ref01_right _ _ _ _ _ (by omega) (by omega) (by omega) (by omega)).mono ?_; rintro e w' ⟨rfl, hgw⟩; first | (obtain ⟨gw, rfl⟩ := grows_of_grow hgw) | (obtain ⟨gw, rfl⟩ := hgw)) | (go_at_call 38; refine (ref07_right _ _ _ zs _ (HR.out.grows (by repeat (first | exact Grows.refl _ | apply Grows.grow | apply Grows.alloc | apply Grows.drew)))).mono ?_; rintro e w' ⟨rfl, rfl⟩))
          | (first | (go_at_call 39; refine (tint_pixel m _ _ _ _ _ _ _ _ (Mat.grows HM.out (by repeat (first | exact Grows.refl _ | apply Grows.grow | apply Grows.alloc | apply Grows.drew))) (by omega) (by omega) (by omega) (by omega)).mono ?_; rintro e w' ⟨rfl, hgw⟩; first | (obtain ⟨gw, rfl⟩ := grows_of_grow hgw) | (obtain ⟨gw, rfl⟩ := hgw)))
          | (at_builtin
             refine wpList_append_grows _ rfl (.tmp 21) (.tmp 22) _ rfl 3 i0 _ 1 8 Try.underlying40 HI.out HZ.out HZ1.out HZ2.out rfl (by omega) (some _) 0 0 [] rfl (fun h => by cases h) rfl (fun _ _ j u hu => by cases hu)
               ⟨bb, off, none⟩ 20 cap (matL m) rfl (by rw [matL_length]) (fun j u hu => (Mat.grows HM.out (by repeat (first | exact Grows.refl _ | apply Grows.grow | apply Grows.alloc | apply Grows.drew))).addr hu) (fun u hu => matL_one hu) (by omega) (by simp only [maxLen]; omega) (by omega) ?_
             intro v1 w1 ho1 hg1
             obtain ⟨g1, cap1, rfl, hm1, _⟩ := mat_of_own rfl rfl ho1 HM.out.bd
             obtain ⟨gw1, rfl⟩ := grows_grown hg1 (fun k hk => by cases hk)
             replace hm1 := Lib.hid hm1
             clear ho1 hg1)))
        go_loopw [6] (fun i wr => ∃ k : Nat, k ≤ 20 ∧ i = .int .i64 k ∧ Hid (Grows w wr ∧ Mat wr bb off cap m ∧ Mat wr g1 0 cap1 m)) (fun i _ => 20 - (intOf i).toNat)
        case atStart => exact ⟨0, by omega, rfl, (by repeat (first | exact Grows.refl _ | apply Grows.grow | apply Grows.alloc | apply Grows.drew)), Mat.grows HM.out (by repeat (first | exact Grows.refl _ | apply Grows.grow | apply Grows.alloc | apply Grows.drew)), Mat.grows hm1.out (by assumption)⟩
        case round =>
          obtain ⟨k, hk, rfl, hh⟩ := hrel
          have HW1 := hh.out.1
          have lt1 := hh.out.2.1.lt
          have lt2 := hh.out.2.2.lt
          have r1 := hh.out.2.2.room
          have r2 := hh.out.2.2.most
          by_cases hk20 : k < 20
          · have hc1 := hh.out.2.1.cell k hk20
            have hc2 : wr.cell? ⟨g1, k, none⟩ = some (.int .i64 (m k)) := by have := hh.out.2.2.cell k hk20; rwa [Nat.zero_add] at this
            go_wp2
            first | refine region_grow2 (by kernel_rfl) (by kernel_rfl) ?_ | refine region_grow (by kernel_rfl) (by kernel_rfl) ?_
            repeat (go_big_quiet_step (fail))
            refine wpQuiet_nil ?_
            rintro _ ⟨gr, rfl⟩
            go_wp2
            go_roundw
            case rel => exact ⟨k + 1, by omega, by go_num, HW1.grow _, Mat.grows hh.out.2.1 (by repeat (first | exact Grows.refl _ | apply Grows.grow | apply Grows.alloc | apply Grows.drew)), Mat.grows hh.out.2.2 (by repeat (first | exact Grows.refl _ | apply Grows.grow | apply Grows.alloc | apply Grows.drew))⟩
            case measure => simp [intOf]; omega
          · obtain rfl : k = 20 := by omega
            go_wp2_with ((first | (go_at_call 36; refine (awake07 _ ).mono ?_; rintro e w' ⟨rfl, hgw⟩; first | (obtain ⟨gw, rfl⟩ := grows_of_grow hgw) | (obtain ⟨gw, rfl⟩ := hgw))))
            go_ret
            exact ⟨rfl, HW1.grow _⟩
      · have hT : rightT r g b a = false := by simpa using hT
        go_enter Try.func12, Try.ntmps12
        go_wp2_with ((first | (go_at_call 36; refine (awake07 _ ).mono ?_; rintro e w' ⟨rfl, hgw⟩; first | (obtain ⟨gw, rfl⟩ := grows_of_grow hgw) | (obtain ⟨gw, rfl⟩ := hgw)) | (go_at_call 23; refine (ref01_right _ _ _ _ _ (by omega) (by omega) (by omega) (by omega)).mono ?_; rintro e w' ⟨rfl, hgw⟩; first | (obtain ⟨gw, rfl⟩ := grows_of_grow hgw) | (obtain ⟨gw, rfl⟩ := hgw)) | (go_at_call 38; refine (ref07_right _ _ _ zs _ (HR.out.grows (by repeat (first | exact Grows.refl _ | apply Grows.grow | apply Grows.alloc | apply Grows.drew)))).mono ?_; rintro e w' ⟨rfl, rfl⟩)))
        go_ret
        exact ⟨rfl, (by repeat (first | exact Grows.refl _ | apply Grows.grow | apply Grows.alloc | apply Grows.drew))⟩
    · have hM : matB zs len = false := by simpa using hM
      clear h
      go_enter Try.func12, Try.ntmps12
      go_wp2_with ((first | (go_at_call 36; refine (awake07 _ ).mono ?_; rintro e w' ⟨rfl, hgw⟩; first | (obtain ⟨gw, rfl⟩ := grows_of_grow hgw) | (obtain ⟨gw, rfl⟩ := hgw)) | (go_at_call 23; refine (ref01_right _ _ _ _ _ (by omega) (by omega) (by omega) (by omega)).mono ?_; rintro e w' ⟨rfl, hgw⟩; first | (obtain ⟨gw, rfl⟩ := grows_of_grow hgw) | (obtain ⟨gw, rfl⟩ := hgw)) | (go_at_call 38; refine (ref07_right _ _ _ zs _ (HR.out.grows (by repeat (first | exact Grows.refl _ | apply Grows.grow | apply Grows.alloc | apply Grows.drew)))).mono ?_; rintro e w' ⟨rfl, rfl⟩)))
      go_ret
      exact ⟨rfl, (by repeat (first | exact Grows.refl _ | apply Grows.grow | apply Grows.alloc | apply Grows.drew))⟩
end Go.Proofs.Ytghcpjahieaepaa
