/- The walks of chapter 7's laws. -/
import Derived.Test.YtghcpjahieaepaaTintC2
import Derived.Test.YtghcpjahieaepaaLawTone
namespace Go.Proofs.Ytghcpjahieaepaa
open Go.RowKit
set_option linter.unusedVariables false

theorem cell_lt {w : World} {x : Addr} {v : Value} (h : w.cell? x = some v) : x.block < w.heap.size := by
  by_cases hb : x.block < w.heap.size
  · exact hb
  · simp [World.cell?, hb] at h
theorem IsRow.grows {k : IntKind} {w W : World} {a : Option Addr} {len cap : Nat} {zs : List Int} (h : IsRow k w a len cap zs) (g : Grows w W) : IsRow k W a len cap zs := by
  rcases h with h | ⟨x, rfl, h1, h2, h3, hc, hw⟩
  · exact .inl h
  · exact .inr ⟨x, rfl, h1, h2, h3, fun i hi => (g.below.cell (cell_lt (hc i hi))).trans (hc i hi), hw⟩
theorem mat_of_row {w : World} {a : Option Addr} {len cap : Nat} {zs : List Int} (h : IsRow .i64 w a len cap zs) (hm : matB zs len = true) :
    len = 20 ∧ ∃ b off m, a = some ⟨b, off, none⟩ ∧ Mat w b off cap m ∧ ∀ i, m i = zs.getD i 0 := by
  have hz := h.len_le
  have hcap := h.cap_le
  obtain ⟨rfl, hbd⟩ := (matB_iff zs len hz).1 hm
  obtain ⟨b, off, rfl, hb, hc, hw⟩ := h.at (by omega)
  exact ⟨rfl, b, off, fun i => zs.getD i 0, rfl, ⟨hb, by omega, by omega, hc, hbd⟩, fun i => rfl⟩

set_option maxHeartbeats 3200000 in
theorem tintPixels_walk (a0 : Option Addr) (len cap : Nat) (zs : List Int) (r g b a : Int) (w : World) (h : IsRow .i64 w a0 len cap zs)
    (hr : 0 ≤ r ∧ r ≤ 255) (hg : 0 ≤ g ∧ g ≤ 255) (hb : 0 ≤ b ∧ b ≤ 255) (ha : 0 ≤ a ∧ a ≤ 255) :
    Calls Try.prog 9 #[.slice a0 len cap, .agg #[.int .u8 r, .int .u8 g, .int .u8 b, .int .u8 a]] w fun e w' => e = .returned (.bool true) ∧ Grows w w' := by
  have hcap := h.cap_le
  have HR := Lib.hid h
  by_cases hl : 100 < len
  · clear h HR
    go_enter Try.func9, Try.ntmps9
    go_wp2_with ((first | (go_at_call 36; refine (awake07 _ ).mono ?_; rintro e w' ⟨rfl, hgw⟩; first | (obtain ⟨gw, rfl⟩ := grows_of_grow hgw) | (obtain ⟨gw, rfl⟩ := hgw))))
    go_ret
    exact ⟨rfl, (by repeat (first | exact Grows.refl _ | apply Grows.grow | apply Grows.alloc | apply Grows.drew))⟩
  · have hl' : ¬ (100 < (len : Int)) := by omega
    by_cases hM : matB zs len = true
    · obtain ⟨rfl, bb, off, m, rfl, hm, _⟩ := mat_of_row h hM
      have HM : Hid (Mat w bb off cap m) := hm
      clear h hm hl'
      go_enter Try.func9, Try.ntmps9
      go_wp2_with ((first | (go_at_call 36; refine (awake07 _ ).mono ?_; rintro e w' ⟨rfl, hgw⟩; first | (obtain ⟨gw, rfl⟩ := grows_of_grow hgw) | (obtain ⟨gw, rfl⟩ := hgw)) | (go_at_call 23; refine (ref01_right _ _ _ _ _ (by omega) (by omega) (by omega) (by omega)).mono ?_; rintro e w' ⟨rfl, hgw⟩; first | (obtain ⟨gw, rfl⟩ := grows_of_grow hgw) | (obtain ⟨gw, rfl⟩ := hgw)) | (go_at_call 37; refine (tint_right _ _ _ zs _ (HR.out.grows (by repeat (first | exact Grows.refl _ | apply Grows.grow | apply Grows.alloc | apply Grows.drew)))).mono ?_; rintro e w' ⟨rfl, rfl⟩) | (go_at_call 38; refine (ref07_right _ _ _ zs _ (HR.out.grows (by repeat (first | exact Grows.refl _ | apply Grows.grow | apply Grows.alloc | apply Grows.drew)))).mono ?_; rintro e w' ⟨rfl, rfl⟩)))
      · go_ret
        exact ⟨rfl, (by repeat (first | exact Grows.refl _ | apply Grows.grow | apply Grows.alloc | apply Grows.drew))⟩
      · first | refine region_grow2 (by kernel_rfl) (by kernel_rfl) ?_ | refine region_grow (by kernel_rfl) (by kernel_rfl) ?_
        repeat (go_big_quiet_step ((first | (go_at_call 39; exact grow_of (tint_pixel m _ _ _ _ _ _ _ _ (Mat.grows HM.out (by repeat (first | exact Grows.refl _ | apply Grows.grow | apply Grows.alloc | apply Grows.drew))) (by omega) (by omega) (by omega) (by omega))) | (go_at_call 40; exact grow_of (ref07_pixel m _ _ _ _ _ _ _ _ (Mat.grows HM.out (by repeat (first | exact Grows.refl _ | apply Grows.grow | apply Grows.alloc | apply Grows.drew))) (by omega) (by omega) (by omega) (by omega))) | (go_at_call 41; exact grow_of (tint_calm m _ _ _ _ (Mat.grows HM.out (by repeat (first | exact Grows.refl _ | apply Grows.grow | apply Grows.alloc | apply Grows.drew))))))))
        refine wpQuiet_nil ?_
        rintro _ ⟨gr, rfl⟩
        go_wp2
        go_ret
        exact ⟨ret_bool (by simp [calmB]), (by repeat (first | exact Grows.refl _ | apply Grows.grow | apply Grows.alloc | apply Grows.drew))⟩
    · have hM : matB zs len = false := by simpa using hM
      clear h
      go_enter Try.func9, Try.ntmps9
      go_wp2_with ((first | (go_at_call 36; refine (awake07 _ ).mono ?_; rintro e w' ⟨rfl, hgw⟩; first | (obtain ⟨gw, rfl⟩ := grows_of_grow hgw) | (obtain ⟨gw, rfl⟩ := hgw)) | (go_at_call 23; refine (ref01_right _ _ _ _ _ (by omega) (by omega) (by omega) (by omega)).mono ?_; rintro e w' ⟨rfl, hgw⟩; first | (obtain ⟨gw, rfl⟩ := grows_of_grow hgw) | (obtain ⟨gw, rfl⟩ := hgw)) | (go_at_call 37; refine (tint_right _ _ _ zs _ (HR.out.grows (by repeat (first | exact Grows.refl _ | apply Grows.grow | apply Grows.alloc | apply Grows.drew)))).mono ?_; rintro e w' ⟨rfl, rfl⟩) | (go_at_call 38; refine (ref07_right _ _ _ zs _ (HR.out.grows (by repeat (first | exact Grows.refl _ | apply Grows.grow | apply Grows.alloc | apply Grows.drew)))).mono ?_; rintro e w' ⟨rfl, rfl⟩)))
      go_ret
      exact ⟨rfl, (by repeat (first | exact Grows.refl _ | apply Grows.grow | apply Grows.alloc | apply Grows.drew))⟩

theorem tint_right_of (m : Nat → Int) (r g b a : Int) : rightT (tint0 m r g b a) (tint1 m r g b a) (tint2 m r g b a) (tint3 m r g b a) = true :=
  rightT_thick _ _ _ _ (rowV_bd ..) (rowV_bd ..) (rowV_bd ..) (rowV_bd ..)
theorem cutT_id (n : Int) (h : 0 ≤ n ∧ n ≤ 255) : cutT n = n := by unfold cutT; omega
theorem same_row0 (r g b a : Int) (h : 0 ≤ r ∧ r ≤ 255) : rowV sameM 0 r g b a = r := by
  have e : rowV sameM 0 r g b a = cutT ((255 * 0 + 128 + 256 * r + 0 * g + 0 * b + 0 * a) / 256) := rfl
  rw [e, show (255 * 0 + 128 + 256 * r + 0 * g + 0 * b + 0 * a) / 256 = r by omega]; exact cutT_id r h
theorem same_row5 (r g b a : Int) (h : 0 ≤ g ∧ g ≤ 255) : rowV sameM 5 r g b a = g := by
  have e : rowV sameM 5 r g b a = cutT ((255 * 0 + 128 + 0 * r + 256 * g + 0 * b + 0 * a) / 256) := rfl
  rw [e, show (255 * 0 + 128 + 0 * r + 256 * g + 0 * b + 0 * a) / 256 = g by omega]; exact cutT_id g h
theorem same_row10 (r g b a : Int) (h : 0 ≤ b ∧ b ≤ 255) : rowV sameM 10 r g b a = b := by
  have e : rowV sameM 10 r g b a = cutT ((255 * 0 + 128 + 0 * r + 0 * g + 256 * b + 0 * a) / 256) := rfl
  rw [e, show (255 * 0 + 128 + 0 * r + 0 * g + 256 * b + 0 * a) / 256 = b by omega]; exact cutT_id b h
theorem same_row15 (r g b a : Int) (h : 0 ≤ a ∧ a ≤ 255) : rowV sameM 15 r g b a = a := by
  have e : rowV sameM 15 r g b a = cutT ((255 * 0 + 128 + 0 * r + 0 * g + 0 * b + 256 * a) / 256) := rfl
  rw [e, show (255 * 0 + 128 + 0 * r + 0 * g + 0 * b + 256 * a) / 256 = a by omega]; exact cutT_id a h
theorem tint_same (r g b a : Int) (hr : 0 ≤ r ∧ r ≤ 255) (hg : 0 ≤ g ∧ g ≤ 255) (hb : 0 ≤ b ∧ b ≤ 255) (ha : 0 ≤ a ∧ a ≤ 255) (h : rightT r g b a = true) :
    tint0 sameM r g b a = r ∧ tint1 sameM r g b a = g ∧ tint2 sameM r g b a = b ∧ tint3 sameM r g b a = a := by
  have hl := (rightT_iff r g b a).1 h
  have d1 := divT_bd r a hr.1 ha.1
  have d2 := divT_bd g a hg.1 ha.1
  have d3 := divT_bd b a hb.1 ha.1
  unfold tint0 tint1 tint2 tint3
  rw [same_row0 _ _ _ _ d1, same_row5 _ _ _ _ d2, same_row10 _ _ _ _ d3, same_row15 _ _ _ _ ha]
  exact ⟨mulT_divT r a hr.1 hl.1 ha.2, mulT_divT g a hg.1 hl.2.1 ha.2, mulT_divT b a hb.1 hl.2.2 ha.2, rfl⟩
end Go.Proofs.Ytghcpjahieaepaa
