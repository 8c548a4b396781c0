/- The walk of chapter 7's law TintRows, row 0 (printed by tintrows.py). -/
import Derived.Test.YtghcpjahieaepaaLawTint5
namespace Go.Proofs.Ytghcpjahieaepaa
open Go.RowKit
set_option linter.unusedVariables false

set_option maxHeartbeats 6400000 in
theorem tintRows_0 (b off cap b2 off2 cap2 : Nat) (m o : Nat → Int) (r g bl a row : Int) (w : World) (zs1 zs2 : List Int) (HR1 : Hid (IsRow .i64 w (some ⟨b, off, none⟩) 20 cap zs1)) (HR2 : Hid (IsRow .i64 w (some ⟨b2, off2, none⟩) 20 cap2 zs2)) (hM1 : Hid (matB zs1 20 = true)) (hM2 : Hid (matB zs2 20 = true)) (HM : Hid (Mat w b off cap m)) (HO : Hid (Mat w b2 off2 cap2 o)) (hT : rightT r g bl a = true) (hrow : 0 ≤ row ∧ row ≤ 255) (hk : row % 3 = 0)
    (hr : 0 ≤ r ∧ r ≤ 255) (hg : 0 ≤ g ∧ g ≤ 255) (hb : 0 ≤ bl ∧ bl ≤ 255) (ha : 0 ≤ a ∧ a ≤ 255) :
    Calls Try.prog 10 #[.slice (some ⟨b, off, none⟩) 20 cap, .slice (some ⟨b2, off2, none⟩) 20 cap2, .agg #[.int .u8 r, .int .u8 g, .int .u8 bl, .int .u8 a], .int .u8 row] w fun e w' => e = .returned (.bool true) ∧ Grows w w' := by
  obtain ⟨i0, hi0, hz0, hz1, hz2⟩ := info_of int_info
  have HI := Lib.hid hi0
  have HZ := Lib.hid hz0
  have HZ1 := Lib.hid hz1
  have HZ2 := Lib.hid hz2
  have hcap := HM.out.room
  have hcap' := HM.out.most
  have hcap2 := HO.out.room
  have hcap2' := HO.out.most
  clear hi0 hz0 hz1 hz2
  go_enter Try.func10, Try.ntmps10
  go_wp2_with ((first
    | (go_at_call 38; (with_reducible refine (ref07_rightIs _ _ _ zs1 _ (IsRow.grows HR1.out (by repeat (first | exact Grows.refl _ | apply Grows.grow | apply Grows.alloc | apply Grows.drew))) _ hM1.out).mono ?_); rintro e w' ⟨rfl, rfl⟩)
    | (go_at_call 38; (with_reducible refine (ref07_rightIs _ _ _ zs2 _ (IsRow.grows HR2.out (by repeat (first | exact Grows.refl _ | apply Grows.grow | apply Grows.alloc | apply Grows.drew))) _ hM2.out).mono ?_); rintro e w' ⟨rfl, rfl⟩)
    | (first | (go_at_call 23; refine (ref01_right _ _ _ _ _ (by omega) (by omega) (by omega) (by omega)).mono ?_; rintro e w' ⟨rfl, hgw⟩; first | (obtain ⟨gw, rfl⟩ := grows_of_grow hgw) | (obtain ⟨gw, rfl⟩ := hgw)))
    | (at_builtin
       refine wpList_append_grows _ rfl (.tmp 42) (.tmp 43) _ rfl 3 i0 _ 1 8 Try.underlying40 HI.out HZ.out HZ1.out HZ2.out rfl (by omega) none 0 0 [] rfl (fun _ => ⟨rfl, rfl⟩) rfl (fun _ h => by cases h)
         ⟨b2, off2, none⟩ 20 cap2 (matL o) rfl (by rw [matL_length]) (fun j u hu => (Mat.grows HO.out (by repeat (first | exact Grows.refl _ | apply Grows.grow | apply Grows.alloc | apply Grows.drew))).addr hu) (fun u hu => matL_one hu) (by omega) (by simp only [maxLen]; omega) (by omega) ?_
       intro v1 w1 ho1 hg1
       replace ho1 := Lib.hid ho1
       obtain ⟨gl, cl, rfl, hB1, hlt1, hle1, hmx1, hc1, hf1⟩ := ints_own (f := o) (n := 20) ho1.out (by omega)
       obtain ⟨gw1, hgw1⟩ := grows_grown hg1 (fun k hk => by cases hk)
       have GR1 : Hid (Grows w w1) := by rw [hgw1]; exact (by repeat (first | exact Grows.refl _ | apply Grows.grow | apply Grows.alloc | apply Grows.drew))
       have P1 : Hid (Blk w1 w.heap.size 29 #[.int .u8 r, .int .u8 g, .int .u8 bl, .int .u8 a]) := by rw [hgw1]; exact (by unfold Blk; repeat (first | exact blk_at _ _ _ (by first | omega | (simp; done) | (simp; omega)) | refine (blk_past _ _ _ (by first | omega | (simp; done) | (simp; omega))).trans ?_ | refine (heap_grow _ _ _ (by first | omega | (simp; done) | (simp; omega))).trans ?_ | refine (blk_drew _ _).trans ?_))
       simp at hB1
       clear ho1 hg1 hgw1)))
  have HC1 := Lib.hid hc1
  have cm0 : w1.cell? ⟨b, off, none⟩ = some (.int .i64 (m 0)) := (HM.out.grows GR1.out).cell 0 (by omega)
  have cl0 : w1.cell? ⟨gl, 0, none⟩ = some (.int .i64 (o 0)) := hc1 0 (by omega)
  have cm1 : w1.cell? ⟨b, off + 1, none⟩ = some (.int .i64 (m 1)) := (HM.out.grows GR1.out).cell 1 (by omega)
  have cl1 : w1.cell? ⟨gl, 1, none⟩ = some (.int .i64 (o 1)) := hc1 1 (by omega)
  have cm2 : w1.cell? ⟨b, off + 2, none⟩ = some (.int .i64 (m 2)) := (HM.out.grows GR1.out).cell 2 (by omega)
  have cl2 : w1.cell? ⟨gl, 2, none⟩ = some (.int .i64 (o 2)) := hc1 2 (by omega)
  have cm3 : w1.cell? ⟨b, off + 3, none⟩ = some (.int .i64 (m 3)) := (HM.out.grows GR1.out).cell 3 (by omega)
  have cl3 : w1.cell? ⟨gl, 3, none⟩ = some (.int .i64 (o 3)) := hc1 3 (by omega)
  have cm4 : w1.cell? ⟨b, off + 4, none⟩ = some (.int .i64 (m 4)) := (HM.out.grows GR1.out).cell 4 (by omega)
  have cl4 : w1.cell? ⟨gl, 4, none⟩ = some (.int .i64 (o 4)) := hc1 4 (by omega)
  have hlb := (HM.out.grows GR1.out).lt
  clear hc1
  refine wp_loop_rounds 6 ?_
  iterate 5 (rw [rounds_succ]; go_wp2)
  obtain ⟨W5, hW5⟩ : ∃ W5, W5 = (((((w1.setCell ⟨gl, 0, none⟩ (.int .i64 (m 0))).setCell ⟨gl, 1, none⟩ (.int .i64 (m 1))).setCell ⟨gl, 2, none⟩ (.int .i64 (m 2))).setCell ⟨gl, 3, none⟩ (.int .i64 (m 3))).setCell ⟨gl, 4, none⟩ (.int .i64 (m 4))) := ⟨_, rfl⟩
  have hset : W5 = w1.setCells gl 0 [.int .i64 (m 0), .int .i64 (m 1), .int .i64 (m 2), .int .i64 (m 3), .int .i64 (m 4)] := hW5
  rw [← hW5]
  have GW5 : Hid (Grows w W5) := by rw [hset]; exact GR1.out.grown (grownBy_setCells' w1 gl _ _) (fun k hk => by injection hk with hk; omega)
  have hltl : gl < W5.heap.size := by rw [hset, size_setCells']; exact hlt1
  have HCL : Hid (∀ i, i < 15 → W5.cell? ⟨gl, i, none⟩ = some (.int .i64 (rowM m o 0 i))) := fun i hi => by
    rw [hset]
    exact row_cells (k := 0) HC1.out (by omega) i (by omega)
  have P5 : Hid (Blk W5 w.heap.size 29 #[.int .u8 r, .int .u8 g, .int .u8 bl, .int .u8 a]) := by
    rw [hset]
    exact P1.out.grown (grownBy_setCells' w1 gl _ _) (fun e => by injection e with e; omega)
  clear hW5 hset HC1 cm0 cl0 cm1 cl1 cm2 cl2 cm3 cl3 cm4 cl4
  rw [rounds_succ]
  go_wp2_with ((first
    | (at_builtin
       refine wpList_append_grows _ rfl (.tmp 62) (.tmp 64) _ rfl 3 i0 _ 1 8 Try.underlying40 HI.out HZ.out HZ1.out HZ2.out rfl (by omega) (some _) 0 0 [] rfl (fun h => by cases h) rfl (fun _ _ j u hu => by cases hu)
         ⟨b, off, none⟩ 15 cap (intsL m 15) rfl (by rw [intsL_length]) (fun j u hu => by { obtain ⟨hj, rfl⟩ := intsL_at hu; rw [addr_add]; exact ((HM.out.grows GW5.out).grows (by repeat (first | exact Grows.refl _ | apply Grows.grow | apply Grows.alloc | apply Grows.drew))).cell j (by omega) }) (fun u hu => intsL_one hu) (by omega) (by simp only [maxLen]; omega) (by omega) ?_
       intro v2 w2 ho2 hg2
       replace ho2 := Lib.hid ho2
       obtain ⟨g2, c2, rfl, hB2, hlt2, hle2, hmx2, -, -⟩ := ints_own (f := m) (n := 15) ho2.out (by omega)
       obtain ⟨gw2, hgw2⟩ := grows_grown hg2 (fun k hk => by cases hk)
       have GS2 : Hid (Grows W5 w2) := by rw [hgw2]; exact (by repeat (first | exact Grows.refl _ | apply Grows.grow | apply Grows.alloc | apply Grows.drew))
       simp at hB2
       clear hg2 hgw2)
    | (at_builtin
       refine wpList_append_grows _ rfl (.tmp 66) (.tmp 68) _ rfl 3 i0 _ 1 8 Try.underlying40 HI.out HZ.out HZ1.out HZ2.out rfl (by omega) (some _) 0 0 [] rfl (fun h => by cases h) rfl (fun _ _ j u hu => by cases hu)
         ⟨gl, 0, none⟩ 15 cl (intsL (rowM m o 0) 15) rfl (by rw [intsL_length]) (fun j u hu => by { obtain ⟨hj, rfl⟩ := intsL_at hu; rw [addr_add]; exact (by have := HCL.out j (by omega); rw [Nat.zero_add]; exact cell_kept (Grows.trans GS2.out (by repeat (first | exact Grows.refl _ | apply Grows.grow | apply Grows.alloc | apply Grows.drew))) hltl this) }) (fun u hu => intsL_one hu) (by omega) (by simp only [maxLen]; omega) (by omega) ?_
       intro v3 w3 ho3 hg3
       replace ho3 := Lib.hid ho3
       obtain ⟨g3, c3, rfl, hB3, hlt3, hle3, hmx3, -, -⟩ := ints_own (f := (rowM m o 0)) (n := 15) ho3.out (by omega)
       obtain ⟨gw3, hgw3⟩ := grows_grown hg3 (fun k hk => by cases hk)
       have GS3 : Hid (Grows w2 w3) := by rw [hgw3]; exact (by repeat (first | exact Grows.refl _ | apply Grows.grow | apply Grows.alloc | apply Grows.drew))
       simp at hB3
       clear hg3 hgw3)))
  refine wp_name7 ?_
  intro W4 hW4
  obtain ⟨n4, hn4e⟩ : ∃ n, n = w3.heap.size := ⟨_, rfl⟩
  have G34 : Grows w3 W4 := by rw [hW4]; exact (by repeat (first | exact Grows.refl _ | apply Grows.grow | apply Grows.alloc | apply Grows.drew))
  have G5 : Grows W5 w3 := GS2.out.trans GS3.out
  have s25 := GW5.out.below.size
  have s2 := GS2.out.below.size
  have s3 := GS3.out.below.size
  have GR4 : Hid (Grows w W4) := (GW5.out.trans G5).trans G34
  have P4 : Hid (Blk W4 w.heap.size 29 #[.int .u8 r, .int .u8 g, .int .u8 bl, .int .u8 a]) := P5.out.grows (G5.trans G34)
  have OA : Hid (W4.ownsRow w.heap.size 3 1 (.slice (some ⟨g2, 0, none⟩) 15 c2) 15 (intsL m 15)) := ownsRow_base (ownsRow_grows ho2.out (GS3.out.trans G34)) (by simp; omega)
  have OB : Hid (W4.ownsRow w.heap.size 3 1 (.slice (some ⟨g3, 0, none⟩) 15 c3) 15 (intsL (rowM m o 0) 15)) := ownsRow_base (ownsRow_grows ho3.out G34) (by simp; omega)
  have FC : Hid (∀ j u, fullC[j]? = some u → W4.cell? ⟨n4, j, none⟩ = some u) := fun j u hu => by
    have hb : Blk W4 n4 3 #[.int .i64 0, .int .i64 0, .int .i64 0, .int .i64 0, .int .i64 256] := by rw [hW4, hn4e]; exact (by unfold Blk; repeat (first | exact blk_at _ _ _ (by first | omega | (simp; done) | (simp; omega)) | refine (blk_past _ _ _ (by first | omega | (simp; done) | (simp; omega))).trans ?_ | refine (heap_grow _ _ _ (by first | omega | (simp; done) | (simp; omega))).trans ?_ | refine (blk_drew _ _).trans ?_))
    rw [hb.cell]
    simpa [fullC] using hu
  have hn4 : n4 < W4.heap.size := by rw [hW4, hn4e]; simp
  have hg23 : g2 ≠ g3 := by omega
  have hlp := P5.out.lt
  have hg2p : g2 ≠ w.heap.size := by omega
  have hg3p : g3 ≠ w.heap.size := by omega
  have hg2n : g2 ≠ n4 := by omega
  have hg3n : g3 ≠ n4 := by omega
  have hgw2 : w.heap.size ≤ g2 := by omega
  have hgw3 : w.heap.size ≤ g3 := by omega
  obtain ⟨x0, x1, x2, x3, xf⟩ := P4.out.c4
  have lp := P4.out.lt
  have e1 : tint0 (fullM m) r g bl a = tint0 (fullM (rowM m o 0)) r g bl a := by unfold tint0; rw [full_same m o 0 (by omega), full_alpha _ _ _ _ _ (divT_bd r a hr.1 ha.1) (divT_bd g a hg.1 ha.1) (divT_bd bl a hb.1 ha.1) ha, full_alpha _ _ _ _ _ (divT_bd r a hr.1 ha.1) (divT_bd g a hg.1 ha.1) (divT_bd bl a hb.1 ha.1) ha]
  rw [← hn4e]
  clear hW4 hn4e G34 G5 s25 s2 s3 hB1 hB2 hB3 P5 P1 HCL GS2 GS3 ho2 ho3
  go_region_held3 (fun w' => w'.cell? ⟨w.heap.size, 0, none⟩ = some (.int .u8 r) ∧ w'.cell? ⟨w.heap.size, 1, none⟩ = some (.int .u8 g) ∧ w'.cell? ⟨w.heap.size, 2, none⟩ = some (.int .u8 bl) ∧ w'.cell? ⟨w.heap.size, 3, none⟩ = some (.int .u8 a)) (go_simp) (first
    | (refine step_append_if (by rfl) (.tmp 73) (.tmp 74) _ (by rfl) w.heap.size 3 i0 _ 1 8 Try.underlying40 HI.out HZ.out HZ1.out HZ2.out (by rfl) (by omega) (.slice (some ⟨g2, 0, none⟩) 15 c2) 15 (intsL m 15) (by rfl) (ownsRow_grows OA.out (by repeat (first | exact Grows.refl _ | apply Grows.grow | apply Grows.alloc | apply Grows.drew))) ⟨n4, 0, none⟩ 5 5 fullC (by rfl) (by rfl) (fun j u hu => by { rw [addr_add, Nat.zero_add]; exact cell_kept (by repeat (first | exact Grows.refl _ | apply Grows.grow | apply Grows.alloc | apply Grows.drew)) hn4 (FC.out j u hu) }) (fun u hu => full_one hu) (by omega) (by simp only [maxLen]; omega) (by omega) (by simp; omega) ?_; intro ga ca wa hownA hgrowA hatA hltA; have hmA := Lib.hid (mat_of_full hownA HM.out.bd); have OB2 := Lib.hid (ownsRow_grown (ownsRow_grows OB.out (by repeat (first | exact Grows.refl _ | apply Grows.grow | apply Grows.alloc | apply Grows.drew))) hgrowA (fun e => hg23 (by injection e with e; exact e.symm))); have P6 := (Blk.grows P4.out (by repeat (first | exact Grows.refl _ | apply Grows.grow | apply Grows.alloc | apply Grows.drew))).grown hgrowA (fun e => hg2p (by injection e with e; exact e.symm)); have FC2 : Hid (∀ j u, fullC[j]? = some u → wa.cell? ⟨n4, j, none⟩ = some u) := fun j u hu => (hgrowA.cell_far ⟨n4, j, none⟩ (by simp; omega) (fun e => hg2n (by injection e with e; exact e.symm))).trans (cell_kept (by repeat (first | exact Grows.refl _ | apply Grows.grow | apply Grows.alloc | apply Grows.drew)) hn4 (FC.out j u hu)); have hnA : n4 < wa.heap.size := Nat.lt_of_lt_of_le (by simp; omega) hgrowA.size; have hwA : w.heap.size < wa.heap.size := P6.lt; have GA : Hid (Grows w wa) := (GR4.out.trans (by repeat (first | exact Grows.refl _ | apply Grows.grow | apply Grows.alloc | apply Grows.drew))).grown hgrowA (fun k e => by { have e' : g2 = k := Option.some.inj e; omega }); have PA := Lib.hid P6; obtain ⟨y0, y1, y2, y3, yf⟩ := P6.c4; clear hownA hgrowA hatA hltA P6)
    | (refine step_append_if (by rfl) (.tmp 80) (.tmp 81) _ (by rfl) w.heap.size 3 i0 _ 1 8 Try.underlying40 HI.out HZ.out HZ1.out HZ2.out (by rfl) (by omega) (.slice (some ⟨g3, 0, none⟩) 15 c3) 15 (intsL (rowM m o 0) 15) (by rfl) (ownsRow_grows OB2.out (by repeat (first | exact Grows.refl _ | apply Grows.grow | apply Grows.alloc | apply Grows.drew))) ⟨n4, 0, none⟩ 5 5 fullC (by rfl) (by rfl) (fun j u hu => by { rw [addr_add, Nat.zero_add]; exact cell_kept (by repeat (first | exact Grows.refl _ | apply Grows.grow | apply Grows.alloc | apply Grows.drew)) hnA (FC2.out j u hu) }) (fun u hu => full_one hu) (by omega) (by simp only [maxLen]; omega) (by omega) (by simp; omega) ?_; intro gb cb wb hownB hgrowB hatB hltB; have hmB := Lib.hid (mat_of_full hownB (rowM_bd m o 0 HM.out.bd HO.out.bd)); have GB : Hid (Grows w wb) := (GA.out.trans (by repeat (first | exact Grows.refl _ | apply Grows.grow | apply Grows.alloc | apply Grows.drew))).grown hgrowB (fun k e => by { have e' : g3 = k := Option.some.inj e; omega }); have P7 : Blk wb w.heap.size 29 #[.int .u8 r, .int .u8 g, .int .u8 bl, .int .u8 a] := by { refine Blk.grown ?_ hgrowB (fun e => hg3p (by injection e with e; exact e.symm)); exact Blk.grows (show Blk wa w.heap.size 29 #[.int .u8 r, .int .u8 g, .int .u8 bl, .int .u8 a] from PA.out) (by repeat (first | exact Grows.refl _ | apply Grows.grow | apply Grows.alloc | apply Grows.drew)) }; have hwB : w.heap.size < wb.heap.size := P7.lt; obtain ⟨z0, z1, z2, z3, zf⟩ := P7.c4; clear hownB hgrowB hatB hltB P7)
    | (first | (go_at_call 36; refine (awake07 _ ).mono ?_; rintro e w' ⟨rfl, hgw⟩; first | (obtain ⟨gw, rfl⟩ := grows_of_grow hgw) | (obtain ⟨gw, rfl⟩ := hgw)))
    | (go_at_call 39; (with_reducible refine (tint_pixel (fullM m) ga 0 ca r g bl a _ ?_ (by omega) (by omega) (by omega) (by omega)).mono ?_); (exact Mat.grows hmA.out (by repeat (first | exact Grows.refl _ | apply Grows.grow | apply Grows.alloc | apply Grows.drew))); rintro e w' ⟨rfl, hgw⟩; first | (obtain ⟨gw, rfl⟩ := grows_of_grow hgw) | (obtain ⟨gw, rfl⟩ := hgw))
    | (go_at_call 39; (with_reducible refine (tint_pixel (fullM (rowM m o 0)) gb 0 cb r g bl a _ ?_ (by omega) (by omega) (by omega) (by omega)).mono ?_); (exact Mat.grows hmB.out (by repeat (first | exact Grows.refl _ | apply Grows.grow | apply Grows.alloc | apply Grows.drew))); rintro e w' ⟨rfl, hgw⟩; first | (obtain ⟨gw, rfl⟩ := grows_of_grow hgw) | (obtain ⟨gw, rfl⟩ := hgw)))
  all_goals go_wp2
  all_goals go_ret
  all_goals exact ⟨rfl, GB.out.trans (by repeat (first | exact Grows.refl _ | apply Grows.grow | apply Grows.alloc | apply Grows.drew))⟩
end Go.Proofs.Ytghcpjahieaepaa
