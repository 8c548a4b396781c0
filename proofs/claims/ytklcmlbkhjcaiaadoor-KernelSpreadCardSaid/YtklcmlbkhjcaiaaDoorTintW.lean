/- The walks of layer 7 (colours by a matrix): a row, a pixel; the reference's too. -/
import Derived.Test.YtklcmlbkhjcaiaaDoorRas
import Derived.Test.YtklcmlbkhjcaiaaDoorK6
import Derived.Test.YtklcmlbkhjcaiaaDoorK3
import Derived.Test.YtklcmlbkhjcaiaaDoorK1





namespace Go.Proofs.YtklcmlbkhjcaiaaDoor
open Go.RowKit
set_option linter.unusedVariables false


theorem cell_kept {w W : World} {b k : Nat} {v : Value} (h : Grows w W) (hb : b < w.heap.size) (hc : w.cell? ⟨b, k, none⟩ = some v) : W.cell? ⟨b, k, none⟩ = some v := (h.below.cell (p := ⟨b, k, none⟩) hb).trans hc

set_option maxHeartbeats 1600000 in
theorem tint_row (m : Nat → Int) (b o cap oo : Nat) (cr cg cb ca : Int) (w : World) (hb : b < w.heap.size) (hm : ∀ j, j < 5 → w.cell? ⟨b, o + j, none⟩ = some (.int .i64 (m (oo + j)))) (hbd : ∀ j, j < 5 → -32768 ≤ m (oo + j) ∧ m (oo + j) ≤ 32767)
    (hr : 0 ≤ cr ∧ cr ≤ 255) (hg : 0 ≤ cg ∧ cg ≤ 255) (hbb : 0 ≤ cb ∧ cb ≤ 255) (ha : 0 ≤ ca ∧ ca ≤ 255) :
    Calls Tryd.prog 105 #[.slice (some ⟨b, o, none⟩) 5 cap, .agg #[.int .u8 cr, .int .u8 cg, .int .u8 cb, .int .u8 ca]] w fun e w' => e = .returned (.int .u8 (rowV m oo cr cg cb ca)) ∧ Grows w w' := by
  have h0 : w.cell? ⟨b, o, none⟩ = some (.int .i64 (m oo)) := hm 0 (by omega)
  have h1 := hm 1 (by omega)
  have h2 := hm 2 (by omega)
  have h3 := hm 3 (by omega)
  have h4 := hm 4 (by omega)
  have k0 : -32768 ≤ m oo ∧ m oo ≤ 32767 := hbd 0 (by omega)
  have k1 := hbd 1 (by omega)
  have k2 := hbd 2 (by omega)
  have k3 := hbd 3 (by omega)
  have k4 := hbd 4 (by omega)
  have p0 := entry_bd _ _ k0 hr
  have p1 := entry_bd _ _ k1 hg
  have p2 := entry_bd _ _ k2 hbb
  have p3 := entry_bd _ _ k3 ha
  clear hm hbd
  go_enter Tryd.func105, Tryd.ntmps105
  go_wp2
  refine wp_loop_rounds 5 ?_
  repeat (rw [rounds_succ]; go_wp2_with ((first | (go_at_call 93; refine (tone_cut _ _ (by omega) (by omega)).mono ?_; rintro e w' ⟨rfl, rfl⟩))))
  go_ret
  exact ⟨rfl, (by repeat (first | exact Grows.refl _ | apply Grows.grow | apply Grows.alloc | apply Grows.drew))⟩

/-- What is known of a matrix that lies in memory: 20 numbers within bounds, in one block. -/
structure Mat (w : World) (b off cap : Nat) (m : Nat → Int) : Prop where
  lt : b < w.heap.size
  room : 20 ≤ cap
  most : cap ≤ 9223372036854775807
  cell : ∀ i, i < 20 → w.cell? ⟨b, off + i, none⟩ = some (.int .i64 (m i))
  bd : ∀ i, i < 20 → -32768 ≤ m i ∧ m i ≤ 32767
theorem Mat.grows {w W : World} {b off cap : Nat} {m : Nat → Int} (h : Mat w b off cap m) (g : Grows w W) : Mat W b off cap m :=
  ⟨Nat.lt_of_lt_of_le h.lt g.below.size, h.room, h.most, fun i hi => cell_kept g h.lt (h.cell i hi), h.bd⟩
theorem Mat.row {w : World} {b off cap : Nat} {m : Nat → Int} (h : Mat w b off cap m) (o : Nat) (ho : o ≤ 15) : ∀ j, j < 5 → w.cell? ⟨b, off + o + j, none⟩ = some (.int .i64 (m (o + j))) := fun j hj => by
  rw [Nat.add_assoc]; exact h.cell (o + j) (by omega)
theorem Mat.row0 {w : World} {b off cap : Nat} {m : Nat → Int} (h : Mat w b off cap m) : ∀ j, j < 5 → w.cell? ⟨b, off + j, none⟩ = some (.int .i64 (m (0 + j))) := fun j hj => by
  rw [Nat.zero_add]; exact h.cell j (by omega)
theorem Mat.rowb {w : World} {b off cap : Nat} {m : Nat → Int} (h : Mat w b off cap m) (o : Nat) (ho : o ≤ 15) : ∀ j, j < 5 → -32768 ≤ m (o + j) ∧ m (o + j) ≤ 32767 := fun j hj => h.bd _ (by omega)

set_option maxHeartbeats 3200000 in
theorem tint_pixel (m : Nat → Int) (b off cap : Nat) (cr cg cb ca : Int) (w : World) (hm : Mat w b off cap m)
    (hr : 0 ≤ cr ∧ cr ≤ 255) (hg : 0 ≤ cg ∧ cg ≤ 255) (hbb : 0 ≤ cb ∧ cb ≤ 255) (ha : 0 ≤ ca ∧ ca ≤ 255) :
    Calls Tryd.prog 95 #[.slice (some ⟨b, off, none⟩) 20 cap, .agg #[.int .u8 cr, .int .u8 cg, .int .u8 cb, .int .u8 ca]] w fun e w' => e = .returned (.agg #[.int .u8 (tint0 m cr cg cb ca), .int .u8 (tint1 m cr cg cb ca), .int .u8 (tint2 m cr cg cb ca), .int .u8 (tint3 m cr cg cb ca)]) ∧ Grows w w' := by
  have d0 := divT_bd cr ca hr.1 ha.1
  have d1 := divT_bd cg ca hg.1 ha.1
  have d2 := divT_bd cb ca hbb.1 ha.1
  have v0 := rowV_bd m 0 (divT cr ca) (divT cg ca) (divT cb ca) ca
  have v1 := rowV_bd m 5 (divT cr ca) (divT cg ca) (divT cb ca) ca
  have v2 := rowV_bd m 10 (divT cr ca) (divT cg ca) (divT cb ca) ca
  have v3 := rowV_bd m 15 (divT cr ca) (divT cg ca) (divT cb ca) ca
  have hcap := hm.room
  have hmost := hm.most
  have er : tint0 m cr cg cb ca = mulT (rowV m 0 (divT cr ca) (divT cg ca) (divT cb ca) ca) (rowV m 15 (divT cr ca) (divT cg ca) (divT cb ca) ca) := rfl
  have eg : tint1 m cr cg cb ca = mulT (rowV m 5 (divT cr ca) (divT cg ca) (divT cb ca) ca) (rowV m 15 (divT cr ca) (divT cg ca) (divT cb ca) ca) := rfl
  have eb : tint2 m cr cg cb ca = mulT (rowV m 10 (divT cr ca) (divT cg ca) (divT cb ca) ca) (rowV m 15 (divT cr ca) (divT cg ca) (divT cb ca) ca) := rfl
  have ea : tint3 m cr cg cb ca = rowV m 15 (divT cr ca) (divT cg ca) (divT cb ca) ca := rfl
  rw [er, eg, eb, ea]
  clear er eg eb ea
  have HM : Hid (Mat w b off cap m) := hm
  clear hm
  go_enter Tryd.func95, Tryd.ntmps95
  go_wp2_with ((first | (go_at_call 104; refine (tone_plain _ _ _ _ _ (by omega) (by omega) (by omega) (by omega)).mono ?_; rintro e w' ⟨rfl, hgw⟩; first | (obtain ⟨gw, rfl⟩ := grows_of_grow hgw) | (obtain ⟨gw, rfl⟩ := hgw))))
  refine wp_loop_rounds 5 ?_
  rw [rounds_succ]
  go_wp2
  first | refine region_grow_tail2 10 (by kernel_rfl) (by kernel_rfl) ?_ | refine region_grow_tail 10 (by kernel_rfl) (by kernel_rfl) ?_
  simp only [List.take_succ_cons, List.take_zero, List.drop_succ_cons, List.drop_zero]
  repeat (go_big_quiet_step ((go_at_call 105; exact grow_of (tint_row m b _ _ 0 _ _ _ _ _ (Mat.grows HM.out (by repeat (first | exact Grows.refl _ | apply Grows.grow | apply Grows.alloc | apply Grows.drew))).lt (Mat.grows HM.out (by repeat (first | exact Grows.refl _ | apply Grows.grow | apply Grows.alloc | apply Grows.drew))).row0 (HM.out.rowb 0 (by omega)) (by omega) (by omega) (by omega) (by omega)))))
  refine wpQuiet_nil ?_
  rintro _ ⟨gr, rfl⟩
  go_wp2
  rw [rounds_succ]
  go_wp2
  first | refine region_grow_tail2 10 (by kernel_rfl) (by kernel_rfl) ?_ | refine region_grow_tail 10 (by kernel_rfl) (by kernel_rfl) ?_
  simp only [List.take_succ_cons, List.take_zero, List.drop_succ_cons, List.drop_zero]
  repeat (go_big_quiet_step ((go_at_call 105; exact grow_of (tint_row m b _ _ 5 _ _ _ _ _ (Mat.grows HM.out (by repeat (first | exact Grows.refl _ | apply Grows.grow | apply Grows.alloc | apply Grows.drew))).lt ((Mat.grows HM.out (by repeat (first | exact Grows.refl _ | apply Grows.grow | apply Grows.alloc | apply Grows.drew))).row 5 (by omega)) (HM.out.rowb 5 (by omega)) (by omega) (by omega) (by omega) (by omega)))))
  refine wpQuiet_nil ?_
  rintro _ ⟨gr, rfl⟩
  go_wp2
  rw [rounds_succ]
  go_wp2
  first | refine region_grow_tail2 10 (by kernel_rfl) (by kernel_rfl) ?_ | refine region_grow_tail 10 (by kernel_rfl) (by kernel_rfl) ?_
  simp only [List.take_succ_cons, List.take_zero, List.drop_succ_cons, List.drop_zero]
  repeat (go_big_quiet_step ((go_at_call 105; exact grow_of (tint_row m b _ _ 10 _ _ _ _ _ (Mat.grows HM.out (by repeat (first | exact Grows.refl _ | apply Grows.grow | apply Grows.alloc | apply Grows.drew))).lt ((Mat.grows HM.out (by repeat (first | exact Grows.refl _ | apply Grows.grow | apply Grows.alloc | apply Grows.drew))).row 10 (by omega)) (HM.out.rowb 10 (by omega)) (by omega) (by omega) (by omega) (by omega)))))
  refine wpQuiet_nil ?_
  rintro _ ⟨gr, rfl⟩
  go_wp2
  rw [rounds_succ]
  go_wp2
  first | refine region_grow_tail2 10 (by kernel_rfl) (by kernel_rfl) ?_ | refine region_grow_tail 10 (by kernel_rfl) (by kernel_rfl) ?_
  simp only [List.take_succ_cons, List.take_zero, List.drop_succ_cons, List.drop_zero]
  repeat (go_big_quiet_step ((go_at_call 105; exact grow_of (tint_row m b _ _ 15 _ _ _ _ _ (Mat.grows HM.out (by repeat (first | exact Grows.refl _ | apply Grows.grow | apply Grows.alloc | apply Grows.drew))).lt ((Mat.grows HM.out (by repeat (first | exact Grows.refl _ | apply Grows.grow | apply Grows.alloc | apply Grows.drew))).row 15 (by omega)) (HM.out.rowb 15 (by omega)) (by omega) (by omega) (by omega) (by omega)))))
  refine wpQuiet_nil ?_
  rintro _ ⟨gr, rfl⟩
  go_wp2
  rw [rounds_succ]
  go_wp2_with ((first | (go_at_call 106; refine (tone_thick _ _ _ _ _ (by omega) (by omega) (by omega) (by omega)).mono ?_; rintro e w' ⟨rfl, hgw⟩; first | (obtain ⟨gw, rfl⟩ := grows_of_grow hgw) | (obtain ⟨gw, rfl⟩ := hgw))))
  refine bodyPost_ret (results_cell_row rfl _ _ _ 40 #[.int .u8 (mulT (rowV m 0 (divT cr ca) (divT cg ca) (divT cb ca) ca) (rowV m 15 (divT cr ca) (divT cg ca) (divT cb ca) ca)), .int .u8 (mulT (rowV m 5 (divT cr ca) (divT cg ca) (divT cb ca) ca) (rowV m 15 (divT cr ca) (divT cg ca) (divT cb ca) ca)), .int .u8 (mulT (rowV m 10 (divT cr ca) (divT cg ca) (divT cb ca) ca) (rowV m 15 (divT cr ca) (divT cg ca) (divT cb ca) ca)), .int .u8 (rowV m 15 (divT cr ca) (divT cg ca) (divT cb ca) ca)] (0, 0) _ rfl ?_ Tryd.underlying40 rfl px_info) rfl ⟨rfl, (by repeat (first | exact Grows.refl _ | apply Grows.grow | apply Grows.alloc | apply Grows.drew))⟩
  exact (by repeat (first | exact blk_at _ _ _ (by first | omega | (simp; done) | (simp; omega)) | refine (blk_past _ _ _ (by first | omega | (simp; done) | (simp; omega))).trans ?_ | refine (heap_grow _ _ _ (by first | omega | (simp; done) | (simp; omega))).trans ?_ | refine (blk_drew _ _).trans ?_))

theorem down_is (n : Int) : (n.tdiv 256 * 256 > n → n.tdiv 256 - 1 = n / 256) ∧ (¬ n.tdiv 256 * 256 > n → n.tdiv 256 = n / 256) := by
  by_cases h : 0 ≤ n
  · rw [Int.tdiv_eq_ediv_of_nonneg h]; omega
  · have e : n.tdiv 256 = -((-n) / 256) := by
      have := Int.neg_tdiv (a := -n) (b := 256)
      rw [Int.neg_neg] at this
      rw [this, Int.tdiv_eq_ediv_of_nonneg (by omega)]
    rw [e]; omega
theorem tdiv_bd (n : Int) (h : -1000000000 ≤ n ∧ n ≤ 1000000000) : -4000000 ≤ n.tdiv 256 ∧ n.tdiv 256 ≤ 4000000 := by
  by_cases h0 : 0 ≤ n
  · rw [Int.tdiv_eq_ediv_of_nonneg h0]; omega
  · have e : n.tdiv 256 = -((-n) / 256) := by
      have := Int.neg_tdiv (a := -n) (b := 256)
      rw [Int.neg_neg] at this
      rw [this, Int.tdiv_eq_ediv_of_nonneg (by omega)]
    rw [e]; omega
set_option maxHeartbeats 400000 in
theorem ref07_down (n : Int) (w : World) (h : -1000000000 ≤ n ∧ n ≤ 1000000000) :
    Calls Tryd.prog 75 #[.int .i64 n] w fun e w' => e = .returned (.int .i64 (n / 256)) ∧ w = w' := by
  have hd := down_is n
  have hb := tdiv_bd n (by omega)
  have HD := Lib.hid hd
  clear hd
  go_enter Tryd.func75, Tryd.ntmps75
  go_wp2
  all_goals
    go_ret
    have hd := HD.out
    exact ⟨ret_int (by first | (exact hd.1 (by assumption)) | (exact hd.2 (by omega)) | omega), rfl⟩

set_option maxHeartbeats 6400000 in
theorem ref07_pixel (m : Nat → Int) (b off cap : Nat) (cr cg cb ca : Int) (w : World) (hm : Mat w b off cap m)
    (hr : 0 ≤ cr ∧ cr ≤ 255) (hg : 0 ≤ cg ∧ cg ≤ 255) (hbb : 0 ≤ cb ∧ cb ≤ 255) (ha : 0 ≤ ca ∧ ca ≤ 255) :
    Calls Tryd.prog 52 #[.slice (some ⟨b, off, none⟩) 20 cap, .agg #[.int .u8 cr, .int .u8 cg, .int .u8 cb, .int .u8 ca]] w fun e w' => e = .returned (.agg #[.int .u8 (tint0 m cr cg cb ca), .int .u8 (tint1 m cr cg cb ca), .int .u8 (tint2 m cr cg cb ca), .int .u8 (tint3 m cr cg cb ca)]) ∧ Grows w w' := by
  have d0 := divT_bd cr ca hr.1 ha.1
  have d1 := divT_bd cg ca hg.1 ha.1
  have d2 := divT_bd cb ca hbb.1 ha.1
  have v0 := rowV_bd m 0 (divT cr ca) (divT cg ca) (divT cb ca) ca
  have v1 := rowV_bd m 5 (divT cr ca) (divT cg ca) (divT cb ca) ca
  have v2 := rowV_bd m 10 (divT cr ca) (divT cg ca) (divT cb ca) ca
  have v3 := rowV_bd m 15 (divT cr ca) (divT cg ca) (divT cb ca) ca
  have q0 : tint0 m cr cg cb ca = mulT (rowV m 0 (divT cr ca) (divT cg ca) (divT cb ca) ca) (rowV m 15 (divT cr ca) (divT cg ca) (divT cb ca) ca) := rfl
  have q1 : tint1 m cr cg cb ca = mulT (rowV m 5 (divT cr ca) (divT cg ca) (divT cb ca) ca) (rowV m 15 (divT cr ca) (divT cg ca) (divT cb ca) ca) := rfl
  have q2 : tint2 m cr cg cb ca = mulT (rowV m 10 (divT cr ca) (divT cg ca) (divT cb ca) ca) (rowV m 15 (divT cr ca) (divT cg ca) (divT cb ca) ca) := rfl
  have q3 : tint3 m cr cg cb ca = rowV m 15 (divT cr ca) (divT cg ca) (divT cb ca) ca := rfl
  rw [q0, q1, q2, q3]
  clear q0 q1 q2 q3
  have lt := hm.lt
  have b0 := hm.bd 0 (by omega)
  have b1 := hm.bd 1 (by omega)
  have b2 := hm.bd 2 (by omega)
  have b3 := hm.bd 3 (by omega)
  have b4 := hm.bd 4 (by omega)
  have b5 := hm.bd 5 (by omega)
  have b6 := hm.bd 6 (by omega)
  have b7 := hm.bd 7 (by omega)
  have b8 := hm.bd 8 (by omega)
  have b9 := hm.bd 9 (by omega)
  have b10 := hm.bd 10 (by omega)
  have b11 := hm.bd 11 (by omega)
  have b12 := hm.bd 12 (by omega)
  have b13 := hm.bd 13 (by omega)
  have b14 := hm.bd 14 (by omega)
  have b15 := hm.bd 15 (by omega)
  have b16 := hm.bd 16 (by omega)
  have b17 := hm.bd 17 (by omega)
  have b18 := hm.bd 18 (by omega)
  have b19 := hm.bd 19 (by omega)
  have p0 := entry_bd _ _ b0 d0
  have p1 := entry_bd _ _ b1 d1
  have p2 := entry_bd _ _ b2 d2
  have p3 := entry_bd _ _ b3 ha
  have p5 := entry_bd _ _ b5 d0
  have p6 := entry_bd _ _ b6 d1
  have p7 := entry_bd _ _ b7 d2
  have p8 := entry_bd _ _ b8 ha
  have p10 := entry_bd _ _ b10 d0
  have p11 := entry_bd _ _ b11 d1
  have p12 := entry_bd _ _ b12 d2
  have p13 := entry_bd _ _ b13 ha
  have p15 := entry_bd _ _ b15 d0
  have p16 := entry_bd _ _ b16 d1
  have p17 := entry_bd _ _ b17 d2
  have p18 := entry_bd _ _ b18 ha
  have c0 : w.cell? ⟨b, off, none⟩ = some (.int .i64 (m 0)) := hm.cell 0 (by omega)
  have c1 := hm.cell 1 (by omega)
  have c2 := hm.cell 2 (by omega)
  have c3 := hm.cell 3 (by omega)
  have c4 := hm.cell 4 (by omega)
  have c5 := hm.cell 5 (by omega)
  have c6 := hm.cell 6 (by omega)
  have c7 := hm.cell 7 (by omega)
  have c8 := hm.cell 8 (by omega)
  have c9 := hm.cell 9 (by omega)
  have c10 := hm.cell 10 (by omega)
  have c11 := hm.cell 11 (by omega)
  have c12 := hm.cell 12 (by omega)
  have c13 := hm.cell 13 (by omega)
  have c14 := hm.cell 14 (by omega)
  have c15 := hm.cell 15 (by omega)
  have c16 := hm.cell 16 (by omega)
  have c17 := hm.cell 17 (by omega)
  have c18 := hm.cell 18 (by omega)
  have c19 := hm.cell 19 (by omega)
  have l1 : b < w.heap.size + 1 := by omega
  have l2 : b < w.heap.size + 1 + 1 := by omega
  clear hm
  have e0 : cutT ((m 0 * divT cr ca + m 1 * divT cg ca + m 2 * divT cb ca + m 3 * ca + 255 * m 4 + 128) / 256) = rowV m 0 (divT cr ca) (divT cg ca) (divT cb ca) ca := by
    show _ = cutT _
    congr 2
    show _ = 255 * m 4 + 128 + m 0 * _ + m 1 * _ + m 2 * _ + m 3 * _
    omega
  have e5 : cutT ((m 5 * divT cr ca + m 6 * divT cg ca + m 7 * divT cb ca + m 8 * ca + 255 * m 9 + 128) / 256) = rowV m 5 (divT cr ca) (divT cg ca) (divT cb ca) ca := by
    show _ = cutT _
    congr 2
    show _ = 255 * m 9 + 128 + m 5 * _ + m 6 * _ + m 7 * _ + m 8 * _
    omega
  have e10 : cutT ((m 10 * divT cr ca + m 11 * divT cg ca + m 12 * divT cb ca + m 13 * ca + 255 * m 14 + 128) / 256) = rowV m 10 (divT cr ca) (divT cg ca) (divT cb ca) ca := by
    show _ = cutT _
    congr 2
    show _ = 255 * m 14 + 128 + m 10 * _ + m 11 * _ + m 12 * _ + m 13 * _
    omega
  have e15 : cutT ((m 15 * divT cr ca + m 16 * divT cg ca + m 17 * divT cb ca + m 18 * ca + 255 * m 19 + 128) / 256) = rowV m 15 (divT cr ca) (divT cg ca) (divT cb ca) ca := by
    show _ = cutT _
    congr 2
    show _ = 255 * m 19 + 128 + m 15 * _ + m 16 * _ + m 17 * _ + m 18 * _
    omega
  go_enter Tryd.func52, Tryd.ntmps52
  go_wp2_with ((first | (go_at_call 73; refine (ref01_plain _ _ _ _ _ (by omega) (by omega) (by omega) (by omega)).mono ?_; rintro e w' ⟨rfl, hgw⟩; first | (obtain ⟨gw, rfl⟩ := grows_of_grow hgw) | (obtain ⟨gw, rfl⟩ := hgw))))
  have l3 : b < w.heap.size + 1 + 1 + gw.news.size := by omega
  have l4 : b < w.heap.size + 1 + 1 + gw.news.size + 1 := by omega
  have l5 : b < w.heap.size + 1 + 1 + gw.news.size + 1 + 1 := by omega
  refine wp_loop_rounds 5 ?_
  rw [rounds_succ]
  go_wp2
  first | refine region_grow2 (by kernel_rfl) (by kernel_rfl) ?_ | refine region_grow (by kernel_rfl) (by kernel_rfl) ?_
  repeat (go_big_quiet_step (fail))
  refine wpQuiet_nil ?_
  rintro _ ⟨gr, rfl⟩
  go_wp2_with ((first | (go_at_call 75; refine (ref07_down _ _ (by omega)).mono ?_; rintro e w' ⟨rfl, rfl⟩) | (go_at_call 74; refine (ref01_cut _ _ (by omega) (by omega)).mono ?_; rintro e w' ⟨rfl, rfl⟩)))
  rw [rounds_succ]
  go_wp2
  first | refine region_grow2 (by kernel_rfl) (by kernel_rfl) ?_ | refine region_grow (by kernel_rfl) (by kernel_rfl) ?_
  repeat (go_big_quiet_step (fail))
  refine wpQuiet_nil ?_
  rintro _ ⟨gr, rfl⟩
  go_wp2_with ((first | (go_at_call 75; refine (ref07_down _ _ (by omega)).mono ?_; rintro e w' ⟨rfl, rfl⟩) | (go_at_call 74; refine (ref01_cut _ _ (by omega) (by omega)).mono ?_; rintro e w' ⟨rfl, rfl⟩)))
  rw [rounds_succ]
  go_wp2
  first | refine region_grow2 (by kernel_rfl) (by kernel_rfl) ?_ | refine region_grow (by kernel_rfl) (by kernel_rfl) ?_
  repeat (go_big_quiet_step (fail))
  refine wpQuiet_nil ?_
  rintro _ ⟨gr, rfl⟩
  go_wp2_with ((first | (go_at_call 75; refine (ref07_down _ _ (by omega)).mono ?_; rintro e w' ⟨rfl, rfl⟩) | (go_at_call 74; refine (ref01_cut _ _ (by omega) (by omega)).mono ?_; rintro e w' ⟨rfl, rfl⟩)))
  rw [rounds_succ]
  go_wp2
  first | refine region_grow2 (by kernel_rfl) (by kernel_rfl) ?_ | refine region_grow (by kernel_rfl) (by kernel_rfl) ?_
  repeat (go_big_quiet_step (fail))
  refine wpQuiet_nil ?_
  rintro _ ⟨gr, rfl⟩
  go_wp2_with ((first | (go_at_call 75; refine (ref07_down _ _ (by omega)).mono ?_; rintro e w' ⟨rfl, rfl⟩) | (go_at_call 74; refine (ref01_cut _ _ (by omega) (by omega)).mono ?_; rintro e w' ⟨rfl, rfl⟩)))
  rw [rounds_succ]
  go_wp2_with ((first | (go_at_call 76; refine (ref01_thick _ _ _ _ _ (by omega) (by omega) (by omega) (by omega)).mono ?_; rintro e w' ⟨rfl, hgw⟩; first | (obtain ⟨gw, rfl⟩ := grows_of_grow hgw) | (obtain ⟨gw, rfl⟩ := hgw))))
  refine bodyPost_ret (results_cell_row rfl _ _ _ 40 #[.int .u8 (mulT (rowV m 0 (divT cr ca) (divT cg ca) (divT cb ca) ca) (rowV m 15 (divT cr ca) (divT cg ca) (divT cb ca) ca)), .int .u8 (mulT (rowV m 5 (divT cr ca) (divT cg ca) (divT cb ca) ca) (rowV m 15 (divT cr ca) (divT cg ca) (divT cb ca) ca)), .int .u8 (mulT (rowV m 10 (divT cr ca) (divT cg ca) (divT cb ca) ca) (rowV m 15 (divT cr ca) (divT cg ca) (divT cb ca) ca)), .int .u8 (rowV m 15 (divT cr ca) (divT cg ca) (divT cb ca) ca)] (0, 0) _ rfl ?_ Tryd.underlying40 rfl px_info) rfl ⟨rfl, (by repeat (first | exact Grows.refl _ | apply Grows.grow | apply Grows.alloc | apply Grows.drew))⟩
  exact (by repeat (first | exact blk_at _ _ _ (by first | omega | (simp; done) | (simp; omega)) | refine (blk_past _ _ _ (by first | omega | (simp; done) | (simp; omega))).trans ?_ | refine (heap_grow _ _ _ (by first | omega | (simp; done) | (simp; omega))).trans ?_ | refine (blk_drew _ _).trans ?_))
end Go.Proofs.YtklcmlbkhjcaiaaDoor
