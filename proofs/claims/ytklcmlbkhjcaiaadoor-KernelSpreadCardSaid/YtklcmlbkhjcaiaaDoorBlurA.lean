/- The walks of layer 8: a pixel added to sums, their means. -/
import Derived.Test.YtklcmlbkhjcaiaaDoorK1
import Derived.Test.YtklcmlbkhjcaiaaDoorRas
import Derived.Test.YtklcmlbkhjcaiaaDoorApp




namespace Go.Proofs.YtklcmlbkhjcaiaaDoor
open Go.RowKit
set_option linter.unusedVariables false

def sumC (s : P4) : Array Value := #[.int .i64 s.r, .int .i64 s.g, .int .i64 s.b, .int .i64 s.a]
/-- Sums of so many bytes at most. -/
def bdS (s : P4) : Prop := (-1000000 ≤ s.r ∧ s.r ≤ 1000000) ∧ (-1000000 ≤ s.g ∧ s.g ≤ 1000000) ∧ (-1000000 ≤ s.b ∧ s.b ≤ 1000000) ∧ (-1000000 ≤ s.a ∧ s.a ≤ 1000000)

set_option maxHeartbeats 3200000 in
theorem blur_add1 (n : Nat) (s p : P4) (w : World) (hB : Hid (Blk w n 100 #[.int .i64 s.r, .int .i64 s.g, .int .i64 s.b, .int .i64 s.a])) (hs : bdS s) (hp : okP p) :
    Calls Tryd.prog 85 #[.pointer (some ⟨n, 0, none⟩), .agg #[.int .u8 p.r, .int .u8 p.g, .int .u8 p.b, .int .u8 p.a], .int .i64 1] w fun e w' => e = .returned (.tuple #[]) ∧ w.grownBy w' (some n) ∧ Blk w' n 100 #[.int .i64 (addP s p 1).r, .int .i64 (addP s p 1).g, .int .i64 (addP s p 1).b, .int .i64 (addP s p 1).a] := by
  obtain ⟨c0, c1, c2, c3, cf⟩ := hB.out.c4
  have hlt := hB.out.lt
  obtain ⟨s0, s1, s2, s3⟩ := hs
  obtain ⟨p0, p1, p2, p3⟩ := hp
  go_enter Tryd.func85, Tryd.ntmps85
  go_wp2
  refine wp_loop_rounds 5 ?_
  rw [rounds_succ]
  go_wp2
  first | refine region_grow_tail2 12 (by kernel_rfl) (by kernel_rfl) ?_ | refine region_grow_tail 12 (by kernel_rfl) (by kernel_rfl) ?_
  simp only [List.take_succ_cons, List.take_zero, List.drop_succ_cons, List.drop_zero]
  repeat (go_big_quiet_step (fail))
  refine wpQuiet_nil ?_
  rintro _ ⟨ga, rfl⟩
  go_wp2
  rw [rounds_succ]
  go_wp2
  first | refine region_grow_tail2 12 (by kernel_rfl) (by kernel_rfl) ?_ | refine region_grow_tail 12 (by kernel_rfl) (by kernel_rfl) ?_
  simp only [List.take_succ_cons, List.take_zero, List.drop_succ_cons, List.drop_zero]
  repeat (go_big_quiet_step (fail))
  refine wpQuiet_nil ?_
  rintro _ ⟨gb, rfl⟩
  go_wp2
  rw [rounds_succ]
  go_wp2
  first | refine region_grow_tail2 12 (by kernel_rfl) (by kernel_rfl) ?_ | refine region_grow_tail 12 (by kernel_rfl) (by kernel_rfl) ?_
  simp only [List.take_succ_cons, List.take_zero, List.drop_succ_cons, List.drop_zero]
  repeat (go_big_quiet_step (fail))
  refine wpQuiet_nil ?_
  rintro _ ⟨gc, rfl⟩
  go_wp2
  rw [rounds_succ]
  go_wp2
  first | refine region_grow_tail2 12 (by kernel_rfl) (by kernel_rfl) ?_ | refine region_grow_tail 12 (by kernel_rfl) (by kernel_rfl) ?_
  simp only [List.take_succ_cons, List.take_zero, List.drop_succ_cons, List.drop_zero]
  repeat (go_big_quiet_step (fail))
  refine wpQuiet_nil ?_
  rintro _ ⟨gd, rfl⟩
  go_wp2
  rw [rounds_succ]
  go_wp2
  go_end0
  have e : addP s p 1 = ⟨s.r + p.r, s.g + p.g, s.b + p.b, s.a + p.a⟩ := by simp [addP]
  rw [e]
  have W := grownBy_setCells w n 0 [.int .i64 (s.r + p.r), .int .i64 (s.g + p.g), .int .i64 (s.b + p.b), .int .i64 (s.a + p.a)]
  exact ⟨rfl, grownBy_grows W (by repeat (first | exact Grows.refl _ | apply Grows.grow | apply Grows.alloc | apply Grows.drew)), (hB.out.set4 (.int .i64 (s.r + p.r)) (.int .i64 (s.g + p.g)) (.int .i64 (s.b + p.b)) (.int .i64 (s.a + p.a))).grows (by repeat (first | exact Grows.refl _ | apply Grows.grow | apply Grows.alloc | apply Grows.drew))⟩
set_option maxHeartbeats 3200000 in
theorem blur_add2 (n : Nat) (s p : P4) (w : World) (hB : Hid (Blk w n 100 #[.int .i64 s.r, .int .i64 s.g, .int .i64 s.b, .int .i64 s.a])) (hs : bdS s) (hp : okP p) :
    Calls Tryd.prog 85 #[.pointer (some ⟨n, 0, none⟩), .agg #[.int .u8 p.r, .int .u8 p.g, .int .u8 p.b, .int .u8 p.a], .int .i64 (-1)] w fun e w' => e = .returned (.tuple #[]) ∧ w.grownBy w' (some n) ∧ Blk w' n 100 #[.int .i64 (addP s p (-1)).r, .int .i64 (addP s p (-1)).g, .int .i64 (addP s p (-1)).b, .int .i64 (addP s p (-1)).a] := by
  obtain ⟨c0, c1, c2, c3, cf⟩ := hB.out.c4
  have hlt := hB.out.lt
  obtain ⟨s0, s1, s2, s3⟩ := hs
  obtain ⟨p0, p1, p2, p3⟩ := hp
  go_enter Tryd.func85, Tryd.ntmps85
  go_wp2
  refine wp_loop_rounds 5 ?_
  rw [rounds_succ]
  go_wp2
  first | refine region_grow_tail2 12 (by kernel_rfl) (by kernel_rfl) ?_ | refine region_grow_tail 12 (by kernel_rfl) (by kernel_rfl) ?_
  simp only [List.take_succ_cons, List.take_zero, List.drop_succ_cons, List.drop_zero]
  repeat (go_big_quiet_step (fail))
  refine wpQuiet_nil ?_
  rintro _ ⟨ga, rfl⟩
  go_wp2
  rw [rounds_succ]
  go_wp2
  first | refine region_grow_tail2 12 (by kernel_rfl) (by kernel_rfl) ?_ | refine region_grow_tail 12 (by kernel_rfl) (by kernel_rfl) ?_
  simp only [List.take_succ_cons, List.take_zero, List.drop_succ_cons, List.drop_zero]
  repeat (go_big_quiet_step (fail))
  refine wpQuiet_nil ?_
  rintro _ ⟨gb, rfl⟩
  go_wp2
  rw [rounds_succ]
  go_wp2
  first | refine region_grow_tail2 12 (by kernel_rfl) (by kernel_rfl) ?_ | refine region_grow_tail 12 (by kernel_rfl) (by kernel_rfl) ?_
  simp only [List.take_succ_cons, List.take_zero, List.drop_succ_cons, List.drop_zero]
  repeat (go_big_quiet_step (fail))
  refine wpQuiet_nil ?_
  rintro _ ⟨gc, rfl⟩
  go_wp2
  rw [rounds_succ]
  go_wp2
  first | refine region_grow_tail2 12 (by kernel_rfl) (by kernel_rfl) ?_ | refine region_grow_tail 12 (by kernel_rfl) (by kernel_rfl) ?_
  simp only [List.take_succ_cons, List.take_zero, List.drop_succ_cons, List.drop_zero]
  repeat (go_big_quiet_step (fail))
  refine wpQuiet_nil ?_
  rintro _ ⟨gd, rfl⟩
  go_wp2
  rw [rounds_succ]
  go_wp2
  go_end0
  have e : addP s p (-1) = ⟨s.r - p.r, s.g - p.g, s.b - p.b, s.a - p.a⟩ := by simp only [addP, P4.mk.injEq]; omega
  rw [e]
  have W := grownBy_setCells w n 0 [.int .i64 (s.r - p.r), .int .i64 (s.g - p.g), .int .i64 (s.b - p.b), .int .i64 (s.a - p.a)]
  exact ⟨rfl, grownBy_grows W (by repeat (first | exact Grows.refl _ | apply Grows.grow | apply Grows.alloc | apply Grows.drew)), (hB.out.set4 (.int .i64 (s.r - p.r)) (.int .i64 (s.g - p.g)) (.int .i64 (s.b - p.b)) (.int .i64 (s.a - p.a))).grows (by repeat (first | exact Grows.refl _ | apply Grows.grow | apply Grows.alloc | apply Grows.drew))⟩
set_option maxHeartbeats 3200000 in
theorem blur_mean (n : Nat) (s : P4) (m : Int) (w : World) (hB : Hid (Blk w n 100 #[.int .i64 s.r, .int .i64 s.g, .int .i64 s.b, .int .i64 s.a])) (h0 : 0 < m) (h1 : m ≤ 1000) (ho : m % 2 = 1)
    (hs : (0 ≤ s.r ∧ s.r ≤ 255 * m) ∧ (0 ≤ s.g ∧ s.g ≤ 255 * m) ∧ (0 ≤ s.b ∧ s.b ≤ 255 * m) ∧ (0 ≤ s.a ∧ s.a ≤ 255 * m)) :
    Calls Tryd.prog 86 #[.pointer (some ⟨n, 0, none⟩), .int .i64 m] w fun e w' => e = .returned (.agg #[.int .u8 (meanP s m).r, .int .u8 (meanP s m).g, .int .u8 (meanP s m).b, .int .u8 (meanP s m).a]) ∧ Grows w w' := by
  obtain ⟨c0, c1, c2, c3, cf⟩ := hB.out.c4
  have hlt := hB.out.lt
  obtain ⟨⟨s0, s0'⟩, ⟨s1, s1'⟩, ⟨s2, s2'⟩, s3, s3'⟩ := hs
  have b0 := near_bd h0 s0 s0' ho
  have b1 := near_bd h0 s1 s1' ho
  have b2 := near_bd h0 s2 s2' ho
  have b3 := near_bd h0 s3 s3' ho
  have t0 : (s.r + m / 2).tdiv m = near s.r m := Int.tdiv_eq_ediv_of_nonneg (by omega)
  have t1 : (s.g + m / 2).tdiv m = near s.g m := Int.tdiv_eq_ediv_of_nonneg (by omega)
  have t2 : (s.b + m / 2).tdiv m = near s.b m := Int.tdiv_eq_ediv_of_nonneg (by omega)
  have t3 : (s.a + m / 2).tdiv m = near s.a m := Int.tdiv_eq_ediv_of_nonneg (by omega)
  have tm : m.tdiv 2 = m / 2 := Int.tdiv_eq_ediv_of_nonneg (by omega)
  go_enter Tryd.func86, Tryd.ntmps86
  go_wp2
  refine wp_loop_rounds 5 ?_
  rw [rounds_succ]
  go_wp2
  first | refine region_grow2 (by kernel_rfl) (by kernel_rfl) ?_ | refine region_grow (by kernel_rfl) (by kernel_rfl) ?_
  repeat (go_big_quiet_step (fail))
  refine wpQuiet_nil ?_
  rintro _ ⟨ga, rfl⟩
  go_wp2
  rw [rounds_succ]
  go_wp2
  first | refine region_grow2 (by kernel_rfl) (by kernel_rfl) ?_ | refine region_grow (by kernel_rfl) (by kernel_rfl) ?_
  repeat (go_big_quiet_step (fail))
  refine wpQuiet_nil ?_
  rintro _ ⟨gb, rfl⟩
  go_wp2
  rw [rounds_succ]
  go_wp2
  first | refine region_grow2 (by kernel_rfl) (by kernel_rfl) ?_ | refine region_grow (by kernel_rfl) (by kernel_rfl) ?_
  repeat (go_big_quiet_step (fail))
  refine wpQuiet_nil ?_
  rintro _ ⟨gc, rfl⟩
  go_wp2
  rw [rounds_succ]
  go_wp2
  first | refine region_grow2 (by kernel_rfl) (by kernel_rfl) ?_ | refine region_grow (by kernel_rfl) (by kernel_rfl) ?_
  repeat (go_big_quiet_step (fail))
  refine wpQuiet_nil ?_
  rintro _ ⟨gd, rfl⟩
  go_wp2
  rw [rounds_succ]
  go_wp2
  refine bodyPost_ret (results_cell_row rfl _ _ _ 40 #[.int .u8 (near s.r m), .int .u8 (near s.g m), .int .u8 (near s.b m), .int .u8 (near s.a m)] (0, 0) _ rfl ?_ Tryd.underlying40 rfl px_info) rfl ⟨rfl, (by repeat (first | exact Grows.refl _ | apply Grows.grow | apply Grows.alloc | apply Grows.drew))⟩
  exact (by repeat (first | exact blk_at _ _ _ (by first | omega | (simp; done) | (simp; omega)) | refine (blk_past _ _ _ (by first | omega | (simp; done) | (simp; omega))).trans ?_ | refine (heap_grow _ _ _ (by first | omega | (simp; done) | (simp; omega))).trans ?_ | refine (blk_drew _ _).trans ?_))
end Go.Proofs.YtklcmlbkhjcaiaaDoor
