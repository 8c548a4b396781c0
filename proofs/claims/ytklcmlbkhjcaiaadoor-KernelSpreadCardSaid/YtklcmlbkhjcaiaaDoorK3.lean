/- '==' and '!=' on pixels (arrays of four bytes): over any program, then at this one. -/
import Derived.Test.YtklcmlbkhjcaiaaDoorWorld
import Derived.Test.YtklcmlbkhjcaiaaDoorRows
import Derived.ChangeKeysEq
import Derived.Laws.StructEq





namespace Go.Proofs.YtklcmlbkhjcaiaaDoor
open Go.RowKit
set_option linter.unusedVariables false

theorem run_equalIn_px {P : Program} (w : World) (d : Nat) {t e : TypeId} {i : TypeInfo} (ht : P.underlying t = some (.array 4 e)) (he : P.underlying e = some (.int .u8)) (hi : P.info? e = some i) (hc : P.cellsOf e = 1) (a0 a1 a2 a3 b0 b1 b2 b3 : Int) :
    (Op.equalIn (d + 2) t (.agg #[.int .u8 a0, .int .u8 a1, .int .u8 a2, .int .u8 a3]) (.agg #[.int .u8 b0, .int .u8 b1, .int .u8 b2, .int .u8 b3])).run P w = .ok (a0 == b0 && (a1 == b1 && (a2 == b2 && a3 == b3))) w := by
  rw [show d + 2 = (d + 1) + 1 from rfl, run_equalIn_array w (d + 1) _ _ ht hi, hc]
  have r4 : List.range 4 = [0, 1, 2, 3] := rfl
  rw [r4]
  have hp : ∀ (cs : Array Value) (j : Nat) (v : Value) (w : World), cs[j]? = some v → (part e cs j).run P w = .ok v w := fun cs j v w h => by
    simp [part, isAgg, run_underlying he, h]
  have hx : ∀ (x y z u : Value) (w : World), (part e #[x, y, z, u] 0).run P w = .ok x w ∧ (part e #[x, y, z, u] 1).run P w = .ok y w ∧ (part e #[x, y, z, u] 2).run P w = .ok z w ∧ (part e #[x, y, z, u] 3).run P w = .ok u w :=
    fun x y z u w => ⟨hp _ _ _ _ rfl, hp _ _ _ _ rfl, hp _ _ _ _ rfl, hp _ _ _ _ rfl⟩
  have he' : ∀ (x y : Int) (w : World), (Op.equalIn (d + 1) e (.int .u8 x) (.int .u8 y)).run P w = .ok (x == y) w := fun x y w => run_equalIn_int w d e .u8 .u8 _ _ he
  simp only [Op.eqItems, Sem.run_bind, Nat.mul_one, hx, Result.andThen_ok, he']
  by_cases h0 : a0 = b0
  · by_cases h1 : a1 = b1
    · by_cases h2 : a2 = b2
      · by_cases h3 : a3 = b3
        · simp [hx, he', h0, h1, h2, h3]
        · simp [hx, he', h0, h1, h2, h3]
      · simp [hx, he', h0, h1, h2]
    · simp [hx, he', h0, h1]
  · simp [h0]

theorem px_underlying : Tryd.prog.underlying 40 = some (.array 4 5) := by kernel_rfl
theorem u8_underlying : Tryd.prog.underlying 5 = some (.int .u8) := by kernel_rfl
theorem u8_cells : Tryd.prog.cellsOf 5 = 1 := by kernel_rfl
theorem u8_info : (Tryd.prog.info? 5).isSome = true := by kernel_rfl
theorem px_guard : Tryd.prog.eqGuardType Tryd.prog.depth 40 = false := by kernel_rfl

@[go_sem high] theorem eql_px (w : World) (a0 a1 a2 a3 b0 b1 b2 b3 : Int) : (binOp .eql 40 (.agg #[.int .u8 a0, .int .u8 a1, .int .u8 a2, .int .u8 a3]) (.agg #[.int .u8 b0, .int .u8 b1, .int .u8 b2, .int .u8 b3])).run Tryd.prog w =
    .ok (.bool (a0 == b0 && (a1 == b1 && (a2 == b2 && a3 == b3)))) w := by
  obtain ⟨i, hi⟩ := Option.isSome_iff_exists.1 u8_info
  rw [run_eql_struct, run_equalIn_px w 9998 px_underlying u8_underlying hi u8_cells]
  rfl
@[go_sem high] theorem neq_px (w : World) (a0 a1 a2 a3 b0 b1 b2 b3 : Int) : (binOp .neq 40 (.agg #[.int .u8 a0, .int .u8 a1, .int .u8 a2, .int .u8 a3]) (.agg #[.int .u8 b0, .int .u8 b1, .int .u8 b2, .int .u8 b3])).run Tryd.prog w =
    .ok (.bool (!(a0 == b0 && (a1 == b1 && (a2 == b2 && a3 == b3))))) w := by
  obtain ⟨i, hi⟩ := Option.isSome_iff_exists.1 u8_info
  rw [run_neq_struct, run_equalIn_px w 9998 px_underlying u8_underlying hi u8_cells]
  rfl
@[go_sem high] theorem guard_px (w : World) (op : BinOp) (x y : Operand) (xs ys : Array Value) : (eqGuard op 40 x y (.agg xs) (.agg ys)).run Tryd.prog w = .ok () w := run_eqGuard_agg w op _ x y xs ys px_guard
end Go.Proofs.YtklcmlbkhjcaiaaDoor
/- A pixel's value, by a place that is known. -/

namespace Go.Proofs.YtklcmlbkhjcaiaaDoor
open Go.RowKit

/-! A pixel's value, by a place that is known. -/
@[go_sem high] theorem index_px0 (w : World) (x0 x1 x2 x3 : Value) : (Instr.index 40 (.agg #[x0, x1, x2, x3]) (.int .i64 0)).run Tryd.prog w = .ok x0 w := by kernel_rfl
@[go_sem high] theorem index_px1 (w : World) (x0 x1 x2 x3 : Value) : (Instr.index 40 (.agg #[x0, x1, x2, x3]) (.int .i64 1)).run Tryd.prog w = .ok x1 w := by kernel_rfl
@[go_sem high] theorem index_px2 (w : World) (x0 x1 x2 x3 : Value) : (Instr.index 40 (.agg #[x0, x1, x2, x3]) (.int .i64 2)).run Tryd.prog w = .ok x2 w := by kernel_rfl
@[go_sem high] theorem index_px3 (w : World) (x0 x1 x2 x3 : Value) : (Instr.index 40 (.agg #[x0, x1, x2, x3]) (.int .i64 3)).run Tryd.prog w = .ok x3 w := by kernel_rfl
end Go.Proofs.YtklcmlbkhjcaiaaDoor
