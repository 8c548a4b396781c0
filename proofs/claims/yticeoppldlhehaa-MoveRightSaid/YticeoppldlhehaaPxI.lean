/- A pixel's value, by a place that is known. -/
import Derived.Test.YticeoppldlhehaaPx
namespace Go.Proofs.Yticeoppldlhehaa
open Go.RowKit

/-! A pixel's value, by a place that is known. -/
@[go_sem high] theorem index_px0 (w : World) (x0 x1 x2 x3 : Value) : (Instr.index 32 (.agg #[x0, x1, x2, x3]) (.int .i64 0)).run Try.prog w = .ok x0 w := by kernel_rfl
@[go_sem high] theorem index_px1 (w : World) (x0 x1 x2 x3 : Value) : (Instr.index 32 (.agg #[x0, x1, x2, x3]) (.int .i64 1)).run Try.prog w = .ok x1 w := by kernel_rfl
@[go_sem high] theorem index_px2 (w : World) (x0 x1 x2 x3 : Value) : (Instr.index 32 (.agg #[x0, x1, x2, x3]) (.int .i64 2)).run Try.prog w = .ok x2 w := by kernel_rfl
@[go_sem high] theorem index_px3 (w : World) (x0 x1 x2 x3 : Value) : (Instr.index 32 (.agg #[x0, x1, x2, x3]) (.int .i64 3)).run Try.prog w = .ok x3 w := by kernel_rfl
end Go.Proofs.Yticeoppldlhehaa
