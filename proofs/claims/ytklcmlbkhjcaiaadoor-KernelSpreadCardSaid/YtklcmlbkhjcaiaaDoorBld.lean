/- Structs and arrays that are built by places that are known. -/
import Derived.Test.YtklcmlbkhjcaiaaDoorWorld
import Derived.Test.YtklcmlbkhjcaiaaDoorRows



namespace Go.Proofs.YtklcmlbkhjcaiaaDoor
open Go.RowKit
set_option linter.unusedVariables false

/-! Values that are built, by places that are known: 'Instr.build' under another name, so that the walk does not lay it open. -/
def bSem (t : TypeId) (parts : Array (Nat × Value)) : Sem Value := Instr.build t parts
@[go_sem ↓] theorem build_is_buf (parts : Array (Nat × Value)) : Instr.build 35 parts = bSem 35 parts := rfl
@[go_sem ↓] theorem build_is_rect (parts : Array (Nat × Value)) : Instr.build 27 parts = bSem 27 parts := rfl
@[go_sem ↓] theorem build_is_px (parts : Array (Nat × Value)) : Instr.build 40 parts = bSem 40 parts := rfl
@[simp, go_sem] theorem build_buf (w : World) (x0 x1 x2 x3 : Value) (a : Option Addr) (len cap : Nat) : (bSem 35 #[(0, .agg #[x0, x1, x2, x3]), (1, .slice a len cap)]).run Tryd.prog w = .ok (.agg #[x0, x1, x2, x3, .slice a len cap]) w := by kernel_rfl
@[simp, go_sem] theorem build_box (w : World) (x0 x1 x2 x3 : Value) : (bSem 35 #[(0, .agg #[x0, x1, x2, x3])]).run Tryd.prog w = .ok (.agg #[x0, x1, x2, x3, .slice none 0 0]) w := by kernel_rfl
@[simp, go_sem] theorem build_nobuf (w : World) : (bSem 35 #[]).run Tryd.prog w = .ok (.agg #[.int .i64 0, .int .i64 0, .int .i64 0, .int .i64 0, .slice none 0 0]) w := by kernel_rfl
@[simp, go_sem] theorem build_rect (w : World) (k0 k1 k2 k3 : IntKind) (n0 n1 n2 n3 : Int) : (bSem 27 #[(0, .int k0 n0), (1, .int k1 n1), (2, .int k2 n2), (3, .int k3 n3)]).run Tryd.prog w = .ok (.agg #[.int k0 n0, .int k1 n1, .int k2 n2, .int k3 n3]) w := by kernel_rfl
@[simp, go_sem] theorem build_norect (w : World) : (bSem 27 #[]).run Tryd.prog w = .ok (.agg #[.int .i64 0, .int .i64 0, .int .i64 0, .int .i64 0]) w := by kernel_rfl
@[simp, go_sem] theorem build_px (w : World) (k0 k1 k2 k3 : IntKind) (n0 n1 n2 n3 : Int) : (bSem 40 #[(0, .int k0 n0), (1, .int k1 n1), (2, .int k2 n2), (3, .int k3 n3)]).run Tryd.prog w = .ok (.agg #[.int k0 n0, .int k1 n1, .int k2 n2, .int k3 n3]) w := by kernel_rfl
@[simp, go_sem] theorem build_nopx (w : World) : (bSem 40 #[]).run Tryd.prog w = .ok (.agg #[.int .u8 0, .int .u8 0, .int .u8 0, .int .u8 0]) w := by kernel_rfl
theorem px_parts : (Tryd.prog.info? 40).map (fun i => (i.zero, i.size, i.bytes)) = some (some (.agg #[.int .u8 0, .int .u8 0, .int .u8 0, .int .u8 0]), 4, 4) := by kernel_rfl
end Go.Proofs.YtklcmlbkhjcaiaaDoor
