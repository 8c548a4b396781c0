/-
  NARROWER THAN 'FOR EVERY INPUT', by the rows' own cells (each row's printed sentence says how): KernelNeed: laid · KernelSpread: laid · KernelReach: laid · KernelKeeps: laid.
  DERIVED. THE GIVEN ROWS OF THIS SEAT. 4 by the template 'for every input the law returns true; each argument reads behind the call as it read before'; 0 by the template 'total and deterministic' (their statements: YtklcmlbkhjcaiaaDoorTotals.lean).
  GIVEN WITH THE SEED: the statements are not yours to turn. If you find one false, say at which input.
  Laid BY PROGRAM, IN A SANDBOX (cutbox-rows.mjs): the forced cells as the released guide's own fill.sh prints them over the translation adff40191b216ffe… (all of the seat's roots in one cut). By AI agents, Wed Nov 11 2026. No macro, syntax, notation, axiom, sorry.
-/
import Derived.Test.YtklcmlbkhjcaiaaDoorChecked
import GoSem.Claim
import GoSem.ClaimJoined
import GoSem.ClaimMapViews
import Derived.JoinedTies
import Derived.KernelRfl
namespace Go.Proofs.YtklcmlbkhjcaiaaDoor
/- THE CELL 'sum', in the pinned program and in every row, IS THE sha256 OF THE DUMP (.gsa) THAT YtklcmlbkhjcaiaaDoorProg.lean LOADS. Nothing in Lean hashes anything: it is a label: what it is worth is what the hold of that sum in a sandbox is worth. -/
noncomputable def Tryd.pinned : Pinned := { name := "ytklcmlbkhjcaiaadoor", sum := "adff40191b216ffe76d28b7d67730a084c1a0b0cbd4da2433770a0e3e15ad0d8", checked := Tryd.checked }
namespace Rows
def none {H : Type} : Left H := { results := [], args := [] }

/- WHAT THE LISTED PACKAGE-LEVEL VARIABLES READ AS WHEN THE CALL BEGINS. Each datum BY PROGRAM (the guide's laid-datum.mjs) off the statement by which the dump's own 'gosem.cut.vars' lays the variable. In a bare row this is a premise. The card (YtklcmlbkhjcaiaaDoorCards.lean) ties it to the program's text. -/
def laid_gouache_gouacheref12_least {H : Type} : DataW H := .agg [.lit (.int .i64 0), .lit (.int .i64 1), .lit (.int .i64 1), .lit (.int .i64 1), .lit (.int .i64 1), .lit (.int .i64 1), .lit (.int .i64 0), .lit (.int .i64 2), .lit (.int .i64 2), .lit (.int .i64 1), .lit (.int .i64 1), .lit (.int .i64 1), .lit (.int .i64 1)]
def laid_gouache_gouacheref12_most {H : Type} : DataW H := .agg [.lit (.int .i64 0), .lit (.int .i64 1), .lit (.int .i64 1), .lit (.int .i64 1), .lit (.int .i64 1), .lit (.int .i64 1), .lit (.int .i64 0), .lit (.int .i64 2), .lit (.int .i64 2), .lit (.int .i64 8), .lit (.int .i64 1), .lit (.int .i64 1), .lit (.int .i64 1)]
def laid_gouache_gouacheref12_params {H : Type} : DataW H := .agg [.lit (.int .i64 0), .lit (.int .i64 2), .lit (.int .i64 2), .lit (.int .i64 2), .lit (.int .i64 2), .lit (.int .i64 20), .lit (.int .i64 8), .lit (.int .i64 1), .lit (.int .i64 1), .lit (.int .i64 0), .lit (.int .i64 4), .lit (.int .i64 8), .lit (.int .i64 4)]

/-- 'gouachelaw15.KernelNeed': WHATEVER THE INPUT: true; the input reads as it did. -/
def kernelNeedSpec : ChangeSpec := { name := "kernelNeed", fn := fun _ => fun
  | [d1, d2, d3] => { results := [.lit (.bool true)], args := [d1, d2, d3] }
  | _ => none }
def kernelNeedRow : OpenClaim := { program := "ytklcmlbkhjcaiaadoor", sum := "adff40191b216ffe76d28b7d67730a084c1a0b0cbd4da2433770a0e3e15ad0d8", func := "gouache/gouachelaw15.KernelNeed", spec := "kernelNeed", named := ["gouache/gouacheref12.least", "gouache/gouacheref12.most", "gouache/gouacheref12.params"], apart := false, laid := [("gouache/gouacheref12.least", laid_gouache_gouacheref12_least), ("gouache/gouacheref12.most", laid_gouache_gouacheref12_most), ("gouache/gouacheref12.params", laid_gouache_gouacheref12_params)] }
def KernelNeedSaid : Prop := kernelNeedRow.holds Tryd.pinned (OpenSpec.ofChange kernelNeedSpec)

/-- ITS FALSE NEIGHBOUR: 'it returns false'. Refute it at one input. -/
def kernelNeedWrong : ChangeSpec := { name := "kernelNeed", fn := fun _ => fun
  | [d1, d2, d3] => { results := [.lit (.bool false)], args := [d1, d2, d3] }
  | _ => none }
def KernelNeedWrongFalsely : Prop := kernelNeedRow.holds Tryd.pinned (OpenSpec.ofChange kernelNeedWrong)

/-- 'gouachelaw15.KernelSpread': WHATEVER THE INPUT: true; the input reads as it did. -/
def kernelSpreadSpec : ChangeSpec := { name := "kernelSpread", fn := fun _ => fun
  | [d1, d2, d3, d4, d5] => { results := [.lit (.bool true)], args := [d1, d2, d3, d4, d5] }
  | _ => none }
def kernelSpreadRow : OpenClaim := { program := "ytklcmlbkhjcaiaadoor", sum := "adff40191b216ffe76d28b7d67730a084c1a0b0cbd4da2433770a0e3e15ad0d8", func := "gouache/gouachelaw15.KernelSpread", spec := "kernelSpread", named := ["gouache/gouacheref12.least", "gouache/gouacheref12.most", "gouache/gouacheref12.params"], apart := false, laid := [("gouache/gouacheref12.least", laid_gouache_gouacheref12_least), ("gouache/gouacheref12.most", laid_gouache_gouacheref12_most), ("gouache/gouacheref12.params", laid_gouache_gouacheref12_params)] }
def KernelSpreadSaid : Prop := kernelSpreadRow.holds Tryd.pinned (OpenSpec.ofChange kernelSpreadSpec)

/-- ITS FALSE NEIGHBOUR: 'it returns false'. Refute it at one input. -/
def kernelSpreadWrong : ChangeSpec := { name := "kernelSpread", fn := fun _ => fun
  | [d1, d2, d3, d4, d5] => { results := [.lit (.bool false)], args := [d1, d2, d3, d4, d5] }
  | _ => none }
def KernelSpreadWrongFalsely : Prop := kernelSpreadRow.holds Tryd.pinned (OpenSpec.ofChange kernelSpreadWrong)

/-- 'gouachelaw15.KernelReach': WHATEVER THE INPUT: true; the input reads as it did. -/
def kernelReachSpec : ChangeSpec := { name := "kernelReach", fn := fun _ => fun
  | [d1, d2, d3] => { results := [.lit (.bool true)], args := [d1, d2, d3] }
  | _ => none }
def kernelReachRow : OpenClaim := { program := "ytklcmlbkhjcaiaadoor", sum := "adff40191b216ffe76d28b7d67730a084c1a0b0cbd4da2433770a0e3e15ad0d8", func := "gouache/gouachelaw15.KernelReach", spec := "kernelReach", named := ["gouache/gouacheref12.least", "gouache/gouacheref12.most", "gouache/gouacheref12.params"], apart := false, laid := [("gouache/gouacheref12.least", laid_gouache_gouacheref12_least), ("gouache/gouacheref12.most", laid_gouache_gouacheref12_most), ("gouache/gouacheref12.params", laid_gouache_gouacheref12_params)] }
def KernelReachSaid : Prop := kernelReachRow.holds Tryd.pinned (OpenSpec.ofChange kernelReachSpec)

/-- ITS FALSE NEIGHBOUR: 'it returns false'. Refute it at one input. -/
def kernelReachWrong : ChangeSpec := { name := "kernelReach", fn := fun _ => fun
  | [d1, d2, d3] => { results := [.lit (.bool false)], args := [d1, d2, d3] }
  | _ => none }
def KernelReachWrongFalsely : Prop := kernelReachRow.holds Tryd.pinned (OpenSpec.ofChange kernelReachWrong)

/-- 'gouachelaw15.KernelKeeps': WHATEVER THE INPUT: true; the input reads as it did. -/
def kernelKeepsSpec : ChangeSpec := { name := "kernelKeeps", fn := fun _ => fun
  | [d1, d2, d3] => { results := [.lit (.bool true)], args := [d1, d2, d3] }
  | _ => none }
def kernelKeepsRow : OpenClaim := { program := "ytklcmlbkhjcaiaadoor", sum := "adff40191b216ffe76d28b7d67730a084c1a0b0cbd4da2433770a0e3e15ad0d8", func := "gouache/gouachelaw15.KernelKeeps", spec := "kernelKeeps", named := ["gouache/gouacheref12.least", "gouache/gouacheref12.most", "gouache/gouacheref12.params"], apart := false, laid := [("gouache/gouacheref12.least", laid_gouache_gouacheref12_least), ("gouache/gouacheref12.most", laid_gouache_gouacheref12_most), ("gouache/gouacheref12.params", laid_gouache_gouacheref12_params)] }
def KernelKeepsSaid : Prop := kernelKeepsRow.holds Tryd.pinned (OpenSpec.ofChange kernelKeepsSpec)

/-- ITS FALSE NEIGHBOUR: 'it returns false'. Refute it at one input. -/
def kernelKeepsWrong : ChangeSpec := { name := "kernelKeeps", fn := fun _ => fun
  | [d1, d2, d3] => { results := [.lit (.bool false)], args := [d1, d2, d3] }
  | _ => none }
def KernelKeepsWrongFalsely : Prop := kernelKeepsRow.holds Tryd.pinned (OpenSpec.ofChange kernelKeepsWrong)

/- THE SECOND FORM. 'bulk': how many values and letters a reading holds, each counted each time it is reached (what is shared counts as often as it is met; a slice's spare places count too). A statement '..UptoSaid' is the law's where the arguments, and the package variables that the reading takes, are together of bulk at most 1048576: NARROWER than '..Said'. Prove '..Said' where nothing that the law and all that it calls make is longer than what came in: it says more and counts as full. Else prove '..UptoSaid'. A law counts once. -/
mutual
def uptoBulk {H : Type} : DataW H → Nat
  | .lit (.string bytes) => bytes.length + 1
  | .lit _ => 1
  | .nil => 1
  | .ptr d => uptoBulk d + 1
  | .slice elems spare => uptoBulkAll elems + uptoBulkAll spare + 1
  | .agg parts => uptoBulkAll parts + 1
  | .iface _ d => uptoBulk d + 1
  | .map entries => uptoBulkEntries entries + 1
  | .held _ => 1
def uptoBulkAll {H : Type} : List (DataW H) → Nat
  | [] => 0
  | d :: r => uptoBulk d + uptoBulkAll r
def uptoBulkEntries {H : Type} : List (Lit × DataW H) → Nat
  | [] => 0
  | x :: r => uptoBulkEntry x + uptoBulkEntries r
def uptoBulkEntry {H : Type} : Lit × DataW H → Nat
  | (.string bytes, d) => bytes.length + uptoBulk d + 1
  | (_, d) => uptoBulk d + 1
 end
def uptoSmall : (H : Type) → List (DataW H) → Bool := fun _ ds => decide (uptoBulkAll ds ≤ 1048576)
def OpenSpec.upto (s : _root_.Go.ChangeSpec) : _root_.Go.OpenSpec := { _root_.Go.OpenSpec.ofChange s with cond := some uptoSmall }

/-- 'gouachelaw15.KernelNeed', WHERE WHAT IT READS IS OF BULK AT MOST 1048576: true; the input reads as it did. -/
def kernelNeedUptoRow : OpenClaim := { program := "ytklcmlbkhjcaiaadoor", sum := "adff40191b216ffe76d28b7d67730a084c1a0b0cbd4da2433770a0e3e15ad0d8", func := "gouache/gouachelaw15.KernelNeed", spec := "kernelNeed", named := ["gouache/gouacheref12.least", "gouache/gouacheref12.most", "gouache/gouacheref12.params"], apart := false, laid := [("gouache/gouacheref12.least", laid_gouache_gouacheref12_least), ("gouache/gouacheref12.most", laid_gouache_gouacheref12_most), ("gouache/gouacheref12.params", laid_gouache_gouacheref12_params)], narrowed := true }
def KernelNeedUptoSaid : Prop := kernelNeedUptoRow.holds Tryd.pinned (OpenSpec.upto kernelNeedSpec)

/-- 'gouachelaw15.KernelSpread', WHERE WHAT IT READS IS OF BULK AT MOST 1048576: true; the input reads as it did. -/
def kernelSpreadUptoRow : OpenClaim := { program := "ytklcmlbkhjcaiaadoor", sum := "adff40191b216ffe76d28b7d67730a084c1a0b0cbd4da2433770a0e3e15ad0d8", func := "gouache/gouachelaw15.KernelSpread", spec := "kernelSpread", named := ["gouache/gouacheref12.least", "gouache/gouacheref12.most", "gouache/gouacheref12.params"], apart := false, laid := [("gouache/gouacheref12.least", laid_gouache_gouacheref12_least), ("gouache/gouacheref12.most", laid_gouache_gouacheref12_most), ("gouache/gouacheref12.params", laid_gouache_gouacheref12_params)], narrowed := true }
def KernelSpreadUptoSaid : Prop := kernelSpreadUptoRow.holds Tryd.pinned (OpenSpec.upto kernelSpreadSpec)

/-- 'gouachelaw15.KernelReach', WHERE WHAT IT READS IS OF BULK AT MOST 1048576: true; the input reads as it did. -/
def kernelReachUptoRow : OpenClaim := { program := "ytklcmlbkhjcaiaadoor", sum := "adff40191b216ffe76d28b7d67730a084c1a0b0cbd4da2433770a0e3e15ad0d8", func := "gouache/gouachelaw15.KernelReach", spec := "kernelReach", named := ["gouache/gouacheref12.least", "gouache/gouacheref12.most", "gouache/gouacheref12.params"], apart := false, laid := [("gouache/gouacheref12.least", laid_gouache_gouacheref12_least), ("gouache/gouacheref12.most", laid_gouache_gouacheref12_most), ("gouache/gouacheref12.params", laid_gouache_gouacheref12_params)], narrowed := true }
def KernelReachUptoSaid : Prop := kernelReachUptoRow.holds Tryd.pinned (OpenSpec.upto kernelReachSpec)

/-- 'gouachelaw15.KernelKeeps', WHERE WHAT IT READS IS OF BULK AT MOST 1048576: true; the input reads as it did. -/
def kernelKeepsUptoRow : OpenClaim := { program := "ytklcmlbkhjcaiaadoor", sum := "adff40191b216ffe76d28b7d67730a084c1a0b0cbd4da2433770a0e3e15ad0d8", func := "gouache/gouachelaw15.KernelKeeps", spec := "kernelKeeps", named := ["gouache/gouacheref12.least", "gouache/gouacheref12.most", "gouache/gouacheref12.params"], apart := false, laid := [("gouache/gouacheref12.least", laid_gouache_gouacheref12_least), ("gouache/gouacheref12.most", laid_gouache_gouacheref12_most), ("gouache/gouacheref12.params", laid_gouache_gouacheref12_params)], narrowed := true }
def KernelKeepsUptoSaid : Prop := kernelKeepsUptoRow.holds Tryd.pinned (OpenSpec.upto kernelKeepsSpec)

end Rows
end Go.Proofs.YtklcmlbkhjcaiaaDoor
