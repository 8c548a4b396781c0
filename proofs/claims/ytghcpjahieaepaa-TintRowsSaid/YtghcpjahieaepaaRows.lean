/-
  No cell of these rows narrows 'for every input' (looked for: loops, veiled, ifaces, maps, wideKeys, modest, calm, conditions, laid).
  DERIVED. THE GIVEN ROWS OF THIS SEAT. 12 by the template 'for every input the law returns true; each argument reads behind the call as it read before'; 0 by the template 'total and deterministic' (their statements: YtghcpjahieaepaaTotals.lean).
  GIVEN WITH THE SEED: the statements are not yours to turn. If you find one false, say at which input.
  Laid BY PROGRAM, IN A SANDBOX (cutbox-rows.mjs): the forced cells as the released guide's own fill.sh prints them over the translation 9d2b9aaf9042167d… (all of the seat's roots in one cut). By AI agents, Wed Nov 11 2026. No macro, syntax, notation, axiom, sorry.
-/
import Derived.Test.YtghcpjahieaepaaChecked
import GoSem.Claim
import GoSem.ClaimJoined
import GoSem.ClaimMapViews
import Derived.JoinedTies
import Derived.KernelRfl
namespace Go.Proofs.Ytghcpjahieaepaa
/- THE CELL 'sum', in the pinned program and in every row, IS THE sha256 OF THE DUMP (.gsa) THAT YtghcpjahieaepaaProg.lean LOADS. Nothing in Lean hashes anything: it is a label: what it is worth is what the hold of that sum in a sandbox is worth. -/
noncomputable def Try.pinned : Pinned := { name := "ytghcpjahieaepaa", sum := "9d2b9aaf9042167dbca59ccdee859218099e1cd420af554ca4ebbce6025f820d", checked := Try.checked }
namespace Rows
def none {H : Type} : Left H := { results := [], args := [] }

/-- 'gouachelaw01.ToneNear': WHATEVER THE INPUT: true; the input reads as it did. -/
def toneNearSpec : ChangeSpec := { name := "toneNear", fn := fun _ => fun
  | [d1, d2] => { results := [.lit (.bool true)], args := [d1, d2] }
  | _ => none }
def toneNearRow : OpenClaim := { program := "ytghcpjahieaepaa", sum := "9d2b9aaf9042167dbca59ccdee859218099e1cd420af554ca4ebbce6025f820d", func := "gouache/gouachelaw01.ToneNear", spec := "toneNear", apart := false }
def ToneNearSaid : Prop := toneNearRow.holds Try.pinned (OpenSpec.ofChange toneNearSpec)

/-- ITS FALSE NEIGHBOUR: 'it returns false'. Refute it at one input. -/
def toneNearWrong : ChangeSpec := { name := "toneNear", fn := fun _ => fun
  | [d1, d2] => { results := [.lit (.bool false)], args := [d1, d2] }
  | _ => none }
def ToneNearWrongFalsely : Prop := toneNearRow.holds Try.pinned (OpenSpec.ofChange toneNearWrong)

/-- 'gouachelaw01.ToneRises': WHATEVER THE INPUT: true; the input reads as it did. -/
def toneRisesSpec : ChangeSpec := { name := "toneRises", fn := fun _ => fun
  | [d1, d2, d3] => { results := [.lit (.bool true)], args := [d1, d2, d3] }
  | _ => none }
def toneRisesRow : OpenClaim := { program := "ytghcpjahieaepaa", sum := "9d2b9aaf9042167dbca59ccdee859218099e1cd420af554ca4ebbce6025f820d", func := "gouache/gouachelaw01.ToneRises", spec := "toneRises", apart := false }
def ToneRisesSaid : Prop := toneRisesRow.holds Try.pinned (OpenSpec.ofChange toneRisesSpec)

/-- ITS FALSE NEIGHBOUR: 'it returns false'. Refute it at one input. -/
def toneRisesWrong : ChangeSpec := { name := "toneRises", fn := fun _ => fun
  | [d1, d2, d3] => { results := [.lit (.bool false)], args := [d1, d2, d3] }
  | _ => none }
def ToneRisesWrongFalsely : Prop := toneRisesRow.holds Try.pinned (OpenSpec.ofChange toneRisesWrong)

/-- 'gouachelaw01.ToneProducts': WHATEVER THE INPUT: true; the input reads as it did. -/
def toneProductsSpec : ChangeSpec := { name := "toneProducts", fn := fun _ => fun
  | [d1, d2, d3] => { results := [.lit (.bool true)], args := [d1, d2, d3] }
  | _ => none }
def toneProductsRow : OpenClaim := { program := "ytghcpjahieaepaa", sum := "9d2b9aaf9042167dbca59ccdee859218099e1cd420af554ca4ebbce6025f820d", func := "gouache/gouachelaw01.ToneProducts", spec := "toneProducts", apart := false }
def ToneProductsSaid : Prop := toneProductsRow.holds Try.pinned (OpenSpec.ofChange toneProductsSpec)

/-- ITS FALSE NEIGHBOUR: 'it returns false'. Refute it at one input. -/
def toneProductsWrong : ChangeSpec := { name := "toneProducts", fn := fun _ => fun
  | [d1, d2, d3] => { results := [.lit (.bool false)], args := [d1, d2, d3] }
  | _ => none }
def ToneProductsWrongFalsely : Prop := toneProductsRow.holds Try.pinned (OpenSpec.ofChange toneProductsWrong)

/-- 'gouachelaw01.TonePixels': WHATEVER THE INPUT: true; the input reads as it did. -/
def tonePixelsSpec : ChangeSpec := { name := "tonePixels", fn := fun _ => fun
  | [d1, d2] => { results := [.lit (.bool true)], args := [d1, d2] }
  | _ => none }
def tonePixelsRow : OpenClaim := { program := "ytghcpjahieaepaa", sum := "9d2b9aaf9042167dbca59ccdee859218099e1cd420af554ca4ebbce6025f820d", func := "gouache/gouachelaw01.TonePixels", spec := "tonePixels", apart := false }
def TonePixelsSaid : Prop := tonePixelsRow.holds Try.pinned (OpenSpec.ofChange tonePixelsSpec)

/-- ITS FALSE NEIGHBOUR: 'it returns false'. Refute it at one input. -/
def tonePixelsWrong : ChangeSpec := { name := "tonePixels", fn := fun _ => fun
  | [d1, d2] => { results := [.lit (.bool false)], args := [d1, d2] }
  | _ => none }
def TonePixelsWrongFalsely : Prop := tonePixelsRow.holds Try.pinned (OpenSpec.ofChange tonePixelsWrong)

/-- 'gouachelaw01.ToneRight': WHATEVER THE INPUT: true; the input reads as it did. -/
def toneRightSpec : ChangeSpec := { name := "toneRight", fn := fun _ => fun
  | [d1, d2] => { results := [.lit (.bool true)], args := [d1, d2] }
  | _ => none }
def toneRightRow : OpenClaim := { program := "ytghcpjahieaepaa", sum := "9d2b9aaf9042167dbca59ccdee859218099e1cd420af554ca4ebbce6025f820d", func := "gouache/gouachelaw01.ToneRight", spec := "toneRight", apart := false }
def ToneRightSaid : Prop := toneRightRow.holds Try.pinned (OpenSpec.ofChange toneRightSpec)

/-- ITS FALSE NEIGHBOUR: 'it returns false'. Refute it at one input. -/
def toneRightWrong : ChangeSpec := { name := "toneRight", fn := fun _ => fun
  | [d1, d2] => { results := [.lit (.bool false)], args := [d1, d2] }
  | _ => none }
def ToneRightWrongFalsely : Prop := toneRightRow.holds Try.pinned (OpenSpec.ofChange toneRightWrong)

/-- 'gouachelaw03.RectAreas': WHATEVER THE INPUT: true; the input reads as it did. -/
def rectAreasSpec : ChangeSpec := { name := "rectAreas", fn := fun _ => fun
  | [d1, d2] => { results := [.lit (.bool true)], args := [d1, d2] }
  | _ => none }
def rectAreasRow : OpenClaim := { program := "ytghcpjahieaepaa", sum := "9d2b9aaf9042167dbca59ccdee859218099e1cd420af554ca4ebbce6025f820d", func := "gouache/gouachelaw03.RectAreas", spec := "rectAreas", apart := false }
def RectAreasSaid : Prop := rectAreasRow.holds Try.pinned (OpenSpec.ofChange rectAreasSpec)

/-- ITS FALSE NEIGHBOUR: 'it returns false'. Refute it at one input. -/
def rectAreasWrong : ChangeSpec := { name := "rectAreas", fn := fun _ => fun
  | [d1, d2] => { results := [.lit (.bool false)], args := [d1, d2] }
  | _ => none }
def RectAreasWrongFalsely : Prop := rectAreasRow.holds Try.pinned (OpenSpec.ofChange rectAreasWrong)

/-- 'gouachelaw07.TintPixels': WHATEVER THE INPUT: true; the input reads as it did. -/
def tintPixelsSpec : ChangeSpec := { name := "tintPixels", fn := fun _ => fun
  | [d1, d2] => { results := [.lit (.bool true)], args := [d1, d2] }
  | _ => none }
def tintPixelsRow : OpenClaim := { program := "ytghcpjahieaepaa", sum := "9d2b9aaf9042167dbca59ccdee859218099e1cd420af554ca4ebbce6025f820d", func := "gouache/gouachelaw07.TintPixels", spec := "tintPixels", apart := false }
def TintPixelsSaid : Prop := tintPixelsRow.holds Try.pinned (OpenSpec.ofChange tintPixelsSpec)

/-- ITS FALSE NEIGHBOUR: 'it returns false'. Refute it at one input. -/
def tintPixelsWrong : ChangeSpec := { name := "tintPixels", fn := fun _ => fun
  | [d1, d2] => { results := [.lit (.bool false)], args := [d1, d2] }
  | _ => none }
def TintPixelsWrongFalsely : Prop := tintPixelsRow.holds Try.pinned (OpenSpec.ofChange tintPixelsWrong)

/-- 'gouachelaw07.TintRows': WHATEVER THE INPUT: true; the input reads as it did. -/
def tintRowsSpec : ChangeSpec := { name := "tintRows", fn := fun _ => fun
  | [d1, d2, d3, d4] => { results := [.lit (.bool true)], args := [d1, d2, d3, d4] }
  | _ => none }
def tintRowsRow : OpenClaim := { program := "ytghcpjahieaepaa", sum := "9d2b9aaf9042167dbca59ccdee859218099e1cd420af554ca4ebbce6025f820d", func := "gouache/gouachelaw07.TintRows", spec := "tintRows", apart := false }
def TintRowsSaid : Prop := tintRowsRow.holds Try.pinned (OpenSpec.ofChange tintRowsSpec)

/-- ITS FALSE NEIGHBOUR: 'it returns false'. Refute it at one input. -/
def tintRowsWrong : ChangeSpec := { name := "tintRows", fn := fun _ => fun
  | [d1, d2, d3, d4] => { results := [.lit (.bool false)], args := [d1, d2, d3, d4] }
  | _ => none }
def TintRowsWrongFalsely : Prop := tintRowsRow.holds Try.pinned (OpenSpec.ofChange tintRowsWrong)

/-- 'gouachelaw07.TintNone': WHATEVER THE INPUT: true; the input reads as it did. -/
def tintNoneSpec : ChangeSpec := { name := "tintNone", fn := fun _ => fun
  | [d] => { results := [.lit (.bool true)], args := [d] }
  | _ => none }
def tintNoneRow : OpenClaim := { program := "ytghcpjahieaepaa", sum := "9d2b9aaf9042167dbca59ccdee859218099e1cd420af554ca4ebbce6025f820d", func := "gouache/gouachelaw07.TintNone", spec := "tintNone", apart := false }
def TintNoneSaid : Prop := tintNoneRow.holds Try.pinned (OpenSpec.ofChange tintNoneSpec)

/-- ITS FALSE NEIGHBOUR: 'it returns false'. Refute it at one input. -/
def tintNoneWrong : ChangeSpec := { name := "tintNone", fn := fun _ => fun
  | [d] => { results := [.lit (.bool false)], args := [d] }
  | _ => none }
def TintNoneWrongFalsely : Prop := tintNoneRow.holds Try.pinned (OpenSpec.ofChange tintNoneWrong)

/-- 'gouachelaw07.TintKeeps': WHATEVER THE INPUT: true; the input reads as it did. -/
def tintKeepsSpec : ChangeSpec := { name := "tintKeeps", fn := fun _ => fun
  | [d1, d2] => { results := [.lit (.bool true)], args := [d1, d2] }
  | _ => none }
def tintKeepsRow : OpenClaim := { program := "ytghcpjahieaepaa", sum := "9d2b9aaf9042167dbca59ccdee859218099e1cd420af554ca4ebbce6025f820d", func := "gouache/gouachelaw07.TintKeeps", spec := "tintKeeps", apart := false }
def TintKeepsSaid : Prop := tintKeepsRow.holds Try.pinned (OpenSpec.ofChange tintKeepsSpec)

/-- ITS FALSE NEIGHBOUR: 'it returns false'. Refute it at one input. -/
def tintKeepsWrong : ChangeSpec := { name := "tintKeeps", fn := fun _ => fun
  | [d1, d2] => { results := [.lit (.bool false)], args := [d1, d2] }
  | _ => none }
def TintKeepsWrongFalsely : Prop := tintKeepsRow.holds Try.pinned (OpenSpec.ofChange tintKeepsWrong)

/-- 'gouachelaw07.TintRight': WHATEVER THE INPUT: true; the input reads as it did. -/
def tintRightSpec : ChangeSpec := { name := "tintRight", fn := fun _ => fun
  | [d1, d2] => { results := [.lit (.bool true)], args := [d1, d2] }
  | _ => none }
def tintRightRow : OpenClaim := { program := "ytghcpjahieaepaa", sum := "9d2b9aaf9042167dbca59ccdee859218099e1cd420af554ca4ebbce6025f820d", func := "gouache/gouachelaw07.TintRight", spec := "tintRight", apart := false }
def TintRightSaid : Prop := tintRightRow.holds Try.pinned (OpenSpec.ofChange tintRightSpec)

/-- ITS FALSE NEIGHBOUR: 'it returns false'. Refute it at one input. -/
def tintRightWrong : ChangeSpec := { name := "tintRight", fn := fun _ => fun
  | [d1, d2] => { results := [.lit (.bool false)], args := [d1, d2] }
  | _ => none }
def TintRightWrongFalsely : Prop := tintRightRow.holds Try.pinned (OpenSpec.ofChange tintRightWrong)

/-- 'gouachelaw03.RectThere': WHATEVER THE INPUT: true; the input reads as it did. -/
def rectThereSpec : ChangeSpec := { name := "rectThere", fn := fun _ => fun
  | [d1, d2, d3, d4, d5, d6] => { results := [.lit (.bool true)], args := [d1, d2, d3, d4, d5, d6] }
  | _ => none }
def rectThereRow : OpenClaim := { program := "ytghcpjahieaepaa", sum := "9d2b9aaf9042167dbca59ccdee859218099e1cd420af554ca4ebbce6025f820d", func := "gouache/gouachelaw03.RectThere", spec := "rectThere", apart := false }
def RectThereSaid : Prop := rectThereRow.holds Try.pinned (OpenSpec.ofChange rectThereSpec)

/-- ITS FALSE NEIGHBOUR: 'it returns false'. Refute it at one input. -/
def rectThereWrong : ChangeSpec := { name := "rectThere", fn := fun _ => fun
  | [d1, d2, d3, d4, d5, d6] => { results := [.lit (.bool false)], args := [d1, d2, d3, d4, d5, d6] }
  | _ => none }
def RectThereWrongFalsely : Prop := rectThereRow.holds Try.pinned (OpenSpec.ofChange rectThereWrong)

/- THE SECOND FORM. 'bulk': how many values and letters a reading holds, each counted each time it is reached (what is shared counts as often as it is met; a slice's spare places count too). A statement '..UptoSaid' is the law's where the arguments, and the package variables that the reading takes, are together of bulk at most 1048576: NARROWER than '..Said'. Prove '..Said' where nothing that the law and all that it calls make is longer than what came in: it says more and counts as full. Else prove '..UptoSaid'. A law counts once. -/
mutual
def uptoBulk {H : Type} : DataW H → Nat
  | .lit (.string bytes) => bytes.length + 1
  | .lit _ => 1
  | .nil => 1
  | .ptr d => uptoBulk d + 1
  | .slice elems spare => uptoBulkAll elems + uptoBulkAll spare + 1
  | .agg parts => uptoBulkAll parts + 1
  | .iface _ d => uptoBulk d + 1
  | .map entries => uptoBulkEntries entries + 1
  | .held _ => 1
def uptoBulkAll {H : Type} : List (DataW H) → Nat
  | [] => 0
  | d :: r => uptoBulk d + uptoBulkAll r
def uptoBulkEntries {H : Type} : List (Lit × DataW H) → Nat
  | [] => 0
  | x :: r => uptoBulkEntry x + uptoBulkEntries r
def uptoBulkEntry {H : Type} : Lit × DataW H → Nat
  | (.string bytes, d) => bytes.length + uptoBulk d + 1
  | (_, d) => uptoBulk d + 1
 end
def uptoSmall : (H : Type) → List (DataW H) → Bool := fun _ ds => decide (uptoBulkAll ds ≤ 1048576)
def OpenSpec.upto (s : _root_.Go.ChangeSpec) : _root_.Go.OpenSpec := { _root_.Go.OpenSpec.ofChange s with cond := some uptoSmall }

/-- 'gouachelaw01.ToneNear', WHERE WHAT IT READS IS OF BULK AT MOST 1048576: true; the input reads as it did. -/
def toneNearUptoRow : OpenClaim := { program := "ytghcpjahieaepaa", sum := "9d2b9aaf9042167dbca59ccdee859218099e1cd420af554ca4ebbce6025f820d", func := "gouache/gouachelaw01.ToneNear", spec := "toneNear", apart := false, narrowed := true }
def ToneNearUptoSaid : Prop := toneNearUptoRow.holds Try.pinned (OpenSpec.upto toneNearSpec)

/-- 'gouachelaw01.ToneRises', WHERE WHAT IT READS IS OF BULK AT MOST 1048576: true; the input reads as it did. -/
def toneRisesUptoRow : OpenClaim := { program := "ytghcpjahieaepaa", sum := "9d2b9aaf9042167dbca59ccdee859218099e1cd420af554ca4ebbce6025f820d", func := "gouache/gouachelaw01.ToneRises", spec := "toneRises", apart := false, narrowed := true }
def ToneRisesUptoSaid : Prop := toneRisesUptoRow.holds Try.pinned (OpenSpec.upto toneRisesSpec)

/-- 'gouachelaw01.ToneProducts', WHERE WHAT IT READS IS OF BULK AT MOST 1048576: true; the input reads as it did. -/
def toneProductsUptoRow : OpenClaim := { program := "ytghcpjahieaepaa", sum := "9d2b9aaf9042167dbca59ccdee859218099e1cd420af554ca4ebbce6025f820d", func := "gouache/gouachelaw01.ToneProducts", spec := "toneProducts", apart := false, narrowed := true }
def ToneProductsUptoSaid : Prop := toneProductsUptoRow.holds Try.pinned (OpenSpec.upto toneProductsSpec)

/-- 'gouachelaw01.TonePixels', WHERE WHAT IT READS IS OF BULK AT MOST 1048576: true; the input reads as it did. -/
def tonePixelsUptoRow : OpenClaim := { program := "ytghcpjahieaepaa", sum := "9d2b9aaf9042167dbca59ccdee859218099e1cd420af554ca4ebbce6025f820d", func := "gouache/gouachelaw01.TonePixels", spec := "tonePixels", apart := false, narrowed := true }
def TonePixelsUptoSaid : Prop := tonePixelsUptoRow.holds Try.pinned (OpenSpec.upto tonePixelsSpec)

/-- 'gouachelaw01.ToneRight', WHERE WHAT IT READS IS OF BULK AT MOST 1048576: true; the input reads as it did. -/
def toneRightUptoRow : OpenClaim := { program := "ytghcpjahieaepaa", sum := "9d2b9aaf9042167dbca59ccdee859218099e1cd420af554ca4ebbce6025f820d", func := "gouache/gouachelaw01.ToneRight", spec := "toneRight", apart := false, narrowed := true }
def ToneRightUptoSaid : Prop := toneRightUptoRow.holds Try.pinned (OpenSpec.upto toneRightSpec)

/-- 'gouachelaw03.RectAreas', WHERE WHAT IT READS IS OF BULK AT MOST 1048576: true; the input reads as it did. -/
def rectAreasUptoRow : OpenClaim := { program := "ytghcpjahieaepaa", sum := "9d2b9aaf9042167dbca59ccdee859218099e1cd420af554ca4ebbce6025f820d", func := "gouache/gouachelaw03.RectAreas", spec := "rectAreas", apart := false, narrowed := true }
def RectAreasUptoSaid : Prop := rectAreasUptoRow.holds Try.pinned (OpenSpec.upto rectAreasSpec)

/-- 'gouachelaw07.TintPixels', WHERE WHAT IT READS IS OF BULK AT MOST 1048576: true; the input reads as it did. -/
def tintPixelsUptoRow : OpenClaim := { program := "ytghcpjahieaepaa", sum := "9d2b9aaf9042167dbca59ccdee859218099e1cd420af554ca4ebbce6025f820d", func := "gouache/gouachelaw07.TintPixels", spec := "tintPixels", apart := false, narrowed := true }
def TintPixelsUptoSaid : Prop := tintPixelsUptoRow.holds Try.pinned (OpenSpec.upto tintPixelsSpec)

/-- 'gouachelaw07.TintRows', WHERE WHAT IT READS IS OF BULK AT MOST 1048576: true; the input reads as it did. -/
def tintRowsUptoRow : OpenClaim := { program := "ytghcpjahieaepaa", sum := "9d2b9aaf9042167dbca59ccdee859218099e1cd420af554ca4ebbce6025f820d", func := "gouache/gouachelaw07.TintRows", spec := "tintRows", apart := false, narrowed := true }
def TintRowsUptoSaid : Prop := tintRowsUptoRow.holds Try.pinned (OpenSpec.upto tintRowsSpec)

/-- 'gouachelaw07.TintNone', WHERE WHAT IT READS IS OF BULK AT MOST 1048576: true; the input reads as it did. -/
def tintNoneUptoRow : OpenClaim := { program := "ytghcpjahieaepaa", sum := "9d2b9aaf9042167dbca59ccdee859218099e1cd420af554ca4ebbce6025f820d", func := "gouache/gouachelaw07.TintNone", spec := "tintNone", apart := false, narrowed := true }
def TintNoneUptoSaid : Prop := tintNoneUptoRow.holds Try.pinned (OpenSpec.upto tintNoneSpec)

/-- 'gouachelaw07.TintKeeps', WHERE WHAT IT READS IS OF BULK AT MOST 1048576: true; the input reads as it did. -/
def tintKeepsUptoRow : OpenClaim := { program := "ytghcpjahieaepaa", sum := "9d2b9aaf9042167dbca59ccdee859218099e1cd420af554ca4ebbce6025f820d", func := "gouache/gouachelaw07.TintKeeps", spec := "tintKeeps", apart := false, narrowed := true }
def TintKeepsUptoSaid : Prop := tintKeepsUptoRow.holds Try.pinned (OpenSpec.upto tintKeepsSpec)

/-- 'gouachelaw07.TintRight', WHERE WHAT IT READS IS OF BULK AT MOST 1048576: true; the input reads as it did. -/
def tintRightUptoRow : OpenClaim := { program := "ytghcpjahieaepaa", sum := "9d2b9aaf9042167dbca59ccdee859218099e1cd420af554ca4ebbce6025f820d", func := "gouache/gouachelaw07.TintRight", spec := "tintRight", apart := false, narrowed := true }
def TintRightUptoSaid : Prop := tintRightUptoRow.holds Try.pinned (OpenSpec.upto tintRightSpec)

/-- 'gouachelaw03.RectThere', WHERE WHAT IT READS IS OF BULK AT MOST 1048576: true; the input reads as it did. -/
def rectThereUptoRow : OpenClaim := { program := "ytghcpjahieaepaa", sum := "9d2b9aaf9042167dbca59ccdee859218099e1cd420af554ca4ebbce6025f820d", func := "gouache/gouachelaw03.RectThere", spec := "rectThere", apart := false, narrowed := true }
def RectThereUptoSaid : Prop := rectThereUptoRow.holds Try.pinned (OpenSpec.upto rectThereSpec)

end Rows
end Go.Proofs.Ytghcpjahieaepaa
