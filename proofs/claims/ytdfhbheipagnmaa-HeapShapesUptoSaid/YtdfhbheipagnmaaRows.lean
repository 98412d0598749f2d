/-
  No cell of these rows narrows 'for every input' (looked for: loops, veiled, ifaces, maps, wideKeys, modest, calm, conditions, laid).
  DERIVED. THE GIVEN ROWS OF THIS SEAT. 6 by the template 'for every input the law returns true; each argument reads behind the call as it read before'; 0 by the template 'total and deterministic' (their statements: YtdfhbheipagnmaaTotals.lean).
  GIVEN WITH THE SEED: the statements are not yours to turn. If you find one false, say at which input.
  Laid BY PROGRAM, IN A SANDBOX (cutbox-rows.mjs): the forced cells as the released guide's own fill.sh prints them over the translation 8c635c527126c00c… (all of the seat's roots in one cut). By AI agents, Wed Nov 11 2026. No macro, syntax, notation, axiom, sorry.
-/
import Derived.Test.YtdfhbheipagnmaaChecked
import GoSem.Claim
import GoSem.ClaimJoined
import GoSem.ClaimMapViews
import Derived.JoinedTies
import Derived.KernelRfl
namespace Go.Proofs.Ytdfhbheipagnmaa
/- THE CELL 'sum', in the pinned program and in every row, IS THE sha256 OF THE DUMP (.gsa) THAT YtdfhbheipagnmaaProg.lean LOADS. Nothing in Lean hashes anything: it is a label: what it is worth is what the hold of that sum in a sandbox is worth. -/
noncomputable def Try.pinned : Pinned := { name := "ytdfhbheipagnmaa", sum := "8c635c527126c00c52403d1216f62a37f1f4c191f66b9d2dae14158ed72ad6b0", checked := Try.checked }
namespace Rows
def none {H : Type} : Left H := { results := [], args := [] }

/-- 'brazierlaw13.HeapInner': WHATEVER THE INPUT: true; the input reads as it did. -/
def heapInnerSpec : ChangeSpec := { name := "heapInner", fn := fun _ => fun
  | [d1, d2] => { results := [.lit (.bool true)], args := [d1, d2] }
  | _ => none }
def heapInnerRow : OpenClaim := { program := "ytdfhbheipagnmaa", sum := "8c635c527126c00c52403d1216f62a37f1f4c191f66b9d2dae14158ed72ad6b0", func := "brazier/brazierlaw13.HeapInner", spec := "heapInner", unfollowed := true, recurses := true, plainKeys := false, apart := false }
def HeapInnerSaid : Prop := heapInnerRow.holds Try.pinned (OpenSpec.ofChange heapInnerSpec)

/-- ITS FALSE NEIGHBOUR: 'it returns false'. Refute it at one input. -/
def heapInnerWrong : ChangeSpec := { name := "heapInner", fn := fun _ => fun
  | [d1, d2] => { results := [.lit (.bool false)], args := [d1, d2] }
  | _ => none }
def HeapInnerWrongFalsely : Prop := heapInnerRow.holds Try.pinned (OpenSpec.ofChange heapInnerWrong)

/-- 'brazierlaw13.HeapTexts': WHATEVER THE INPUT: true; the input reads as it did. -/
def heapTextsSpec : ChangeSpec := { name := "heapTexts", fn := fun _ => fun
  | [d] => { results := [.lit (.bool true)], args := [d] }
  | _ => none }
def heapTextsRow : OpenClaim := { program := "ytdfhbheipagnmaa", sum := "8c635c527126c00c52403d1216f62a37f1f4c191f66b9d2dae14158ed72ad6b0", func := "brazier/brazierlaw13.HeapTexts", spec := "heapTexts", unfollowed := true, recurses := true, plainKeys := false, apart := false }
def HeapTextsSaid : Prop := heapTextsRow.holds Try.pinned (OpenSpec.ofChange heapTextsSpec)

/-- ITS FALSE NEIGHBOUR: 'it returns false'. Refute it at one input. -/
def heapTextsWrong : ChangeSpec := { name := "heapTexts", fn := fun _ => fun
  | [d] => { results := [.lit (.bool false)], args := [d] }
  | _ => none }
def HeapTextsWrongFalsely : Prop := heapTextsRow.holds Try.pinned (OpenSpec.ofChange heapTextsWrong)

/-- 'brazierlaw13.HeapFast': WHATEVER THE INPUT: true; the input reads as it did. -/
def heapFastSpec : ChangeSpec := { name := "heapFast", fn := fun _ => fun
  | [d1, d2] => { results := [.lit (.bool true)], args := [d1, d2] }
  | _ => none }
def heapFastRow : OpenClaim := { program := "ytdfhbheipagnmaa", sum := "8c635c527126c00c52403d1216f62a37f1f4c191f66b9d2dae14158ed72ad6b0", func := "brazier/brazierlaw13.HeapFast", spec := "heapFast", unfollowed := true, recurses := true, plainKeys := false, apart := false }
def HeapFastSaid : Prop := heapFastRow.holds Try.pinned (OpenSpec.ofChange heapFastSpec)

/-- ITS FALSE NEIGHBOUR: 'it returns false'. Refute it at one input. -/
def heapFastWrong : ChangeSpec := { name := "heapFast", fn := fun _ => fun
  | [d1, d2] => { results := [.lit (.bool false)], args := [d1, d2] }
  | _ => none }
def HeapFastWrongFalsely : Prop := heapFastRow.holds Try.pinned (OpenSpec.ofChange heapFastWrong)

/-- 'brazierlaw13.HeapElems': WHATEVER THE INPUT: true; the input reads as it did. -/
def heapElemsSpec : ChangeSpec := { name := "heapElems", fn := fun _ => fun
  | [d1, d2, d3] => { results := [.lit (.bool true)], args := [d1, d2, d3] }
  | _ => none }
def heapElemsRow : OpenClaim := { program := "ytdfhbheipagnmaa", sum := "8c635c527126c00c52403d1216f62a37f1f4c191f66b9d2dae14158ed72ad6b0", func := "brazier/brazierlaw13.HeapElems", spec := "heapElems", unfollowed := true, recurses := true, plainKeys := false, apart := false }
def HeapElemsSaid : Prop := heapElemsRow.holds Try.pinned (OpenSpec.ofChange heapElemsSpec)

/-- ITS FALSE NEIGHBOUR: 'it returns false'. Refute it at one input. -/
def heapElemsWrong : ChangeSpec := { name := "heapElems", fn := fun _ => fun
  | [d1, d2, d3] => { results := [.lit (.bool false)], args := [d1, d2, d3] }
  | _ => none }
def HeapElemsWrongFalsely : Prop := heapElemsRow.holds Try.pinned (OpenSpec.ofChange heapElemsWrong)

/-- 'brazierlaw13.HeapShapes': WHATEVER THE INPUT: true; the input reads as it did. -/
def heapShapesSpec : ChangeSpec := { name := "heapShapes", fn := fun _ => fun
  | [d1, d2] => { results := [.lit (.bool true)], args := [d1, d2] }
  | _ => none }
def heapShapesRow : OpenClaim := { program := "ytdfhbheipagnmaa", sum := "8c635c527126c00c52403d1216f62a37f1f4c191f66b9d2dae14158ed72ad6b0", func := "brazier/brazierlaw13.HeapShapes", spec := "heapShapes", inPlace := ["math.Float64frombits", "math.archFloor", "math.Float64bits", "math.archTrunc"], unfollowed := true, recurses := true, plainKeys := false, apart := false }
def HeapShapesSaid : Prop := heapShapesRow.holds Try.pinned (OpenSpec.ofChange heapShapesSpec)

/-- ITS FALSE NEIGHBOUR: 'it returns false'. Refute it at one input. -/
def heapShapesWrong : ChangeSpec := { name := "heapShapes", fn := fun _ => fun
  | [d1, d2] => { results := [.lit (.bool false)], args := [d1, d2] }
  | _ => none }
def HeapShapesWrongFalsely : Prop := heapShapesRow.holds Try.pinned (OpenSpec.ofChange heapShapesWrong)

/-- 'brazierlaw13.HeapGuards': WHATEVER THE INPUT: true; the input reads as it did. -/
def heapGuardsSpec : ChangeSpec := { name := "heapGuards", fn := fun _ => fun
  | [d1, d2, d3] => { results := [.lit (.bool true)], args := [d1, d2, d3] }
  | _ => none }
def heapGuardsRow : OpenClaim := { program := "ytdfhbheipagnmaa", sum := "8c635c527126c00c52403d1216f62a37f1f4c191f66b9d2dae14158ed72ad6b0", func := "brazier/brazierlaw13.HeapGuards", spec := "heapGuards", inPlace := ["math.Float64frombits", "math.archFloor", "math.Float64bits", "math.archTrunc"], unfollowed := true, recurses := true, plainKeys := false, apart := false }
def HeapGuardsSaid : Prop := heapGuardsRow.holds Try.pinned (OpenSpec.ofChange heapGuardsSpec)

/-- ITS FALSE NEIGHBOUR: 'it returns false'. Refute it at one input. -/
def heapGuardsWrong : ChangeSpec := { name := "heapGuards", fn := fun _ => fun
  | [d1, d2, d3] => { results := [.lit (.bool false)], args := [d1, d2, d3] }
  | _ => none }
def HeapGuardsWrongFalsely : Prop := heapGuardsRow.holds Try.pinned (OpenSpec.ofChange heapGuardsWrong)

/- THE SECOND FORM. 'bulk': how many values and letters a reading holds, each counted each time it is reached (what is shared counts as often as it is met; a slice's spare places count too). A statement '..UptoSaid' is the law's where the arguments, and the package variables that the reading takes, are together of bulk at most 1048576: NARROWER than '..Said'. Prove '..Said' where nothing that the law and all that it calls make is longer than what came in: it says more and counts as full. Else prove '..UptoSaid'. A law counts once. -/
mutual
def uptoBulk {H : Type} : DataW H → Nat
  | .lit (.string bytes) => bytes.length + 1
  | .lit _ => 1
  | .nil => 1
  | .ptr d => uptoBulk d + 1
  | .slice elems spare => uptoBulkAll elems + uptoBulkAll spare + 1
  | .agg parts => uptoBulkAll parts + 1
  | .iface _ d => uptoBulk d + 1
  | .map entries => uptoBulkEntries entries + 1
  | .held _ => 1
def uptoBulkAll {H : Type} : List (DataW H) → Nat
  | [] => 0
  | d :: r => uptoBulk d + uptoBulkAll r
def uptoBulkEntries {H : Type} : List (Lit × DataW H) → Nat
  | [] => 0
  | x :: r => uptoBulkEntry x + uptoBulkEntries r
def uptoBulkEntry {H : Type} : Lit × DataW H → Nat
  | (.string bytes, d) => bytes.length + uptoBulk d + 1
  | (_, d) => uptoBulk d + 1
 end
def uptoSmall : (H : Type) → List (DataW H) → Bool := fun _ ds => decide (uptoBulkAll ds ≤ 1048576)
def OpenSpec.upto (s : _root_.Go.ChangeSpec) : _root_.Go.OpenSpec := { _root_.Go.OpenSpec.ofChange s with cond := some uptoSmall }

/-- 'brazierlaw13.HeapInner', WHERE WHAT IT READS IS OF BULK AT MOST 1048576: true; the input reads as it did. -/
def heapInnerUptoRow : OpenClaim := { program := "ytdfhbheipagnmaa", sum := "8c635c527126c00c52403d1216f62a37f1f4c191f66b9d2dae14158ed72ad6b0", func := "brazier/brazierlaw13.HeapInner", spec := "heapInner", unfollowed := true, recurses := true, plainKeys := false, apart := false, narrowed := true }
def HeapInnerUptoSaid : Prop := heapInnerUptoRow.holds Try.pinned (OpenSpec.upto heapInnerSpec)

/-- 'brazierlaw13.HeapTexts', WHERE WHAT IT READS IS OF BULK AT MOST 1048576: true; the input reads as it did. -/
def heapTextsUptoRow : OpenClaim := { program := "ytdfhbheipagnmaa", sum := "8c635c527126c00c52403d1216f62a37f1f4c191f66b9d2dae14158ed72ad6b0", func := "brazier/brazierlaw13.HeapTexts", spec := "heapTexts", unfollowed := true, recurses := true, plainKeys := false, apart := false, narrowed := true }
def HeapTextsUptoSaid : Prop := heapTextsUptoRow.holds Try.pinned (OpenSpec.upto heapTextsSpec)

/-- 'brazierlaw13.HeapFast', WHERE WHAT IT READS IS OF BULK AT MOST 1048576: true; the input reads as it did. -/
def heapFastUptoRow : OpenClaim := { program := "ytdfhbheipagnmaa", sum := "8c635c527126c00c52403d1216f62a37f1f4c191f66b9d2dae14158ed72ad6b0", func := "brazier/brazierlaw13.HeapFast", spec := "heapFast", unfollowed := true, recurses := true, plainKeys := false, apart := false, narrowed := true }
def HeapFastUptoSaid : Prop := heapFastUptoRow.holds Try.pinned (OpenSpec.upto heapFastSpec)

/-- 'brazierlaw13.HeapElems', WHERE WHAT IT READS IS OF BULK AT MOST 1048576: true; the input reads as it did. -/
def heapElemsUptoRow : OpenClaim := { program := "ytdfhbheipagnmaa", sum := "8c635c527126c00c52403d1216f62a37f1f4c191f66b9d2dae14158ed72ad6b0", func := "brazier/brazierlaw13.HeapElems", spec := "heapElems", unfollowed := true, recurses := true, plainKeys := false, apart := false, narrowed := true }
def HeapElemsUptoSaid : Prop := heapElemsUptoRow.holds Try.pinned (OpenSpec.upto heapElemsSpec)

/-- 'brazierlaw13.HeapShapes', WHERE WHAT IT READS IS OF BULK AT MOST 1048576: true; the input reads as it did. -/
def heapShapesUptoRow : OpenClaim := { program := "ytdfhbheipagnmaa", sum := "8c635c527126c00c52403d1216f62a37f1f4c191f66b9d2dae14158ed72ad6b0", func := "brazier/brazierlaw13.HeapShapes", spec := "heapShapes", inPlace := ["math.Float64frombits", "math.archFloor", "math.Float64bits", "math.archTrunc"], unfollowed := true, recurses := true, plainKeys := false, apart := false, narrowed := true }
def HeapShapesUptoSaid : Prop := heapShapesUptoRow.holds Try.pinned (OpenSpec.upto heapShapesSpec)

/-- 'brazierlaw13.HeapGuards', WHERE WHAT IT READS IS OF BULK AT MOST 1048576: true; the input reads as it did. -/
def heapGuardsUptoRow : OpenClaim := { program := "ytdfhbheipagnmaa", sum := "8c635c527126c00c52403d1216f62a37f1f4c191f66b9d2dae14158ed72ad6b0", func := "brazier/brazierlaw13.HeapGuards", spec := "heapGuards", inPlace := ["math.Float64frombits", "math.archFloor", "math.Float64bits", "math.archTrunc"], unfollowed := true, recurses := true, plainKeys := false, apart := false, narrowed := true }
def HeapGuardsUptoSaid : Prop := heapGuardsUptoRow.holds Try.pinned (OpenSpec.upto heapGuardsSpec)

end Rows
end Go.Proofs.Ytdfhbheipagnmaa
