/-
  No cell of these rows narrows 'for every input' (looked for: loops, veiled, ifaces, maps, wideKeys, modest, calm, conditions, laid).
  DERIVED. THE GIVEN ROWS OF THIS SEAT. 17 by the template 'for every input the law returns true; each argument reads behind the call as it read before'; 0 by the template 'total and deterministic' (their statements: YtnhippfllgnngaaTotals.lean).
  GIVEN WITH THE SEED: the statements are not yours to turn. If you find one false, say at which input.
  Laid BY PROGRAM, IN A SANDBOX (cutbox-rows.mjs): the forced cells as the released guide's own fill.sh prints them over the translation fed1122a689bdff4… (all of the seat's roots in one cut). By AI agents, Wed Nov 11 2026. No macro, syntax, notation, axiom, sorry.
-/
import Derived.Test.YtnhippfllgnngaaChecked
import GoSem.Claim
import GoSem.ClaimJoined
import GoSem.ClaimMapViews
import Derived.JoinedTies
import Derived.KernelRfl
namespace Go.Proofs.Ytnhippfllgnngaa
/- THE CELL 'sum', in the pinned program and in every row, IS THE sha256 OF THE DUMP (.gsa) THAT YtnhippfllgnngaaProg.lean LOADS. Nothing in Lean hashes anything: it is a label: what it is worth is what the hold of that sum in a sandbox is worth. -/
noncomputable def Try.pinned : Pinned := { name := "ytnhippfllgnngaa", sum := "fed1122a689bdff4b85ee7d7edc3fc2ff8866e16737bac7c6581b01165d66592", checked := Try.checked }
namespace Rows
def none {H : Type} : Left H := { results := [], args := [] }

/-- 'purlieulaw05.SparseReads': WHATEVER THE INPUT: true; the input reads as it did. -/
def sparseReadsSpec : ChangeSpec := { name := "sparseReads", fn := fun _ => fun
  | [d1, d2] => { results := [.lit (.bool true)], args := [d1, d2] }
  | _ => none }
def sparseReadsRow : OpenClaim := { program := "ytnhippfllgnngaa", sum := "fed1122a689bdff4b85ee7d7edc3fc2ff8866e16737bac7c6581b01165d66592", func := "purlieu/purlieulaw05.SparseReads", spec := "sparseReads", unfollowed := true, recurses := true, apart := false }
def SparseReadsSaid : Prop := sparseReadsRow.holds Try.pinned (OpenSpec.ofChange sparseReadsSpec)

/-- ITS FALSE NEIGHBOUR: 'it returns false'. Refute it at one input. -/
def sparseReadsWrong : ChangeSpec := { name := "sparseReads", fn := fun _ => fun
  | [d1, d2] => { results := [.lit (.bool false)], args := [d1, d2] }
  | _ => none }
def SparseReadsWrongFalsely : Prop := sparseReadsRow.holds Try.pinned (OpenSpec.ofChange sparseReadsWrong)

/-- 'purlieulaw05.SparseFrom': WHATEVER THE INPUT: true; the input reads as it did. -/
def sparseFromSpec : ChangeSpec := { name := "sparseFrom", fn := fun _ => fun
  | [d1, d2, d3] => { results := [.lit (.bool true)], args := [d1, d2, d3] }
  | _ => none }
def sparseFromRow : OpenClaim := { program := "ytnhippfllgnngaa", sum := "fed1122a689bdff4b85ee7d7edc3fc2ff8866e16737bac7c6581b01165d66592", func := "purlieu/purlieulaw05.SparseFrom", spec := "sparseFrom", apart := false }
def SparseFromSaid : Prop := sparseFromRow.holds Try.pinned (OpenSpec.ofChange sparseFromSpec)

/-- ITS FALSE NEIGHBOUR: 'it returns false'. Refute it at one input. -/
def sparseFromWrong : ChangeSpec := { name := "sparseFrom", fn := fun _ => fun
  | [d1, d2, d3] => { results := [.lit (.bool false)], args := [d1, d2, d3] }
  | _ => none }
def SparseFromWrongFalsely : Prop := sparseFromRow.holds Try.pinned (OpenSpec.ofChange sparseFromWrong)

/-- 'purlieulaw05.SparseParts': WHATEVER THE INPUT: true; the input reads as it did. -/
def sparsePartsSpec : ChangeSpec := { name := "sparseParts", fn := fun _ => fun
  | [d1, d2] => { results := [.lit (.bool true)], args := [d1, d2] }
  | _ => none }
def sparsePartsRow : OpenClaim := { program := "ytnhippfllgnngaa", sum := "fed1122a689bdff4b85ee7d7edc3fc2ff8866e16737bac7c6581b01165d66592", func := "purlieu/purlieulaw05.SparseParts", spec := "sparseParts", unfollowed := true, recurses := true, apart := false }
def SparsePartsSaid : Prop := sparsePartsRow.holds Try.pinned (OpenSpec.ofChange sparsePartsSpec)

/-- ITS FALSE NEIGHBOUR: 'it returns false'. Refute it at one input. -/
def sparsePartsWrong : ChangeSpec := { name := "sparseParts", fn := fun _ => fun
  | [d1, d2] => { results := [.lit (.bool false)], args := [d1, d2] }
  | _ => none }
def SparsePartsWrongFalsely : Prop := sparsePartsRow.holds Try.pinned (OpenSpec.ofChange sparsePartsWrong)

/-- 'purlieulaw05.SparseRows': WHATEVER THE INPUT: true; the input reads as it did. -/
def sparseRowsSpec : ChangeSpec := { name := "sparseRows", fn := fun _ => fun
  | [d] => { results := [.lit (.bool true)], args := [d] }
  | _ => none }
def sparseRowsRow : OpenClaim := { program := "ytnhippfllgnngaa", sum := "fed1122a689bdff4b85ee7d7edc3fc2ff8866e16737bac7c6581b01165d66592", func := "purlieu/purlieulaw05.SparseRows", spec := "sparseRows", unfollowed := true, recurses := true, apart := false }
def SparseRowsSaid : Prop := sparseRowsRow.holds Try.pinned (OpenSpec.ofChange sparseRowsSpec)

/-- ITS FALSE NEIGHBOUR: 'it returns false'. Refute it at one input. -/
def sparseRowsWrong : ChangeSpec := { name := "sparseRows", fn := fun _ => fun
  | [d] => { results := [.lit (.bool false)], args := [d] }
  | _ => none }
def SparseRowsWrongFalsely : Prop := sparseRowsRow.holds Try.pinned (OpenSpec.ofChange sparseRowsWrong)

/-- 'purlieulaw05.SparseAddAll': WHATEVER THE INPUT: true; the input reads as it did. -/
def sparseAddAllSpec : ChangeSpec := { name := "sparseAddAll", fn := fun _ => fun
  | [d1, d2] => { results := [.lit (.bool true)], args := [d1, d2] }
  | _ => none }
def sparseAddAllRow : OpenClaim := { program := "ytnhippfllgnngaa", sum := "fed1122a689bdff4b85ee7d7edc3fc2ff8866e16737bac7c6581b01165d66592", func := "purlieu/purlieulaw05.SparseAddAll", spec := "sparseAddAll", unfollowed := true, recurses := true, apart := false }
def SparseAddAllSaid : Prop := sparseAddAllRow.holds Try.pinned (OpenSpec.ofChange sparseAddAllSpec)

/-- ITS FALSE NEIGHBOUR: 'it returns false'. Refute it at one input. -/
def sparseAddAllWrong : ChangeSpec := { name := "sparseAddAll", fn := fun _ => fun
  | [d1, d2] => { results := [.lit (.bool false)], args := [d1, d2] }
  | _ => none }
def SparseAddAllWrongFalsely : Prop := sparseAddAllRow.holds Try.pinned (OpenSpec.ofChange sparseAddAllWrong)

/-- 'purlieulaw05.SparseBack': WHATEVER THE INPUT: true; the input reads as it did. -/
def sparseBackSpec : ChangeSpec := { name := "sparseBack", fn := fun _ => fun
  | [d] => { results := [.lit (.bool true)], args := [d] }
  | _ => none }
def sparseBackRow : OpenClaim := { program := "ytnhippfllgnngaa", sum := "fed1122a689bdff4b85ee7d7edc3fc2ff8866e16737bac7c6581b01165d66592", func := "purlieu/purlieulaw05.SparseBack", spec := "sparseBack", unfollowed := true, recurses := true, apart := false }
def SparseBackSaid : Prop := sparseBackRow.holds Try.pinned (OpenSpec.ofChange sparseBackSpec)

/-- ITS FALSE NEIGHBOUR: 'it returns false'. Refute it at one input. -/
def sparseBackWrong : ChangeSpec := { name := "sparseBack", fn := fun _ => fun
  | [d] => { results := [.lit (.bool false)], args := [d] }
  | _ => none }
def SparseBackWrongFalsely : Prop := sparseBackRow.holds Try.pinned (OpenSpec.ofChange sparseBackWrong)

/-- 'purlieulaw05.SparseAdds': WHATEVER THE INPUT: true; the input reads as it did. -/
def sparseAddsSpec : ChangeSpec := { name := "sparseAdds", fn := fun _ => fun
  | [d1, d2] => { results := [.lit (.bool true)], args := [d1, d2] }
  | _ => none }
def sparseAddsRow : OpenClaim := { program := "ytnhippfllgnngaa", sum := "fed1122a689bdff4b85ee7d7edc3fc2ff8866e16737bac7c6581b01165d66592", func := "purlieu/purlieulaw05.SparseAdds", spec := "sparseAdds", unfollowed := true, recurses := true, apart := false }
def SparseAddsSaid : Prop := sparseAddsRow.holds Try.pinned (OpenSpec.ofChange sparseAddsSpec)

/-- ITS FALSE NEIGHBOUR: 'it returns false'. Refute it at one input. -/
def sparseAddsWrong : ChangeSpec := { name := "sparseAdds", fn := fun _ => fun
  | [d1, d2] => { results := [.lit (.bool false)], args := [d1, d2] }
  | _ => none }
def SparseAddsWrongFalsely : Prop := sparseAddsRow.holds Try.pinned (OpenSpec.ofChange sparseAddsWrong)

/-- 'purlieulaw05.SparseSets': WHATEVER THE INPUT: true; the input reads as it did. -/
def sparseSetsSpec : ChangeSpec := { name := "sparseSets", fn := fun _ => fun
  | [d1, d2, d3] => { results := [.lit (.bool true)], args := [d1, d2, d3] }
  | _ => none }
def sparseSetsRow : OpenClaim := { program := "ytnhippfllgnngaa", sum := "fed1122a689bdff4b85ee7d7edc3fc2ff8866e16737bac7c6581b01165d66592", func := "purlieu/purlieulaw05.SparseSets", spec := "sparseSets", unfollowed := true, recurses := true, apart := false }
def SparseSetsSaid : Prop := sparseSetsRow.holds Try.pinned (OpenSpec.ofChange sparseSetsSpec)

/-- ITS FALSE NEIGHBOUR: 'it returns false'. Refute it at one input. -/
def sparseSetsWrong : ChangeSpec := { name := "sparseSets", fn := fun _ => fun
  | [d1, d2, d3] => { results := [.lit (.bool false)], args := [d1, d2, d3] }
  | _ => none }
def SparseSetsWrongFalsely : Prop := sparseSetsRow.holds Try.pinned (OpenSpec.ofChange sparseSetsWrong)

/-- 'purlieulaw05.SparseMeets': WHATEVER THE INPUT: true; the input reads as it did. -/
def sparseMeetsSpec : ChangeSpec := { name := "sparseMeets", fn := fun _ => fun
  | [d1, d2] => { results := [.lit (.bool true)], args := [d1, d2] }
  | _ => none }
def sparseMeetsRow : OpenClaim := { program := "ytnhippfllgnngaa", sum := "fed1122a689bdff4b85ee7d7edc3fc2ff8866e16737bac7c6581b01165d66592", func := "purlieu/purlieulaw05.SparseMeets", spec := "sparseMeets", unfollowed := true, recurses := true, apart := false }
def SparseMeetsSaid : Prop := sparseMeetsRow.holds Try.pinned (OpenSpec.ofChange sparseMeetsSpec)

/-- ITS FALSE NEIGHBOUR: 'it returns false'. Refute it at one input. -/
def sparseMeetsWrong : ChangeSpec := { name := "sparseMeets", fn := fun _ => fun
  | [d1, d2] => { results := [.lit (.bool false)], args := [d1, d2] }
  | _ => none }
def SparseMeetsWrongFalsely : Prop := sparseMeetsRow.holds Try.pinned (OpenSpec.ofChange sparseMeetsWrong)

/-- 'purlieulaw05.SparseOrder': WHATEVER THE INPUT: true; the input reads as it did. -/
def sparseOrderSpec : ChangeSpec := { name := "sparseOrder", fn := fun _ => fun
  | [d1, d2] => { results := [.lit (.bool true)], args := [d1, d2] }
  | _ => none }
def sparseOrderRow : OpenClaim := { program := "ytnhippfllgnngaa", sum := "fed1122a689bdff4b85ee7d7edc3fc2ff8866e16737bac7c6581b01165d66592", func := "purlieu/purlieulaw05.SparseOrder", spec := "sparseOrder", unfollowed := true, recurses := true, apart := false }
def SparseOrderSaid : Prop := sparseOrderRow.holds Try.pinned (OpenSpec.ofChange sparseOrderSpec)

/-- ITS FALSE NEIGHBOUR: 'it returns false'. Refute it at one input. -/
def sparseOrderWrong : ChangeSpec := { name := "sparseOrder", fn := fun _ => fun
  | [d1, d2] => { results := [.lit (.bool false)], args := [d1, d2] }
  | _ => none }
def SparseOrderWrongFalsely : Prop := sparseOrderRow.holds Try.pinned (OpenSpec.ofChange sparseOrderWrong)

/-- 'purlieulaw06.LayoutRuns': WHATEVER THE INPUT: true; the input reads as it did. -/
def layoutRunsSpec : ChangeSpec := { name := "layoutRuns", fn := fun _ => fun
  | [d1, d2, d3] => { results := [.lit (.bool true)], args := [d1, d2, d3] }
  | _ => none }
def layoutRunsRow : OpenClaim := { program := "ytnhippfllgnngaa", sum := "fed1122a689bdff4b85ee7d7edc3fc2ff8866e16737bac7c6581b01165d66592", func := "purlieu/purlieulaw06.LayoutRuns", spec := "layoutRuns", recurses := true, apart := false }
def LayoutRunsSaid : Prop := layoutRunsRow.holds Try.pinned (OpenSpec.ofChange layoutRunsSpec)

/-- ITS FALSE NEIGHBOUR: 'it returns false'. Refute it at one input. -/
def layoutRunsWrong : ChangeSpec := { name := "layoutRuns", fn := fun _ => fun
  | [d1, d2, d3] => { results := [.lit (.bool false)], args := [d1, d2, d3] }
  | _ => none }
def LayoutRunsWrongFalsely : Prop := layoutRunsRow.holds Try.pinned (OpenSpec.ofChange layoutRunsWrong)

/-- 'purlieulaw06.LayoutTouches': WHATEVER THE INPUT: true; the input reads as it did. -/
def layoutTouchesSpec : ChangeSpec := { name := "layoutTouches", fn := fun _ => fun
  | [d1, d2, d3] => { results := [.lit (.bool true)], args := [d1, d2, d3] }
  | _ => none }
def layoutTouchesRow : OpenClaim := { program := "ytnhippfllgnngaa", sum := "fed1122a689bdff4b85ee7d7edc3fc2ff8866e16737bac7c6581b01165d66592", func := "purlieu/purlieulaw06.LayoutTouches", spec := "layoutTouches", recurses := true, apart := false }
def LayoutTouchesSaid : Prop := layoutTouchesRow.holds Try.pinned (OpenSpec.ofChange layoutTouchesSpec)

/-- ITS FALSE NEIGHBOUR: 'it returns false'. Refute it at one input. -/
def layoutTouchesWrong : ChangeSpec := { name := "layoutTouches", fn := fun _ => fun
  | [d1, d2, d3] => { results := [.lit (.bool false)], args := [d1, d2, d3] }
  | _ => none }
def LayoutTouchesWrongFalsely : Prop := layoutTouchesRow.holds Try.pinned (OpenSpec.ofChange layoutTouchesWrong)

/-- 'purlieulaw06.LayoutTurns': WHATEVER THE INPUT: true; the input reads as it did. -/
def layoutTurnsSpec : ChangeSpec := { name := "layoutTurns", fn := fun _ => fun
  | [d1, d2] => { results := [.lit (.bool true)], args := [d1, d2] }
  | _ => none }
def layoutTurnsRow : OpenClaim := { program := "ytnhippfllgnngaa", sum := "fed1122a689bdff4b85ee7d7edc3fc2ff8866e16737bac7c6581b01165d66592", func := "purlieu/purlieulaw06.LayoutTurns", spec := "layoutTurns", recurses := true, apart := false }
def LayoutTurnsSaid : Prop := layoutTurnsRow.holds Try.pinned (OpenSpec.ofChange layoutTurnsSpec)

/-- ITS FALSE NEIGHBOUR: 'it returns false'. Refute it at one input. -/
def layoutTurnsWrong : ChangeSpec := { name := "layoutTurns", fn := fun _ => fun
  | [d1, d2] => { results := [.lit (.bool false)], args := [d1, d2] }
  | _ => none }
def LayoutTurnsWrongFalsely : Prop := layoutTurnsRow.holds Try.pinned (OpenSpec.ofChange layoutTurnsWrong)

/-- 'purlieulaw06.LayoutResizes': WHATEVER THE INPUT: true; the input reads as it did. -/
def layoutResizesSpec : ChangeSpec := { name := "layoutResizes", fn := fun _ => fun
  | [d1, d2, d3] => { results := [.lit (.bool true)], args := [d1, d2, d3] }
  | _ => none }
def layoutResizesRow : OpenClaim := { program := "ytnhippfllgnngaa", sum := "fed1122a689bdff4b85ee7d7edc3fc2ff8866e16737bac7c6581b01165d66592", func := "purlieu/purlieulaw06.LayoutResizes", spec := "layoutResizes", recurses := true, apart := false }
def LayoutResizesSaid : Prop := layoutResizesRow.holds Try.pinned (OpenSpec.ofChange layoutResizesSpec)

/-- ITS FALSE NEIGHBOUR: 'it returns false'. Refute it at one input. -/
def layoutResizesWrong : ChangeSpec := { name := "layoutResizes", fn := fun _ => fun
  | [d1, d2, d3] => { results := [.lit (.bool false)], args := [d1, d2, d3] }
  | _ => none }
def LayoutResizesWrongFalsely : Prop := layoutResizesRow.holds Try.pinned (OpenSpec.ofChange layoutResizesWrong)

/-- 'purlieulaw06.LayoutOffsets': WHATEVER THE INPUT: true; the input reads as it did. -/
def layoutOffsetsSpec : ChangeSpec := { name := "layoutOffsets", fn := fun _ => fun
  | [d1, d2] => { results := [.lit (.bool true)], args := [d1, d2] }
  | _ => none }
def layoutOffsetsRow : OpenClaim := { program := "ytnhippfllgnngaa", sum := "fed1122a689bdff4b85ee7d7edc3fc2ff8866e16737bac7c6581b01165d66592", func := "purlieu/purlieulaw06.LayoutOffsets", spec := "layoutOffsets", recurses := true, apart := false }
def LayoutOffsetsSaid : Prop := layoutOffsetsRow.holds Try.pinned (OpenSpec.ofChange layoutOffsetsSpec)

/-- ITS FALSE NEIGHBOUR: 'it returns false'. Refute it at one input. -/
def layoutOffsetsWrong : ChangeSpec := { name := "layoutOffsets", fn := fun _ => fun
  | [d1, d2] => { results := [.lit (.bool false)], args := [d1, d2] }
  | _ => none }
def LayoutOffsetsWrongFalsely : Prop := layoutOffsetsRow.holds Try.pinned (OpenSpec.ofChange layoutOffsetsWrong)

/-- 'purlieulaw06.LayoutCuts': WHATEVER THE INPUT: true; the input reads as it did. -/
def layoutCutsSpec : ChangeSpec := { name := "layoutCuts", fn := fun _ => fun
  | [d1, d2, d3] => { results := [.lit (.bool true)], args := [d1, d2, d3] }
  | _ => none }
def layoutCutsRow : OpenClaim := { program := "ytnhippfllgnngaa", sum := "fed1122a689bdff4b85ee7d7edc3fc2ff8866e16737bac7c6581b01165d66592", func := "purlieu/purlieulaw06.LayoutCuts", spec := "layoutCuts", recurses := true, apart := false }
def LayoutCutsSaid : Prop := layoutCutsRow.holds Try.pinned (OpenSpec.ofChange layoutCutsSpec)

/-- ITS FALSE NEIGHBOUR: 'it returns false'. Refute it at one input. -/
def layoutCutsWrong : ChangeSpec := { name := "layoutCuts", fn := fun _ => fun
  | [d1, d2, d3] => { results := [.lit (.bool false)], args := [d1, d2, d3] }
  | _ => none }
def LayoutCutsWrongFalsely : Prop := layoutCutsRow.holds Try.pinned (OpenSpec.ofChange layoutCutsWrong)

/-- 'purlieulaw06.LayoutWrites': WHATEVER THE INPUT: true; the input reads as it did. -/
def layoutWritesSpec : ChangeSpec := { name := "layoutWrites", fn := fun _ => fun
  | [d1, d2] => { results := [.lit (.bool true)], args := [d1, d2] }
  | _ => none }
def layoutWritesRow : OpenClaim := { program := "ytnhippfllgnngaa", sum := "fed1122a689bdff4b85ee7d7edc3fc2ff8866e16737bac7c6581b01165d66592", func := "purlieu/purlieulaw06.LayoutWrites", spec := "layoutWrites", recurses := true, apart := false }
def LayoutWritesSaid : Prop := layoutWritesRow.holds Try.pinned (OpenSpec.ofChange layoutWritesSpec)

/-- ITS FALSE NEIGHBOUR: 'it returns false'. Refute it at one input. -/
def layoutWritesWrong : ChangeSpec := { name := "layoutWrites", fn := fun _ => fun
  | [d1, d2] => { results := [.lit (.bool false)], args := [d1, d2] }
  | _ => none }
def LayoutWritesWrongFalsely : Prop := layoutWritesRow.holds Try.pinned (OpenSpec.ofChange layoutWritesWrong)

/- THE SECOND FORM. 'bulk': how many values and letters a reading holds, each counted each time it is reached (what is shared counts as often as it is met; a slice's spare places count too). A statement '..UptoSaid' is the law's where the arguments, and the package variables that the reading takes, are together of bulk at most 1048576: NARROWER than '..Said'. Prove '..Said' where nothing that the law and all that it calls make is longer than what came in: it says more and counts as full. Else prove '..UptoSaid'. A law counts once. -/
mutual
def uptoBulk {H : Type} : DataW H → Nat
  | .lit (.string bytes) => bytes.length + 1
  | .lit _ => 1
  | .nil => 1
  | .ptr d => uptoBulk d + 1
  | .slice elems spare => uptoBulkAll elems + uptoBulkAll spare + 1
  | .agg parts => uptoBulkAll parts + 1
  | .iface _ d => uptoBulk d + 1
  | .map entries => uptoBulkEntries entries + 1
  | .held _ => 1
def uptoBulkAll {H : Type} : List (DataW H) → Nat
  | [] => 0
  | d :: r => uptoBulk d + uptoBulkAll r
def uptoBulkEntries {H : Type} : List (Lit × DataW H) → Nat
  | [] => 0
  | x :: r => uptoBulkEntry x + uptoBulkEntries r
def uptoBulkEntry {H : Type} : Lit × DataW H → Nat
  | (.string bytes, d) => bytes.length + uptoBulk d + 1
  | (_, d) => uptoBulk d + 1
 end
def uptoSmall : (H : Type) → List (DataW H) → Bool := fun _ ds => decide (uptoBulkAll ds ≤ 1048576)
def OpenSpec.upto (s : _root_.Go.ChangeSpec) : _root_.Go.OpenSpec := { _root_.Go.OpenSpec.ofChange s with cond := some uptoSmall }

/-- 'purlieulaw05.SparseReads', WHERE WHAT IT READS IS OF BULK AT MOST 1048576: true; the input reads as it did. -/
def sparseReadsUptoRow : OpenClaim := { program := "ytnhippfllgnngaa", sum := "fed1122a689bdff4b85ee7d7edc3fc2ff8866e16737bac7c6581b01165d66592", func := "purlieu/purlieulaw05.SparseReads", spec := "sparseReads", unfollowed := true, recurses := true, apart := false, narrowed := true }
def SparseReadsUptoSaid : Prop := sparseReadsUptoRow.holds Try.pinned (OpenSpec.upto sparseReadsSpec)

/-- 'purlieulaw05.SparseFrom', WHERE WHAT IT READS IS OF BULK AT MOST 1048576: true; the input reads as it did. -/
def sparseFromUptoRow : OpenClaim := { program := "ytnhippfllgnngaa", sum := "fed1122a689bdff4b85ee7d7edc3fc2ff8866e16737bac7c6581b01165d66592", func := "purlieu/purlieulaw05.SparseFrom", spec := "sparseFrom", apart := false, narrowed := true }
def SparseFromUptoSaid : Prop := sparseFromUptoRow.holds Try.pinned (OpenSpec.upto sparseFromSpec)

/-- 'purlieulaw05.SparseParts', WHERE WHAT IT READS IS OF BULK AT MOST 1048576: true; the input reads as it did. -/
def sparsePartsUptoRow : OpenClaim := { program := "ytnhippfllgnngaa", sum := "fed1122a689bdff4b85ee7d7edc3fc2ff8866e16737bac7c6581b01165d66592", func := "purlieu/purlieulaw05.SparseParts", spec := "sparseParts", unfollowed := true, recurses := true, apart := false, narrowed := true }
def SparsePartsUptoSaid : Prop := sparsePartsUptoRow.holds Try.pinned (OpenSpec.upto sparsePartsSpec)

/-- 'purlieulaw05.SparseRows', WHERE WHAT IT READS IS OF BULK AT MOST 1048576: true; the input reads as it did. -/
def sparseRowsUptoRow : OpenClaim := { program := "ytnhippfllgnngaa", sum := "fed1122a689bdff4b85ee7d7edc3fc2ff8866e16737bac7c6581b01165d66592", func := "purlieu/purlieulaw05.SparseRows", spec := "sparseRows", unfollowed := true, recurses := true, apart := false, narrowed := true }
def SparseRowsUptoSaid : Prop := sparseRowsUptoRow.holds Try.pinned (OpenSpec.upto sparseRowsSpec)

/-- 'purlieulaw05.SparseAddAll', WHERE WHAT IT READS IS OF BULK AT MOST 1048576: true; the input reads as it did. -/
def sparseAddAllUptoRow : OpenClaim := { program := "ytnhippfllgnngaa", sum := "fed1122a689bdff4b85ee7d7edc3fc2ff8866e16737bac7c6581b01165d66592", func := "purlieu/purlieulaw05.SparseAddAll", spec := "sparseAddAll", unfollowed := true, recurses := true, apart := false, narrowed := true }
def SparseAddAllUptoSaid : Prop := sparseAddAllUptoRow.holds Try.pinned (OpenSpec.upto sparseAddAllSpec)

/-- 'purlieulaw05.SparseBack', WHERE WHAT IT READS IS OF BULK AT MOST 1048576: true; the input reads as it did. -/
def sparseBackUptoRow : OpenClaim := { program := "ytnhippfllgnngaa", sum := "fed1122a689bdff4b85ee7d7edc3fc2ff8866e16737bac7c6581b01165d66592", func := "purlieu/purlieulaw05.SparseBack", spec := "sparseBack", unfollowed := true, recurses := true, apart := false, narrowed := true }
def SparseBackUptoSaid : Prop := sparseBackUptoRow.holds Try.pinned (OpenSpec.upto sparseBackSpec)

/-- 'purlieulaw05.SparseAdds', WHERE WHAT IT READS IS OF BULK AT MOST 1048576: true; the input reads as it did. -/
def sparseAddsUptoRow : OpenClaim := { program := "ytnhippfllgnngaa", sum := "fed1122a689bdff4b85ee7d7edc3fc2ff8866e16737bac7c6581b01165d66592", func := "purlieu/purlieulaw05.SparseAdds", spec := "sparseAdds", unfollowed := true, recurses := true, apart := false, narrowed := true }
def SparseAddsUptoSaid : Prop := sparseAddsUptoRow.holds Try.pinned (OpenSpec.upto sparseAddsSpec)

/-- 'purlieulaw05.SparseSets', WHERE WHAT IT READS IS OF BULK AT MOST 1048576: true; the input reads as it did. -/
def sparseSetsUptoRow : OpenClaim := { program := "ytnhippfllgnngaa", sum := "fed1122a689bdff4b85ee7d7edc3fc2ff8866e16737bac7c6581b01165d66592", func := "purlieu/purlieulaw05.SparseSets", spec := "sparseSets", unfollowed := true, recurses := true, apart := false, narrowed := true }
def SparseSetsUptoSaid : Prop := sparseSetsUptoRow.holds Try.pinned (OpenSpec.upto sparseSetsSpec)

/-- 'purlieulaw05.SparseMeets', WHERE WHAT IT READS IS OF BULK AT MOST 1048576: true; the input reads as it did. -/
def sparseMeetsUptoRow : OpenClaim := { program := "ytnhippfllgnngaa", sum := "fed1122a689bdff4b85ee7d7edc3fc2ff8866e16737bac7c6581b01165d66592", func := "purlieu/purlieulaw05.SparseMeets", spec := "sparseMeets", unfollowed := true, recurses := true, apart := false, narrowed := true }
def SparseMeetsUptoSaid : Prop := sparseMeetsUptoRow.holds Try.pinned (OpenSpec.upto sparseMeetsSpec)

/-- 'purlieulaw05.SparseOrder', WHERE WHAT IT READS IS OF BULK AT MOST 1048576: true; the input reads as it did. -/
def sparseOrderUptoRow : OpenClaim := { program := "ytnhippfllgnngaa", sum := "fed1122a689bdff4b85ee7d7edc3fc2ff8866e16737bac7c6581b01165d66592", func := "purlieu/purlieulaw05.SparseOrder", spec := "sparseOrder", unfollowed := true, recurses := true, apart := false, narrowed := true }
def SparseOrderUptoSaid : Prop := sparseOrderUptoRow.holds Try.pinned (OpenSpec.upto sparseOrderSpec)

/-- 'purlieulaw06.LayoutRuns', WHERE WHAT IT READS IS OF BULK AT MOST 1048576: true; the input reads as it did. -/
def layoutRunsUptoRow : OpenClaim := { program := "ytnhippfllgnngaa", sum := "fed1122a689bdff4b85ee7d7edc3fc2ff8866e16737bac7c6581b01165d66592", func := "purlieu/purlieulaw06.LayoutRuns", spec := "layoutRuns", recurses := true, apart := false, narrowed := true }
def LayoutRunsUptoSaid : Prop := layoutRunsUptoRow.holds Try.pinned (OpenSpec.upto layoutRunsSpec)

/-- 'purlieulaw06.LayoutTouches', WHERE WHAT IT READS IS OF BULK AT MOST 1048576: true; the input reads as it did. -/
def layoutTouchesUptoRow : OpenClaim := { program := "ytnhippfllgnngaa", sum := "fed1122a689bdff4b85ee7d7edc3fc2ff8866e16737bac7c6581b01165d66592", func := "purlieu/purlieulaw06.LayoutTouches", spec := "layoutTouches", recurses := true, apart := false, narrowed := true }
def LayoutTouchesUptoSaid : Prop := layoutTouchesUptoRow.holds Try.pinned (OpenSpec.upto layoutTouchesSpec)

/-- 'purlieulaw06.LayoutTurns', WHERE WHAT IT READS IS OF BULK AT MOST 1048576: true; the input reads as it did. -/
def layoutTurnsUptoRow : OpenClaim := { program := "ytnhippfllgnngaa", sum := "fed1122a689bdff4b85ee7d7edc3fc2ff8866e16737bac7c6581b01165d66592", func := "purlieu/purlieulaw06.LayoutTurns", spec := "layoutTurns", recurses := true, apart := false, narrowed := true }
def LayoutTurnsUptoSaid : Prop := layoutTurnsUptoRow.holds Try.pinned (OpenSpec.upto layoutTurnsSpec)

/-- 'purlieulaw06.LayoutResizes', WHERE WHAT IT READS IS OF BULK AT MOST 1048576: true; the input reads as it did. -/
def layoutResizesUptoRow : OpenClaim := { program := "ytnhippfllgnngaa", sum := "fed1122a689bdff4b85ee7d7edc3fc2ff8866e16737bac7c6581b01165d66592", func := "purlieu/purlieulaw06.LayoutResizes", spec := "layoutResizes", recurses := true, apart := false, narrowed := true }
def LayoutResizesUptoSaid : Prop := layoutResizesUptoRow.holds Try.pinned (OpenSpec.upto layoutResizesSpec)

/-- 'purlieulaw06.LayoutOffsets', WHERE WHAT IT READS IS OF BULK AT MOST 1048576: true; the input reads as it did. -/
def layoutOffsetsUptoRow : OpenClaim := { program := "ytnhippfllgnngaa", sum := "fed1122a689bdff4b85ee7d7edc3fc2ff8866e16737bac7c6581b01165d66592", func := "purlieu/purlieulaw06.LayoutOffsets", spec := "layoutOffsets", recurses := true, apart := false, narrowed := true }
def LayoutOffsetsUptoSaid : Prop := layoutOffsetsUptoRow.holds Try.pinned (OpenSpec.upto layoutOffsetsSpec)

/-- 'purlieulaw06.LayoutCuts', WHERE WHAT IT READS IS OF BULK AT MOST 1048576: true; the input reads as it did. -/
def layoutCutsUptoRow : OpenClaim := { program := "ytnhippfllgnngaa", sum := "fed1122a689bdff4b85ee7d7edc3fc2ff8866e16737bac7c6581b01165d66592", func := "purlieu/purlieulaw06.LayoutCuts", spec := "layoutCuts", recurses := true, apart := false, narrowed := true }
def LayoutCutsUptoSaid : Prop := layoutCutsUptoRow.holds Try.pinned (OpenSpec.upto layoutCutsSpec)

/-- 'purlieulaw06.LayoutWrites', WHERE WHAT IT READS IS OF BULK AT MOST 1048576: true; the input reads as it did. -/
def layoutWritesUptoRow : OpenClaim := { program := "ytnhippfllgnngaa", sum := "fed1122a689bdff4b85ee7d7edc3fc2ff8866e16737bac7c6581b01165d66592", func := "purlieu/purlieulaw06.LayoutWrites", spec := "layoutWrites", recurses := true, apart := false, narrowed := true }
def LayoutWritesUptoSaid : Prop := layoutWritesUptoRow.holds Try.pinned (OpenSpec.upto layoutWritesSpec)

end Rows
end Go.Proofs.Ytnhippfllgnngaa
