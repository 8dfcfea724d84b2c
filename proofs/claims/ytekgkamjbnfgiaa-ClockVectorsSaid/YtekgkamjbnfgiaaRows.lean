/-
  No cell of these rows narrows 'for every input' (looked for: loops, veiled, ifaces, maps, wideKeys, modest, calm, conditions, laid).
  DERIVED. THE GIVEN ROWS OF THIS SEAT. 9 by the template 'for every input the law returns true; each argument reads behind the call as it read before'; 0 by the template 'total and deterministic' (their statements: YtekgkamjbnfgiaaTotals.lean).
  GIVEN WITH THE SEED: the statements are not yours to turn. If you find one false, say at which input.
  Laid BY PROGRAM, IN A SANDBOX (cutbox-rows.mjs): the forced cells as the released guide's own fill.sh prints them over the translation aaed3307f4c3dc77… (all of the seat's roots in one cut). By AI agents, Wed Nov 11 2026. No macro, syntax, notation, axiom, sorry.
-/
import Derived.Test.YtekgkamjbnfgiaaChecked
import GoSem.Claim
import GoSem.ClaimJoined
import GoSem.ClaimMapViews
import Derived.JoinedTies
import Derived.KernelRfl
namespace Go.Proofs.Ytekgkamjbnfgiaa
/- THE CELL 'sum', in the pinned program and in every row, IS THE sha256 OF THE DUMP (.gsa) THAT YtekgkamjbnfgiaaProg.lean LOADS. Nothing in Lean hashes anything: it is a label: what it is worth is what the hold of that sum in a sandbox is worth. -/
noncomputable def Try.pinned : Pinned := { name := "ytekgkamjbnfgiaa", sum := "aaed3307f4c3dc772b2455b08ac796da5ca91f7756792dada9ee2ad25e33a1fb", checked := Try.checked }
namespace Rows
def none {H : Type} : Left H := { results := [], args := [] }

/-- 'purlieulaw13.ClockBegins': WHATEVER THE INPUT: true; the input reads as it did. -/
def clockBeginsSpec : ChangeSpec := { name := "clockBegins", fn := fun _ => fun
  | [d1, d2] => { results := [.lit (.bool true)], args := [d1, d2] }
  | _ => none }
def clockBeginsRow : OpenClaim := { program := "ytekgkamjbnfgiaa", sum := "aaed3307f4c3dc772b2455b08ac796da5ca91f7756792dada9ee2ad25e33a1fb", func := "purlieu/purlieulaw13.ClockBegins", spec := "clockBegins", unfollowed := true, recurses := true, apart := false }
def ClockBeginsSaid : Prop := clockBeginsRow.holds Try.pinned (OpenSpec.ofChange clockBeginsSpec)

/-- ITS FALSE NEIGHBOUR: 'it returns false'. Refute it at one input. -/
def clockBeginsWrong : ChangeSpec := { name := "clockBegins", fn := fun _ => fun
  | [d1, d2] => { results := [.lit (.bool false)], args := [d1, d2] }
  | _ => none }
def ClockBeginsWrongFalsely : Prop := clockBeginsRow.holds Try.pinned (OpenSpec.ofChange clockBeginsWrong)

/-- 'purlieulaw13.ClockRight': WHATEVER THE INPUT: true; the input reads as it did. -/
def clockRightSpec : ChangeSpec := { name := "clockRight", fn := fun _ => fun
  | [d1, d2, d3] => { results := [.lit (.bool true)], args := [d1, d2, d3] }
  | _ => none }
def clockRightRow : OpenClaim := { program := "ytekgkamjbnfgiaa", sum := "aaed3307f4c3dc772b2455b08ac796da5ca91f7756792dada9ee2ad25e33a1fb", func := "purlieu/purlieulaw13.ClockRight", spec := "clockRight", unfollowed := true, recurses := true, apart := false }
def ClockRightSaid : Prop := clockRightRow.holds Try.pinned (OpenSpec.ofChange clockRightSpec)

/-- ITS FALSE NEIGHBOUR: 'it returns false'. Refute it at one input. -/
def clockRightWrong : ChangeSpec := { name := "clockRight", fn := fun _ => fun
  | [d1, d2, d3] => { results := [.lit (.bool false)], args := [d1, d2, d3] }
  | _ => none }
def ClockRightWrongFalsely : Prop := clockRightRow.holds Try.pinned (OpenSpec.ofChange clockRightWrong)

/-- 'purlieulaw13.ClockClocks': WHATEVER THE INPUT: true; the input reads as it did. -/
def clockClocksSpec : ChangeSpec := { name := "clockClocks", fn := fun _ => fun
  | [d1, d2] => { results := [.lit (.bool true)], args := [d1, d2] }
  | _ => none }
def clockClocksRow : OpenClaim := { program := "ytekgkamjbnfgiaa", sum := "aaed3307f4c3dc772b2455b08ac796da5ca91f7756792dada9ee2ad25e33a1fb", func := "purlieu/purlieulaw13.ClockClocks", spec := "clockClocks", unfollowed := true, recurses := true, apart := false }
def ClockClocksSaid : Prop := clockClocksRow.holds Try.pinned (OpenSpec.ofChange clockClocksSpec)

/-- ITS FALSE NEIGHBOUR: 'it returns false'. Refute it at one input. -/
def clockClocksWrong : ChangeSpec := { name := "clockClocks", fn := fun _ => fun
  | [d1, d2] => { results := [.lit (.bool false)], args := [d1, d2] }
  | _ => none }
def ClockClocksWrongFalsely : Prop := clockClocksRow.holds Try.pinned (OpenSpec.ofChange clockClocksWrong)

/-- 'purlieulaw13.ClockPairs': WHATEVER THE INPUT: true; the input reads as it did. -/
def clockPairsSpec : ChangeSpec := { name := "clockPairs", fn := fun _ => fun
  | [d1, d2, d3] => { results := [.lit (.bool true)], args := [d1, d2, d3] }
  | _ => none }
def clockPairsRow : OpenClaim := { program := "ytekgkamjbnfgiaa", sum := "aaed3307f4c3dc772b2455b08ac796da5ca91f7756792dada9ee2ad25e33a1fb", func := "purlieu/purlieulaw13.ClockPairs", spec := "clockPairs", unfollowed := true, recurses := true, apart := false }
def ClockPairsSaid : Prop := clockPairsRow.holds Try.pinned (OpenSpec.ofChange clockPairsSpec)

/-- ITS FALSE NEIGHBOUR: 'it returns false'. Refute it at one input. -/
def clockPairsWrong : ChangeSpec := { name := "clockPairs", fn := fun _ => fun
  | [d1, d2, d3] => { results := [.lit (.bool false)], args := [d1, d2, d3] }
  | _ => none }
def ClockPairsWrongFalsely : Prop := clockPairsRow.holds Try.pinned (OpenSpec.ofChange clockPairsWrong)

/-- 'purlieulaw13.ClockOrder': WHATEVER THE INPUT: true; the input reads as it did. -/
def clockOrderSpec : ChangeSpec := { name := "clockOrder", fn := fun _ => fun
  | [d1, d2, d3, d4] => { results := [.lit (.bool true)], args := [d1, d2, d3, d4] }
  | _ => none }
def clockOrderRow : OpenClaim := { program := "ytekgkamjbnfgiaa", sum := "aaed3307f4c3dc772b2455b08ac796da5ca91f7756792dada9ee2ad25e33a1fb", func := "purlieu/purlieulaw13.ClockOrder", spec := "clockOrder", unfollowed := true, recurses := true, apart := false }
def ClockOrderSaid : Prop := clockOrderRow.holds Try.pinned (OpenSpec.ofChange clockOrderSpec)

/-- ITS FALSE NEIGHBOUR: 'it returns false'. Refute it at one input. -/
def clockOrderWrong : ChangeSpec := { name := "clockOrder", fn := fun _ => fun
  | [d1, d2, d3, d4] => { results := [.lit (.bool false)], args := [d1, d2, d3, d4] }
  | _ => none }
def ClockOrderWrongFalsely : Prop := clockOrderRow.holds Try.pinned (OpenSpec.ofChange clockOrderWrong)

/-- 'purlieulaw13.ClockVectors': WHATEVER THE INPUT: true; the input reads as it did. -/
def clockVectorsSpec : ChangeSpec := { name := "clockVectors", fn := fun _ => fun
  | [d1, d2, d3] => { results := [.lit (.bool true)], args := [d1, d2, d3] }
  | _ => none }
def clockVectorsRow : OpenClaim := { program := "ytekgkamjbnfgiaa", sum := "aaed3307f4c3dc772b2455b08ac796da5ca91f7756792dada9ee2ad25e33a1fb", func := "purlieu/purlieulaw13.ClockVectors", spec := "clockVectors", unfollowed := true, recurses := true, apart := false }
def ClockVectorsSaid : Prop := clockVectorsRow.holds Try.pinned (OpenSpec.ofChange clockVectorsSpec)

/-- ITS FALSE NEIGHBOUR: 'it returns false'. Refute it at one input. -/
def clockVectorsWrong : ChangeSpec := { name := "clockVectors", fn := fun _ => fun
  | [d1, d2, d3] => { results := [.lit (.bool false)], args := [d1, d2, d3] }
  | _ => none }
def ClockVectorsWrongFalsely : Prop := clockVectorsRow.holds Try.pinned (OpenSpec.ofChange clockVectorsWrong)

/-- 'purlieulaw13.ClockTasks': WHATEVER THE INPUT: true; the input reads as it did. -/
def clockTasksSpec : ChangeSpec := { name := "clockTasks", fn := fun _ => fun
  | [d] => { results := [.lit (.bool true)], args := [d] }
  | _ => none }
def clockTasksRow : OpenClaim := { program := "ytekgkamjbnfgiaa", sum := "aaed3307f4c3dc772b2455b08ac796da5ca91f7756792dada9ee2ad25e33a1fb", func := "purlieu/purlieulaw13.ClockTasks", spec := "clockTasks", unfollowed := true, recurses := true, apart := false }
def ClockTasksSaid : Prop := clockTasksRow.holds Try.pinned (OpenSpec.ofChange clockTasksSpec)

/-- ITS FALSE NEIGHBOUR: 'it returns false'. Refute it at one input. -/
def clockTasksWrong : ChangeSpec := { name := "clockTasks", fn := fun _ => fun
  | [d] => { results := [.lit (.bool false)], args := [d] }
  | _ => none }
def ClockTasksWrongFalsely : Prop := clockTasksRow.holds Try.pinned (OpenSpec.ofChange clockTasksWrong)

/-- 'purlieulaw13.ClockRaces': WHATEVER THE INPUT: true; the input reads as it did. -/
def clockRacesSpec : ChangeSpec := { name := "clockRaces", fn := fun _ => fun
  | [d] => { results := [.lit (.bool true)], args := [d] }
  | _ => none }
def clockRacesRow : OpenClaim := { program := "ytekgkamjbnfgiaa", sum := "aaed3307f4c3dc772b2455b08ac796da5ca91f7756792dada9ee2ad25e33a1fb", func := "purlieu/purlieulaw13.ClockRaces", spec := "clockRaces", unfollowed := true, recurses := true, apart := false }
def ClockRacesSaid : Prop := clockRacesRow.holds Try.pinned (OpenSpec.ofChange clockRacesSpec)

/-- ITS FALSE NEIGHBOUR: 'it returns false'. Refute it at one input. -/
def clockRacesWrong : ChangeSpec := { name := "clockRaces", fn := fun _ => fun
  | [d] => { results := [.lit (.bool false)], args := [d] }
  | _ => none }
def ClockRacesWrongFalsely : Prop := clockRacesRow.holds Try.pinned (OpenSpec.ofChange clockRacesWrong)

/-- 'purlieulaw13.ClockSizes': WHATEVER THE INPUT: true; the input reads as it did. -/
def clockSizesSpec : ChangeSpec := { name := "clockSizes", fn := fun _ => fun
  | [d] => { results := [.lit (.bool true)], args := [d] }
  | _ => none }
def clockSizesRow : OpenClaim := { program := "ytekgkamjbnfgiaa", sum := "aaed3307f4c3dc772b2455b08ac796da5ca91f7756792dada9ee2ad25e33a1fb", func := "purlieu/purlieulaw13.ClockSizes", spec := "clockSizes", unfollowed := true, recurses := true, apart := false }
def ClockSizesSaid : Prop := clockSizesRow.holds Try.pinned (OpenSpec.ofChange clockSizesSpec)

/-- ITS FALSE NEIGHBOUR: 'it returns false'. Refute it at one input. -/
def clockSizesWrong : ChangeSpec := { name := "clockSizes", fn := fun _ => fun
  | [d] => { results := [.lit (.bool false)], args := [d] }
  | _ => none }
def ClockSizesWrongFalsely : Prop := clockSizesRow.holds Try.pinned (OpenSpec.ofChange clockSizesWrong)

/- THE SECOND FORM. 'bulk': how many values and letters a reading holds, each counted each time it is reached (what is shared counts as often as it is met; a slice's spare places count too). A statement '..UptoSaid' is the law's where the arguments, and the package variables that the reading takes, are together of bulk at most 1048576: NARROWER than '..Said'. Prove '..Said' where nothing that the law and all that it calls make is longer than what came in: it says more and counts as full. Else prove '..UptoSaid'. A law counts once. -/
mutual
def uptoBulk {H : Type} : DataW H → Nat
  | .lit (.string bytes) => bytes.length + 1
  | .lit _ => 1
  | .nil => 1
  | .ptr d => uptoBulk d + 1
  | .slice elems spare => uptoBulkAll elems + uptoBulkAll spare + 1
  | .agg parts => uptoBulkAll parts + 1
  | .iface _ d => uptoBulk d + 1
  | .map entries => uptoBulkEntries entries + 1
  | .held _ => 1
def uptoBulkAll {H : Type} : List (DataW H) → Nat
  | [] => 0
  | d :: r => uptoBulk d + uptoBulkAll r
def uptoBulkEntries {H : Type} : List (Lit × DataW H) → Nat
  | [] => 0
  | x :: r => uptoBulkEntry x + uptoBulkEntries r
def uptoBulkEntry {H : Type} : Lit × DataW H → Nat
  | (.string bytes, d) => bytes.length + uptoBulk d + 1
  | (_, d) => uptoBulk d + 1
 end
def uptoSmall : (H : Type) → List (DataW H) → Bool := fun _ ds => decide (uptoBulkAll ds ≤ 1048576)
def OpenSpec.upto (s : _root_.Go.ChangeSpec) : _root_.Go.OpenSpec := { _root_.Go.OpenSpec.ofChange s with cond := some uptoSmall }

/-- 'purlieulaw13.ClockBegins', WHERE WHAT IT READS IS OF BULK AT MOST 1048576: true; the input reads as it did. -/
def clockBeginsUptoRow : OpenClaim := { program := "ytekgkamjbnfgiaa", sum := "aaed3307f4c3dc772b2455b08ac796da5ca91f7756792dada9ee2ad25e33a1fb", func := "purlieu/purlieulaw13.ClockBegins", spec := "clockBegins", unfollowed := true, recurses := true, apart := false, narrowed := true }
def ClockBeginsUptoSaid : Prop := clockBeginsUptoRow.holds Try.pinned (OpenSpec.upto clockBeginsSpec)

/-- 'purlieulaw13.ClockRight', WHERE WHAT IT READS IS OF BULK AT MOST 1048576: true; the input reads as it did. -/
def clockRightUptoRow : OpenClaim := { program := "ytekgkamjbnfgiaa", sum := "aaed3307f4c3dc772b2455b08ac796da5ca91f7756792dada9ee2ad25e33a1fb", func := "purlieu/purlieulaw13.ClockRight", spec := "clockRight", unfollowed := true, recurses := true, apart := false, narrowed := true }
def ClockRightUptoSaid : Prop := clockRightUptoRow.holds Try.pinned (OpenSpec.upto clockRightSpec)

/-- 'purlieulaw13.ClockClocks', WHERE WHAT IT READS IS OF BULK AT MOST 1048576: true; the input reads as it did. -/
def clockClocksUptoRow : OpenClaim := { program := "ytekgkamjbnfgiaa", sum := "aaed3307f4c3dc772b2455b08ac796da5ca91f7756792dada9ee2ad25e33a1fb", func := "purlieu/purlieulaw13.ClockClocks", spec := "clockClocks", unfollowed := true, recurses := true, apart := false, narrowed := true }
def ClockClocksUptoSaid : Prop := clockClocksUptoRow.holds Try.pinned (OpenSpec.upto clockClocksSpec)

/-- 'purlieulaw13.ClockPairs', WHERE WHAT IT READS IS OF BULK AT MOST 1048576: true; the input reads as it did. -/
def clockPairsUptoRow : OpenClaim := { program := "ytekgkamjbnfgiaa", sum := "aaed3307f4c3dc772b2455b08ac796da5ca91f7756792dada9ee2ad25e33a1fb", func := "purlieu/purlieulaw13.ClockPairs", spec := "clockPairs", unfollowed := true, recurses := true, apart := false, narrowed := true }
def ClockPairsUptoSaid : Prop := clockPairsUptoRow.holds Try.pinned (OpenSpec.upto clockPairsSpec)

/-- 'purlieulaw13.ClockOrder', WHERE WHAT IT READS IS OF BULK AT MOST 1048576: true; the input reads as it did. -/
def clockOrderUptoRow : OpenClaim := { program := "ytekgkamjbnfgiaa", sum := "aaed3307f4c3dc772b2455b08ac796da5ca91f7756792dada9ee2ad25e33a1fb", func := "purlieu/purlieulaw13.ClockOrder", spec := "clockOrder", unfollowed := true, recurses := true, apart := false, narrowed := true }
def ClockOrderUptoSaid : Prop := clockOrderUptoRow.holds Try.pinned (OpenSpec.upto clockOrderSpec)

/-- 'purlieulaw13.ClockVectors', WHERE WHAT IT READS IS OF BULK AT MOST 1048576: true; the input reads as it did. -/
def clockVectorsUptoRow : OpenClaim := { program := "ytekgkamjbnfgiaa", sum := "aaed3307f4c3dc772b2455b08ac796da5ca91f7756792dada9ee2ad25e33a1fb", func := "purlieu/purlieulaw13.ClockVectors", spec := "clockVectors", unfollowed := true, recurses := true, apart := false, narrowed := true }
def ClockVectorsUptoSaid : Prop := clockVectorsUptoRow.holds Try.pinned (OpenSpec.upto clockVectorsSpec)

/-- 'purlieulaw13.ClockTasks', WHERE WHAT IT READS IS OF BULK AT MOST 1048576: true; the input reads as it did. -/
def clockTasksUptoRow : OpenClaim := { program := "ytekgkamjbnfgiaa", sum := "aaed3307f4c3dc772b2455b08ac796da5ca91f7756792dada9ee2ad25e33a1fb", func := "purlieu/purlieulaw13.ClockTasks", spec := "clockTasks", unfollowed := true, recurses := true, apart := false, narrowed := true }
def ClockTasksUptoSaid : Prop := clockTasksUptoRow.holds Try.pinned (OpenSpec.upto clockTasksSpec)

/-- 'purlieulaw13.ClockRaces', WHERE WHAT IT READS IS OF BULK AT MOST 1048576: true; the input reads as it did. -/
def clockRacesUptoRow : OpenClaim := { program := "ytekgkamjbnfgiaa", sum := "aaed3307f4c3dc772b2455b08ac796da5ca91f7756792dada9ee2ad25e33a1fb", func := "purlieu/purlieulaw13.ClockRaces", spec := "clockRaces", unfollowed := true, recurses := true, apart := false, narrowed := true }
def ClockRacesUptoSaid : Prop := clockRacesUptoRow.holds Try.pinned (OpenSpec.upto clockRacesSpec)

/-- 'purlieulaw13.ClockSizes', WHERE WHAT IT READS IS OF BULK AT MOST 1048576: true; the input reads as it did. -/
def clockSizesUptoRow : OpenClaim := { program := "ytekgkamjbnfgiaa", sum := "aaed3307f4c3dc772b2455b08ac796da5ca91f7756792dada9ee2ad25e33a1fb", func := "purlieu/purlieulaw13.ClockSizes", spec := "clockSizes", unfollowed := true, recurses := true, apart := false, narrowed := true }
def ClockSizesUptoSaid : Prop := clockSizesUptoRow.holds Try.pinned (OpenSpec.upto clockSizesSpec)

end Rows
end Go.Proofs.Ytekgkamjbnfgiaa
