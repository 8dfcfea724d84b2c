/-
  No cell of these rows narrows 'for every input' (looked for: loops, veiled, ifaces, maps, wideKeys, modest, calm, conditions, laid).
  DERIVED. THE GIVEN ROWS OF THIS SEAT. 7 by the template 'for every input the law returns true; each argument reads behind the call as it read before'; 0 by the template 'total and deterministic' (their statements: YtoikjjpleonllaaTotals.lean).
  GIVEN WITH THE SEED: the statements are not yours to turn. If you find one false, say at which input.
  Laid BY PROGRAM, IN A SANDBOX (cutbox-rows.mjs): the forced cells as the released guide's own fill.sh prints them over the translation e0f1879d087568ac… (all of the seat's roots in one cut). By AI agents, Wed Nov 11 2026. No macro, syntax, notation, axiom, sorry.
-/
import Derived.Test.YtoikjjpleonllaaChecked
import GoSem.Claim
import GoSem.ClaimJoined
import GoSem.ClaimMapViews
import Derived.JoinedTies
import Derived.KernelRfl
namespace Go.Proofs.Ytoikjjpleonllaa
/- THE CELL 'sum', in the pinned program and in every row, IS THE sha256 OF THE DUMP (.gsa) THAT YtoikjjpleonllaaProg.lean LOADS. Nothing in Lean hashes anything: it is a label: what it is worth is what the hold of that sum in a sandbox is worth. -/
noncomputable def Try.pinned : Pinned := { name := "ytoikjjpleonllaa", sum := "e0f1879d087568ac87334ad2531a1d4aeac38042a9bbb70ea4263ef4f52de940", checked := Try.checked }
namespace Rows
def none {H : Type} : Left H := { results := [], args := [] }

/-- 'purlieulaw18.GroupPlays': WHATEVER THE INPUT: true; the input reads as it did. -/
def groupPlaysSpec : ChangeSpec := { name := "groupPlays", fn := fun _ => fun
  | [d1, d2] => { results := [.lit (.bool true)], args := [d1, d2] }
  | _ => none }
def groupPlaysRow : OpenClaim := { program := "ytoikjjpleonllaa", sum := "e0f1879d087568ac87334ad2531a1d4aeac38042a9bbb70ea4263ef4f52de940", func := "purlieu/purlieulaw18.GroupPlays", spec := "groupPlays", unfollowed := true, recurses := true, apart := false }
def GroupPlaysSaid : Prop := groupPlaysRow.holds Try.pinned (OpenSpec.ofChange groupPlaysSpec)

/-- ITS FALSE NEIGHBOUR: 'it returns false'. Refute it at one input. -/
def groupPlaysWrong : ChangeSpec := { name := "groupPlays", fn := fun _ => fun
  | [d1, d2] => { results := [.lit (.bool false)], args := [d1, d2] }
  | _ => none }
def GroupPlaysWrongFalsely : Prop := groupPlaysRow.holds Try.pinned (OpenSpec.ofChange groupPlaysWrong)

/-- 'purlieulaw18.GroupBarrier': WHATEVER THE INPUT: true; the input reads as it did. -/
def groupBarrierSpec : ChangeSpec := { name := "groupBarrier", fn := fun _ => fun
  | [d1, d2, d3] => { results := [.lit (.bool true)], args := [d1, d2, d3] }
  | _ => none }
def groupBarrierRow : OpenClaim := { program := "ytoikjjpleonllaa", sum := "e0f1879d087568ac87334ad2531a1d4aeac38042a9bbb70ea4263ef4f52de940", func := "purlieu/purlieulaw18.GroupBarrier", spec := "groupBarrier", unfollowed := true, recurses := true, apart := false }
def GroupBarrierSaid : Prop := groupBarrierRow.holds Try.pinned (OpenSpec.ofChange groupBarrierSpec)

/-- ITS FALSE NEIGHBOUR: 'it returns false'. Refute it at one input. -/
def groupBarrierWrong : ChangeSpec := { name := "groupBarrier", fn := fun _ => fun
  | [d1, d2, d3] => { results := [.lit (.bool false)], args := [d1, d2, d3] }
  | _ => none }
def GroupBarrierWrongFalsely : Prop := groupBarrierRow.holds Try.pinned (OpenSpec.ofChange groupBarrierWrong)

/-- 'purlieulaw18.GroupAlone': WHATEVER THE INPUT: true; the input reads as it did. -/
def groupAloneSpec : ChangeSpec := { name := "groupAlone", fn := fun _ => fun
  | [d] => { results := [.lit (.bool true)], args := [d] }
  | _ => none }
def groupAloneRow : OpenClaim := { program := "ytoikjjpleonllaa", sum := "e0f1879d087568ac87334ad2531a1d4aeac38042a9bbb70ea4263ef4f52de940", func := "purlieu/purlieulaw18.GroupAlone", spec := "groupAlone", unfollowed := true, recurses := true, apart := false }
def GroupAloneSaid : Prop := groupAloneRow.holds Try.pinned (OpenSpec.ofChange groupAloneSpec)

/-- ITS FALSE NEIGHBOUR: 'it returns false'. Refute it at one input. -/
def groupAloneWrong : ChangeSpec := { name := "groupAlone", fn := fun _ => fun
  | [d] => { results := [.lit (.bool false)], args := [d] }
  | _ => none }
def GroupAloneWrongFalsely : Prop := groupAloneRow.holds Try.pinned (OpenSpec.ofChange groupAloneWrong)

/-- 'purlieulaw18.GroupTrees': WHATEVER THE INPUT: true; the input reads as it did. -/
def groupTreesSpec : ChangeSpec := { name := "groupTrees", fn := fun _ => fun
  | [d1, d2, d3] => { results := [.lit (.bool true)], args := [d1, d2, d3] }
  | _ => none }
def groupTreesRow : OpenClaim := { program := "ytoikjjpleonllaa", sum := "e0f1879d087568ac87334ad2531a1d4aeac38042a9bbb70ea4263ef4f52de940", func := "purlieu/purlieulaw18.GroupTrees", spec := "groupTrees", unfollowed := true, recurses := true, apart := false }
def GroupTreesSaid : Prop := groupTreesRow.holds Try.pinned (OpenSpec.ofChange groupTreesSpec)

/-- ITS FALSE NEIGHBOUR: 'it returns false'. Refute it at one input. -/
def groupTreesWrong : ChangeSpec := { name := "groupTrees", fn := fun _ => fun
  | [d1, d2, d3] => { results := [.lit (.bool false)], args := [d1, d2, d3] }
  | _ => none }
def GroupTreesWrongFalsely : Prop := groupTreesRow.holds Try.pinned (OpenSpec.ofChange groupTreesWrong)

/-- 'purlieulaw18.GroupFolds': WHATEVER THE INPUT: true; the input reads as it did. -/
def groupFoldsSpec : ChangeSpec := { name := "groupFolds", fn := fun _ => fun
  | [d1, d2] => { results := [.lit (.bool true)], args := [d1, d2] }
  | _ => none }
def groupFoldsRow : OpenClaim := { program := "ytoikjjpleonllaa", sum := "e0f1879d087568ac87334ad2531a1d4aeac38042a9bbb70ea4263ef4f52de940", func := "purlieu/purlieulaw18.GroupFolds", spec := "groupFolds", unfollowed := true, recurses := true, apart := false }
def GroupFoldsSaid : Prop := groupFoldsRow.holds Try.pinned (OpenSpec.ofChange groupFoldsSpec)

/-- ITS FALSE NEIGHBOUR: 'it returns false'. Refute it at one input. -/
def groupFoldsWrong : ChangeSpec := { name := "groupFolds", fn := fun _ => fun
  | [d1, d2] => { results := [.lit (.bool false)], args := [d1, d2] }
  | _ => none }
def GroupFoldsWrongFalsely : Prop := groupFoldsRow.holds Try.pinned (OpenSpec.ofChange groupFoldsWrong)

/-- 'purlieulaw18.GroupNumbers': WHATEVER THE INPUT: true; the input reads as it did. -/
def groupNumbersSpec : ChangeSpec := { name := "groupNumbers", fn := fun _ => fun
  | [d1, d2] => { results := [.lit (.bool true)], args := [d1, d2] }
  | _ => none }
def groupNumbersRow : OpenClaim := { program := "ytoikjjpleonllaa", sum := "e0f1879d087568ac87334ad2531a1d4aeac38042a9bbb70ea4263ef4f52de940", func := "purlieu/purlieulaw18.GroupNumbers", spec := "groupNumbers", unfollowed := true, recurses := true, apart := false }
def GroupNumbersSaid : Prop := groupNumbersRow.holds Try.pinned (OpenSpec.ofChange groupNumbersSpec)

/-- ITS FALSE NEIGHBOUR: 'it returns false'. Refute it at one input. -/
def groupNumbersWrong : ChangeSpec := { name := "groupNumbers", fn := fun _ => fun
  | [d1, d2] => { results := [.lit (.bool false)], args := [d1, d2] }
  | _ => none }
def GroupNumbersWrongFalsely : Prop := groupNumbersRow.holds Try.pinned (OpenSpec.ofChange groupNumbersWrong)

/-- 'purlieutop.TopNet': WHATEVER THE INPUT: true; the input reads as it did. -/
def topNetSpec : ChangeSpec := { name := "topNet", fn := fun _ => fun
  | [d1, d2, d3] => { results := [.lit (.bool true)], args := [d1, d2, d3] }
  | _ => none }
def topNetRow : OpenClaim := { program := "ytoikjjpleonllaa", sum := "e0f1879d087568ac87334ad2531a1d4aeac38042a9bbb70ea4263ef4f52de940", func := "purlieu/purlieutop.TopNet", spec := "topNet", unfollowed := true, recurses := true, apart := false }
def TopNetSaid : Prop := topNetRow.holds Try.pinned (OpenSpec.ofChange topNetSpec)

/-- ITS FALSE NEIGHBOUR: 'it returns false'. Refute it at one input. -/
def topNetWrong : ChangeSpec := { name := "topNet", fn := fun _ => fun
  | [d1, d2, d3] => { results := [.lit (.bool false)], args := [d1, d2, d3] }
  | _ => none }
def TopNetWrongFalsely : Prop := topNetRow.holds Try.pinned (OpenSpec.ofChange topNetWrong)

/- THE SECOND FORM. 'bulk': how many values and letters a reading holds, each counted each time it is reached (what is shared counts as often as it is met; a slice's spare places count too). A statement '..UptoSaid' is the law's where the arguments, and the package variables that the reading takes, are together of bulk at most 1048576: NARROWER than '..Said'. Prove '..Said' where nothing that the law and all that it calls make is longer than what came in: it says more and counts as full. Else prove '..UptoSaid'. A law counts once. -/
mutual
def uptoBulk {H : Type} : DataW H → Nat
  | .lit (.string bytes) => bytes.length + 1
  | .lit _ => 1
  | .nil => 1
  | .ptr d => uptoBulk d + 1
  | .slice elems spare => uptoBulkAll elems + uptoBulkAll spare + 1
  | .agg parts => uptoBulkAll parts + 1
  | .iface _ d => uptoBulk d + 1
  | .map entries => uptoBulkEntries entries + 1
  | .held _ => 1
def uptoBulkAll {H : Type} : List (DataW H) → Nat
  | [] => 0
  | d :: r => uptoBulk d + uptoBulkAll r
def uptoBulkEntries {H : Type} : List (Lit × DataW H) → Nat
  | [] => 0
  | x :: r => uptoBulkEntry x + uptoBulkEntries r
def uptoBulkEntry {H : Type} : Lit × DataW H → Nat
  | (.string bytes, d) => bytes.length + uptoBulk d + 1
  | (_, d) => uptoBulk d + 1
 end
def uptoSmall : (H : Type) → List (DataW H) → Bool := fun _ ds => decide (uptoBulkAll ds ≤ 1048576)
def OpenSpec.upto (s : _root_.Go.ChangeSpec) : _root_.Go.OpenSpec := { _root_.Go.OpenSpec.ofChange s with cond := some uptoSmall }

/-- 'purlieulaw18.GroupPlays', WHERE WHAT IT READS IS OF BULK AT MOST 1048576: true; the input reads as it did. -/
def groupPlaysUptoRow : OpenClaim := { program := "ytoikjjpleonllaa", sum := "e0f1879d087568ac87334ad2531a1d4aeac38042a9bbb70ea4263ef4f52de940", func := "purlieu/purlieulaw18.GroupPlays", spec := "groupPlays", unfollowed := true, recurses := true, apart := false, narrowed := true }
def GroupPlaysUptoSaid : Prop := groupPlaysUptoRow.holds Try.pinned (OpenSpec.upto groupPlaysSpec)

/-- 'purlieulaw18.GroupBarrier', WHERE WHAT IT READS IS OF BULK AT MOST 1048576: true; the input reads as it did. -/
def groupBarrierUptoRow : OpenClaim := { program := "ytoikjjpleonllaa", sum := "e0f1879d087568ac87334ad2531a1d4aeac38042a9bbb70ea4263ef4f52de940", func := "purlieu/purlieulaw18.GroupBarrier", spec := "groupBarrier", unfollowed := true, recurses := true, apart := false, narrowed := true }
def GroupBarrierUptoSaid : Prop := groupBarrierUptoRow.holds Try.pinned (OpenSpec.upto groupBarrierSpec)

/-- 'purlieulaw18.GroupAlone', WHERE WHAT IT READS IS OF BULK AT MOST 1048576: true; the input reads as it did. -/
def groupAloneUptoRow : OpenClaim := { program := "ytoikjjpleonllaa", sum := "e0f1879d087568ac87334ad2531a1d4aeac38042a9bbb70ea4263ef4f52de940", func := "purlieu/purlieulaw18.GroupAlone", spec := "groupAlone", unfollowed := true, recurses := true, apart := false, narrowed := true }
def GroupAloneUptoSaid : Prop := groupAloneUptoRow.holds Try.pinned (OpenSpec.upto groupAloneSpec)

/-- 'purlieulaw18.GroupTrees', WHERE WHAT IT READS IS OF BULK AT MOST 1048576: true; the input reads as it did. -/
def groupTreesUptoRow : OpenClaim := { program := "ytoikjjpleonllaa", sum := "e0f1879d087568ac87334ad2531a1d4aeac38042a9bbb70ea4263ef4f52de940", func := "purlieu/purlieulaw18.GroupTrees", spec := "groupTrees", unfollowed := true, recurses := true, apart := false, narrowed := true }
def GroupTreesUptoSaid : Prop := groupTreesUptoRow.holds Try.pinned (OpenSpec.upto groupTreesSpec)

/-- 'purlieulaw18.GroupFolds', WHERE WHAT IT READS IS OF BULK AT MOST 1048576: true; the input reads as it did. -/
def groupFoldsUptoRow : OpenClaim := { program := "ytoikjjpleonllaa", sum := "e0f1879d087568ac87334ad2531a1d4aeac38042a9bbb70ea4263ef4f52de940", func := "purlieu/purlieulaw18.GroupFolds", spec := "groupFolds", unfollowed := true, recurses := true, apart := false, narrowed := true }
def GroupFoldsUptoSaid : Prop := groupFoldsUptoRow.holds Try.pinned (OpenSpec.upto groupFoldsSpec)

/-- 'purlieulaw18.GroupNumbers', WHERE WHAT IT READS IS OF BULK AT MOST 1048576: true; the input reads as it did. -/
def groupNumbersUptoRow : OpenClaim := { program := "ytoikjjpleonllaa", sum := "e0f1879d087568ac87334ad2531a1d4aeac38042a9bbb70ea4263ef4f52de940", func := "purlieu/purlieulaw18.GroupNumbers", spec := "groupNumbers", unfollowed := true, recurses := true, apart := false, narrowed := true }
def GroupNumbersUptoSaid : Prop := groupNumbersUptoRow.holds Try.pinned (OpenSpec.upto groupNumbersSpec)

/-- 'purlieutop.TopNet', WHERE WHAT IT READS IS OF BULK AT MOST 1048576: true; the input reads as it did. -/
def topNetUptoRow : OpenClaim := { program := "ytoikjjpleonllaa", sum := "e0f1879d087568ac87334ad2531a1d4aeac38042a9bbb70ea4263ef4f52de940", func := "purlieu/purlieutop.TopNet", spec := "topNet", unfollowed := true, recurses := true, apart := false, narrowed := true }
def TopNetUptoSaid : Prop := topNetUptoRow.holds Try.pinned (OpenSpec.upto topNetSpec)

end Rows
end Go.Proofs.Ytoikjjpleonllaa
