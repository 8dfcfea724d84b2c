/-
  No cell of these rows narrows 'for every input' (looked for: loops, veiled, ifaces, maps, wideKeys, modest, calm, conditions, laid).
  DERIVED. THE GIVEN ROWS OF THIS SEAT. 8 by the template 'for every input the law returns true; each argument reads behind the call as it read before'; 0 by the template 'total and deterministic' (their statements: YtgbckamaenapeaaTotals.lean).
  GIVEN WITH THE SEED: the statements are not yours to turn. If you find one false, say at which input.
  Laid BY PROGRAM, IN A SANDBOX (cutbox-rows.mjs): the forced cells as the released guide's own fill.sh prints them over the translation 30008bec176d73d2… (all of the seat's roots in one cut). By AI agents, Wed Nov 11 2026. No macro, syntax, notation, axiom, sorry.
-/
import Derived.Test.YtgbckamaenapeaaChecked
import GoSem.Claim
import GoSem.ClaimJoined
import GoSem.ClaimMapViews
import Derived.JoinedTies
import Derived.KernelRfl
namespace Go.Proofs.Ytgbckamaenapeaa
/- THE CELL 'sum', in the pinned program and in every row, IS THE sha256 OF THE DUMP (.gsa) THAT YtgbckamaenapeaaProg.lean LOADS. Nothing in Lean hashes anything: it is a label: what it is worth is what the hold of that sum in a sandbox is worth. -/
noncomputable def Try.pinned : Pinned := { name := "ytgbckamaenapeaa", sum := "30008bec176d73d285cbb381ede2a9d0a0d4a3a25185debf3550000c1557fdb5", checked := Try.checked }
namespace Rows
def none {H : Type} : Left H := { results := [], args := [] }

/-- 'purlieulaw23.ChannelCuts': WHATEVER THE INPUT: true; the input reads as it did. -/
def channelCutsSpec : ChangeSpec := { name := "channelCuts", fn := fun _ => fun
  | [d1, d2, d3] => { results := [.lit (.bool true)], args := [d1, d2, d3] }
  | _ => none }
def channelCutsRow : OpenClaim := { program := "ytgbckamaenapeaa", sum := "30008bec176d73d285cbb381ede2a9d0a0d4a3a25185debf3550000c1557fdb5", func := "purlieu/purlieulaw23.ChannelCuts", spec := "channelCuts", apart := false }
def ChannelCutsSaid : Prop := channelCutsRow.holds Try.pinned (OpenSpec.ofChange channelCutsSpec)

/-- ITS FALSE NEIGHBOUR: 'it returns false'. Refute it at one input. -/
def channelCutsWrong : ChangeSpec := { name := "channelCuts", fn := fun _ => fun
  | [d1, d2, d3] => { results := [.lit (.bool false)], args := [d1, d2, d3] }
  | _ => none }
def ChannelCutsWrongFalsely : Prop := channelCutsRow.holds Try.pinned (OpenSpec.ofChange channelCutsWrong)

/-- 'purlieulaw23.ChannelTogether': WHATEVER THE INPUT: true; the input reads as it did. -/
def channelTogetherSpec : ChangeSpec := { name := "channelTogether", fn := fun _ => fun
  | [d1, d2, d3] => { results := [.lit (.bool true)], args := [d1, d2, d3] }
  | _ => none }
def channelTogetherRow : OpenClaim := { program := "ytgbckamaenapeaa", sum := "30008bec176d73d285cbb381ede2a9d0a0d4a3a25185debf3550000c1557fdb5", func := "purlieu/purlieulaw23.ChannelTogether", spec := "channelTogether", apart := false }
def ChannelTogetherSaid : Prop := channelTogetherRow.holds Try.pinned (OpenSpec.ofChange channelTogetherSpec)

/-- ITS FALSE NEIGHBOUR: 'it returns false'. Refute it at one input. -/
def channelTogetherWrong : ChangeSpec := { name := "channelTogether", fn := fun _ => fun
  | [d1, d2, d3] => { results := [.lit (.bool false)], args := [d1, d2, d3] }
  | _ => none }
def ChannelTogetherWrongFalsely : Prop := channelTogetherRow.holds Try.pinned (OpenSpec.ofChange channelTogetherWrong)

/-- 'purlieulaw23.ChannelReads': WHATEVER THE INPUT: true; the input reads as it did. -/
def channelReadsSpec : ChangeSpec := { name := "channelReads", fn := fun _ => fun
  | [d1, d2, d3] => { results := [.lit (.bool true)], args := [d1, d2, d3] }
  | _ => none }
def channelReadsRow : OpenClaim := { program := "ytgbckamaenapeaa", sum := "30008bec176d73d285cbb381ede2a9d0a0d4a3a25185debf3550000c1557fdb5", func := "purlieu/purlieulaw23.ChannelReads", spec := "channelReads", apart := false }
def ChannelReadsSaid : Prop := channelReadsRow.holds Try.pinned (OpenSpec.ofChange channelReadsSpec)

/-- ITS FALSE NEIGHBOUR: 'it returns false'. Refute it at one input. -/
def channelReadsWrong : ChangeSpec := { name := "channelReads", fn := fun _ => fun
  | [d1, d2, d3] => { results := [.lit (.bool false)], args := [d1, d2, d3] }
  | _ => none }
def ChannelReadsWrongFalsely : Prop := channelReadsRow.holds Try.pinned (OpenSpec.ofChange channelReadsWrong)

/-- 'purlieulaw23.ChannelReverts': WHATEVER THE INPUT: true; the input reads as it did. -/
def channelRevertsSpec : ChangeSpec := { name := "channelReverts", fn := fun _ => fun
  | [d1, d2, d3, d4] => { results := [.lit (.bool true)], args := [d1, d2, d3, d4] }
  | _ => none }
def channelRevertsRow : OpenClaim := { program := "ytgbckamaenapeaa", sum := "30008bec176d73d285cbb381ede2a9d0a0d4a3a25185debf3550000c1557fdb5", func := "purlieu/purlieulaw23.ChannelReverts", spec := "channelReverts", apart := false }
def ChannelRevertsSaid : Prop := channelRevertsRow.holds Try.pinned (OpenSpec.ofChange channelRevertsSpec)

/-- ITS FALSE NEIGHBOUR: 'it returns false'. Refute it at one input. -/
def channelRevertsWrong : ChangeSpec := { name := "channelReverts", fn := fun _ => fun
  | [d1, d2, d3, d4] => { results := [.lit (.bool false)], args := [d1, d2, d3, d4] }
  | _ => none }
def ChannelRevertsWrongFalsely : Prop := channelRevertsRow.holds Try.pinned (OpenSpec.ofChange channelRevertsWrong)

/-- 'purlieulaw23.ChannelPlays': WHATEVER THE INPUT: true; the input reads as it did. -/
def channelPlaysSpec : ChangeSpec := { name := "channelPlays", fn := fun _ => fun
  | [d1, d2] => { results := [.lit (.bool true)], args := [d1, d2] }
  | _ => none }
def channelPlaysRow : OpenClaim := { program := "ytgbckamaenapeaa", sum := "30008bec176d73d285cbb381ede2a9d0a0d4a3a25185debf3550000c1557fdb5", func := "purlieu/purlieulaw23.ChannelPlays", spec := "channelPlays", unfollowed := true, recurses := true, apart := false }
def ChannelPlaysSaid : Prop := channelPlaysRow.holds Try.pinned (OpenSpec.ofChange channelPlaysSpec)

/-- ITS FALSE NEIGHBOUR: 'it returns false'. Refute it at one input. -/
def channelPlaysWrong : ChangeSpec := { name := "channelPlays", fn := fun _ => fun
  | [d1, d2] => { results := [.lit (.bool false)], args := [d1, d2] }
  | _ => none }
def ChannelPlaysWrongFalsely : Prop := channelPlaysRow.holds Try.pinned (OpenSpec.ofChange channelPlaysWrong)

/-- 'purlieulaw23.ChannelNils': WHATEVER THE INPUT: true; the input reads as it did. -/
def channelNilsSpec : ChangeSpec := { name := "channelNils", fn := fun _ => fun
  | [d1, d2] => { results := [.lit (.bool true)], args := [d1, d2] }
  | _ => none }
def channelNilsRow : OpenClaim := { program := "ytgbckamaenapeaa", sum := "30008bec176d73d285cbb381ede2a9d0a0d4a3a25185debf3550000c1557fdb5", func := "purlieu/purlieulaw23.ChannelNils", spec := "channelNils", unfollowed := true, recurses := true, apart := false }
def ChannelNilsSaid : Prop := channelNilsRow.holds Try.pinned (OpenSpec.ofChange channelNilsSpec)

/-- ITS FALSE NEIGHBOUR: 'it returns false'. Refute it at one input. -/
def channelNilsWrong : ChangeSpec := { name := "channelNils", fn := fun _ => fun
  | [d1, d2] => { results := [.lit (.bool false)], args := [d1, d2] }
  | _ => none }
def ChannelNilsWrongFalsely : Prop := channelNilsRow.holds Try.pinned (OpenSpec.ofChange channelNilsWrong)

/-- 'purlieulaw23.ChannelCopies': WHATEVER THE INPUT: true; the input reads as it did. -/
def channelCopiesSpec : ChangeSpec := { name := "channelCopies", fn := fun _ => fun
  | [d1, d2, d3] => { results := [.lit (.bool true)], args := [d1, d2, d3] }
  | _ => none }
def channelCopiesRow : OpenClaim := { program := "ytgbckamaenapeaa", sum := "30008bec176d73d285cbb381ede2a9d0a0d4a3a25185debf3550000c1557fdb5", func := "purlieu/purlieulaw23.ChannelCopies", spec := "channelCopies", unfollowed := true, recurses := true, apart := false }
def ChannelCopiesSaid : Prop := channelCopiesRow.holds Try.pinned (OpenSpec.ofChange channelCopiesSpec)

/-- ITS FALSE NEIGHBOUR: 'it returns false'. Refute it at one input. -/
def channelCopiesWrong : ChangeSpec := { name := "channelCopies", fn := fun _ => fun
  | [d1, d2, d3] => { results := [.lit (.bool false)], args := [d1, d2, d3] }
  | _ => none }
def ChannelCopiesWrongFalsely : Prop := channelCopiesRow.holds Try.pinned (OpenSpec.ofChange channelCopiesWrong)

/-- 'purlieutop.TopFiles': WHATEVER THE INPUT: true; the input reads as it did. -/
def topFilesSpec : ChangeSpec := { name := "topFiles", fn := fun _ => fun
  | [d1, d2, d3] => { results := [.lit (.bool true)], args := [d1, d2, d3] }
  | _ => none }
def topFilesRow : OpenClaim := { program := "ytgbckamaenapeaa", sum := "30008bec176d73d285cbb381ede2a9d0a0d4a3a25185debf3550000c1557fdb5", func := "purlieu/purlieutop.TopFiles", spec := "topFiles", unfollowed := true, recurses := true, apart := false }
def TopFilesSaid : Prop := topFilesRow.holds Try.pinned (OpenSpec.ofChange topFilesSpec)

/-- ITS FALSE NEIGHBOUR: 'it returns false'. Refute it at one input. -/
def topFilesWrong : ChangeSpec := { name := "topFiles", fn := fun _ => fun
  | [d1, d2, d3] => { results := [.lit (.bool false)], args := [d1, d2, d3] }
  | _ => none }
def TopFilesWrongFalsely : Prop := topFilesRow.holds Try.pinned (OpenSpec.ofChange topFilesWrong)

/- THE SECOND FORM. 'bulk': how many values and letters a reading holds, each counted each time it is reached (what is shared counts as often as it is met; a slice's spare places count too). A statement '..UptoSaid' is the law's where the arguments, and the package variables that the reading takes, are together of bulk at most 1048576: NARROWER than '..Said'. Prove '..Said' where nothing that the law and all that it calls make is longer than what came in: it says more and counts as full. Else prove '..UptoSaid'. A law counts once. -/
mutual
def uptoBulk {H : Type} : DataW H → Nat
  | .lit (.string bytes) => bytes.length + 1
  | .lit _ => 1
  | .nil => 1
  | .ptr d => uptoBulk d + 1
  | .slice elems spare => uptoBulkAll elems + uptoBulkAll spare + 1
  | .agg parts => uptoBulkAll parts + 1
  | .iface _ d => uptoBulk d + 1
  | .map entries => uptoBulkEntries entries + 1
  | .held _ => 1
def uptoBulkAll {H : Type} : List (DataW H) → Nat
  | [] => 0
  | d :: r => uptoBulk d + uptoBulkAll r
def uptoBulkEntries {H : Type} : List (Lit × DataW H) → Nat
  | [] => 0
  | x :: r => uptoBulkEntry x + uptoBulkEntries r
def uptoBulkEntry {H : Type} : Lit × DataW H → Nat
  | (.string bytes, d) => bytes.length + uptoBulk d + 1
  | (_, d) => uptoBulk d + 1
 end
def uptoSmall : (H : Type) → List (DataW H) → Bool := fun _ ds => decide (uptoBulkAll ds ≤ 1048576)
def OpenSpec.upto (s : _root_.Go.ChangeSpec) : _root_.Go.OpenSpec := { _root_.Go.OpenSpec.ofChange s with cond := some uptoSmall }

/-- 'purlieulaw23.ChannelCuts', WHERE WHAT IT READS IS OF BULK AT MOST 1048576: true; the input reads as it did. -/
def channelCutsUptoRow : OpenClaim := { program := "ytgbckamaenapeaa", sum := "30008bec176d73d285cbb381ede2a9d0a0d4a3a25185debf3550000c1557fdb5", func := "purlieu/purlieulaw23.ChannelCuts", spec := "channelCuts", apart := false, narrowed := true }
def ChannelCutsUptoSaid : Prop := channelCutsUptoRow.holds Try.pinned (OpenSpec.upto channelCutsSpec)

/-- 'purlieulaw23.ChannelTogether', WHERE WHAT IT READS IS OF BULK AT MOST 1048576: true; the input reads as it did. -/
def channelTogetherUptoRow : OpenClaim := { program := "ytgbckamaenapeaa", sum := "30008bec176d73d285cbb381ede2a9d0a0d4a3a25185debf3550000c1557fdb5", func := "purlieu/purlieulaw23.ChannelTogether", spec := "channelTogether", apart := false, narrowed := true }
def ChannelTogetherUptoSaid : Prop := channelTogetherUptoRow.holds Try.pinned (OpenSpec.upto channelTogetherSpec)

/-- 'purlieulaw23.ChannelReads', WHERE WHAT IT READS IS OF BULK AT MOST 1048576: true; the input reads as it did. -/
def channelReadsUptoRow : OpenClaim := { program := "ytgbckamaenapeaa", sum := "30008bec176d73d285cbb381ede2a9d0a0d4a3a25185debf3550000c1557fdb5", func := "purlieu/purlieulaw23.ChannelReads", spec := "channelReads", apart := false, narrowed := true }
def ChannelReadsUptoSaid : Prop := channelReadsUptoRow.holds Try.pinned (OpenSpec.upto channelReadsSpec)

/-- 'purlieulaw23.ChannelReverts', WHERE WHAT IT READS IS OF BULK AT MOST 1048576: true; the input reads as it did. -/
def channelRevertsUptoRow : OpenClaim := { program := "ytgbckamaenapeaa", sum := "30008bec176d73d285cbb381ede2a9d0a0d4a3a25185debf3550000c1557fdb5", func := "purlieu/purlieulaw23.ChannelReverts", spec := "channelReverts", apart := false, narrowed := true }
def ChannelRevertsUptoSaid : Prop := channelRevertsUptoRow.holds Try.pinned (OpenSpec.upto channelRevertsSpec)

/-- 'purlieulaw23.ChannelPlays', WHERE WHAT IT READS IS OF BULK AT MOST 1048576: true; the input reads as it did. -/
def channelPlaysUptoRow : OpenClaim := { program := "ytgbckamaenapeaa", sum := "30008bec176d73d285cbb381ede2a9d0a0d4a3a25185debf3550000c1557fdb5", func := "purlieu/purlieulaw23.ChannelPlays", spec := "channelPlays", unfollowed := true, recurses := true, apart := false, narrowed := true }
def ChannelPlaysUptoSaid : Prop := channelPlaysUptoRow.holds Try.pinned (OpenSpec.upto channelPlaysSpec)

/-- 'purlieulaw23.ChannelNils', WHERE WHAT IT READS IS OF BULK AT MOST 1048576: true; the input reads as it did. -/
def channelNilsUptoRow : OpenClaim := { program := "ytgbckamaenapeaa", sum := "30008bec176d73d285cbb381ede2a9d0a0d4a3a25185debf3550000c1557fdb5", func := "purlieu/purlieulaw23.ChannelNils", spec := "channelNils", unfollowed := true, recurses := true, apart := false, narrowed := true }
def ChannelNilsUptoSaid : Prop := channelNilsUptoRow.holds Try.pinned (OpenSpec.upto channelNilsSpec)

/-- 'purlieulaw23.ChannelCopies', WHERE WHAT IT READS IS OF BULK AT MOST 1048576: true; the input reads as it did. -/
def channelCopiesUptoRow : OpenClaim := { program := "ytgbckamaenapeaa", sum := "30008bec176d73d285cbb381ede2a9d0a0d4a3a25185debf3550000c1557fdb5", func := "purlieu/purlieulaw23.ChannelCopies", spec := "channelCopies", unfollowed := true, recurses := true, apart := false, narrowed := true }
def ChannelCopiesUptoSaid : Prop := channelCopiesUptoRow.holds Try.pinned (OpenSpec.upto channelCopiesSpec)

/-- 'purlieutop.TopFiles', WHERE WHAT IT READS IS OF BULK AT MOST 1048576: true; the input reads as it did. -/
def topFilesUptoRow : OpenClaim := { program := "ytgbckamaenapeaa", sum := "30008bec176d73d285cbb381ede2a9d0a0d4a3a25185debf3550000c1557fdb5", func := "purlieu/purlieutop.TopFiles", spec := "topFiles", unfollowed := true, recurses := true, apart := false, narrowed := true }
def TopFilesUptoSaid : Prop := topFilesUptoRow.holds Try.pinned (OpenSpec.upto topFilesSpec)

end Rows
end Go.Proofs.Ytgbckamaenapeaa
