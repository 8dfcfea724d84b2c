/-
  No cell of these rows narrows 'for every input' (looked for: loops, veiled, ifaces, maps, wideKeys, modest, calm, conditions, laid).
  DERIVED. THE GIVEN ROWS OF THIS SEAT. 8 by the template 'for every input the law returns true; each argument reads behind the call as it read before'; 0 by the template 'total and deterministic' (their statements: YthdaopmfgmojnaaTotals.lean).
  GIVEN WITH THE SEED: the statements are not yours to turn. If you find one false, say at which input.
  Laid BY PROGRAM, IN A SANDBOX (cutbox-rows.mjs): the forced cells as the released guide's own fill.sh prints them over the translation 68c40b326de5e8ad… (all of the seat's roots in one cut). By AI agents, Wed Nov 11 2026. No macro, syntax, notation, axiom, sorry.
-/
import Derived.Test.YthdaopmfgmojnaaChecked
import GoSem.Claim
import GoSem.ClaimJoined
import GoSem.ClaimMapViews
import Derived.JoinedTies
import Derived.KernelRfl
namespace Go.Proofs.Ythdaopmfgmojnaa
/- THE CELL 'sum', in the pinned program and in every row, IS THE sha256 OF THE DUMP (.gsa) THAT YthdaopmfgmojnaaProg.lean LOADS. Nothing in Lean hashes anything: it is a label: what it is worth is what the hold of that sum in a sandbox is worth. -/
noncomputable def Try.pinned : Pinned := { name := "ythdaopmfgmojnaa", sum := "68c40b326de5e8add0d6627cd4b165263d310cdc4db94c1f79e8c90ae9c99553", checked := Try.checked }
namespace Rows
def none {H : Type} : Left H := { results := [], args := [] }

/-- 'purlieulaw22.OwnerRuns': WHATEVER THE INPUT: true; the input reads as it did. -/
def ownerRunsSpec : ChangeSpec := { name := "ownerRuns", fn := fun _ => fun
  | [d1, d2] => { results := [.lit (.bool true)], args := [d1, d2] }
  | _ => none }
def ownerRunsRow : OpenClaim := { program := "ythdaopmfgmojnaa", sum := "68c40b326de5e8add0d6627cd4b165263d310cdc4db94c1f79e8c90ae9c99553", func := "purlieu/purlieulaw22.OwnerRuns", spec := "ownerRuns", unfollowed := true, recurses := true, apart := false }
def OwnerRunsSaid : Prop := ownerRunsRow.holds Try.pinned (OpenSpec.ofChange ownerRunsSpec)

/-- ITS FALSE NEIGHBOUR: 'it returns false'. Refute it at one input. -/
def ownerRunsWrong : ChangeSpec := { name := "ownerRuns", fn := fun _ => fun
  | [d1, d2] => { results := [.lit (.bool false)], args := [d1, d2] }
  | _ => none }
def OwnerRunsWrongFalsely : Prop := ownerRunsRow.holds Try.pinned (OpenSpec.ofChange ownerRunsWrong)

/-- 'purlieulaw22.OwnerAccepts': WHATEVER THE INPUT: true; the input reads as it did. -/
def ownerAcceptsSpec : ChangeSpec := { name := "ownerAccepts", fn := fun _ => fun
  | [d] => { results := [.lit (.bool true)], args := [d] }
  | _ => none }
def ownerAcceptsRow : OpenClaim := { program := "ythdaopmfgmojnaa", sum := "68c40b326de5e8add0d6627cd4b165263d310cdc4db94c1f79e8c90ae9c99553", func := "purlieu/purlieulaw22.OwnerAccepts", spec := "ownerAccepts", unfollowed := true, recurses := true, apart := false }
def OwnerAcceptsSaid : Prop := ownerAcceptsRow.holds Try.pinned (OpenSpec.ofChange ownerAcceptsSpec)

/-- ITS FALSE NEIGHBOUR: 'it returns false'. Refute it at one input. -/
def ownerAcceptsWrong : ChangeSpec := { name := "ownerAccepts", fn := fun _ => fun
  | [d] => { results := [.lit (.bool false)], args := [d] }
  | _ => none }
def OwnerAcceptsWrongFalsely : Prop := ownerAcceptsRow.holds Try.pinned (OpenSpec.ofChange ownerAcceptsWrong)

/-- 'purlieulaw22.OwnerCounts': WHATEVER THE INPUT: true; the input reads as it did. -/
def ownerCountsSpec : ChangeSpec := { name := "ownerCounts", fn := fun _ => fun
  | [d1, d2, d3] => { results := [.lit (.bool true)], args := [d1, d2, d3] }
  | _ => none }
def ownerCountsRow : OpenClaim := { program := "ythdaopmfgmojnaa", sum := "68c40b326de5e8add0d6627cd4b165263d310cdc4db94c1f79e8c90ae9c99553", func := "purlieu/purlieulaw22.OwnerCounts", spec := "ownerCounts", unfollowed := true, recurses := true, apart := false }
def OwnerCountsSaid : Prop := ownerCountsRow.holds Try.pinned (OpenSpec.ofChange ownerCountsSpec)

/-- ITS FALSE NEIGHBOUR: 'it returns false'. Refute it at one input. -/
def ownerCountsWrong : ChangeSpec := { name := "ownerCounts", fn := fun _ => fun
  | [d1, d2, d3] => { results := [.lit (.bool false)], args := [d1, d2, d3] }
  | _ => none }
def OwnerCountsWrongFalsely : Prop := ownerCountsRow.holds Try.pinned (OpenSpec.ofChange ownerCountsWrong)

/-- 'purlieulaw22.OwnerFreed': WHATEVER THE INPUT: true; the input reads as it did. -/
def ownerFreedSpec : ChangeSpec := { name := "ownerFreed", fn := fun _ => fun
  | [d1, d2] => { results := [.lit (.bool true)], args := [d1, d2] }
  | _ => none }
def ownerFreedRow : OpenClaim := { program := "ythdaopmfgmojnaa", sum := "68c40b326de5e8add0d6627cd4b165263d310cdc4db94c1f79e8c90ae9c99553", func := "purlieu/purlieulaw22.OwnerFreed", spec := "ownerFreed", unfollowed := true, recurses := true, apart := false }
def OwnerFreedSaid : Prop := ownerFreedRow.holds Try.pinned (OpenSpec.ofChange ownerFreedSpec)

/-- ITS FALSE NEIGHBOUR: 'it returns false'. Refute it at one input. -/
def ownerFreedWrong : ChangeSpec := { name := "ownerFreed", fn := fun _ => fun
  | [d1, d2] => { results := [.lit (.bool false)], args := [d1, d2] }
  | _ => none }
def OwnerFreedWrongFalsely : Prop := ownerFreedRow.holds Try.pinned (OpenSpec.ofChange ownerFreedWrong)

/-- 'purlieulaw22.OwnerWays': WHATEVER THE INPUT: true; the input reads as it did. -/
def ownerWaysSpec : ChangeSpec := { name := "ownerWays", fn := fun _ => fun
  | [d1, d2] => { results := [.lit (.bool true)], args := [d1, d2] }
  | _ => none }
def ownerWaysRow : OpenClaim := { program := "ythdaopmfgmojnaa", sum := "68c40b326de5e8add0d6627cd4b165263d310cdc4db94c1f79e8c90ae9c99553", func := "purlieu/purlieulaw22.OwnerWays", spec := "ownerWays", unfollowed := true, recurses := true, apart := false }
def OwnerWaysSaid : Prop := ownerWaysRow.holds Try.pinned (OpenSpec.ofChange ownerWaysSpec)

/-- ITS FALSE NEIGHBOUR: 'it returns false'. Refute it at one input. -/
def ownerWaysWrong : ChangeSpec := { name := "ownerWays", fn := fun _ => fun
  | [d1, d2] => { results := [.lit (.bool false)], args := [d1, d2] }
  | _ => none }
def OwnerWaysWrongFalsely : Prop := ownerWaysRow.holds Try.pinned (OpenSpec.ofChange ownerWaysWrong)

/-- 'purlieulaw22.OwnerSafe': WHATEVER THE INPUT: true; the input reads as it did. -/
def ownerSafeSpec : ChangeSpec := { name := "ownerSafe", fn := fun _ => fun
  | [d1, d2] => { results := [.lit (.bool true)], args := [d1, d2] }
  | _ => none }
def ownerSafeRow : OpenClaim := { program := "ythdaopmfgmojnaa", sum := "68c40b326de5e8add0d6627cd4b165263d310cdc4db94c1f79e8c90ae9c99553", func := "purlieu/purlieulaw22.OwnerSafe", spec := "ownerSafe", unfollowed := true, recurses := true, apart := false }
def OwnerSafeSaid : Prop := ownerSafeRow.holds Try.pinned (OpenSpec.ofChange ownerSafeSpec)

/-- ITS FALSE NEIGHBOUR: 'it returns false'. Refute it at one input. -/
def ownerSafeWrong : ChangeSpec := { name := "ownerSafe", fn := fun _ => fun
  | [d1, d2] => { results := [.lit (.bool false)], args := [d1, d2] }
  | _ => none }
def OwnerSafeWrongFalsely : Prop := ownerSafeRow.holds Try.pinned (OpenSpec.ofChange ownerSafeWrong)

/-- 'purlieulaw22.OwnerStraight': WHATEVER THE INPUT: true; the input reads as it did. -/
def ownerStraightSpec : ChangeSpec := { name := "ownerStraight", fn := fun _ => fun
  | [d1, d2] => { results := [.lit (.bool true)], args := [d1, d2] }
  | _ => none }
def ownerStraightRow : OpenClaim := { program := "ythdaopmfgmojnaa", sum := "68c40b326de5e8add0d6627cd4b165263d310cdc4db94c1f79e8c90ae9c99553", func := "purlieu/purlieulaw22.OwnerStraight", spec := "ownerStraight", unfollowed := true, recurses := true, apart := false }
def OwnerStraightSaid : Prop := ownerStraightRow.holds Try.pinned (OpenSpec.ofChange ownerStraightSpec)

/-- ITS FALSE NEIGHBOUR: 'it returns false'. Refute it at one input. -/
def ownerStraightWrong : ChangeSpec := { name := "ownerStraight", fn := fun _ => fun
  | [d1, d2] => { results := [.lit (.bool false)], args := [d1, d2] }
  | _ => none }
def OwnerStraightWrongFalsely : Prop := ownerStraightRow.holds Try.pinned (OpenSpec.ofChange ownerStraightWrong)

/-- 'purlieutop.TopOwners': WHATEVER THE INPUT: true; the input reads as it did. -/
def topOwnersSpec : ChangeSpec := { name := "topOwners", fn := fun _ => fun
  | [d] => { results := [.lit (.bool true)], args := [d] }
  | _ => none }
def topOwnersRow : OpenClaim := { program := "ythdaopmfgmojnaa", sum := "68c40b326de5e8add0d6627cd4b165263d310cdc4db94c1f79e8c90ae9c99553", func := "purlieu/purlieutop.TopOwners", spec := "topOwners", unfollowed := true, recurses := true, apart := false }
def TopOwnersSaid : Prop := topOwnersRow.holds Try.pinned (OpenSpec.ofChange topOwnersSpec)

/-- ITS FALSE NEIGHBOUR: 'it returns false'. Refute it at one input. -/
def topOwnersWrong : ChangeSpec := { name := "topOwners", fn := fun _ => fun
  | [d] => { results := [.lit (.bool false)], args := [d] }
  | _ => none }
def TopOwnersWrongFalsely : Prop := topOwnersRow.holds Try.pinned (OpenSpec.ofChange topOwnersWrong)

/- THE SECOND FORM. 'bulk': how many values and letters a reading holds, each counted each time it is reached (what is shared counts as often as it is met; a slice's spare places count too). A statement '..UptoSaid' is the law's where the arguments, and the package variables that the reading takes, are together of bulk at most 1048576: NARROWER than '..Said'. Prove '..Said' where nothing that the law and all that it calls make is longer than what came in: it says more and counts as full. Else prove '..UptoSaid'. A law counts once. -/
mutual
def uptoBulk {H : Type} : DataW H → Nat
  | .lit (.string bytes) => bytes.length + 1
  | .lit _ => 1
  | .nil => 1
  | .ptr d => uptoBulk d + 1
  | .slice elems spare => uptoBulkAll elems + uptoBulkAll spare + 1
  | .agg parts => uptoBulkAll parts + 1
  | .iface _ d => uptoBulk d + 1
  | .map entries => uptoBulkEntries entries + 1
  | .held _ => 1
def uptoBulkAll {H : Type} : List (DataW H) → Nat
  | [] => 0
  | d :: r => uptoBulk d + uptoBulkAll r
def uptoBulkEntries {H : Type} : List (Lit × DataW H) → Nat
  | [] => 0
  | x :: r => uptoBulkEntry x + uptoBulkEntries r
def uptoBulkEntry {H : Type} : Lit × DataW H → Nat
  | (.string bytes, d) => bytes.length + uptoBulk d + 1
  | (_, d) => uptoBulk d + 1
 end
def uptoSmall : (H : Type) → List (DataW H) → Bool := fun _ ds => decide (uptoBulkAll ds ≤ 1048576)
def OpenSpec.upto (s : _root_.Go.ChangeSpec) : _root_.Go.OpenSpec := { _root_.Go.OpenSpec.ofChange s with cond := some uptoSmall }

/-- 'purlieulaw22.OwnerRuns', WHERE WHAT IT READS IS OF BULK AT MOST 1048576: true; the input reads as it did. -/
def ownerRunsUptoRow : OpenClaim := { program := "ythdaopmfgmojnaa", sum := "68c40b326de5e8add0d6627cd4b165263d310cdc4db94c1f79e8c90ae9c99553", func := "purlieu/purlieulaw22.OwnerRuns", spec := "ownerRuns", unfollowed := true, recurses := true, apart := false, narrowed := true }
def OwnerRunsUptoSaid : Prop := ownerRunsUptoRow.holds Try.pinned (OpenSpec.upto ownerRunsSpec)

/-- 'purlieulaw22.OwnerAccepts', WHERE WHAT IT READS IS OF BULK AT MOST 1048576: true; the input reads as it did. -/
def ownerAcceptsUptoRow : OpenClaim := { program := "ythdaopmfgmojnaa", sum := "68c40b326de5e8add0d6627cd4b165263d310cdc4db94c1f79e8c90ae9c99553", func := "purlieu/purlieulaw22.OwnerAccepts", spec := "ownerAccepts", unfollowed := true, recurses := true, apart := false, narrowed := true }
def OwnerAcceptsUptoSaid : Prop := ownerAcceptsUptoRow.holds Try.pinned (OpenSpec.upto ownerAcceptsSpec)

/-- 'purlieulaw22.OwnerCounts', WHERE WHAT IT READS IS OF BULK AT MOST 1048576: true; the input reads as it did. -/
def ownerCountsUptoRow : OpenClaim := { program := "ythdaopmfgmojnaa", sum := "68c40b326de5e8add0d6627cd4b165263d310cdc4db94c1f79e8c90ae9c99553", func := "purlieu/purlieulaw22.OwnerCounts", spec := "ownerCounts", unfollowed := true, recurses := true, apart := false, narrowed := true }
def OwnerCountsUptoSaid : Prop := ownerCountsUptoRow.holds Try.pinned (OpenSpec.upto ownerCountsSpec)

/-- 'purlieulaw22.OwnerFreed', WHERE WHAT IT READS IS OF BULK AT MOST 1048576: true; the input reads as it did. -/
def ownerFreedUptoRow : OpenClaim := { program := "ythdaopmfgmojnaa", sum := "68c40b326de5e8add0d6627cd4b165263d310cdc4db94c1f79e8c90ae9c99553", func := "purlieu/purlieulaw22.OwnerFreed", spec := "ownerFreed", unfollowed := true, recurses := true, apart := false, narrowed := true }
def OwnerFreedUptoSaid : Prop := ownerFreedUptoRow.holds Try.pinned (OpenSpec.upto ownerFreedSpec)

/-- 'purlieulaw22.OwnerWays', WHERE WHAT IT READS IS OF BULK AT MOST 1048576: true; the input reads as it did. -/
def ownerWaysUptoRow : OpenClaim := { program := "ythdaopmfgmojnaa", sum := "68c40b326de5e8add0d6627cd4b165263d310cdc4db94c1f79e8c90ae9c99553", func := "purlieu/purlieulaw22.OwnerWays", spec := "ownerWays", unfollowed := true, recurses := true, apart := false, narrowed := true }
def OwnerWaysUptoSaid : Prop := ownerWaysUptoRow.holds Try.pinned (OpenSpec.upto ownerWaysSpec)

/-- 'purlieulaw22.OwnerSafe', WHERE WHAT IT READS IS OF BULK AT MOST 1048576: true; the input reads as it did. -/
def ownerSafeUptoRow : OpenClaim := { program := "ythdaopmfgmojnaa", sum := "68c40b326de5e8add0d6627cd4b165263d310cdc4db94c1f79e8c90ae9c99553", func := "purlieu/purlieulaw22.OwnerSafe", spec := "ownerSafe", unfollowed := true, recurses := true, apart := false, narrowed := true }
def OwnerSafeUptoSaid : Prop := ownerSafeUptoRow.holds Try.pinned (OpenSpec.upto ownerSafeSpec)

/-- 'purlieulaw22.OwnerStraight', WHERE WHAT IT READS IS OF BULK AT MOST 1048576: true; the input reads as it did. -/
def ownerStraightUptoRow : OpenClaim := { program := "ythdaopmfgmojnaa", sum := "68c40b326de5e8add0d6627cd4b165263d310cdc4db94c1f79e8c90ae9c99553", func := "purlieu/purlieulaw22.OwnerStraight", spec := "ownerStraight", unfollowed := true, recurses := true, apart := false, narrowed := true }
def OwnerStraightUptoSaid : Prop := ownerStraightUptoRow.holds Try.pinned (OpenSpec.upto ownerStraightSpec)

/-- 'purlieutop.TopOwners', WHERE WHAT IT READS IS OF BULK AT MOST 1048576: true; the input reads as it did. -/
def topOwnersUptoRow : OpenClaim := { program := "ythdaopmfgmojnaa", sum := "68c40b326de5e8add0d6627cd4b165263d310cdc4db94c1f79e8c90ae9c99553", func := "purlieu/purlieutop.TopOwners", spec := "topOwners", unfollowed := true, recurses := true, apart := false, narrowed := true }
def TopOwnersUptoSaid : Prop := topOwnersUptoRow.holds Try.pinned (OpenSpec.upto topOwnersSpec)

end Rows
end Go.Proofs.Ythdaopmfgmojnaa
