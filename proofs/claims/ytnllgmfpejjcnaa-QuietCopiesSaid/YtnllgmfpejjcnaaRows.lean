/-
  No cell of these rows narrows 'for every input' (looked for: loops, veiled, ifaces, maps, wideKeys, modest, calm, conditions, laid).
  DERIVED. THE GIVEN ROWS OF THIS SEAT. 7 by the template 'for every input the law returns true; each argument reads behind the call as it read before'; 0 by the template 'total and deterministic' (their statements: YtnllgmfpejjcnaaTotals.lean).
  GIVEN WITH THE SEED: the statements are not yours to turn. If you find one false, say at which input.
  Laid BY PROGRAM, IN A SANDBOX (cutbox-rows.mjs): the forced cells as the released guide's own fill.sh prints them over the translation badb6d2285c9903c… (all of the seat's roots in one cut). By AI agents, Wed Nov 11 2026. No macro, syntax, notation, axiom, sorry.
-/
import Derived.Test.YtnllgmfpejjcnaaChecked
import GoSem.Claim
import GoSem.ClaimJoined
import GoSem.ClaimMapViews
import Derived.JoinedTies
import Derived.KernelRfl
namespace Go.Proofs.Ytnllgmfpejjcnaa
/- THE CELL 'sum', in the pinned program and in every row, IS THE sha256 OF THE DUMP (.gsa) THAT YtnllgmfpejjcnaaProg.lean LOADS. Nothing in Lean hashes anything: it is a label: what it is worth is what the hold of that sum in a sandbox is worth. -/
noncomputable def Try.pinned : Pinned := { name := "ytnllgmfpejjcnaa", sum := "badb6d2285c9903c09af4bcba1b8c1daf413ea5c3bdef7a13d9f8bf397e25f76", checked := Try.checked }
namespace Rows
def none {H : Type} : Left H := { results := [], args := [] }

/-- 'purlieulaw17.QuietSoon': WHATEVER THE INPUT: true; the input reads as it did. -/
def quietSoonSpec : ChangeSpec := { name := "quietSoon", fn := fun _ => fun
  | [d1, d2] => { results := [.lit (.bool true)], args := [d1, d2] }
  | _ => none }
def quietSoonRow : OpenClaim := { program := "ytnllgmfpejjcnaa", sum := "badb6d2285c9903c09af4bcba1b8c1daf413ea5c3bdef7a13d9f8bf397e25f76", func := "purlieu/purlieulaw17.QuietSoon", spec := "quietSoon", apart := false }
def QuietSoonSaid : Prop := quietSoonRow.holds Try.pinned (OpenSpec.ofChange quietSoonSpec)

/-- ITS FALSE NEIGHBOUR: 'it returns false'. Refute it at one input. -/
def quietSoonWrong : ChangeSpec := { name := "quietSoon", fn := fun _ => fun
  | [d1, d2] => { results := [.lit (.bool false)], args := [d1, d2] }
  | _ => none }
def QuietSoonWrongFalsely : Prop := quietSoonRow.holds Try.pinned (OpenSpec.ofChange quietSoonWrong)

/-- 'purlieulaw17.QuietSums': WHATEVER THE INPUT: true; the input reads as it did. -/
def quietSumsSpec : ChangeSpec := { name := "quietSums", fn := fun _ => fun
  | [d1, d2] => { results := [.lit (.bool true)], args := [d1, d2] }
  | _ => none }
def quietSumsRow : OpenClaim := { program := "ytnllgmfpejjcnaa", sum := "badb6d2285c9903c09af4bcba1b8c1daf413ea5c3bdef7a13d9f8bf397e25f76", func := "purlieu/purlieulaw17.QuietSums", spec := "quietSums", apart := false }
def QuietSumsSaid : Prop := quietSumsRow.holds Try.pinned (OpenSpec.ofChange quietSumsSpec)

/-- ITS FALSE NEIGHBOUR: 'it returns false'. Refute it at one input. -/
def quietSumsWrong : ChangeSpec := { name := "quietSums", fn := fun _ => fun
  | [d1, d2] => { results := [.lit (.bool false)], args := [d1, d2] }
  | _ => none }
def QuietSumsWrongFalsely : Prop := quietSumsRow.holds Try.pinned (OpenSpec.ofChange quietSumsWrong)

/-- 'purlieulaw17.QuietTrue': WHATEVER THE INPUT: true; the input reads as it did. -/
def quietTrueSpec : ChangeSpec := { name := "quietTrue", fn := fun _ => fun
  | [d1, d2] => { results := [.lit (.bool true)], args := [d1, d2] }
  | _ => none }
def quietTrueRow : OpenClaim := { program := "ytnllgmfpejjcnaa", sum := "badb6d2285c9903c09af4bcba1b8c1daf413ea5c3bdef7a13d9f8bf397e25f76", func := "purlieu/purlieulaw17.QuietTrue", spec := "quietTrue", apart := false }
def QuietTrueSaid : Prop := quietTrueRow.holds Try.pinned (OpenSpec.ofChange quietTrueSpec)

/-- ITS FALSE NEIGHBOUR: 'it returns false'. Refute it at one input. -/
def quietTrueWrong : ChangeSpec := { name := "quietTrue", fn := fun _ => fun
  | [d1, d2] => { results := [.lit (.bool false)], args := [d1, d2] }
  | _ => none }
def QuietTrueWrongFalsely : Prop := quietTrueRow.holds Try.pinned (OpenSpec.ofChange quietTrueWrong)

/-- 'purlieulaw17.QuietPlays': WHATEVER THE INPUT: true; the input reads as it did. -/
def quietPlaysSpec : ChangeSpec := { name := "quietPlays", fn := fun _ => fun
  | [d1, d2] => { results := [.lit (.bool true)], args := [d1, d2] }
  | _ => none }
def quietPlaysRow : OpenClaim := { program := "ytnllgmfpejjcnaa", sum := "badb6d2285c9903c09af4bcba1b8c1daf413ea5c3bdef7a13d9f8bf397e25f76", func := "purlieu/purlieulaw17.QuietPlays", spec := "quietPlays", apart := false }
def QuietPlaysSaid : Prop := quietPlaysRow.holds Try.pinned (OpenSpec.ofChange quietPlaysSpec)

/-- ITS FALSE NEIGHBOUR: 'it returns false'. Refute it at one input. -/
def quietPlaysWrong : ChangeSpec := { name := "quietPlays", fn := fun _ => fun
  | [d1, d2] => { results := [.lit (.bool false)], args := [d1, d2] }
  | _ => none }
def QuietPlaysWrongFalsely : Prop := quietPlaysRow.holds Try.pinned (OpenSpec.ofChange quietPlaysWrong)

/-- 'purlieulaw17.QuietLate': WHATEVER THE INPUT: true; the input reads as it did. -/
def quietLateSpec : ChangeSpec := { name := "quietLate", fn := fun _ => fun
  | [d1, d2] => { results := [.lit (.bool true)], args := [d1, d2] }
  | _ => none }
def quietLateRow : OpenClaim := { program := "ytnllgmfpejjcnaa", sum := "badb6d2285c9903c09af4bcba1b8c1daf413ea5c3bdef7a13d9f8bf397e25f76", func := "purlieu/purlieulaw17.QuietLate", spec := "quietLate", apart := false }
def QuietLateSaid : Prop := quietLateRow.holds Try.pinned (OpenSpec.ofChange quietLateSpec)

/-- ITS FALSE NEIGHBOUR: 'it returns false'. Refute it at one input. -/
def quietLateWrong : ChangeSpec := { name := "quietLate", fn := fun _ => fun
  | [d1, d2] => { results := [.lit (.bool false)], args := [d1, d2] }
  | _ => none }
def QuietLateWrongFalsely : Prop := quietLateRow.holds Try.pinned (OpenSpec.ofChange quietLateWrong)

/-- 'purlieulaw17.QuietNils': WHATEVER THE INPUT: true; the input reads as it did. -/
def quietNilsSpec : ChangeSpec := { name := "quietNils", fn := fun _ => fun
  | [d1, d2] => { results := [.lit (.bool true)], args := [d1, d2] }
  | _ => none }
def quietNilsRow : OpenClaim := { program := "ytnllgmfpejjcnaa", sum := "badb6d2285c9903c09af4bcba1b8c1daf413ea5c3bdef7a13d9f8bf397e25f76", func := "purlieu/purlieulaw17.QuietNils", spec := "quietNils", apart := false }
def QuietNilsSaid : Prop := quietNilsRow.holds Try.pinned (OpenSpec.ofChange quietNilsSpec)

/-- ITS FALSE NEIGHBOUR: 'it returns false'. Refute it at one input. -/
def quietNilsWrong : ChangeSpec := { name := "quietNils", fn := fun _ => fun
  | [d1, d2] => { results := [.lit (.bool false)], args := [d1, d2] }
  | _ => none }
def QuietNilsWrongFalsely : Prop := quietNilsRow.holds Try.pinned (OpenSpec.ofChange quietNilsWrong)

/-- 'purlieulaw17.QuietCopies': WHATEVER THE INPUT: true; the input reads as it did. -/
def quietCopiesSpec : ChangeSpec := { name := "quietCopies", fn := fun _ => fun
  | [d1, d2, d3] => { results := [.lit (.bool true)], args := [d1, d2, d3] }
  | _ => none }
def quietCopiesRow : OpenClaim := { program := "ytnllgmfpejjcnaa", sum := "badb6d2285c9903c09af4bcba1b8c1daf413ea5c3bdef7a13d9f8bf397e25f76", func := "purlieu/purlieulaw17.QuietCopies", spec := "quietCopies", apart := false }
def QuietCopiesSaid : Prop := quietCopiesRow.holds Try.pinned (OpenSpec.ofChange quietCopiesSpec)

/-- ITS FALSE NEIGHBOUR: 'it returns false'. Refute it at one input. -/
def quietCopiesWrong : ChangeSpec := { name := "quietCopies", fn := fun _ => fun
  | [d1, d2, d3] => { results := [.lit (.bool false)], args := [d1, d2, d3] }
  | _ => none }
def QuietCopiesWrongFalsely : Prop := quietCopiesRow.holds Try.pinned (OpenSpec.ofChange quietCopiesWrong)

/- THE SECOND FORM. 'bulk': how many values and letters a reading holds, each counted each time it is reached (what is shared counts as often as it is met; a slice's spare places count too). A statement '..UptoSaid' is the law's where the arguments, and the package variables that the reading takes, are together of bulk at most 1048576: NARROWER than '..Said'. Prove '..Said' where nothing that the law and all that it calls make is longer than what came in: it says more and counts as full. Else prove '..UptoSaid'. A law counts once. -/
mutual
def uptoBulk {H : Type} : DataW H → Nat
  | .lit (.string bytes) => bytes.length + 1
  | .lit _ => 1
  | .nil => 1
  | .ptr d => uptoBulk d + 1
  | .slice elems spare => uptoBulkAll elems + uptoBulkAll spare + 1
  | .agg parts => uptoBulkAll parts + 1
  | .iface _ d => uptoBulk d + 1
  | .map entries => uptoBulkEntries entries + 1
  | .held _ => 1
def uptoBulkAll {H : Type} : List (DataW H) → Nat
  | [] => 0
  | d :: r => uptoBulk d + uptoBulkAll r
def uptoBulkEntries {H : Type} : List (Lit × DataW H) → Nat
  | [] => 0
  | x :: r => uptoBulkEntry x + uptoBulkEntries r
def uptoBulkEntry {H : Type} : Lit × DataW H → Nat
  | (.string bytes, d) => bytes.length + uptoBulk d + 1
  | (_, d) => uptoBulk d + 1
 end
def uptoSmall : (H : Type) → List (DataW H) → Bool := fun _ ds => decide (uptoBulkAll ds ≤ 1048576)
def OpenSpec.upto (s : _root_.Go.ChangeSpec) : _root_.Go.OpenSpec := { _root_.Go.OpenSpec.ofChange s with cond := some uptoSmall }

/-- 'purlieulaw17.QuietSoon', WHERE WHAT IT READS IS OF BULK AT MOST 1048576: true; the input reads as it did. -/
def quietSoonUptoRow : OpenClaim := { program := "ytnllgmfpejjcnaa", sum := "badb6d2285c9903c09af4bcba1b8c1daf413ea5c3bdef7a13d9f8bf397e25f76", func := "purlieu/purlieulaw17.QuietSoon", spec := "quietSoon", apart := false, narrowed := true }
def QuietSoonUptoSaid : Prop := quietSoonUptoRow.holds Try.pinned (OpenSpec.upto quietSoonSpec)

/-- 'purlieulaw17.QuietSums', WHERE WHAT IT READS IS OF BULK AT MOST 1048576: true; the input reads as it did. -/
def quietSumsUptoRow : OpenClaim := { program := "ytnllgmfpejjcnaa", sum := "badb6d2285c9903c09af4bcba1b8c1daf413ea5c3bdef7a13d9f8bf397e25f76", func := "purlieu/purlieulaw17.QuietSums", spec := "quietSums", apart := false, narrowed := true }
def QuietSumsUptoSaid : Prop := quietSumsUptoRow.holds Try.pinned (OpenSpec.upto quietSumsSpec)

/-- 'purlieulaw17.QuietTrue', WHERE WHAT IT READS IS OF BULK AT MOST 1048576: true; the input reads as it did. -/
def quietTrueUptoRow : OpenClaim := { program := "ytnllgmfpejjcnaa", sum := "badb6d2285c9903c09af4bcba1b8c1daf413ea5c3bdef7a13d9f8bf397e25f76", func := "purlieu/purlieulaw17.QuietTrue", spec := "quietTrue", apart := false, narrowed := true }
def QuietTrueUptoSaid : Prop := quietTrueUptoRow.holds Try.pinned (OpenSpec.upto quietTrueSpec)

/-- 'purlieulaw17.QuietPlays', WHERE WHAT IT READS IS OF BULK AT MOST 1048576: true; the input reads as it did. -/
def quietPlaysUptoRow : OpenClaim := { program := "ytnllgmfpejjcnaa", sum := "badb6d2285c9903c09af4bcba1b8c1daf413ea5c3bdef7a13d9f8bf397e25f76", func := "purlieu/purlieulaw17.QuietPlays", spec := "quietPlays", apart := false, narrowed := true }
def QuietPlaysUptoSaid : Prop := quietPlaysUptoRow.holds Try.pinned (OpenSpec.upto quietPlaysSpec)

/-- 'purlieulaw17.QuietLate', WHERE WHAT IT READS IS OF BULK AT MOST 1048576: true; the input reads as it did. -/
def quietLateUptoRow : OpenClaim := { program := "ytnllgmfpejjcnaa", sum := "badb6d2285c9903c09af4bcba1b8c1daf413ea5c3bdef7a13d9f8bf397e25f76", func := "purlieu/purlieulaw17.QuietLate", spec := "quietLate", apart := false, narrowed := true }
def QuietLateUptoSaid : Prop := quietLateUptoRow.holds Try.pinned (OpenSpec.upto quietLateSpec)

/-- 'purlieulaw17.QuietNils', WHERE WHAT IT READS IS OF BULK AT MOST 1048576: true; the input reads as it did. -/
def quietNilsUptoRow : OpenClaim := { program := "ytnllgmfpejjcnaa", sum := "badb6d2285c9903c09af4bcba1b8c1daf413ea5c3bdef7a13d9f8bf397e25f76", func := "purlieu/purlieulaw17.QuietNils", spec := "quietNils", apart := false, narrowed := true }
def QuietNilsUptoSaid : Prop := quietNilsUptoRow.holds Try.pinned (OpenSpec.upto quietNilsSpec)

/-- 'purlieulaw17.QuietCopies', WHERE WHAT IT READS IS OF BULK AT MOST 1048576: true; the input reads as it did. -/
def quietCopiesUptoRow : OpenClaim := { program := "ytnllgmfpejjcnaa", sum := "badb6d2285c9903c09af4bcba1b8c1daf413ea5c3bdef7a13d9f8bf397e25f76", func := "purlieu/purlieulaw17.QuietCopies", spec := "quietCopies", apart := false, narrowed := true }
def QuietCopiesUptoSaid : Prop := quietCopiesUptoRow.holds Try.pinned (OpenSpec.upto quietCopiesSpec)

end Rows
end Go.Proofs.Ytnllgmfpejjcnaa
