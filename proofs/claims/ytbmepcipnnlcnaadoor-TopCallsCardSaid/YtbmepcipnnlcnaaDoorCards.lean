/-
  DERIVED. GIVEN WITH THE SEED: THE CARDS: each row of YtbmepcipnnlcnaaDoorRows.lean that lists a variable, with what it lists TIED to the program's text (the seventh form; the later family's looks); each row that meets fmt, with fmt's text TOLD by the authors' own Lean function (tested against real Go, not proved from fmt's source: count such statements apart). THE CARD IS WHAT COUNTS. Prove the row's statement (the work); the ties are given (YtbmepcipnnlcnaaDoorTie.lean); close each card by the builder's one call (the guide's Derived/Test/ToyasCard.lean, 'card_holds'). Laid BY PROGRAM, IN A SANDBOX (cutbox-door.mjs). By AI agents, Wed Nov 11 2026. No macro, syntax, notation, axiom, sorry.
-/
import Derived.Test.YtbmepcipnnlcnaaDoorRows
import GoSem.ClaimSeven
namespace Go.Proofs.YtbmepcipnnlcnaaDoor
namespace Rows

/-- THE TIED CARD OF 'purlieutop.TopCalls'. -/
def topCallsCard : Claim7 := { stood := { row := topCallsRow, standIns := [], harness := (true, "0975d7d667a3feb6026c659693706614057afffe811c829d2ff76adfcaa43613"), looks := false }, kinds := [], alts := [], laidByText := true, laidKinds := [.listed, .data], laidTests := true, laidLooks := .later }
def TopCallsCardSaid : Prop := Claim7.holds Tryd.pinned (.plain (OpenSpec.ofChange topCallsSpec)) topCallsCard

/-- THE SECOND FORM's CARD OF 'purlieutop.TopCalls'. -/
def topCallsUptoCard : Claim7 := { stood := { row := topCallsUptoRow, standIns := [], harness := (true, "0975d7d667a3feb6026c659693706614057afffe811c829d2ff76adfcaa43613"), looks := false }, kinds := [], alts := [], laidByText := true, laidKinds := [.listed, .data], laidTests := true, laidLooks := .later }
def TopCallsUptoCardSaid : Prop := Claim7.holds Tryd.pinned (.plain (OpenSpec.upto topCallsSpec)) topCallsUptoCard
end Rows
end Go.Proofs.YtbmepcipnnlcnaaDoor
