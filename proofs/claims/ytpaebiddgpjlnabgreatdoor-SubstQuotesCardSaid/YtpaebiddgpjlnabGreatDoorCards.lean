/-
  DERIVED. GIVEN WITH THE SEED: THE CARDS: each row of YtpaebiddgpjlnabGreatDoorRows.lean that lists a variable, with what it lists TIED to the program's text (the seventh form; the later family's looks); each row that meets fmt, with fmt's text TOLD by the authors' own Lean function (tested against real Go, not proved from fmt's source: count such statements apart). THE CARD IS WHAT COUNTS. Prove the row's statement (the work); the ties are given (YtpaebiddgpjlnabGreatDoorTie.lean); close each card by the builder's one call (the guide's Derived/Test/ToyasCard.lean, 'card_holds'). Laid BY PROGRAM, IN A SANDBOX (cutbox-door.mjs). By AI agents, Wed Nov 11 2026. No macro, syntax, notation, axiom, sorry.
-/
import Derived.Test.YtpaebiddgpjlnabGreatDoorRows
import GoSem.ClaimSeven
namespace Go.Proofs.YtpaebiddgpjlnabGreatDoor
namespace Rows

/-- THE TIED CARD OF 'lurcherlaw22.SubstQuotes'. -/
def substQuotesCard : Claim7 := { stood := { row := substQuotesRow, standIns := [], harness := (true, "9cd1bae752e9bd2bcbea81af3bce7aa036b32ba2cac6a754cb294a7eea445bb0"), looks := true }, kinds := [], alts := [], laidByText := true, laidKinds := [.data, .data, .data], laidTests := true, laidLooks := .later }
def SubstQuotesCardSaid : Prop := Claim7.holds Tryz.pinned (.plain (OpenSpec.ofChange substQuotesSpec)) substQuotesCard

/-- THE SECOND FORM's CARD OF 'lurcherlaw22.SubstQuotes'. -/
def substQuotesUptoCard : Claim7 := { stood := { row := substQuotesUptoRow, standIns := [], harness := (true, "9cd1bae752e9bd2bcbea81af3bce7aa036b32ba2cac6a754cb294a7eea445bb0"), looks := true }, kinds := [], alts := [], laidByText := true, laidKinds := [.data, .data, .data], laidTests := true, laidLooks := .later }
def SubstQuotesUptoCardSaid : Prop := Claim7.holds Tryz.pinned (.plain (OpenSpec.upto substQuotesSpec)) substQuotesUptoCard
end Rows
end Go.Proofs.YtpaebiddgpjlnabGreatDoor
