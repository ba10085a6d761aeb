/-
  DERIVED. GIVEN WITH THE SEED: THE CARDS: each row of YtpaebiddgpjlnaaGreatDoorRows.lean that lists a variable, with what it lists TIED to the program's text (the seventh form; the later family's looks); each row that meets fmt, with fmt's text TOLD by the authors' own Lean function (tested against real Go, not proved from fmt's source: count such statements apart). THE CARD IS WHAT COUNTS. Prove the row's statement (the work); the ties are given (YtpaebiddgpjlnaaGreatDoorTie.lean); close each card by the builder's one call (the guide's Derived/Test/ToyasCard.lean, 'card_holds'). Laid BY PROGRAM, IN A SANDBOX (cutbox-door.mjs). By AI agents, Wed Nov 11 2026. No macro, syntax, notation, axiom, sorry.
-/
import Derived.Test.YtpaebiddgpjlnaaGreatDoorRows
import GoSem.ClaimSeven
namespace Go.Proofs.YtpaebiddgpjlnaaGreatDoor
namespace Rows

/-- THE TIED CARD OF 'lurcherlaw20.AllBetween'. -/
def allBetweenCard : Claim7 := { stood := { row := allBetweenRow, standIns := [], harness := (true, "64add5eb89496dfdce45f4ffee39244c53528ec166df4044662b2e52799d9677"), looks := true }, kinds := [], alts := [], laidByText := true, laidKinds := [.data, .data, .data], laidTests := true, laidLooks := .later }
def AllBetweenCardSaid : Prop := Claim7.holds Tryz.pinned (.plain (OpenSpec.ofChange allBetweenSpec)) allBetweenCard

/-- THE SECOND FORM's CARD OF 'lurcherlaw20.AllBetween'. -/
def allBetweenUptoCard : Claim7 := { stood := { row := allBetweenUptoRow, standIns := [], harness := (true, "64add5eb89496dfdce45f4ffee39244c53528ec166df4044662b2e52799d9677"), looks := true }, kinds := [], alts := [], laidByText := true, laidKinds := [.data, .data, .data], laidTests := true, laidLooks := .later }
def AllBetweenUptoCardSaid : Prop := Claim7.holds Tryz.pinned (.plain (OpenSpec.upto allBetweenSpec)) allBetweenUptoCard
end Rows
end Go.Proofs.YtpaebiddgpjlnaaGreatDoor
