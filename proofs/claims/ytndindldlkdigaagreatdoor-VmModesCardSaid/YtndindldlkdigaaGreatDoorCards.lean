/-
  DERIVED. GIVEN WITH THE SEED: THE CARDS: each row of YtndindldlkdigaaGreatDoorRows.lean that lists a variable, with what it lists TIED to the program's text (the seventh form; the later family's looks); each row that meets fmt, with fmt's text TOLD by the authors' own Lean function (tested against real Go, not proved from fmt's source: count such statements apart). THE CARD IS WHAT COUNTS. Prove the row's statement (the work); the ties are given (YtndindldlkdigaaGreatDoorTie.lean); close each card by the builder's one call (the guide's Derived/Test/ToyasCard.lean, 'card_holds'). Laid BY PROGRAM, IN A SANDBOX (cutbox-door.mjs). By AI agents, Wed Nov 11 2026. No macro, syntax, notation, axiom, sorry.
-/
import Derived.Test.YtndindldlkdigaaGreatDoorRows
import GoSem.ClaimSeven
namespace Go.Proofs.YtndindldlkdigaaGreatDoor
namespace Rows

/-- THE TIED CARD OF 'lurcherlaw18.VmModes'. -/
def vmModesCard : Claim7 := { stood := { row := vmModesRow, standIns := [], harness := (true, "eb1031a91a7d72c45512e463ba3bf5c66e1a6b3a271b106b5674d5166a047732"), looks := true }, kinds := [], alts := [], laidByText := true, laidKinds := [.data, .data, .data], laidTests := true, laidLooks := .later }
def VmModesCardSaid : Prop := Claim7.holds Tryz.pinned (.plain (OpenSpec.ofChange vmModesSpec)) vmModesCard

/-- THE SECOND FORM's CARD OF 'lurcherlaw18.VmModes'. -/
def vmModesUptoCard : Claim7 := { stood := { row := vmModesUptoRow, standIns := [], harness := (true, "eb1031a91a7d72c45512e463ba3bf5c66e1a6b3a271b106b5674d5166a047732"), looks := true }, kinds := [], alts := [], laidByText := true, laidKinds := [.data, .data, .data], laidTests := true, laidLooks := .later }
def VmModesUptoCardSaid : Prop := Claim7.holds Tryz.pinned (.plain (OpenSpec.upto vmModesSpec)) vmModesUptoCard
end Rows
end Go.Proofs.YtndindldlkdigaaGreatDoor
