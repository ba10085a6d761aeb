/-
  DERIVED. GIVEN WITH THE SEED: THE CARDS: each row of YtndindldlkdigabGreatDoorRows.lean that lists a variable, with what it lists TIED to the program's text (the seventh form; the later family's looks); each row that meets fmt, with fmt's text TOLD by the authors' own Lean function (tested against real Go, not proved from fmt's source: count such statements apart). THE CARD IS WHAT COUNTS. Prove the row's statement (the work); the ties are given (YtndindldlkdigabGreatDoorTie.lean); close each card by the builder's one call (the guide's Derived/Test/ToyasCard.lean, 'card_holds'). Laid BY PROGRAM, IN A SANDBOX (cutbox-door.mjs). By AI agents, Wed Nov 11 2026. No macro, syntax, notation, axiom, sorry.
-/
import Derived.Test.YtndindldlkdigabGreatDoorRows
import GoSem.ClaimSeven
namespace Go.Proofs.YtndindldlkdigabGreatDoor
namespace Rows

/-- THE TIED CARD OF 'lurcherlaw19.MatchLeft'. -/
def matchLeftCard : Claim7 := { stood := { row := matchLeftRow, standIns := [], harness := (true, "ed938de2144a9f02827c40426040650736dc31ec3eb3982c797560b9bef4be2f"), looks := true }, kinds := [], alts := [], laidByText := true, laidKinds := [.data, .data, .data], laidTests := true, laidLooks := .later }
def MatchLeftCardSaid : Prop := Claim7.holds Tryz.pinned (.plain (OpenSpec.ofChange matchLeftSpec)) matchLeftCard

/-- THE SECOND FORM's CARD OF 'lurcherlaw19.MatchLeft'. -/
def matchLeftUptoCard : Claim7 := { stood := { row := matchLeftUptoRow, standIns := [], harness := (true, "ed938de2144a9f02827c40426040650736dc31ec3eb3982c797560b9bef4be2f"), looks := true }, kinds := [], alts := [], laidByText := true, laidKinds := [.data, .data, .data], laidTests := true, laidLooks := .later }
def MatchLeftUptoCardSaid : Prop := Claim7.holds Tryz.pinned (.plain (OpenSpec.upto matchLeftSpec)) matchLeftUptoCard
end Rows
end Go.Proofs.YtndindldlkdigabGreatDoor
