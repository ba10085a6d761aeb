/-
  Quote writes any text as the reference does: SubstQuotes answers true, whatever the bytes; its card.
-/
import Derived.Test.YtpaebiddgpjlnabGreatDoorCards
import Derived.Test.YtpaebiddgpjlnabGreatDoorTie
import Derived.Test.YtpaebiddgpjlnabGreatDoorSqtG

/-
  Quote writes any text as the reference does: SubstQuotes answers true, whatever the bytes; its card.
-/
namespace Go.Proofs.YtpaebiddgpjlnabGreatDoor
open Go.ChangeShapes Go.WideShapes Go.ChangeAt Go.RowKit

theorem plain (f : FuncId) (fn : Func) (hf : Tryz.pinned.checked.prog.funcNamed "lurcher/lurcherlaw22.SubstQuotes" = some f) (hfn : Tryz.pinned.checked.prog.funcs[f]? = some fn) :
    true = Tryz.pinned.checked.prog.looks [] ∧ ∀ (j : Nat) t, fn.params[j]? = some t → Tryz.pinned.checked.prog.wantsStandIn t = false := by
  obtain rfl : f = 3 := Option.some.inj ((show Tryz.prog.funcNamed "lurcher/lurcherlaw22.SubstQuotes" = some 3 by kernel_rfl).symm.trans hf) |>.symm
  obtain rfl : fn = Tryz.f3 := (Option.some.inj (Tryz.func3.symm.trans hfn)).symm
  refine ⟨by kernel_rfl, fun j t ht => ?_⟩
  rw [Tryz.params3] at ht
  have h : t = 22 ∨ t = 4 := by have := Array.mem_of_getElem? ht; simpa using this
  rcases h with rfl | rfl
  · exact (show Tryz.prog.wantsStandIn 22 = false by kernel_rfl)
  · exact (show Tryz.prog.wantsStandIn 4 = false by kernel_rfl)

theorem substQuotes : Rows.SubstQuotesCardSaid :=
  Claim7.holds_tied_plain_at .later [] _ _ _ _ said (fun _ h => by cases h) (by kernel_rfl) (fun _ h => by cases h) substQuotes_row_tie rfl ⟨rfl, rfl⟩ (by kernel_rfl) rfl plain (by kernel_rfl)

#print axioms substQuotes
end Go.Proofs.YtpaebiddgpjlnabGreatDoor
