/-
  What lies between any matches is what the document says: AllBetween answers true, whatever the bytes and the matches; its card.
-/
import Derived.Test.YtpaebiddgpjlnaaGreatDoorCards
import Derived.Test.YtpaebiddgpjlnaaGreatDoorTie
import Derived.Test.YtpaebiddgpjlnaaGreatDoorAbtD

/-
  What lies between any matches is the document's: AllBetween answers true, whatever the bytes and the matches; its card.
-/
namespace Go.Proofs.YtpaebiddgpjlnaaGreatDoor
open Go.ChangeShapes Go.WideShapes Go.ChangeAt Go.RowKit

theorem plain (f : FuncId) (fn : Func) (hf : Tryz.pinned.checked.prog.funcNamed "lurcher/lurcherlaw20.AllBetween" = some f) (hfn : Tryz.pinned.checked.prog.funcs[f]? = some fn) :
    true = Tryz.pinned.checked.prog.looks [] ∧ ∀ (j : Nat) t, fn.params[j]? = some t → Tryz.pinned.checked.prog.wantsStandIn t = false := by
  obtain rfl : f = 3 := Option.some.inj ((show Tryz.prog.funcNamed "lurcher/lurcherlaw20.AllBetween" = some 3 by kernel_rfl).symm.trans hf) |>.symm
  obtain rfl : fn = Tryz.f3 := (Option.some.inj (Tryz.func3.symm.trans hfn)).symm
  refine ⟨by kernel_rfl, fun j t ht => ?_⟩
  rw [Tryz.params3] at ht
  have h : t = 22 ∨ t = 23 := by have := Array.mem_of_getElem? ht; simpa using this
  rcases h with rfl | rfl
  · exact (show Tryz.prog.wantsStandIn 22 = false by kernel_rfl)
  · exact (show Tryz.prog.wantsStandIn 23 = false by kernel_rfl)

theorem allBetween : Rows.AllBetweenCardSaid :=
  Claim7.holds_tied_plain_at .later [] _ _ _ _ said (fun _ h => by cases h) (by kernel_rfl) (fun _ h => by cases h) allBetween_row_tie rfl ⟨rfl, rfl⟩ (by kernel_rfl) rfl plain (by kernel_rfl)

#print axioms allBetween
end Go.Proofs.YtpaebiddgpjlnaaGreatDoor
