/-
  The closed facts of the statement; the statement of its row.
-/
import Derived.Test.YtpaebiddgpjlnabGreatDoorSqtF
import Derived.OpenShut

/-
  Quote writes any text as the reference does: the row's statement.
-/
namespace Go.Proofs.YtpaebiddgpjlnabGreatDoor
open Go.ChangeShapes Go.WideShapes Go.ChangeAt Go.RowKit

/-- the program, as the claim has it -/
noncomputable abbrev PP : Program := Tryz.pinned.checked.prog
theorem kInp : (Rows.substQuotesRow.inPlace == PP.inPlace 3) = true := by kernel_rfl
theorem kUnf : (Rows.substQuotesRow.unfollowed == PP.unfollowed 3) = true := by kernel_rfl
theorem kRec : (Rows.substQuotesRow.recurses == PP.recurses 3) = true := by kernel_rfl
theorem kNam : (Rows.substQuotesRow.named == PP.varsNamed 3) = true := by kernel_rfl
theorem kKey : (Rows.substQuotesRow.plainKeys == PP.plainKeys) = true := by kernel_rfl
theorem kHrd : PP.stopsHeard = true := by kernel_rfl
theorem kMay : PP.mayEnter = true := by kernel_rfl
theorem kLif : (Rows.substQuotesRow.lifted == PP.liftsFinal) = true := by kernel_rfl
theorem kLai : laidOutB PP = true := by kernel_rfl
theorem kMap : mapsRowed PP = true := by kernel_rfl

theorem closed : joinedFacts PP 3 Tryz.f3 (OpenSpec.ofChange Rows.substQuotesSpec).bare Rows.substQuotesRow = true := by
  unfold joinedFacts
  rw [kInp, kUnf, kRec, kNam, kKey, kHrd, kMay, kLif, kLai, kMap]
  kernel_rfl

theorem said : Rows.SubstQuotesSaid :=
  OpenClaim.holds_of_cond 3 Tryz.f3 rfl rfl rfl rfl rfl rfl rfl ⟨rfl, rfl, rfl, rfl, rfl⟩ rfl rfl rfl rfl rfl (by kernel_rfl) Tryz.func3 closed
    (of_decide_eq_true (by kernel_rfl)) (by unfold Func.isWrapper; first | (rw [if_pos (by decide +kernel)]; kernel_rfl) | (rw [if_neg (by decide +kernel)]; exact ⟨rfl, rfl⟩))
    (fun os started H enc _ F => by rw [OpenClaim.pre_eq_preRow]; exact lifted os started H enc F)

end Go.Proofs.YtpaebiddgpjlnabGreatDoor
