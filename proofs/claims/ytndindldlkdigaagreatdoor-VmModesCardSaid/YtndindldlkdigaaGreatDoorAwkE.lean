/-
  The seat of laws is awake.
-/
import Derived.Test.YtndindldlkdigaaGreatDoorAwkA
import Derived.Test.YtndindldlkdigaaGreatDoorAwkB
import Derived.Test.YtndindldlkdigaaGreatDoorAwkC
import Derived.Test.YtndindldlkdigaaGreatDoorAwkD
import Derived.Test.YtndindldlkdigaaGreatDoorVmpB

namespace Go.Vmm
open Go Go.Am Go.Proofs

/-- the seat's awake() -/
theorem awake (b : Bar) : callF T 599 b 4 [] ⟨[], [], []⟩ = some (.ret (.bool true), ⟨[], [], []⟩) := by
  apply OkF.ret
  (apply f_wp rfl rfl; (repeat (first | exact Shape.nil | (apply Shape.cons; conv => lhs; whnf))))
  refine qqV ?_
  refine qV ?_
  refine o_call (l := [.str [40, 97, 43, 41, 40, 98, 41, 63], .agg (xa [97, 97, 99] 0)]) rfl rfl (awA _) ?_
  refine o_alloc rfl ?_
  refine o_st (l := ra) rfl rfl rfl rfl (getCells_new _ _ 0) rfl (lets_nil (blt_no (Nat.zero_le _)) rfl) (cs' := ra) rfl ?_
  rw [push_put]
  refine eV ?_
  refine qV ?_
  refine o_call (l := [.str [97, 43, 40, 42, 67, 79, 77, 77, 73, 84, 41, 98], .agg (xa [97, 97, 99] 0)]) rfl rfl (awB _) ?_
  refine o_alloc rfl ?_
  refine o_st (l := rb) rfl rfl rfl rfl (getCells_new _ _ 0) rfl (lets_nil (blt_no (Nat.zero_le _)) rfl) (cs' := rb) rfl ?_
  rw [push_put]
  refine eV ?_
  refine qV ?_
  refine o_call (l := [.str [97, 40, 63, 61, 98, 41], .agg (xa [97] 8192)]) rfl rfl (awC _) ?_
  refine o_alloc rfl ?_
  refine o_st (l := rc) rfl rfl rfl rfl (getCells_new _ _ 0) rfl (lets_nil (blt_no (Nat.zero_le _)) rfl) (cs' := rc) rfl ?_
  rw [push_put]
  refine eV ?_
  refine qV ?_
  refine o_call (l := [.str [40, 63, 40, 82, 41, 98, 124, 97, 40, 63, 82, 41, 63, 41], .agg (xa [97, 98] 0)]) rfl rfl (awD _) ?_
  refine o_alloc rfl ?_
  refine o_st (l := rd) rfl rfl rfl rfl (getCells_new _ _ 0) rfl (lets_nil (blt_no (Nat.zero_le _)) rfl) (cs' := rd) rfl ?_
  rw [push_put]
  refine eV ?_
  change OkC _ _ _ _ ⟨[(0, .bool false), (1, .ptr 0 0 0), (2, .ptr 1 0 0), (3, .ptr 2 0 0), (4, .ptr 3 0 0)], [], .off⟩ ⟨[.cells ra 0, .cells rb 0, .cells rc 0, .cells rd 0], [], []⟩ _
  have h0 : getCells (⟨[.cells ra 0, .cells rb 0, .cells rc 0, .cells rd 0], [], []⟩ : Sg).heap 0 0 = some ra := rfl
  have h1 : getCells (⟨[.cells ra 0, .cells rb 0, .cells rc 0, .cells rd 0], [], []⟩ : Sg).heap 1 0 = some rb := rfl
  have h2 : getCells (⟨[.cells ra 0, .cells rb 0, .cells rc 0, .cells rd 0], [], []⟩ : Sg).heap 2 0 = some rc := rfl
  have h3 : getCells (⟨[.cells ra 0, .cells rb 0, .cells rc 0, .cells rd 0], [], []⟩ : Sg).heap 3 0 = some rd := rfl
  generalize (⟨[.cells ra 0, .cells rb 0, .cells rc 0, .cells rd 0], [], []⟩ : Sg) = s4 at h0 h1 h2 h3 ⊢
  refine qV ?_
  refine o_ixvec (j := 0) (v := .agg [.int .i64 0, .int .i64 2]) rfl rfl rfl rfl rfl rfl ?_
  refine sV ?_
  refine o_ixvec (j := 2) (v := .agg [.int .i64 (-1), .int .i64 (-1)]) rfl rfl rfl rfl rfl rfl ?_
  refine sV ?_
  refine o_ixvec (j := 0) (v := .agg [.int .i64 0, .int .i64 2]) rfl rfl rfl rfl rfl rfl ?_
  refine sV ?_
  refine eV ?_
  refine c_ret ?_
  exact fin_ret (.inl rfl) (read_tmp rfl read_nil) (leave_pure rfl rfl) ⟨rfl, rfl⟩

end Go.Vmm
