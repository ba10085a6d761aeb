/-
  Of MatchLeft: what the functions that the law reaches come to.
-/
import Derived.Test.YtndindldlkdigabGreatDoorMlhD
import Derived.Test.YtndindldlkdigabGreatDoorMlhB

namespace Go.Vmm
open Go Go.Am Go.Proofs

def fra : List AV := [(.int .i64 1), (.vec [(.agg [(.int .i64 1), (.int .i64 3)])] (.exact true)), (.str [])]
def frb : List AV := [(.int .i64 1), (.vec [(.agg [(.int .i64 2), (.int .i64 3)])] (.exact true)), (.str [])]
def frc : List AV := [(.int .i64 2), (.vec [(.agg [(.int .i64 1), (.int .i64 3)])] (.exact true)), (.str [])]
def hq : List AObj := hqc0 ++ [.cells qccore 0]
theorem mtra (b : Bar) : callF T 597 b 6 [qam, .vec (bs [97, 98, 98, 97]) (.exact false), .int .i64 0, .int .i64 0, .nilsl, .agg [.int .i64 0, .int .i64 0, .int .i64 0]] ⟨hq, [1, 1], [], glT⟩ = some (.ret (.tup [.agg fra, .int .i64 0, .int .i64 0]), ⟨hq, [1, 1], [], glT⟩) := by kernel_rfl
theorem mtrb (b : Bar) : callF T 597 b 6 [qbm, .vec (bs [97, 97, 99]) (.exact false), .int .i64 0, .int .i64 0, .nilsl, .agg [.int .i64 0, .int .i64 0, .int .i64 0]] ⟨(hq ++ [.cells fra 0]), [1, 1], [], glT⟩ = some (.ret (.tup [.agg frb, .int .i64 0, .int .i64 0]), ⟨(hq ++ [.cells fra 0]), [1, 1], [], glT⟩) := by kernel_rfl
theorem mtrc (b : Bar) : callF T 597 b 6 [qcm, .vec (bs [120, 97, 98]) (.exact false), .int .i64 4096, .int .i64 0, .nilsl, .agg [.int .i64 0, .int .i64 0, .int .i64 0]] ⟨((hq ++ [.cells fra 0]) ++ [.cells frb 0]), [1, 1], [], glT⟩ = some (.ret (.tup [.agg frc, .int .i64 0, .int .i64 0]), ⟨((hq ++ [.cells fra 0]) ++ [.cells frb 0]), [1, 1], [], glT⟩) := by kernel_rfl

end Go.Vmm

namespace Go.Vmm
open Go Go.Am Go.Proofs

def hr : List AObj := hq ++ [.cells fra 0]
def hs : List AObj := hr ++ [.cells frb 0]
def ht : List AObj := hs ++ [.cells frc 0]
theorem ht10 : getCells ht 325 0 = some fra := by kernel_rfl
theorem ht13 : getCells ht 326 0 = some frb := by kernel_rfl
theorem ht16 : getCells ht 327 0 = some frc := by kernel_rfl
theorem hql : hq.length = 325 := by kernel_rfl
theorem hrl : hr.length = 326 := by kernel_rfl
theorem hsl : hs.length = 327 := by kernel_rfl

/-- the seat's awake() -/
theorem awake (b : Bar) : callF T 598 b 4 [] ⟨[], [], [], glT⟩ = some (.ret (.bool true), ⟨[], [], [], glT⟩) := by
  apply OkF.ret
  (apply f_wp rfl rfl; (repeat (first | exact Shape.nil | (apply Shape.cons; conv => lhs; whnf))))
  refine qqV ?_
  refine qV ?_
  refine o_call (l := [.vec (bs [98, 43]) (.exact false), .int .i64 0]) rfl rfl mdqa ?_
  refine sV ?_
  refine o_alloc rfl ?_
  refine o_st (l := qacore) rfl rfl rfl rfl (getCells_new _ _ 0) rfl (lets_nil (blt_no (Nat.zero_le _)) rfl) (cs' := qacore) rfl ?_
  rw [push_put]
  refine sV ?_
  refine eV ?_
  change OkC _ _ bz _ _ ⟨baqb, [], [], glT⟩ _
  refine qV ?_
  refine o_call (l := [.vec (bs [97, 40, 42, 83, 75, 73, 80, 41, 98, 124, 46]) (.exact false), .int .i64 0]) rfl rfl mdqb ?_
  refine sV ?_
  refine o_alloc rfl ?_
  refine o_st (l := qbcore) rfl rfl rfl rfl (getCells_new _ _ 0) rfl (lets_nil (blt_no (Nat.zero_le _)) rfl) (cs' := qbcore) rfl ?_
  rw [push_put]
  refine sV ?_
  refine eV ?_
  change OkC _ _ bz _ _ ⟨baqc, [1, 1], [], glT⟩ _
  refine qV ?_
  refine o_call (l := [.vec (bs [97, 98, 99]) (.exact false), .int .i64 0]) rfl rfl mdqc ?_
  refine sV ?_
  refine o_alloc rfl ?_
  refine o_st (l := qccore) rfl rfl rfl rfl (getCells_new _ _ 0) rfl (lets_nil (blt_no (Nat.zero_le _)) rfl) (cs' := qccore) rfl ?_
  rw [push_put]
  refine sV ?_
  refine eV ?_
  change OkC _ _ bz _ _ ⟨hq, [1, 1], [], glT⟩ _
  refine qqV ?_
  refine lV ?_
  refine c_skip ?_
  refine qV ?_
  refine o_call (l := [qam, .vec (bs [97, 98, 98, 97]) (.exact false), .int .i64 0, .int .i64 0, .nilsl, .agg [.int .i64 0, .int .i64 0, .int .i64 0]]) rfl rfl (mtra _) ?_
  refine sV ?_
  refine o_alloc rfl ?_
  refine o_st (l := fra) rfl rfl rfl rfl (getCells_new _ _ 0) rfl (lets_nil (blt_no (Nat.zero_le _)) rfl) (cs' := fra) rfl ?_
  rw [push_put]
  refine sV ?_
  refine eV ?_
  change OkC _ _ bz _ ⟨[(0, .bool false), (3, .bool true), (6, .bool true), (9, .bool true), (49, .bool false), (2, qam), (5, qbm), (8, qcm), (11, .int .i64 0), (10, .ptr hq.length 0 0), (14, .undef), (13, .undef), (17, .undef), (16, .undef)], [], .off⟩ ⟨hr, [1, 1], [], glT⟩ _
  rw [hql]
  refine qV ?_
  refine o_call (l := [qbm, .vec (bs [97, 97, 99]) (.exact false), .int .i64 0, .int .i64 0, .nilsl, .agg [.int .i64 0, .int .i64 0, .int .i64 0]]) rfl rfl (mtrb _) ?_
  refine sV ?_
  refine o_alloc rfl ?_
  refine o_st (l := frb) rfl rfl rfl rfl (getCells_new _ _ 0) rfl (lets_nil (blt_no (Nat.zero_le _)) rfl) (cs' := frb) rfl ?_
  rw [push_put]
  refine sV ?_
  refine eV ?_
  change OkC _ _ bz _ ⟨[(0, .bool false), (3, .bool true), (6, .bool true), (9, .bool true), (49, .bool false), (2, qam), (5, qbm), (8, qcm), (11, .int .i64 0), (10, .ptr 325 0 0), (14, .int .i64 0), (13, .ptr hr.length 0 0), (17, .undef), (16, .undef)], [], .off⟩ ⟨hs, [1, 1], [], glT⟩ _
  rw [hrl]
  refine qV ?_
  refine o_call (l := [qcm, .vec (bs [120, 97, 98]) (.exact false), .int .i64 4096, .int .i64 0, .nilsl, .agg [.int .i64 0, .int .i64 0, .int .i64 0]]) rfl rfl (mtrc _) ?_
  refine sV ?_
  refine o_alloc rfl ?_
  refine o_st (l := frc) rfl rfl rfl rfl (getCells_new _ _ 0) rfl (lets_nil (blt_no (Nat.zero_le _)) rfl) (cs' := frc) rfl ?_
  rw [push_put]
  refine sV ?_
  refine eV ?_
  change OkC _ _ bz _ ⟨[(0, .bool false), (3, .bool true), (6, .bool true), (9, .bool true), (49, .bool false), (2, qam), (5, qbm), (8, qcm), (11, .int .i64 0), (10, .ptr 325 0 0), (14, .int .i64 0), (13, .ptr 326 0 0), (17, .int .i64 0), (16, .ptr hs.length 0 0)], [], .off⟩ ⟨ht, [1, 1], [], glT⟩ _
  rw [hsl]
  have h0 : getCells (⟨ht, [1, 1], [], glT⟩ : Sg).heap 325 0 = some fra := ht10
  have h1 : getCells (⟨ht, [1, 1], [], glT⟩ : Sg).heap 326 0 = some frb := ht13
  have h2 : getCells (⟨ht, [1, 1], [], glT⟩ : Sg).heap 327 0 = some frc := ht16
  have hgl : (⟨ht, [1, 1], [], glT⟩ : Sg).gl = glT := rfl
  generalize (⟨ht, [1, 1], [], glT⟩ : Sg) = s4 at h0 h1 h2 hgl ⊢
  refine qV ?_
  refine o_ixvec (j := 0) (v := .agg [.int .i64 1, .int .i64 3]) rfl rfl rfl rfl rfl rfl ?_
  refine sV ?_
  refine o_ixvec (j := 0) (v := .agg [.int .i64 2, .int .i64 3]) rfl rfl rfl rfl rfl rfl ?_
  refine sV ?_
  refine o_ixvec (j := 0) (v := .agg [.int .i64 1, .int .i64 3]) rfl rfl rfl rfl rfl rfl ?_
  refine sV ?_
  refine eV ?_
  refine c_ret ?_
  exact fin_ret (.inl rfl) (read_tmp rfl read_nil) (leave_pure rfl rfl) ⟨rfl, by simp⟩

end Go.Vmm
