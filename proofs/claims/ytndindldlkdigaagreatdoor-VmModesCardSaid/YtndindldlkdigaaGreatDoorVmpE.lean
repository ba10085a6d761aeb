/-
  What the law comes to.
-/
import Derived.Test.YtndindldlkdigaaGreatDoorVmpC
import Derived.Test.YtndindldlkdigaaGreatDoorAwkE
import Derived.Test.YtndindldlkdigaaGreatDoorVmpD

namespace Go.Vmm
open Go Go.Am Go.Proofs

/-- the loop 0 of function 3 -/
def lp3_0 : ACode := .seq (.seq (.region [⟨(some 37), .v (.move (.tmp 7)), none⟩, ⟨(some 38), .v (.move (.tmp 0)), none⟩, ⟨(some 39), .v (.bin .lss (.tmp 37) (.tmp 38)), none⟩] [39]) (.cond (.tmp 39) (.skip) (.exit 0))) (.seq (.block 1 (.region [⟨(some 42), .v (.move (.tmp 6)), none⟩, ⟨(some 43), .v (.bin .add (.tmp 42) (.const (.str [97]))), none⟩, ⟨(some 6), .v (.move (.tmp 43)), none⟩] [6])) (.region [⟨(some 40), .v (.move (.tmp 7)), none⟩, ⟨(some 41), .v (.bin .add (.tmp 40) (.const (.int .i64 1))), none⟩, ⟨(some 7), .v (.move (.tmp 41)), none⟩] [7]))

/-- an end, as an attempt's outcome has it -/
def endOf (r : Option Nat) (tk : Int) : List AV := match r with | some n => es8 1 (spansOf n) tk | none => es8 2 .nilsl tk
theorem endOf_st (r : Option Nat) (tk : Int) : (AV.agg (endOf r tk)).stored = some (endOf r tk) := by cases r <;> rfl
theorem endOf_len (r : Option Nat) (tk : Int) : Nat.beq (endOf r tk).length 8 = true := by cases r <;> rfl
theorem endOf_wr (r : Option Nat) (tk : Int) : writeAt (es8 0 .nilsl 0) 0 (endOf r tk) = some (endOf r tk) := by cases r <;> rfl
theorem endOf_all (r : Option Nat) (tk : Int) : partOf (endOf r tk) 0 (some 8) = some (.agg (endOf r tk)) := by cases r <;> rfl
theorem endOf_lay (h : List AObj) (b : Nat) (r : Option Nat) (tk : Int) : lay h b [.agg (endOf r tk)] [⟨4, some (some 8), none, true⟩] = some [.agg (endOf r tk)] := by cases r <;> rfl
theorem endOf_old (n : Nat) (r : Option Nat) (tk : Int) : AV.oldAll n [.agg (endOf r tk)] = true := by cases r <;> rfl
theorem endOf_oldA (n : Nat) (r : Option Nat) (tk : Int) : (AObj.cells (endOf r tk) 0).old n = true := by cases r <;> rfl

abbrev aas (n : Nat) : List UInt8 := List.replicate n 97

theorem aas_succ (n : Nat) : aas n ++ [97] = aas (n + 1) := by
  simp only [aas]
  rw [List.replicate_succ']

theorem many_aas (n : Nat) (hn : n ≤ 100) (tl : List UInt8) (ht : tl.length ≤ 2) (h : tl = [] ∨ ∃ c r, tl = c :: r ∧ (c.toNat : Int) ≠ 97) : Many (aas n ++ tl) n 97 := by
  refine ⟨by simp; omega, fun j hj => ⟨97, ?_, rfl⟩, ?_⟩
  · rw [List.getElem?_append_left (by simpa using hj)]
    simp [hj]
  · rcases h with rfl | ⟨c, r, rfl, hc⟩
    · exact .inl (by simp)
    · exact .inr ⟨c, by rw [List.getElem?_append_right (by simp)]; simp, hc⟩

/-- the loop that makes the text -/
theorem modes_loop (M : Nat) (b : Bar) (n : Nat) (mo : Int) (hn : n ≤ 100) (u1 u2 : AV) (s : Sg) (Q : Ex → Fr → Sg → Prop)
    (hend : ∀ u3, Q (.exit 0) ⟨[(0, .int .i64 n), (1, .int .i64 mo), (4, .bool false), (5, .bool true), (22, u1), (36, u2), (7, .int .i64 n), (39, u3), (6, .str (aas n)), (8, .undef), (9, .undef), (10, .undef), (11, .undef), (12, .undef), (13, .undef), (14, .undef), (15, .undef), (16, .undef), (17, .undef), (18, .undef), (19, .undef)], [], .off⟩ s) :
    ∀ d i, i + d = n → ∀ u3, OkL (d + 1) (fun fr s => ACode.run (loopN M) (callF T M) b lp3_0 fr s) ⟨[(0, .int .i64 n), (1, .int .i64 mo), (4, .bool false), (5, .bool true), (22, u1), (36, u2), (7, .int .i64 i), (39, u3), (6, .str (aas i)), (8, .undef), (9, .undef), (10, .undef), (11, .undef), (12, .undef), (13, .undef), (14, .undef), (15, .undef), (16, .undef), (17, .undef), (18, .undef), (19, .undef)], [], .off⟩ s Q := by
  intro d
  induction d with
  | zero =>
    intro i hi u3
    obtain rfl : i = n := by omega
    refine l_round ?_
    refine qqV ?_
    refine lV ?_
    exact c_exit (hend _)
  | succ d ih =>
    intro i hi u3
    have hli : (aas i).length = i := by simp
    have hl1 : ([97] : List UInt8).length = 1 := rfl
    refine l_round ?_
    refine qqV ?_
    refine iV ?_
    refine c_skip ?_
    refine c_seq ?_
    refine bV ?_
    refine qqV ?_
    refine qqV ?_
    rw [aas_succ]
    exact ih (i + 1) (by omega) _

end Go.Vmm

namespace Go.Vmm
open Go Go.Am Go.Proofs

theorem num97 : evConv (.fltInt .i64) (.flt .f64 4636526185122103296) = some (.int .i64 97) := by kernel_rfl
theorem num98 : evConv (.fltInt .i64) (.flt .f64 4636596553866280960) = some (.int .i64 98) := by kernel_rfl
theorem old_xs (n : Nat) (t : List UInt8) : (AObj.cells (xs (.vec (Am.byteCells t) .shut)) 0).old n = true := by
  simp only [AObj.old, xs, AV.oldAll, AV.old, oldAll_bytes, Bool.and_self]

def pg1 : PG := { cs := pcs1, ins := [i0, ⟨21, 0, 0, 0, 0, false⟩, ⟨22, 0, -1, 5, 0, false⟩, ⟨1, 0, 0, 0, 0, false⟩, ⟨20, 2, 0, 0, 0, false⟩, ⟨23, 0, 0, 0, 0, false⟩], pool := [set1 4636526185122103296], ext := [] }
theorem oldn1 : allOld 34 new1 = true := by kernel_rfl
theorem oldc1 : (AObj.cells core1 0).old 34 = true := by kernel_rfl

theorem ran1 (b : Bar) (v1 : AObj) (h1 : ∀ n, v1.old n = true) (t : List UInt8) (n : Nat) (ht : Many t n 97) (hn : n ≤ 100) :
    OkF (callF T 599 b 5 [.str [97, 42], .agg (xs (.vec (Am.byteCells t) .shut))] ⟨[v1], [], []⟩) fun o s' => s' = ⟨[v1], [], []⟩ ∧ ∃ tk, o = .ret (.agg (endOf (some n) tk)) := by
  have hold : allOld 34 ([v1, .cells (xs (.vec (Am.byteCells t) .shut)) 0, .cells (es8 0 .nilsl 0) 0, .cells core1 0] ++ new1) = true := by
    show (v1.old 34 && ((AObj.cells (xs (.vec (Am.byteCells t) .shut)) 0).old 34 && ((AObj.cells (es8 0 .nilsl 0) 0).old 34 && ((AObj.cells core1 0).old 34 && (allOld 34 new1))))) = true
    rw [h1, old_xs, oldc1, oldn1]
    rfl
  have hrun : OkF (callF T 598 { w := 1, t := 0, es := [] } 8 [.ptr ip1 0 0, .agg (xs (.vec (Am.byteCells t) .shut))] ⟨[v1, .cells (xs (.vec (Am.byteCells t) .shut)) 0, .cells (es8 0 .nilsl 0) 0, .cells core1 0] ++ new1, [], []⟩) (fun o s' => s' = ⟨[v1, .cells (xs (.vec (Am.byteCells t) .shut)) 0, .cells (es8 0 .nilsl 0) 0, .cells core1 0] ++ new1, [], []⟩ ∧ ∃ tk, o = .ret (.agg (endOf (some n) tk))) := vmrun_spec (3 * n + 1 + 2 + 1) 588 { w := 1, t := 0, es := [] } ip1 pg1 t 2 ⟨[v1, .cells (xs (.vec (Am.byteCells t) .shut)) 0, .cells (es8 0 .nilsl 0) 0, .cells core1 0] ++ new1, [], []⟩ (some n) (Nat.le_of_ble_eq_true (by kernel_rfl)) ⟨by kernel_rfl, by kernel_rfl, by kernel_rfl⟩ ⟨⟨13, 5, by kernel_rfl, Nat.le_of_ble_eq_true (by kernel_rfl), by kernel_rfl⟩, ⟨27, 0, by kernel_rfl, Nat.le_of_ble_eq_true (by kernel_rfl), by kernel_rfl⟩⟩ (by kernel_rfl) (by omega) (by omega) hold ht.len (by omega) (fun b' im q ri oi l ko s' ext hw hes hB a1 a2 a3 a4 a5 a6 a7 a8 => run_star 588 b' im ip1 q _ ri oi l ko t n 4636526185122103296 97 s' a1 a2 a3 a4 a5 a6 a7 a8 hw hes rfl ⟨rfl, num97⟩ ht hB)
  (apply f_wp rfl rfl; (repeat (first | exact Shape.nil | (apply Shape.cons; conv => lhs; whnf))))
  refine qV ?_
  refine o_box (v := .agg (xs (.vec (Am.byteCells t) .shut))) (l := xs (.vec (Am.byteCells t) .shut)) rfl rfl rfl ?_
  refine o_alloc rfl ?_
  refine eV ?_
  change OkC _ _ { w := 1, t := 0, es := [] } _ _ ⟨[v1, .cells (xs (.vec (Am.byteCells t) .shut)) 0, .cells (es8 0 .nilsl 0) 0], [], []⟩ _
  refine qV ?_
  refine o_call (l := [.vec (Am.byteCells [97, 42]) .shut, .int .i64 0]) rfl rfl (bld1 _ v1 (.cells (xs (.vec (Am.byteCells t) .shut)) 0) (.cells (es8 0 .nilsl 0) 0)) ?_
  refine sV ?_
  refine o_alloc rfl ?_
  refine o_st (l := core1) rfl rfl rfl rfl (getCells_new _ _ 0) rfl (lets_nil (blt_no (Nat.le_of_ble_eq_true rfl)) rfl) (cs' := core1) rfl ?_
  rw [push_put]
  refine sV ?_
  refine eV ?_
  change OkC _ _ { w := 1, t := 0, es := [] } _ _ ⟨[v1, .cells (xs (.vec (Am.byteCells t) .shut)) 0, .cells (es8 0 .nilsl 0) 0, .cells core1 0], [], []⟩ _
  have hC : getCells (⟨[v1, .cells (xs (.vec (Am.byteCells t) .shut)) 0, .cells (es8 0 .nilsl 0) 0, .cells core1 0], [], []⟩ : Sg).heap 3 0 = some core1 := rfl
  refine qV ?_
  refine o_call (l := [.agg core1]) rfl rfl (cmp1 _ rfl v1 (.cells (xs (.vec (Am.byteCells t) .shut)) 0) (.cells (es8 0 .nilsl 0) 0) (.cells core1 0)) ?_
  refine sV ?_
  refine eV ?_
  refine c_seq ?_
  refine qqV ?_
  refine lV ?_
  refine c_skip ?_
  have hX : getCells (⟨[v1, .cells (xs (.vec (Am.byteCells t) .shut)) 0, .cells (es8 0 .nilsl 0) 0, .cells core1 0] ++ new1, [], []⟩ : Sg).heap 1 0 = some (xs (.vec (Am.byteCells t) .shut)) := rfl
  have hE : getCells (⟨[v1, .cells (xs (.vec (Am.byteCells t) .shut)) 0, .cells (es8 0 .nilsl 0) 0, .cells core1 0] ++ new1, [], []⟩ : Sg).heap 2 0 = some (es8 0 .nilsl 0) := rfl
  generalize (⟨[v1, .cells (xs (.vec (Am.byteCells t) .shut)) 0, .cells (es8 0 .nilsl 0) 0, .cells core1 0] ++ new1, [], []⟩ : Sg) = s5 at hrun hX hE ⊢
  refine c_seq ?_
  refine qV ?_
  refine o_callw (l := [.ptr ip1 0 0, .agg (xs (.vec (Am.byteCells t) .shut))]) rfl rfl (hrun.mono ?_)
  rintro _ s6 ⟨rfl, tk, rfl⟩
  refine o_st (i := 2) (g' := 0) (off := 0) (l := endOf (some n) tk) rfl rfl rfl (endOf_st (some n) tk) hE (endOf_len (some n) tk) (lets_nil (blt_no (Nat.le_of_ble_eq_true rfl)) rfl) (endOf_wr (some n) tk) ?_
  refine eV ?_
  refine c_ret ?_
  exact fin_ret (.inl rfl) (read_cell (i := 2) (g := 0) (off := 0) rfl (getCells_put hE) (endOf_all ..) read_nil) (leave_pure (endOf_lay ..) (endOf_old ..)) ⟨rfl, tk, rfl⟩

def pg2 : PG := { cs := pcs2, ins := [i0, ⟨21, 0, 0, 0, 0, false⟩, ⟨22, 0, -1, 5, 0, true⟩, ⟨1, 0, 0, 0, 0, false⟩, ⟨20, 2, 0, 0, 0, false⟩, ⟨23, 0, 0, 0, 0, false⟩], pool := [set1 4636526185122103296], ext := [] }
theorem oldn2 : allOld 35 new2 = true := by kernel_rfl
theorem oldc2 : (AObj.cells core2 0).old 35 = true := by kernel_rfl

theorem ran2 (b : Bar) (v1 v2 : AObj) (h1 : ∀ n, v1.old n = true) (h2 : ∀ n, v2.old n = true) (t : List UInt8) (n : Nat) (ht : Many t n 97) (hn : n ≤ 100) :
    OkF (callF T 599 b 5 [.str [97, 42, 63], .agg (xs (.vec (Am.byteCells t) .shut))] ⟨[v1, v2], [], []⟩) fun o s' => s' = ⟨[v1, v2], [], []⟩ ∧ ∃ tk, o = .ret (.agg (endOf (some 0) tk)) := by
  have hold : allOld 35 ([v1, v2, .cells (xs (.vec (Am.byteCells t) .shut)) 0, .cells (es8 0 .nilsl 0) 0, .cells core2 0] ++ new2) = true := by
    show (v1.old 35 && (v2.old 35 && ((AObj.cells (xs (.vec (Am.byteCells t) .shut)) 0).old 35 && ((AObj.cells (es8 0 .nilsl 0) 0).old 35 && ((AObj.cells core2 0).old 35 && (allOld 35 new2)))))) = true
    rw [h1, h2, old_xs, oldc2, oldn2]
    rfl
  have hrun : OkF (callF T 598 { w := 2, t := 0, es := [] } 8 [.ptr ip2 0 0, .agg (xs (.vec (Am.byteCells t) .shut))] ⟨[v1, v2, .cells (xs (.vec (Am.byteCells t) .shut)) 0, .cells (es8 0 .nilsl 0) 0, .cells core2 0] ++ new2, [], []⟩) (fun o s' => s' = ⟨[v1, v2, .cells (xs (.vec (Am.byteCells t) .shut)) 0, .cells (es8 0 .nilsl 0) 0, .cells core2 0] ++ new2, [], []⟩ ∧ ∃ tk, o = .ret (.agg (endOf (some 0) tk))) := vmrun_spec (1 + 1 + 1) 588 { w := 2, t := 0, es := [] } ip2 pg2 t 2 ⟨[v1, v2, .cells (xs (.vec (Am.byteCells t) .shut)) 0, .cells (es8 0 .nilsl 0) 0, .cells core2 0] ++ new2, [], []⟩ (some 0) (Nat.le_of_ble_eq_true (by kernel_rfl)) ⟨by kernel_rfl, by kernel_rfl, by kernel_rfl⟩ ⟨⟨14, 5, by kernel_rfl, Nat.le_of_ble_eq_true (by kernel_rfl), by kernel_rfl⟩, ⟨28, 0, by kernel_rfl, Nat.le_of_ble_eq_true (by kernel_rfl), by kernel_rfl⟩⟩ (by kernel_rfl) (by omega) (by omega) hold ht.len (by omega) (fun b' im q ri oi l ko s' ext hw hes hB a1 a2 a3 a4 a5 a6 a7 a8 => run_lazy 588 b' im ip2 q _ ri oi l ko t s' a1 a2 a3 a4 a5 a6 a7 a8 hw hes rfl hB)
  (apply f_wp rfl rfl; (repeat (first | exact Shape.nil | (apply Shape.cons; conv => lhs; whnf))))
  refine qV ?_
  refine o_box (v := .agg (xs (.vec (Am.byteCells t) .shut))) (l := xs (.vec (Am.byteCells t) .shut)) rfl rfl rfl ?_
  refine o_alloc rfl ?_
  refine eV ?_
  change OkC _ _ { w := 2, t := 0, es := [] } _ _ ⟨[v1, v2, .cells (xs (.vec (Am.byteCells t) .shut)) 0, .cells (es8 0 .nilsl 0) 0], [], []⟩ _
  refine qV ?_
  refine o_call (l := [.vec (Am.byteCells [97, 42, 63]) .shut, .int .i64 0]) rfl rfl (bld2 _ v1 v2 (.cells (xs (.vec (Am.byteCells t) .shut)) 0) (.cells (es8 0 .nilsl 0) 0)) ?_
  refine sV ?_
  refine o_alloc rfl ?_
  refine o_st (l := core2) rfl rfl rfl rfl (getCells_new _ _ 0) rfl (lets_nil (blt_no (Nat.le_of_ble_eq_true rfl)) rfl) (cs' := core2) rfl ?_
  rw [push_put]
  refine sV ?_
  refine eV ?_
  change OkC _ _ { w := 2, t := 0, es := [] } _ _ ⟨[v1, v2, .cells (xs (.vec (Am.byteCells t) .shut)) 0, .cells (es8 0 .nilsl 0) 0, .cells core2 0], [], []⟩ _
  have hC : getCells (⟨[v1, v2, .cells (xs (.vec (Am.byteCells t) .shut)) 0, .cells (es8 0 .nilsl 0) 0, .cells core2 0], [], []⟩ : Sg).heap 4 0 = some core2 := rfl
  refine qV ?_
  refine o_call (l := [.agg core2]) rfl rfl (cmp2 _ rfl v1 v2 (.cells (xs (.vec (Am.byteCells t) .shut)) 0) (.cells (es8 0 .nilsl 0) 0) (.cells core2 0)) ?_
  refine sV ?_
  refine eV ?_
  refine c_seq ?_
  refine qqV ?_
  refine lV ?_
  refine c_skip ?_
  have hX : getCells (⟨[v1, v2, .cells (xs (.vec (Am.byteCells t) .shut)) 0, .cells (es8 0 .nilsl 0) 0, .cells core2 0] ++ new2, [], []⟩ : Sg).heap 2 0 = some (xs (.vec (Am.byteCells t) .shut)) := rfl
  have hE : getCells (⟨[v1, v2, .cells (xs (.vec (Am.byteCells t) .shut)) 0, .cells (es8 0 .nilsl 0) 0, .cells core2 0] ++ new2, [], []⟩ : Sg).heap 3 0 = some (es8 0 .nilsl 0) := rfl
  generalize (⟨[v1, v2, .cells (xs (.vec (Am.byteCells t) .shut)) 0, .cells (es8 0 .nilsl 0) 0, .cells core2 0] ++ new2, [], []⟩ : Sg) = s5 at hrun hX hE ⊢
  refine c_seq ?_
  refine qV ?_
  refine o_callw (l := [.ptr ip2 0 0, .agg (xs (.vec (Am.byteCells t) .shut))]) rfl rfl (hrun.mono ?_)
  rintro _ s6 ⟨rfl, tk, rfl⟩
  refine o_st (i := 3) (g' := 0) (off := 0) (l := endOf (some 0) tk) rfl rfl rfl (endOf_st (some 0) tk) hE (endOf_len (some 0) tk) (lets_nil (blt_no (Nat.le_of_ble_eq_true rfl)) rfl) (endOf_wr (some 0) tk) ?_
  refine eV ?_
  refine c_ret ?_
  exact fin_ret (.inl rfl) (read_cell (i := 3) (g := 0) (off := 0) rfl (getCells_put hE) (endOf_all ..) read_nil) (leave_pure (endOf_lay ..) (endOf_old ..)) ⟨rfl, tk, rfl⟩

def pg3 : PG := { cs := pcs3, ins := [i0, ⟨21, 0, 0, 0, 0, false⟩, ⟨22, 0, -1, 5, 0, false⟩, ⟨1, 0, 0, 0, 0, false⟩, ⟨20, 2, 0, 0, 0, false⟩, ⟨1, 0, 0, 0, 0, false⟩, ⟨23, 0, 0, 0, 0, false⟩], pool := [set1 4636526185122103296], ext := [] }
theorem oldn3 : allOld 45 new3 = true := by kernel_rfl
theorem oldc3 : (AObj.cells core3 0).old 45 = true := by kernel_rfl

theorem ran3 (b : Bar) (v1 v2 v3 : AObj) (h1 : ∀ n, v1.old n = true) (h2 : ∀ n, v2.old n = true) (h3 : ∀ n, v3.old n = true) (t : List UInt8) (n : Nat) (ht : Many t n 97) (hn : n ≤ 100) :
    OkF (callF T 599 b 5 [.str [97, 42, 97], .agg (xs (.vec (Am.byteCells t) .shut))] ⟨[v1, v2, v3], [], []⟩) fun o s' => s' = ⟨[v1, v2, v3], [], []⟩ ∧ ∃ tk, o = .ret (.agg (endOf (if n = 0 then none else some n) tk)) := by
  have hold : allOld 45 ([v1, v2, v3, .cells (xs (.vec (Am.byteCells t) .shut)) 0, .cells (es8 0 .nilsl 0) 0, .cells core3 0] ++ new3) = true := by
    show (v1.old 45 && (v2.old 45 && (v3.old 45 && ((AObj.cells (xs (.vec (Am.byteCells t) .shut)) 0).old 45 && ((AObj.cells (es8 0 .nilsl 0) 0).old 45 && ((AObj.cells core3 0).old 45 && (allOld 45 new3))))))) = true
    rw [h1, h2, h3, old_xs, oldc3, oldn3]
    rfl
  have hrun : OkF (callF T 598 { w := 3, t := 0, es := [] } 8 [.ptr ip3 0 0, .agg (xs (.vec (Am.byteCells t) .shut))] ⟨[v1, v2, v3, .cells (xs (.vec (Am.byteCells t) .shut)) 0, .cells (es8 0 .nilsl 0) 0, .cells core3 0] ++ new3, [], []⟩) (fun o s' => s' = ⟨[v1, v2, v3, .cells (xs (.vec (Am.byteCells t) .shut)) 0, .cells (es8 0 .nilsl 0) 0, .cells core3 0] ++ new3, [], []⟩ ∧ ∃ tk, o = .ret (.agg (endOf (if n = 0 then none else some n) tk))) := vmrun_spec (3 * n + 3 + 2 + 1) 588 { w := 3, t := 0, es := [] } ip3 pg3 t 2 ⟨[v1, v2, v3, .cells (xs (.vec (Am.byteCells t) .shut)) 0, .cells (es8 0 .nilsl 0) 0, .cells core3 0] ++ new3, [], []⟩ (if n = 0 then none else some n) (Nat.le_of_ble_eq_true (by kernel_rfl)) ⟨by kernel_rfl, by kernel_rfl, by kernel_rfl⟩ ⟨⟨15, 6, by kernel_rfl, Nat.le_of_ble_eq_true (by kernel_rfl), by kernel_rfl⟩, ⟨32, 0, by kernel_rfl, Nat.le_of_ble_eq_true (by kernel_rfl), by kernel_rfl⟩⟩ (by kernel_rfl) (by omega) (by omega) hold ht.len (by omega) (fun b' im q ri oi l ko s' ext hw hes hB a1 a2 a3 a4 a5 a6 a7 a8 => run_back 588 b' im ip3 q _ ri oi l ko t n 4636526185122103296 97 s' a1 a2 a3 a4 a5 a6 a7 a8 hw hes rfl ⟨rfl, num97⟩ ht hB)
  (apply f_wp rfl rfl; (repeat (first | exact Shape.nil | (apply Shape.cons; conv => lhs; whnf))))
  refine qV ?_
  refine o_box (v := .agg (xs (.vec (Am.byteCells t) .shut))) (l := xs (.vec (Am.byteCells t) .shut)) rfl rfl rfl ?_
  refine o_alloc rfl ?_
  refine eV ?_
  change OkC _ _ { w := 3, t := 0, es := [] } _ _ ⟨[v1, v2, v3, .cells (xs (.vec (Am.byteCells t) .shut)) 0, .cells (es8 0 .nilsl 0) 0], [], []⟩ _
  refine qV ?_
  refine o_call (l := [.vec (Am.byteCells [97, 42, 97]) .shut, .int .i64 0]) rfl rfl (bld3 _ v1 v2 v3 (.cells (xs (.vec (Am.byteCells t) .shut)) 0) (.cells (es8 0 .nilsl 0) 0)) ?_
  refine sV ?_
  refine o_alloc rfl ?_
  refine o_st (l := core3) rfl rfl rfl rfl (getCells_new _ _ 0) rfl (lets_nil (blt_no (Nat.le_of_ble_eq_true rfl)) rfl) (cs' := core3) rfl ?_
  rw [push_put]
  refine sV ?_
  refine eV ?_
  change OkC _ _ { w := 3, t := 0, es := [] } _ _ ⟨[v1, v2, v3, .cells (xs (.vec (Am.byteCells t) .shut)) 0, .cells (es8 0 .nilsl 0) 0, .cells core3 0], [], []⟩ _
  have hC : getCells (⟨[v1, v2, v3, .cells (xs (.vec (Am.byteCells t) .shut)) 0, .cells (es8 0 .nilsl 0) 0, .cells core3 0], [], []⟩ : Sg).heap 5 0 = some core3 := rfl
  refine qV ?_
  refine o_call (l := [.agg core3]) rfl rfl (cmp3 _ rfl v1 v2 v3 (.cells (xs (.vec (Am.byteCells t) .shut)) 0) (.cells (es8 0 .nilsl 0) 0) (.cells core3 0)) ?_
  refine sV ?_
  refine eV ?_
  refine c_seq ?_
  refine qqV ?_
  refine lV ?_
  refine c_skip ?_
  have hX : getCells (⟨[v1, v2, v3, .cells (xs (.vec (Am.byteCells t) .shut)) 0, .cells (es8 0 .nilsl 0) 0, .cells core3 0] ++ new3, [], []⟩ : Sg).heap 3 0 = some (xs (.vec (Am.byteCells t) .shut)) := rfl
  have hE : getCells (⟨[v1, v2, v3, .cells (xs (.vec (Am.byteCells t) .shut)) 0, .cells (es8 0 .nilsl 0) 0, .cells core3 0] ++ new3, [], []⟩ : Sg).heap 4 0 = some (es8 0 .nilsl 0) := rfl
  generalize (⟨[v1, v2, v3, .cells (xs (.vec (Am.byteCells t) .shut)) 0, .cells (es8 0 .nilsl 0) 0, .cells core3 0] ++ new3, [], []⟩ : Sg) = s5 at hrun hX hE ⊢
  refine c_seq ?_
  refine qV ?_
  refine o_callw (l := [.ptr ip3 0 0, .agg (xs (.vec (Am.byteCells t) .shut))]) rfl rfl (hrun.mono ?_)
  rintro _ s6 ⟨rfl, tk, rfl⟩
  refine o_st (i := 4) (g' := 0) (off := 0) (l := endOf (if n = 0 then none else some n) tk) rfl rfl rfl (endOf_st (if n = 0 then none else some n) tk) hE (endOf_len (if n = 0 then none else some n) tk) (lets_nil (blt_no (Nat.le_of_ble_eq_true rfl)) rfl) (endOf_wr (if n = 0 then none else some n) tk) ?_
  refine eV ?_
  refine c_ret ?_
  exact fin_ret (.inl rfl) (read_cell (i := 4) (g := 0) (off := 0) rfl (getCells_put hE) (endOf_all ..) read_nil) (leave_pure (endOf_lay ..) (endOf_old ..)) ⟨rfl, tk, rfl⟩

def pg4 : PG := { cs := pcs4, ins := [i0, ⟨13, 0, 0, 0, 0, false⟩, ⟨21, 0, 0, 0, 1, false⟩, ⟨22, 0, -1, 6, 1, false⟩, ⟨1, 0, 0, 0, 0, false⟩, ⟨20, 3, 0, 0, 0, false⟩, ⟨14, 0, 0, 0, 0, false⟩, ⟨1, 0, 0, 0, 0, false⟩, ⟨23, 0, 0, 0, 0, false⟩], pool := [set1 4636526185122103296], ext := [] }
theorem oldn4 : allOld 52 new4 = true := by kernel_rfl
theorem oldc4 : (AObj.cells core4 0).old 52 = true := by kernel_rfl

theorem ran4 (b : Bar) (v1 v2 v3 v4 : AObj) (h1 : ∀ n, v1.old n = true) (h2 : ∀ n, v2.old n = true) (h3 : ∀ n, v3.old n = true) (h4 : ∀ n, v4.old n = true) (t : List UInt8) (n : Nat) (ht : Many t n 97) (hn : n ≤ 100) :
    OkF (callF T 599 b 5 [.str [97, 42, 43, 97], .agg (xs (.vec (Am.byteCells t) .shut))] ⟨[v1, v2, v3, v4], [], []⟩) fun o s' => s' = ⟨[v1, v2, v3, v4], [], []⟩ ∧ ∃ tk, o = .ret (.agg (endOf (none) tk)) := by
  have hold : allOld 52 ([v1, v2, v3, v4, .cells (xs (.vec (Am.byteCells t) .shut)) 0, .cells (es8 0 .nilsl 0) 0, .cells core4 0] ++ new4) = true := by
    show (v1.old 52 && (v2.old 52 && (v3.old 52 && (v4.old 52 && ((AObj.cells (xs (.vec (Am.byteCells t) .shut)) 0).old 52 && ((AObj.cells (es8 0 .nilsl 0) 0).old 52 && ((AObj.cells core4 0).old 52 && (allOld 52 new4)))))))) = true
    rw [h1, h2, h3, h4, old_xs, oldc4, oldn4]
    rfl
  have hrun : OkF (callF T 598 { w := 4, t := 0, es := [] } 8 [.ptr ip4 0 0, .agg (xs (.vec (Am.byteCells t) .shut))] ⟨[v1, v2, v3, v4, .cells (xs (.vec (Am.byteCells t) .shut)) 0, .cells (es8 0 .nilsl 0) 0, .cells core4 0] ++ new4, [], []⟩) (fun o s' => s' = ⟨[v1, v2, v3, v4, .cells (xs (.vec (Am.byteCells t) .shut)) 0, .cells (es8 0 .nilsl 0) 0, .cells core4 0] ++ new4, [], []⟩ ∧ ∃ tk, o = .ret (.agg (endOf (none) tk))) := vmrun_spec (3 * n + 2 + 2 + 1 + 1) 588 { w := 4, t := 0, es := [] } ip4 pg4 t 3 ⟨[v1, v2, v3, v4, .cells (xs (.vec (Am.byteCells t) .shut)) 0, .cells (es8 0 .nilsl 0) 0, .cells core4 0] ++ new4, [], []⟩ (none) (Nat.le_of_ble_eq_true (by kernel_rfl)) ⟨by kernel_rfl, by kernel_rfl, by kernel_rfl⟩ ⟨⟨16, 8, by kernel_rfl, Nat.le_of_ble_eq_true (by kernel_rfl), by kernel_rfl⟩, ⟨37, 0, by kernel_rfl, Nat.le_of_ble_eq_true (by kernel_rfl), by kernel_rfl⟩⟩ (by kernel_rfl) (by omega) (by omega) hold ht.len (by omega) (fun b' im q ri oi l ko s' ext hw hes hB a1 a2 a3 a4 a5 a6 a7 a8 => run_poss 588 b' im ip4 q _ ri oi l ko t n 4636526185122103296 97 s' a1 a2 a3 a4 a5 a6 a7 a8 hw hes rfl ⟨rfl, num97⟩ ht hB)
  (apply f_wp rfl rfl; (repeat (first | exact Shape.nil | (apply Shape.cons; conv => lhs; whnf))))
  refine qV ?_
  refine o_box (v := .agg (xs (.vec (Am.byteCells t) .shut))) (l := xs (.vec (Am.byteCells t) .shut)) rfl rfl rfl ?_
  refine o_alloc rfl ?_
  refine eV ?_
  change OkC _ _ { w := 4, t := 0, es := [] } _ _ ⟨[v1, v2, v3, v4, .cells (xs (.vec (Am.byteCells t) .shut)) 0, .cells (es8 0 .nilsl 0) 0], [], []⟩ _
  refine qV ?_
  refine o_call (l := [.vec (Am.byteCells [97, 42, 43, 97]) .shut, .int .i64 0]) rfl rfl (bld4 _ v1 v2 v3 v4 (.cells (xs (.vec (Am.byteCells t) .shut)) 0) (.cells (es8 0 .nilsl 0) 0)) ?_
  refine sV ?_
  refine o_alloc rfl ?_
  refine o_st (l := core4) rfl rfl rfl rfl (getCells_new _ _ 0) rfl (lets_nil (blt_no (Nat.le_of_ble_eq_true rfl)) rfl) (cs' := core4) rfl ?_
  rw [push_put]
  refine sV ?_
  refine eV ?_
  change OkC _ _ { w := 4, t := 0, es := [] } _ _ ⟨[v1, v2, v3, v4, .cells (xs (.vec (Am.byteCells t) .shut)) 0, .cells (es8 0 .nilsl 0) 0, .cells core4 0], [], []⟩ _
  have hC : getCells (⟨[v1, v2, v3, v4, .cells (xs (.vec (Am.byteCells t) .shut)) 0, .cells (es8 0 .nilsl 0) 0, .cells core4 0], [], []⟩ : Sg).heap 6 0 = some core4 := rfl
  refine qV ?_
  refine o_call (l := [.agg core4]) rfl rfl (cmp4 _ rfl v1 v2 v3 v4 (.cells (xs (.vec (Am.byteCells t) .shut)) 0) (.cells (es8 0 .nilsl 0) 0) (.cells core4 0)) ?_
  refine sV ?_
  refine eV ?_
  refine c_seq ?_
  refine qqV ?_
  refine lV ?_
  refine c_skip ?_
  have hX : getCells (⟨[v1, v2, v3, v4, .cells (xs (.vec (Am.byteCells t) .shut)) 0, .cells (es8 0 .nilsl 0) 0, .cells core4 0] ++ new4, [], []⟩ : Sg).heap 4 0 = some (xs (.vec (Am.byteCells t) .shut)) := rfl
  have hE : getCells (⟨[v1, v2, v3, v4, .cells (xs (.vec (Am.byteCells t) .shut)) 0, .cells (es8 0 .nilsl 0) 0, .cells core4 0] ++ new4, [], []⟩ : Sg).heap 5 0 = some (es8 0 .nilsl 0) := rfl
  generalize (⟨[v1, v2, v3, v4, .cells (xs (.vec (Am.byteCells t) .shut)) 0, .cells (es8 0 .nilsl 0) 0, .cells core4 0] ++ new4, [], []⟩ : Sg) = s5 at hrun hX hE ⊢
  refine c_seq ?_
  refine qV ?_
  refine o_callw (l := [.ptr ip4 0 0, .agg (xs (.vec (Am.byteCells t) .shut))]) rfl rfl (hrun.mono ?_)
  rintro _ s6 ⟨rfl, tk, rfl⟩
  refine o_st (i := 5) (g' := 0) (off := 0) (l := endOf (none) tk) rfl rfl rfl (endOf_st (none) tk) hE (endOf_len (none) tk) (lets_nil (blt_no (Nat.le_of_ble_eq_true rfl)) rfl) (endOf_wr (none) tk) ?_
  refine eV ?_
  refine c_ret ?_
  exact fin_ret (.inl rfl) (read_cell (i := 5) (g := 0) (off := 0) rfl (getCells_put hE) (endOf_all ..) read_nil) (leave_pure (endOf_lay ..) (endOf_old ..)) ⟨rfl, tk, rfl⟩

def pg5 : PG := { cs := pcs5, ins := [i0, ⟨21, 0, 0, 0, 0, false⟩, ⟨22, 0, -1, 5, 0, true⟩, ⟨1, 0, 0, 0, 0, false⟩, ⟨20, 2, 0, 0, 0, false⟩, ⟨1, 1, 0, 0, 0, false⟩, ⟨23, 0, 0, 0, 0, false⟩], pool := [set1 4636526185122103296, set1 4636596553866280960], ext := [] }
theorem oldn5 : allOld 48 new5 = true := by kernel_rfl
theorem oldc5 : (AObj.cells core5 0).old 48 = true := by kernel_rfl

theorem ran5 (b : Bar) (v1 v2 v3 v4 v5 : AObj) (h1 : ∀ n, v1.old n = true) (h2 : ∀ n, v2.old n = true) (h3 : ∀ n, v3.old n = true) (h4 : ∀ n, v4.old n = true) (h5 : ∀ n, v5.old n = true) (t : List UInt8) (n : Nat) (ht : Many t n 97) (hn : n ≤ 100) (ends : Bool) (he : if ends then ∃ c, t[n]? = some c ∧ (c.toNat : Int) = 98 else (n = t.length ∨ ∃ c, t[n]? = some c ∧ (c.toNat : Int) ≠ 98)) :
    OkF (callF T 599 b 5 [.str [97, 42, 63, 98], .agg (xs (.vec (Am.byteCells t) .shut))] ⟨[v1, v2, v3, v4, v5], [], []⟩) fun o s' => s' = ⟨[v1, v2, v3, v4, v5], [], []⟩ ∧ ∃ tk, o = .ret (.agg (endOf (if ends then some (n + 1) else none) tk)) := by
  have hold : allOld 48 ([v1, v2, v3, v4, v5, .cells (xs (.vec (Am.byteCells t) .shut)) 0, .cells (es8 0 .nilsl 0) 0, .cells core5 0] ++ new5) = true := by
    show (v1.old 48 && (v2.old 48 && (v3.old 48 && (v4.old 48 && (v5.old 48 && ((AObj.cells (xs (.vec (Am.byteCells t) .shut)) 0).old 48 && ((AObj.cells (es8 0 .nilsl 0) 0).old 48 && ((AObj.cells core5 0).old 48 && (allOld 48 new5))))))))) = true
    rw [h1, h2, h3, h4, h5, old_xs, oldc5, oldn5]
    rfl
  have hrun : OkF (callF T 598 { w := 5, t := 0, es := [] } 8 [.ptr ip5 0 0, .agg (xs (.vec (Am.byteCells t) .shut))] ⟨[v1, v2, v3, v4, v5, .cells (xs (.vec (Am.byteCells t) .shut)) 0, .cells (es8 0 .nilsl 0) 0, .cells core5 0] ++ new5, [], []⟩) (fun o s' => s' = ⟨[v1, v2, v3, v4, v5, .cells (xs (.vec (Am.byteCells t) .shut)) 0, .cells (es8 0 .nilsl 0) 0, .cells core5 0] ++ new5, [], []⟩ ∧ ∃ tk, o = .ret (.agg (endOf (if ends then some (n + 1) else none) tk))) := vmrun_spec (4 * n + 2 + 1 + 1) 588 { w := 5, t := 0, es := [] } ip5 pg5 t 2 ⟨[v1, v2, v3, v4, v5, .cells (xs (.vec (Am.byteCells t) .shut)) 0, .cells (es8 0 .nilsl 0) 0, .cells core5 0] ++ new5, [], []⟩ (if ends then some (n + 1) else none) (Nat.le_of_ble_eq_true (by kernel_rfl)) ⟨by kernel_rfl, by kernel_rfl, by kernel_rfl⟩ ⟨⟨17, 6, by kernel_rfl, Nat.le_of_ble_eq_true (by kernel_rfl), by kernel_rfl⟩, ⟨34, 1, by kernel_rfl, Nat.le_of_ble_eq_true (by kernel_rfl), by kernel_rfl⟩⟩ (by kernel_rfl) (by omega) (by omega) hold ht.len (by omega) (fun b' im q ri oi l ko s' ext hw hes hB a1 a2 a3 a4 a5 a6 a7 a8 => run_to 588 b' im ip5 q _ ri oi l ko t n 4636526185122103296 4636596553866280960 97 98 s' a1 a2 a3 a4 a5 a6 a7 a8 hw hes rfl ⟨rfl, num97⟩ ⟨rfl, num98⟩ (by decide) ht hB ends he)
  (apply f_wp rfl rfl; (repeat (first | exact Shape.nil | (apply Shape.cons; conv => lhs; whnf))))
  refine qV ?_
  refine o_box (v := .agg (xs (.vec (Am.byteCells t) .shut))) (l := xs (.vec (Am.byteCells t) .shut)) rfl rfl rfl ?_
  refine o_alloc rfl ?_
  refine eV ?_
  change OkC _ _ { w := 5, t := 0, es := [] } _ _ ⟨[v1, v2, v3, v4, v5, .cells (xs (.vec (Am.byteCells t) .shut)) 0, .cells (es8 0 .nilsl 0) 0], [], []⟩ _
  refine qV ?_
  refine o_call (l := [.vec (Am.byteCells [97, 42, 63, 98]) .shut, .int .i64 0]) rfl rfl (bld5 _ v1 v2 v3 v4 v5 (.cells (xs (.vec (Am.byteCells t) .shut)) 0) (.cells (es8 0 .nilsl 0) 0)) ?_
  refine sV ?_
  refine o_alloc rfl ?_
  refine o_st (l := core5) rfl rfl rfl rfl (getCells_new _ _ 0) rfl (lets_nil (blt_no (Nat.le_of_ble_eq_true rfl)) rfl) (cs' := core5) rfl ?_
  rw [push_put]
  refine sV ?_
  refine eV ?_
  change OkC _ _ { w := 5, t := 0, es := [] } _ _ ⟨[v1, v2, v3, v4, v5, .cells (xs (.vec (Am.byteCells t) .shut)) 0, .cells (es8 0 .nilsl 0) 0, .cells core5 0], [], []⟩ _
  have hC : getCells (⟨[v1, v2, v3, v4, v5, .cells (xs (.vec (Am.byteCells t) .shut)) 0, .cells (es8 0 .nilsl 0) 0, .cells core5 0], [], []⟩ : Sg).heap 7 0 = some core5 := rfl
  refine qV ?_
  refine o_call (l := [.agg core5]) rfl rfl (cmp5 _ rfl v1 v2 v3 v4 v5 (.cells (xs (.vec (Am.byteCells t) .shut)) 0) (.cells (es8 0 .nilsl 0) 0) (.cells core5 0)) ?_
  refine sV ?_
  refine eV ?_
  refine c_seq ?_
  refine qqV ?_
  refine lV ?_
  refine c_skip ?_
  have hX : getCells (⟨[v1, v2, v3, v4, v5, .cells (xs (.vec (Am.byteCells t) .shut)) 0, .cells (es8 0 .nilsl 0) 0, .cells core5 0] ++ new5, [], []⟩ : Sg).heap 5 0 = some (xs (.vec (Am.byteCells t) .shut)) := rfl
  have hE : getCells (⟨[v1, v2, v3, v4, v5, .cells (xs (.vec (Am.byteCells t) .shut)) 0, .cells (es8 0 .nilsl 0) 0, .cells core5 0] ++ new5, [], []⟩ : Sg).heap 6 0 = some (es8 0 .nilsl 0) := rfl
  generalize (⟨[v1, v2, v3, v4, v5, .cells (xs (.vec (Am.byteCells t) .shut)) 0, .cells (es8 0 .nilsl 0) 0, .cells core5 0] ++ new5, [], []⟩ : Sg) = s5 at hrun hX hE ⊢
  refine c_seq ?_
  refine qV ?_
  refine o_callw (l := [.ptr ip5 0 0, .agg (xs (.vec (Am.byteCells t) .shut))]) rfl rfl (hrun.mono ?_)
  rintro _ s6 ⟨rfl, tk, rfl⟩
  refine o_st (i := 6) (g' := 0) (off := 0) (l := endOf (if ends then some (n + 1) else none) tk) rfl rfl rfl (endOf_st (if ends then some (n + 1) else none) tk) hE (endOf_len (if ends then some (n + 1) else none) tk) (lets_nil (blt_no (Nat.le_of_ble_eq_true rfl)) rfl) (endOf_wr (if ends then some (n + 1) else none) tk) ?_
  refine eV ?_
  refine c_ret ?_
  exact fin_ret (.inl rfl) (read_cell (i := 6) (g := 0) (off := 0) rfl (getCells_put hE) (endOf_all ..) read_nil) (leave_pure (endOf_lay ..) (endOf_old ..)) ⟨rfl, tk, rfl⟩

end Go.Vmm

namespace Go.Vmm
open Go Go.Am Go.Proofs

/-- a part of function 3 -/
def md_fin : ACode := .seq (.region [⟨(some 63), .v (.move (.tmp 1)), none⟩, ⟨(some 64), .v (.bin .eql (.tmp 63) (.const (.int .i64 1))), none⟩, ⟨(some 65), .v (.move (.tmp 64)), none⟩, ⟨(some 66), .v (.move (.tmp 1)), (some (65, false))⟩, ⟨(some 67), .v (.bin .eql (.tmp 66) (.const (.int .i64 3))), (some (65, false))⟩, ⟨(some 68), .v (.pick (.tmp 65) (.const (.bool true)) (.tmp 67)), none⟩, ⟨(some 14), .v (.move (.tmp 68)), none⟩] [14]) (.seq (.region [⟨(some 69), .v (.fieldAddr 0 none (.tmp 9)), none⟩, ⟨(some 70), .v (.load none (.tmp 69)), none⟩, ⟨(some 71), .v (.bin .eql (.tmp 70) (.const (.int .i64 1))), none⟩, ⟨(some 72), .v (.move (.tmp 71)), none⟩, ⟨(some 73), .v (.fieldAddr 1 none (.tmp 9)), (some (72, true))⟩, ⟨(some 74), .v (.load none (.tmp 73)), (some (72, true))⟩, ⟨(some 75), .v (.indexAddrS (some 2) (.tmp 74) (.const (.int .i64 0))), (some (72, true))⟩, ⟨(some 76), .v (.fieldAddr 1 none (.tmp 75)), (some (72, true))⟩, ⟨(some 77), .v (.load none (.tmp 76)), (some (72, true))⟩, ⟨(some 78), .v (.move (.tmp 0)), (some (72, true))⟩, ⟨(some 79), .v (.bin .eql (.tmp 77) (.tmp 78)), (some (72, true))⟩, ⟨(some 80), .v (.pick (.tmp 72) (.tmp 79) (.const (.bool false))), none⟩, ⟨(some 15), .v (.move (.tmp 80)), none⟩] [15]) (.seq (.region [⟨(some 81), .v (.fieldAddr 0 none (.tmp 10)), none⟩, ⟨(some 82), .v (.load none (.tmp 81)), none⟩, ⟨(some 83), .v (.bin .eql (.tmp 82) (.const (.int .i64 1))), none⟩, ⟨(some 84), .v (.move (.tmp 83)), none⟩, ⟨(some 85), .v (.fieldAddr 1 none (.tmp 10)), (some (84, true))⟩, ⟨(some 86), .v (.load none (.tmp 85)), (some (84, true))⟩, ⟨(some 87), .v (.indexAddrS (some 2) (.tmp 86) (.const (.int .i64 0))), (some (84, true))⟩, ⟨(some 88), .v (.fieldAddr 1 none (.tmp 87)), (some (84, true))⟩, ⟨(some 89), .v (.load none (.tmp 88)), (some (84, true))⟩, ⟨(some 90), .v (.bin .eql (.tmp 89) (.const (.int .i64 0))), (some (84, true))⟩, ⟨(some 91), .v (.pick (.tmp 84) (.tmp 90) (.const (.bool false))), none⟩, ⟨(some 16), .v (.move (.tmp 91)), none⟩] [16]) (.seq (.region [⟨(some 92), .v (.fieldAddr 0 none (.tmp 11)), none⟩, ⟨(some 93), .v (.load none (.tmp 92)), none⟩, ⟨(some 94), .v (.bin .eql (.tmp 93) (.const (.int .i64 1))), none⟩, ⟨(some 95), .v (.move (.tmp 0)), none⟩, ⟨(some 96), .v (.bin .gtr (.tmp 95) (.const (.int .i64 0))), none⟩, ⟨(some 97), .v (.eqBool false (.tmp 94) (.tmp 96)), none⟩, ⟨(some 98), .v (.move (.tmp 97)), none⟩, ⟨(some 99), .v (.move (.tmp 0)), (some (98, true))⟩, ⟨(some 100), .v (.bin .eql (.tmp 99) (.const (.int .i64 0))), (some (98, true))⟩, ⟨(some 101), .v (.move (.tmp 100)), (some (98, true))⟩, ⟨(some 102), .v (.fieldAddr 1 none (.tmp 11)), (some (101, false))⟩, ⟨(some 103), .v (.load none (.tmp 102)), (some (101, false))⟩, ⟨(some 104), .v (.indexAddrS (some 2) (.tmp 103) (.const (.int .i64 0))), (some (101, false))⟩, ⟨(some 105), .v (.fieldAddr 1 none (.tmp 104)), (some (101, false))⟩, ⟨(some 106), .v (.load none (.tmp 105)), (some (101, false))⟩, ⟨(some 107), .v (.move (.tmp 0)), (some (101, false))⟩, ⟨(some 108), .v (.bin .eql (.tmp 106) (.tmp 107)), (some (101, false))⟩, ⟨(some 109), .v (.pick (.tmp 101) (.const (.bool true)) (.tmp 108)), (some (98, true))⟩, ⟨(some 110), .v (.pick (.tmp 98) (.tmp 109) (.const (.bool false))), none⟩, ⟨(some 17), .v (.move (.tmp 110)), none⟩] [17]) (.seq (.region [⟨(some 111), .v (.fieldAddr 0 none (.tmp 12)), none⟩, ⟨(some 112), .v (.load none (.tmp 111)), none⟩, ⟨(some 113), .v (.bin .eql (.tmp 112) (.const (.int .i64 2))), none⟩, ⟨(some 18), .v (.move (.tmp 113)), none⟩] [18]) (.seq (.region [⟨(some 114), .v (.fieldAddr 0 none (.tmp 13)), none⟩, ⟨(some 115), .v (.load none (.tmp 114)), none⟩, ⟨(some 116), .v (.bin .eql (.tmp 115) (.const (.int .i64 1))), none⟩, ⟨(some 117), .v (.move (.tmp 14)), none⟩, ⟨(some 118), .v (.eqBool false (.tmp 116) (.tmp 117)), none⟩, ⟨(some 119), .v (.move (.tmp 118)), none⟩, ⟨(some 120), .v (.move (.tmp 14)), (some (119, true))⟩, ⟨(some 121), .v (.un .not (.tmp 120)), (some (119, true))⟩, ⟨(some 122), .v (.move (.tmp 121)), (some (119, true))⟩, ⟨(some 123), .v (.fieldAddr 1 none (.tmp 13)), (some (122, false))⟩, ⟨(some 124), .v (.load none (.tmp 123)), (some (122, false))⟩, ⟨(some 125), .v (.indexAddrS (some 2) (.tmp 124) (.const (.int .i64 0))), (some (122, false))⟩, ⟨(some 126), .v (.fieldAddr 1 none (.tmp 125)), (some (122, false))⟩, ⟨(some 127), .v (.load none (.tmp 126)), (some (122, false))⟩, ⟨(some 128), .v (.move (.tmp 0)), (some (122, false))⟩, ⟨(some 129), .v (.bin .add (.tmp 128) (.const (.int .i64 1))), (some (122, false))⟩, ⟨(some 130), .v (.bin .eql (.tmp 127) (.tmp 129)), (some (122, false))⟩, ⟨(some 131), .v (.pick (.tmp 122) (.const (.bool true)) (.tmp 130)), (some (119, true))⟩, ⟨(some 132), .v (.pick (.tmp 119) (.tmp 131) (.const (.bool false))), none⟩, ⟨(some 19), .v (.move (.tmp 132)), none⟩] [19]) (.seq (.region [⟨(some 133), .v (.move (.tmp 15)), none⟩, ⟨(some 134), .v (.move (.tmp 133)), none⟩, ⟨(some 135), .v (.move (.tmp 16)), (some (134, true))⟩, ⟨(some 136), .v (.pick (.tmp 134) (.tmp 135) (.const (.bool false))), none⟩, ⟨(some 137), .v (.move (.tmp 136)), none⟩, ⟨(some 138), .v (.move (.tmp 17)), (some (137, true))⟩, ⟨(some 139), .v (.pick (.tmp 137) (.tmp 138) (.const (.bool false))), none⟩, ⟨(some 140), .v (.move (.tmp 139)), none⟩, ⟨(some 141), .v (.move (.tmp 18)), (some (140, true))⟩, ⟨(some 142), .v (.pick (.tmp 140) (.tmp 141) (.const (.bool false))), none⟩, ⟨(some 143), .v (.move (.tmp 142)), none⟩, ⟨(some 144), .v (.move (.tmp 19)), (some (143, true))⟩, ⟨(some 145), .v (.pick (.tmp 143) (.tmp 144) (.const (.bool false))), none⟩, ⟨(some 4), .v (.move (.tmp 145)), none⟩] [4]) (.ret)))))))

/-- what the law's frame holds at its end -/
abbrev mf (n mo : Int) (u1 u2 u3 : AV) (t : List UInt8) : Fr := ⟨[(0, .int .i64 n), (1, .int .i64 mo), (4, .bool false), (5, .bool true), (22, u1), (36, u2), (7, .int .i64 n), (39, u3), (6, .str t), (8, .ptr 0 0 0), (9, .ptr 1 0 0), (10, .ptr 2 0 0), (11, .ptr 3 0 0), (12, .ptr 4 0 0), (13, .ptr 5 0 0), (14, .undef), (15, .undef), (16, .undef), (17, .undef), (18, .undef), (19, .undef)], [], .off⟩

theorem modes_fin (M : Nat) (b : Bar) (n : Nat) (mo : Int) (hn : n ≤ 100) (ends : Bool) (hmo : if ends then mo = 1 ∨ mo = 3 else mo ≠ 1 ∧ mo ≠ 3) (u1 u2 u3 : AV) (t : List UInt8) (s : Sg) (Q : Ex → Fr → Sg → Prop) (k1 k2 k3 k4 k5 : Int)
    (h1 : getCells s.heap 1 0 = some (endOf (some n) k1)) (h2 : getCells s.heap 2 0 = some (endOf (some 0) k2)) (h3 : getCells s.heap 3 0 = some (endOf (if n = 0 then none else some n) k3)) (h4 : getCells s.heap 4 0 = some (endOf none k4)) (h5 : getCells s.heap 5 0 = some (endOf (if ends then some (n + 1) else none) k5))
    (hq : ∀ e fr, e = .ret → fr.defers = [] → Env.get fr.pers 4 = .bool true → Q e fr s) : OkC (loopN M) (callF T M) b md_fin (mf n mo u1 u2 u3 t) s Q := by
  by_cases hz : n = 0
  · rw [if_pos hz] at h3
    cases ends with
    | true =>
      rw [if_pos rfl] at h5 hmo
      rcases hmo with rfl | rfl
      · skip
        refine qqV ?_
        refine qV ?_
        refine o_ixvec (j := 0) (v := .agg [.int .i64 0, .int .i64 n]) rfl rfl rfl rfl rfl rfl ?_
        refine sV ?_
        refine eV ?_
        refine qV ?_
        refine o_ixvec (j := 0) (v := .agg [.int .i64 0, .int .i64 0]) rfl rfl rfl rfl rfl rfl ?_
        refine sV ?_
        refine eV ?_
        refine qqV ?_
        refine qqV ?_
        refine qV ?_
        refine o_ixvec (j := 0) (v := .agg [.int .i64 0, .int .i64 (n + 1 : Nat)]) rfl rfl rfl rfl rfl rfl ?_
        refine sV ?_
        refine eV ?_
        refine qqV ?_
        exact c_ret (hq _ _ rfl rfl rfl)
      · skip
        refine qqV ?_
        refine qV ?_
        refine o_ixvec (j := 0) (v := .agg [.int .i64 0, .int .i64 n]) rfl rfl rfl rfl rfl rfl ?_
        refine sV ?_
        refine eV ?_
        refine qV ?_
        refine o_ixvec (j := 0) (v := .agg [.int .i64 0, .int .i64 0]) rfl rfl rfl rfl rfl rfl ?_
        refine sV ?_
        refine eV ?_
        refine qqV ?_
        refine qqV ?_
        refine qV ?_
        refine o_ixvec (j := 0) (v := .agg [.int .i64 0, .int .i64 (n + 1 : Nat)]) rfl rfl rfl rfl rfl rfl ?_
        refine sV ?_
        refine eV ?_
        refine qqV ?_
        exact c_ret (hq _ _ rfl rfl rfl)
    | false =>
      rw [if_neg (by simp)] at h5 hmo
      obtain ⟨hm1, hm3⟩ := hmo
      refine qqV ?_
      refine qV ?_
      refine o_ixvec (j := 0) (v := .agg [.int .i64 0, .int .i64 n]) rfl rfl rfl rfl rfl rfl ?_
      refine sV ?_
      refine eV ?_
      refine qV ?_
      refine o_ixvec (j := 0) (v := .agg [.int .i64 0, .int .i64 0]) rfl rfl rfl rfl rfl rfl ?_
      refine sV ?_
      refine eV ?_
      refine qqV ?_
      refine qqV ?_
      refine qqV ?_
      refine qqV ?_
      exact c_ret (hq _ _ rfl rfl rfl)
  · rw [if_neg hz] at h3
    cases ends with
    | true =>
      rw [if_pos rfl] at h5 hmo
      rcases hmo with rfl | rfl
      · skip
        refine qqV ?_
        refine qV ?_
        refine o_ixvec (j := 0) (v := .agg [.int .i64 0, .int .i64 n]) rfl rfl rfl rfl rfl rfl ?_
        refine sV ?_
        refine eV ?_
        refine qV ?_
        refine o_ixvec (j := 0) (v := .agg [.int .i64 0, .int .i64 0]) rfl rfl rfl rfl rfl rfl ?_
        refine sV ?_
        refine eV ?_
        refine qV ?_
        refine o_ixvec (j := 0) (v := .agg [.int .i64 0, .int .i64 n]) rfl rfl rfl rfl rfl rfl ?_
        refine sV ?_
        refine eV ?_
        refine qqV ?_
        refine qV ?_
        refine o_ixvec (j := 0) (v := .agg [.int .i64 0, .int .i64 (n + 1 : Nat)]) rfl rfl rfl rfl rfl rfl ?_
        refine sV ?_
        refine eV ?_
        refine qqV ?_
        exact c_ret (hq _ _ rfl rfl rfl)
      · skip
        refine qqV ?_
        refine qV ?_
        refine o_ixvec (j := 0) (v := .agg [.int .i64 0, .int .i64 n]) rfl rfl rfl rfl rfl rfl ?_
        refine sV ?_
        refine eV ?_
        refine qV ?_
        refine o_ixvec (j := 0) (v := .agg [.int .i64 0, .int .i64 0]) rfl rfl rfl rfl rfl rfl ?_
        refine sV ?_
        refine eV ?_
        refine qV ?_
        refine o_ixvec (j := 0) (v := .agg [.int .i64 0, .int .i64 n]) rfl rfl rfl rfl rfl rfl ?_
        refine sV ?_
        refine eV ?_
        refine qqV ?_
        refine qV ?_
        refine o_ixvec (j := 0) (v := .agg [.int .i64 0, .int .i64 (n + 1 : Nat)]) rfl rfl rfl rfl rfl rfl ?_
        refine sV ?_
        refine eV ?_
        refine qqV ?_
        exact c_ret (hq _ _ rfl rfl rfl)
    | false =>
      rw [if_neg (by simp)] at h5 hmo
      obtain ⟨hm1, hm3⟩ := hmo
      refine qqV ?_
      refine qV ?_
      refine o_ixvec (j := 0) (v := .agg [.int .i64 0, .int .i64 n]) rfl rfl rfl rfl rfl rfl ?_
      refine sV ?_
      refine eV ?_
      refine qV ?_
      refine o_ixvec (j := 0) (v := .agg [.int .i64 0, .int .i64 0]) rfl rfl rfl rfl rfl rfl ?_
      refine sV ?_
      refine eV ?_
      refine qV ?_
      refine o_ixvec (j := 0) (v := .agg [.int .i64 0, .int .i64 n]) rfl rfl rfl rfl rfl rfl ?_
      refine sV ?_
      refine eV ?_
      refine qqV ?_
      refine qqV ?_
      refine qqV ?_
      exact c_ret (hq _ _ rfl rfl rfl)

end Go.Vmm

namespace Go.Vmm
open Go Go.Am Go.Proofs

/-- a part of function 3 -/
def md_rest : ACode := .seq (.region [⟨(some 50), .v (.move (.tmp 6)), none⟩, ⟨(some 51), .v (.conv .strBytes (.tmp 50)), none⟩, ⟨(some 52), .v (.build [.nilsl, (.int .i64 0), (.int .i64 0), (.int .i64 0), .nilsl, (.int .i64 0), (.int .i64 0), (.int .i64 0), (.int .i64 0), (.int .i64 0)] [(0, 1, (.tmp 51))]), none⟩, ⟨(some 8), .e (.alloc [.nilsl, (.int .i64 0), (.int .i64 0), (.int .i64 0), .nilsl, (.int .i64 0), (.int .i64 0), (.int .i64 0), (.int .i64 0), (.int .i64 0)]), none⟩, ⟨none, .e (.store 10 (.tmp 8) (.tmp 52)), none⟩] [8]) (.seq (.region [⟨(some 53), .v (.load (some 10) (.tmp 8)), none⟩, ⟨(some 54), .call 5 [(.const (.str [97, 42])), (.tmp 53)], none⟩, ⟨(some 9), .e (.alloc [(.int .i64 0), .nilsl, (.str []), (.int .i64 0), (.int .i64 0), (.int .i64 0), (.int .i64 0), (.bool false)]), none⟩, ⟨none, .e (.store 8 (.tmp 9) (.tmp 54)), none⟩] [9]) (.seq (.region [⟨(some 55), .v (.load (some 10) (.tmp 8)), none⟩, ⟨(some 56), .call 5 [(.const (.str [97, 42, 63])), (.tmp 55)], none⟩, ⟨(some 10), .e (.alloc [(.int .i64 0), .nilsl, (.str []), (.int .i64 0), (.int .i64 0), (.int .i64 0), (.int .i64 0), (.bool false)]), none⟩, ⟨none, .e (.store 8 (.tmp 10) (.tmp 56)), none⟩] [10]) (.seq (.region [⟨(some 57), .v (.load (some 10) (.tmp 8)), none⟩, ⟨(some 58), .call 5 [(.const (.str [97, 42, 97])), (.tmp 57)], none⟩, ⟨(some 11), .e (.alloc [(.int .i64 0), .nilsl, (.str []), (.int .i64 0), (.int .i64 0), (.int .i64 0), (.int .i64 0), (.bool false)]), none⟩, ⟨none, .e (.store 8 (.tmp 11) (.tmp 58)), none⟩] [11]) (.seq (.region [⟨(some 59), .v (.load (some 10) (.tmp 8)), none⟩, ⟨(some 60), .call 5 [(.const (.str [97, 42, 43, 97])), (.tmp 59)], none⟩, ⟨(some 12), .e (.alloc [(.int .i64 0), .nilsl, (.str []), (.int .i64 0), (.int .i64 0), (.int .i64 0), (.int .i64 0), (.bool false)]), none⟩, ⟨none, .e (.store 8 (.tmp 12) (.tmp 60)), none⟩] [12]) (.seq (.region [⟨(some 61), .v (.load (some 10) (.tmp 8)), none⟩, ⟨(some 62), .call 5 [(.const (.str [97, 42, 63, 98])), (.tmp 61)], none⟩, ⟨(some 13), .e (.alloc [(.int .i64 0), .nilsl, (.str []), (.int .i64 0), (.int .i64 0), (.int .i64 0), (.int .i64 0), (.bool false)]), none⟩, ⟨none, .e (.store 8 (.tmp 13) (.tmp 62)), none⟩] [13]) (.seq (.region [⟨(some 63), .v (.move (.tmp 1)), none⟩, ⟨(some 64), .v (.bin .eql (.tmp 63) (.const (.int .i64 1))), none⟩, ⟨(some 65), .v (.move (.tmp 64)), none⟩, ⟨(some 66), .v (.move (.tmp 1)), (some (65, false))⟩, ⟨(some 67), .v (.bin .eql (.tmp 66) (.const (.int .i64 3))), (some (65, false))⟩, ⟨(some 68), .v (.pick (.tmp 65) (.const (.bool true)) (.tmp 67)), none⟩, ⟨(some 14), .v (.move (.tmp 68)), none⟩] [14]) (.seq (.region [⟨(some 69), .v (.fieldAddr 0 none (.tmp 9)), none⟩, ⟨(some 70), .v (.load none (.tmp 69)), none⟩, ⟨(some 71), .v (.bin .eql (.tmp 70) (.const (.int .i64 1))), none⟩, ⟨(some 72), .v (.move (.tmp 71)), none⟩, ⟨(some 73), .v (.fieldAddr 1 none (.tmp 9)), (some (72, true))⟩, ⟨(some 74), .v (.load none (.tmp 73)), (some (72, true))⟩, ⟨(some 75), .v (.indexAddrS (some 2) (.tmp 74) (.const (.int .i64 0))), (some (72, true))⟩, ⟨(some 76), .v (.fieldAddr 1 none (.tmp 75)), (some (72, true))⟩, ⟨(some 77), .v (.load none (.tmp 76)), (some (72, true))⟩, ⟨(some 78), .v (.move (.tmp 0)), (some (72, true))⟩, ⟨(some 79), .v (.bin .eql (.tmp 77) (.tmp 78)), (some (72, true))⟩, ⟨(some 80), .v (.pick (.tmp 72) (.tmp 79) (.const (.bool false))), none⟩, ⟨(some 15), .v (.move (.tmp 80)), none⟩] [15]) (.seq (.region [⟨(some 81), .v (.fieldAddr 0 none (.tmp 10)), none⟩, ⟨(some 82), .v (.load none (.tmp 81)), none⟩, ⟨(some 83), .v (.bin .eql (.tmp 82) (.const (.int .i64 1))), none⟩, ⟨(some 84), .v (.move (.tmp 83)), none⟩, ⟨(some 85), .v (.fieldAddr 1 none (.tmp 10)), (some (84, true))⟩, ⟨(some 86), .v (.load none (.tmp 85)), (some (84, true))⟩, ⟨(some 87), .v (.indexAddrS (some 2) (.tmp 86) (.const (.int .i64 0))), (some (84, true))⟩, ⟨(some 88), .v (.fieldAddr 1 none (.tmp 87)), (some (84, true))⟩, ⟨(some 89), .v (.load none (.tmp 88)), (some (84, true))⟩, ⟨(some 90), .v (.bin .eql (.tmp 89) (.const (.int .i64 0))), (some (84, true))⟩, ⟨(some 91), .v (.pick (.tmp 84) (.tmp 90) (.const (.bool false))), none⟩, ⟨(some 16), .v (.move (.tmp 91)), none⟩] [16]) (.seq (.region [⟨(some 92), .v (.fieldAddr 0 none (.tmp 11)), none⟩, ⟨(some 93), .v (.load none (.tmp 92)), none⟩, ⟨(some 94), .v (.bin .eql (.tmp 93) (.const (.int .i64 1))), none⟩, ⟨(some 95), .v (.move (.tmp 0)), none⟩, ⟨(some 96), .v (.bin .gtr (.tmp 95) (.const (.int .i64 0))), none⟩, ⟨(some 97), .v (.eqBool false (.tmp 94) (.tmp 96)), none⟩, ⟨(some 98), .v (.move (.tmp 97)), none⟩, ⟨(some 99), .v (.move (.tmp 0)), (some (98, true))⟩, ⟨(some 100), .v (.bin .eql (.tmp 99) (.const (.int .i64 0))), (some (98, true))⟩, ⟨(some 101), .v (.move (.tmp 100)), (some (98, true))⟩, ⟨(some 102), .v (.fieldAddr 1 none (.tmp 11)), (some (101, false))⟩, ⟨(some 103), .v (.load none (.tmp 102)), (some (101, false))⟩, ⟨(some 104), .v (.indexAddrS (some 2) (.tmp 103) (.const (.int .i64 0))), (some (101, false))⟩, ⟨(some 105), .v (.fieldAddr 1 none (.tmp 104)), (some (101, false))⟩, ⟨(some 106), .v (.load none (.tmp 105)), (some (101, false))⟩, ⟨(some 107), .v (.move (.tmp 0)), (some (101, false))⟩, ⟨(some 108), .v (.bin .eql (.tmp 106) (.tmp 107)), (some (101, false))⟩, ⟨(some 109), .v (.pick (.tmp 101) (.const (.bool true)) (.tmp 108)), (some (98, true))⟩, ⟨(some 110), .v (.pick (.tmp 98) (.tmp 109) (.const (.bool false))), none⟩, ⟨(some 17), .v (.move (.tmp 110)), none⟩] [17]) (.seq (.region [⟨(some 111), .v (.fieldAddr 0 none (.tmp 12)), none⟩, ⟨(some 112), .v (.load none (.tmp 111)), none⟩, ⟨(some 113), .v (.bin .eql (.tmp 112) (.const (.int .i64 2))), none⟩, ⟨(some 18), .v (.move (.tmp 113)), none⟩] [18]) (.seq (.region [⟨(some 114), .v (.fieldAddr 0 none (.tmp 13)), none⟩, ⟨(some 115), .v (.load none (.tmp 114)), none⟩, ⟨(some 116), .v (.bin .eql (.tmp 115) (.const (.int .i64 1))), none⟩, ⟨(some 117), .v (.move (.tmp 14)), none⟩, ⟨(some 118), .v (.eqBool false (.tmp 116) (.tmp 117)), none⟩, ⟨(some 119), .v (.move (.tmp 118)), none⟩, ⟨(some 120), .v (.move (.tmp 14)), (some (119, true))⟩, ⟨(some 121), .v (.un .not (.tmp 120)), (some (119, true))⟩, ⟨(some 122), .v (.move (.tmp 121)), (some (119, true))⟩, ⟨(some 123), .v (.fieldAddr 1 none (.tmp 13)), (some (122, false))⟩, ⟨(some 124), .v (.load none (.tmp 123)), (some (122, false))⟩, ⟨(some 125), .v (.indexAddrS (some 2) (.tmp 124) (.const (.int .i64 0))), (some (122, false))⟩, ⟨(some 126), .v (.fieldAddr 1 none (.tmp 125)), (some (122, false))⟩, ⟨(some 127), .v (.load none (.tmp 126)), (some (122, false))⟩, ⟨(some 128), .v (.move (.tmp 0)), (some (122, false))⟩, ⟨(some 129), .v (.bin .add (.tmp 128) (.const (.int .i64 1))), (some (122, false))⟩, ⟨(some 130), .v (.bin .eql (.tmp 127) (.tmp 129)), (some (122, false))⟩, ⟨(some 131), .v (.pick (.tmp 122) (.const (.bool true)) (.tmp 130)), (some (119, true))⟩, ⟨(some 132), .v (.pick (.tmp 119) (.tmp 131) (.const (.bool false))), none⟩, ⟨(some 19), .v (.move (.tmp 132)), none⟩] [19]) (.seq (.region [⟨(some 133), .v (.move (.tmp 15)), none⟩, ⟨(some 134), .v (.move (.tmp 133)), none⟩, ⟨(some 135), .v (.move (.tmp 16)), (some (134, true))⟩, ⟨(some 136), .v (.pick (.tmp 134) (.tmp 135) (.const (.bool false))), none⟩, ⟨(some 137), .v (.move (.tmp 136)), none⟩, ⟨(some 138), .v (.move (.tmp 17)), (some (137, true))⟩, ⟨(some 139), .v (.pick (.tmp 137) (.tmp 138) (.const (.bool false))), none⟩, ⟨(some 140), .v (.move (.tmp 139)), none⟩, ⟨(some 141), .v (.move (.tmp 18)), (some (140, true))⟩, ⟨(some 142), .v (.pick (.tmp 140) (.tmp 141) (.const (.bool false))), none⟩, ⟨(some 143), .v (.move (.tmp 142)), none⟩, ⟨(some 144), .v (.move (.tmp 19)), (some (143, true))⟩, ⟨(some 145), .v (.pick (.tmp 143) (.tmp 144) (.const (.bool false))), none⟩, ⟨(some 4), .v (.move (.tmp 145)), none⟩] [4]) (.ret)))))))))))))

theorem OkL.more {k k' : Nat} {f : Fr → Sg → Ran} {fr : Fr} {s : Sg} {Q : Ex → Fr → Sg → Prop} (hk : k ≤ k') (h : OkL k f fr s Q) : OkL k' f fr s Q := by
  obtain ⟨e, fr', t, h1, h2⟩ := h.ok
  exact ⟨⟨e, fr', t, loopN_mono hk h1, h2⟩⟩

/-- the law, from the text on -/
theorem modes_rest (b : Bar) (hb : b = { w := 0, t := 0, es := [] }) (n : Nat) (mo : Int) (hn : n ≤ 100) (ends : Bool) (hmo : if ends then mo = 1 ∨ mo = 3 else mo ≠ 1 ∧ mo ≠ 3) (u1 u2 u3 : AV) (t : List UInt8) (ht : Many t n 97) (he : if ends then ∃ c, t[n]? = some c ∧ (c.toNat : Int) = 98 else (n = t.length ∨ ∃ c, t[n]? = some c ∧ (c.toNat : Int) ≠ 98)) (Q : Ex → Fr → Sg → Prop)
    (hq : ∀ e fr s, e = .ret → fr.defers = [] → Env.get fr.pers 4 = .bool true → Q e fr s) :
    OkC (loopN 599) (callF T 599) b md_rest ⟨[(0, .int .i64 n), (1, .int .i64 mo), (4, .bool false), (5, .bool true), (22, u1), (36, u2), (7, .int .i64 n), (39, u3), (6, .str t), (8, .undef), (9, .undef), (10, .undef), (11, .undef), (12, .undef), (13, .undef), (14, .undef), (15, .undef), (16, .undef), (17, .undef), (18, .undef), (19, .undef)], [], .off⟩ ⟨[], [], []⟩ Q := by
  subst hb
  have hx : ∀ n, (AObj.cells (xs (.vec (Am.byteCells t) .shut)) 0).old n = true := fun n => old_xs n t
  refine qV ?_
  refine o_alloc rfl ?_
  refine o_st (l := xs (.vec (Am.byteCells t) .shut)) rfl rfl rfl rfl (getCells_new _ _ 0) rfl (lets_nil rfl rfl) (cs' := xs (.vec (Am.byteCells t) .shut)) rfl ?_
  rw [push_put]
  refine eV ?_
  have hX : getCells (⟨[.cells (xs (.vec (Am.byteCells t) .shut)) 0], [], []⟩ : Sg).heap 0 0 = some (xs (.vec (Am.byteCells t) .shut)) := rfl
  refine qV ?_
  refine o_callw (l := [.str [97, 42], .agg (xs (.vec (Am.byteCells t) .shut))]) rfl rfl ((ran1 _ _ hx t n ht hn).mono ?_)
  rintro _ _ ⟨rfl, k1, rfl⟩
  refine o_alloc rfl ?_
  refine o_st (l := endOf (some n) k1) rfl rfl rfl (endOf_st (some n) k1) (getCells_new _ _ 0) (endOf_len (some n) k1) (lets_nil rfl rfl) (endOf_wr (some n) k1) ?_
  rw [push_put]
  refine eV ?_
  have hX2 : getCells (⟨[.cells (xs (.vec (Am.byteCells t) .shut)) 0, .cells (endOf (some n) k1) 0], [], []⟩ : Sg).heap 0 0 = some (xs (.vec (Am.byteCells t) .shut)) := rfl
  refine qV ?_
  refine o_callw (l := [.str [97, 42, 63], .agg (xs (.vec (Am.byteCells t) .shut))]) rfl rfl ((ran2 _ _ _ hx (fun m => endOf_oldA m (some n) k1) t n ht hn).mono ?_)
  rintro _ _ ⟨rfl, k2, rfl⟩
  refine o_alloc rfl ?_
  refine o_st (l := endOf (some 0) k2) rfl rfl rfl (endOf_st (some 0) k2) (getCells_new _ _ 0) (endOf_len (some 0) k2) (lets_nil rfl rfl) (endOf_wr (some 0) k2) ?_
  rw [push_put]
  refine eV ?_
  have hX3 : getCells (⟨[.cells (xs (.vec (Am.byteCells t) .shut)) 0, .cells (endOf (some n) k1) 0, .cells (endOf (some 0) k2) 0], [], []⟩ : Sg).heap 0 0 = some (xs (.vec (Am.byteCells t) .shut)) := rfl
  refine qV ?_
  refine o_callw (l := [.str [97, 42, 97], .agg (xs (.vec (Am.byteCells t) .shut))]) rfl rfl ((ran3 _ _ _ _ hx (fun m => endOf_oldA m (some n) k1) (fun m => endOf_oldA m (some 0) k2) t n ht hn).mono ?_)
  rintro _ _ ⟨rfl, k3, rfl⟩
  refine o_alloc rfl ?_
  refine o_st (l := endOf (if n = 0 then none else some n) k3) rfl rfl rfl (endOf_st (if n = 0 then none else some n) k3) (getCells_new _ _ 0) (endOf_len (if n = 0 then none else some n) k3) (lets_nil rfl rfl) (endOf_wr (if n = 0 then none else some n) k3) ?_
  rw [push_put]
  refine eV ?_
  have hX4 : getCells (⟨[.cells (xs (.vec (Am.byteCells t) .shut)) 0, .cells (endOf (some n) k1) 0, .cells (endOf (some 0) k2) 0, .cells (endOf (if n = 0 then none else some n) k3) 0], [], []⟩ : Sg).heap 0 0 = some (xs (.vec (Am.byteCells t) .shut)) := rfl
  refine qV ?_
  refine o_callw (l := [.str [97, 42, 43, 97], .agg (xs (.vec (Am.byteCells t) .shut))]) rfl rfl ((ran4 _ _ _ _ _ hx (fun m => endOf_oldA m (some n) k1) (fun m => endOf_oldA m (some 0) k2) (fun m => endOf_oldA m (if n = 0 then none else some n) k3) t n ht hn).mono ?_)
  rintro _ _ ⟨rfl, k4, rfl⟩
  refine o_alloc rfl ?_
  refine o_st (l := endOf (none) k4) rfl rfl rfl (endOf_st (none) k4) (getCells_new _ _ 0) (endOf_len (none) k4) (lets_nil rfl rfl) (endOf_wr (none) k4) ?_
  rw [push_put]
  refine eV ?_
  have hX5 : getCells (⟨[.cells (xs (.vec (Am.byteCells t) .shut)) 0, .cells (endOf (some n) k1) 0, .cells (endOf (some 0) k2) 0, .cells (endOf (if n = 0 then none else some n) k3) 0, .cells (endOf (none) k4) 0], [], []⟩ : Sg).heap 0 0 = some (xs (.vec (Am.byteCells t) .shut)) := rfl
  refine qV ?_
  refine o_callw (l := [.str [97, 42, 63, 98], .agg (xs (.vec (Am.byteCells t) .shut))]) rfl rfl ((ran5 _ _ _ _ _ _ hx (fun m => endOf_oldA m (some n) k1) (fun m => endOf_oldA m (some 0) k2) (fun m => endOf_oldA m (if n = 0 then none else some n) k3) (fun m => endOf_oldA m (none) k4) t n ht hn ends he).mono ?_)
  rintro _ _ ⟨rfl, k5, rfl⟩
  refine o_alloc rfl ?_
  refine o_st (l := endOf (if ends then some (n + 1) else none) k5) rfl rfl rfl (endOf_st (if ends then some (n + 1) else none) k5) (getCells_new _ _ 0) (endOf_len (if ends then some (n + 1) else none) k5) (lets_nil rfl rfl) (endOf_wr (if ends then some (n + 1) else none) k5) ?_
  rw [push_put]
  refine eV ?_
  exact modes_fin 599 _ n mo hn ends hmo u1 u2 u3 t ⟨[.cells (xs (.vec (Am.byteCells t) .shut)) 0, .cells (endOf (some n) k1) 0, .cells (endOf (some 0) k2) 0, .cells (endOf (if n = 0 then none else some n) k3) 0, .cells (endOf (none) k4) 0, .cells (endOf (if ends then some (n + 1) else none) k5) 0], [], []⟩ Q k1 k2 k3 k4 k5 rfl rfl rfl rfl rfl (fun e fr h1 h2 h3 => hq e fr _ h1 h2 h3)

theorem fin_true {callD : DeferFn} {b : Bar} {s s' : Sg} {e : Ex} {fr : Fr} (he : e = .ret) (hd : fr.defers = []) (hg : Env.get fr.pers 4 = .bool true) : OkF (finish callD b af3 s e fr s') fun o t => o = .ret (.bool true) ∧ t = s := by
  obtain ⟨pers, df, pn⟩ := fr
  dsimp only at hd hg
  subst hd
  exact fin_ret (.inl he) (read_tmp (by rw [hg]; rfl) read_nil) (leave_pure rfl rfl) ⟨rfl, rfl⟩

/-- VmModes answers true, whatever the numbers -/
theorem modes_true (b : Bar) (z mo : Int) : callF T 600 b 3 [.int .i64 z, .int .i64 mo] ⟨[], [], []⟩ = some (.ret (.bool true), ⟨[], [], []⟩) := by
  apply OkF.ret
  (apply f_wp rfl rfl; (repeat (first | exact Shape.nil | (apply Shape.cons; conv => lhs; whnf))))
  refine qqV ?_
  refine qV ?_
  refine o_call (l := []) rfl rfl (awake _) ?_
  refine sV ?_
  refine eV ?_
  refine c_seq ?_
  refine qqV ?_
  refine lV ?_
  refine c_skip ?_
  refine c_seq ?_
  refine c_seq ?_
  by_cases h1 : z < 0
  · refine qqV ?_
    refine iV ?_
    refine qqV ?_
    exact c_ret (fin_true rfl rfl rfl)
  by_cases h2 : z > 100
  · refine qqV ?_
    refine iV ?_
    refine qqV ?_
    exact c_ret (fin_true rfl rfl rfl)
  by_cases h3 : mo < 0
  · refine qqV ?_
    refine iV ?_
    refine qqV ?_
    exact c_ret (fin_true rfl rfl rfl)
  by_cases h4 : mo > 3
  · refine qqV ?_
    refine iV ?_
    refine qqV ?_
    exact c_ret (fin_true rfl rfl rfl)
  obtain ⟨n, rfl⟩ : ∃ n : Nat, z = (n : Int) := ⟨z.toNat, by omega⟩
  have hn : n ≤ 100 := by omega
  refine qqV ?_
  refine lV ?_
  refine c_skip ?_
  refine qqV ?_
  refine qqV ?_
  refine c_block ?_
  refine c_loop ?_
  refine OkL.more (k := n + 1) (by omega) (modes_loop 599 _ n mo hn _ _ _ _ (fun u3 => ?_) n 0 (by omega) .undef)
  have hli : (aas n).length = n := by simp
  have hm : mo = 0 ∨ mo = 1 ∨ mo = 2 ∨ mo = 3 := by omega
  rcases hm with rfl | rfl | rfl | rfl
  · have htl : ([] : List UInt8).length = 0 := rfl
    refine qV ?_
    refine o_ixvec (j := 0) (v := .str []) rfl rfl rfl rfl rfl rfl ?_
    refine sV ?_
    refine eV ?_
    exact modes_rest _ rfl n 0 hn false ⟨by decide, by decide⟩ _ _ _ _ (many_aas n hn [] (by simp) (.inl rfl)) (.inl (by simp)) _ (fun e fr s h1 h2 h3 => fin_true h1 h2 h3)
  · have htl : ([98] : List UInt8).length = 1 := rfl
    refine qV ?_
    refine o_ixvec (j := 1) (v := .str [98]) rfl rfl rfl rfl rfl rfl ?_
    refine sV ?_
    refine eV ?_
    exact modes_rest _ rfl n 1 hn true (.inl rfl) _ _ _ _ (many_aas n hn [98] (by simp) (.inr ⟨98, [], rfl, by decide⟩)) ⟨98, by simp [aas], by decide⟩ _ (fun e fr s h1 h2 h3 => fin_true h1 h2 h3)
  · have htl : ([99] : List UInt8).length = 1 := rfl
    refine qV ?_
    refine o_ixvec (j := 2) (v := .str [99]) rfl rfl rfl rfl rfl rfl ?_
    refine sV ?_
    refine eV ?_
    exact modes_rest _ rfl n 2 hn false ⟨by decide, by decide⟩ _ _ _ _ (many_aas n hn [99] (by simp) (.inr ⟨99, [], rfl, by decide⟩)) (.inr ⟨99, by simp [aas], by decide⟩) _ (fun e fr s h1 h2 h3 => fin_true h1 h2 h3)
  · have htl : ([98, 99] : List UInt8).length = 2 := rfl
    refine qV ?_
    refine o_ixvec (j := 3) (v := .str [98, 99]) rfl rfl rfl rfl rfl rfl ?_
    refine sV ?_
    refine eV ?_
    exact modes_rest _ rfl n 3 hn true (.inr rfl) _ _ _ _ (many_aas n hn [98, 99] (by simp) (.inr ⟨98, [99], rfl, by decide⟩)) ⟨98, by simp [aas], by decide⟩ _ (fun e fr s h1 h2 h3 => fin_true h1 h2 h3)

end Go.Vmm
