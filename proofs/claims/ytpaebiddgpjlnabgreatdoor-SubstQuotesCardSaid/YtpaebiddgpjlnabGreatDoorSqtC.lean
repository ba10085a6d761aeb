/-
  What the program reads of a text, by a model; that both read the same.
-/
import Derived.Test.YtpaebiddgpjlnabGreatDoorSqtB

namespace Go.Vmm
open Go Go.Am Go.Proofs

/-- the loop 0 of function 24 -/
def lp24_0 : ACode := .seq (.region [Bc 13 .lss 12 5] [13]) (.seq (.cond (.tmp 13) (.skip) (.exit 0)) (.seq (.block 1 (.seq (.region [Mv 14 12, Vv 15 (.indexA 5 (some 3) (.tmp 11) (.tmp 12)), ⟨some 7, .e (.alloc [(.int .u8 0), (.int .u8 0), (.int .i64 0)]), none⟩, Mv 6 14, St 3 7 15] [7, 6]) (.seq (.seq (.drawn [Mv 16 6, Bc 17 .eql 16 0, Mv 18 17, Gf 19 18 (.move (.tmp 0)), Gf 20 18 (.move (.tmp 1)), Gf 21 18 (.indexAddrS none (.tmp 19) (.tmp 20)), Gf 22 18 (.load none (.tmp 21)), Gf 23 18 (.fieldAddr 0 none (.tmp 7)), Gf 24 18 (.load none (.tmp 23)), Gf 25 18 (.bin .and (.tmp 22) (.tmp 24)), Gf 26 18 (.fieldAddr 1 none (.tmp 7)), Gf 27 18 (.load none (.tmp 26)), Gf 28 18 (.bin .neq (.tmp 25) (.tmp 27)), Vv 29 (.pick (.tmp 18) (.const (.bool true)) (.tmp 28)), Mv 30 29, Gf 31 30 (.move (.tmp 1)), Gf 32 30 (.move (.tmp 6)), Gf 33 30 (.bin .add (.tmp 31) (.tmp 32)), Gf 34 30 (.move (.tmp 0)), Gf 35 30 (.len 1 (.tmp 34)), Gf 36 30 (.bin .gtr (.tmp 33) (.tmp 35)), Vv 37 (.pick (.tmp 30) (.const (.bool true)) (.tmp 36))] [37] [] false 0) (.cond (.tmp 37) (.exit 1) (.skip))) (.seq (.drawn [Mv 38 0, Mv 39 1, Vv 40 (.indexAddrS none (.tmp 38) (.tmp 39)), Ld 41 40, Fa 42 0 7, Ld 43 42, Bn 44 .andNot 41 43, Vv 45 (.conv (.intInt .i64) (.tmp 44)), Mv 8 45] [8] [] false 0) (.seq (.seq (.region [Mv 46 6, Bc 47 .sub 46 1, Mc 48 0] [47, 48]) (.block 2 (.loop (.seq (.region [Bn 49 .lss 48 47] [49]) (.seq (.cond (.tmp 49) (.skip) (.exit 2)) (.seq (.block 3 (.seq (.region [Mv 50 48, Mv 9 50] [9]) (.seq (.region [Mv 51 0, Mv 52 1, Bc 53 .add 52 1, Mv 54 9, Bn 55 .add 53 54, Vv 56 (.indexAddrS none (.tmp 51) (.tmp 55)), Ld 57 56, Mv 10 57] [10]) (.seq (.seq (.region [Mv 58 10, Vv 59 (.bin .shr (.tmp 58) (.const (.int .u64 6))), Vv 60 (.bin .neq (.tmp 59) (.const (.int .u8 2)))] [60]) (.cond (.tmp 60) (.seq (.region [Mc 4 0, Mc 5 0] [4, 5]) (.ret)) (.skip))) (.region [Mv 61 8, Vv 62 (.bin .shl (.tmp 61) (.const (.int .u64 6))), Mv 63 10, Vv 64 (.bin .and (.tmp 63) (.const (.int .u8 63))), Vv 65 (.conv (.intInt .i64) (.tmp 64)), Bn 66 .or 62 65, Mv 8 66] [8]))))) (.region [Bc 67 .add 48 1, Mv 48 67] [48]))))))) (.seq (.seq (.region [Mv 68 8, Fa 69 2 7, Ld 70 69, Bn 71 .lss 68 70, Mv 72 71, Gf 73 72 (.move (.tmp 8)), Gf 74 72 (.bin .gtr (.tmp 73) (Ci 1114111)), Vv 75 (.pick (.tmp 72) (.const (.bool true)) (.tmp 74)), Mv 76 75, Gf 77 76 (.move (.tmp 8)), Gf 78 76 (.bin .shr (.tmp 77) (.const (.int .u64 11))), Gf 79 76 (.bin .eql (.tmp 78) (Ci 27)), Vv 80 (.pick (.tmp 76) (.const (.bool true)) (.tmp 79))] [80]) (.cond (.tmp 80) (.seq (.region [Mc 4 0, Mc 5 0] [4, 5]) (.ret)) (.skip))) (.seq (.region [Mv 81 8, Mv 82 6, Mv 4 81, Mv 5 82] [4, 5]) (.ret)))))))) (.region [Bc 83 .add 12 1, Mv 12 83] [12])))
/-- the loop 1 of function 24 -/
def lp24_1 : ACode := .seq (.region [Bn 49 .lss 48 47] [49]) (.seq (.cond (.tmp 49) (.skip) (.exit 2)) (.seq (.block 3 (.seq (.region [Mv 50 48, Mv 9 50] [9]) (.seq (.region [Mv 51 0, Mv 52 1, Bc 53 .add 52 1, Mv 54 9, Bn 55 .add 53 54, Vv 56 (.indexAddrS none (.tmp 51) (.tmp 55)), Ld 57 56, Mv 10 57] [10]) (.seq (.seq (.region [Mv 58 10, Vv 59 (.bin .shr (.tmp 58) (.const (.int .u64 6))), Vv 60 (.bin .neq (.tmp 59) (.const (.int .u8 2)))] [60]) (.cond (.tmp 60) (.seq (.region [Mc 4 0, Mc 5 0] [4, 5]) (.ret)) (.skip))) (.region [Mv 61 8, Vv 62 (.bin .shl (.tmp 61) (.const (.int .u64 6))), Mv 63 10, Vv 64 (.bin .and (.tmp 63) (.const (.int .u8 63))), Vv 65 (.conv (.intInt .i64) (.tmp 64)), Bn 66 .or 62 65, Mv 8 66] [8]))))) (.region [Bc 67 .add 48 1, Mv 48 67] [48])))

def kindCs : List AV := [.int .u8 0, .int .u8 0, .int .i64 0, .int .u8 128, .int .u8 0, .int .i64 0, .int .u8 224, .int .u8 192, .int .i64 128, .int .u8 240, .int .u8 224, .int .i64 2048, .int .u8 248, .int .u8 240, .int .i64 65536]

theorem kinds_spec (m : Nat) (b : Bar) (s : Sg) : callF T (m + 1) b 49 [] s = some (.ret (.agg kindCs), s) := by
  apply OkF.ret
  (apply f_wp rfl rfl; (repeat (first | exact Shape.nil | (apply Shape.cons; conv => lhs; whnf))))
  refine qV ?_
  refine o_alloc rfl ?_
  refine sV ?_
  refine eV ?_
  refine qV ?_
  refine o_st (l := kindCs) rfl rfl rfl rfl (getCells_new _ _ 0) rfl (lets_nil (blt_no (Nat.le_refl _)) rfl) (cs' := kindCs) rfl ?_
  rw [push_put]
  refine sV ?_
  refine eV ?_
  refine c_ret ?_
  exact fin_ret (.inl rfl) (read_cell rfl (getCells_new _ _ 0) rfl read_nil) (leave_pure rfl rfl) ⟨rfl, rfl⟩

-- ---------------------------------------------------------------- bits

theorem and_table : ∀ n : Fin 256, (IntKind.u8.wrap ((BitVec.ofInt 8 (n.val : Int) &&& BitVec.ofInt 8 128).toNat : Int) = if n.val < 128 then 0 else 128) ∧ (IntKind.u8.wrap ((BitVec.ofInt 8 (n.val : Int) &&& BitVec.ofInt 8 63).toNat : Int) = (n.val : Int) % 64) := by decide +kernel

theorem ev_and63 (x : UInt8) : evBin .and (.int .u8 x.toNat) (.int .u8 63) = some (.int .u8 ((x.toNat : Int) % 64)) := by
  have := (and_table ⟨x.toNat, x.toNat_lt⟩).2
  simp only [evBin, if_true, intBin]
  exact congrArg (fun z => some (AV.int .u8 z)) this

theorem ev_or6 {c r : Int} (h0 : 0 ≤ c) (h1 : c < 2 ^ 40) (h2 : 0 ≤ r) (h3 : r < 64) : evBin .or (.int .i64 (c * 64)) (.int .i64 r) = some (.int .i64 (c * 64 + r)) := by
  obtain ⟨c, rfl⟩ : ∃ n : Nat, c = n := ⟨c.toNat, by omega⟩
  obtain ⟨r, rfl⟩ : ∃ n : Nat, r = n := ⟨r.toNat, by omega⟩
  have e1 : (BitVec.ofInt 64 ((c : Int) * 64)).toNat = c * 64 := by rw [BitVec.toNat_ofInt]; omega
  have e2 : (BitVec.ofInt 64 (r : Int)).toNat = r := by rw [BitVec.toNat_ofInt]; omega
  have e3 : (BitVec.ofInt 64 ((c : Int) * 64) ||| BitVec.ofInt 64 (r : Int)).toNat = c * 64 + r := by
    rw [BitVec.toNat_or, e1, e2, shl_or (by omega)]
  simp only [evBin, if_true, intBin]
  have : IntKind.i64.wrap (((BitVec.ofInt 64 ((c : Int) * 64) ||| BitVec.ofInt 64 (r : Int)).toNat : Nat) : Int) = (c : Int) * 64 + r := by
    rw [e3, wrap_i64 (by omega) (by omega)]
    omega
  exact congrArg (fun z => some (AV.int .i64 z)) this

theorem ev_shl6 {c : Int} (h0 : 0 ≤ c) (h1 : c < 2 ^ 40) : evBin .shl (.int .i64 c) (.int .u64 6) = some (.int .i64 (c * 64)) := by
  have : IntKind.i64.wrap (c * 64) = c * 64 := wrap_i64 (by omega) (by omega)
  exact congrArg (fun z => some (AV.int .i64 z)) this

theorem ev_shr6 (x : UInt8) : evBin .shr (.int .u8 x.toNat) (.int .u64 6) = some (.int .u8 ((x.toNat : Int) / 64)) := by
  have : ((x.toNat : Int).fdiv 64) = (x.toNat : Int) / 64 := Int.fdiv_eq_ediv_of_nonneg _ (by omega)
  exact congrArg (fun z => some (AV.int .u8 z)) this

theorem ev_shr11 {c : Int} : evBin .shr (.int .i64 c) (.int .u64 11) = some (.int .i64 (c / 2048)) := by
  have : c.fdiv 2048 = c / 2048 := Int.fdiv_eq_ediv_of_nonneg _ (by omega)
  exact congrArg (fun z => some (AV.int .i64 z)) this

-- ---------------------------------------------------------------- the bytes that go on

abbrev pfr (t : List UInt8) (tl : Tail) (i k K j N : Nat) (r4 r5 c : Int) (x49 x9 x10 x60 x80 : AV) : Fr :=
  ⟨[(0, .vec (Am.byteCells t) tl), (1, .int .i64 i), (4, .int .i64 r4), (5, .int .i64 r5), (12, .int .i64 k), (13, .bool true), (11, .agg kindCs), (6, .int .i64 k), (7, .ptr N 0 0), (37, .bool false), (48, .int .i64 j), (47, .int .i64 K), (49, x49), (9, x9), (10, x10), (60, x60), (8, .int .i64 c), (80, x80)], [], .off⟩

theorem in_step (M L : Nat) (b : Bar) (t : List UInt8) (tl : Tail) (i k K j N : Nat) (c : Int) (x : UInt8) (x49 x9 x10 x60 : AV) (s : Sg) (htl : t.length < 2 ^ 40) (hj : j < K) (hK : K < 5) (hx : t[i + 1 + j]? = some x) (h0 : 0 ≤ c) (h1 : c < 2 ^ 30) {Q : Ex → Fr → Sg → Prop}
    (hyes : Cont x.toNat → ∀ x49 x9 x10 x60, OkL L (fun fr s => ACode.run (loopN M) (callF T M) b lp24_1 fr s) (pfr t tl i k K (j + 1) N 0 0 (c * 64 + (x.toNat - 128)) x49 x9 x10 x60 .undef) s Q)
    (hno : ¬ Cont x.toNat → ∀ x49 x9 x10 x60, Q .ret (pfr t tl i k K j N 0 0 c x49 x9 x10 x60 .undef) s) :
    OkL (L + 1) (fun fr s => ACode.run (loopN M) (callF T M) b lp24_1 fr s) (pfr t tl i k K j N 0 0 c x49 x9 x10 x60 .undef) s Q := by
  have hbl := Am.byteCells_length t
  have hlt := lt_of_getElem? hx
  have hx8 := u8_lt x
  apply l_round
  refine qqV ?_
  refine iV ?_
  refine c_skip ?_
  refine bV ?_
  refine qqV ?_
  refine qV ?_
  refine o_ixvec (j := i + 1 + j) rfl rfl rfl (by omega) (bc_get hx) (by rfl) ?_
  refine sV ?_
  refine eV ?_
  refine qV ?_
  refine o_bin ((x.toNat : Int) / 64) rfl rfl rfl (ev_shr6 x) ?_
  by_cases h2 : (x.toNat : Int) / 64 = 2
  · have hc : Cont x.toNat := ⟨by omega, by omega⟩
    have hm : (x.toNat : Int) % 64 = x.toNat - 128 := by omega
    refine sV ?_
    refine eV ?_
    refine lV ?_
    refine c_skip ?_
    refine qV ?_
    refine o_bin (c * 64) rfl rfl rfl (ev_shl6 h0 (by omega)) ?_
    refine sV ?_
    refine o_bin ((x.toNat : Int) % 64) rfl rfl rfl (ev_and63 x) ?_
    refine o_cv ((x.toNat : Int) % 64) rfl rfl (wrap_i64 (by omega) (by omega)) ?_
    refine o_bin (c * 64 + (x.toNat : Int) % 64) rfl rfl rfl (ev_or6 h0 (by omega) (by omega) (by omega)) ?_
    rw [hm]
    refine sV ?_
    refine eV ?_
    refine qqV ?_
    exact hyes hc _ _ _ _
  · have hc : ¬ Cont x.toNat := fun h => h2 (by have := h.1; have := h.2; omega)
    refine sV ?_
    refine eV ?_
    refine iV ?_
    refine qqV ?_
    exact c_ret (hno hc _ _ _ _)

theorem in_end (M L : Nat) (b : Bar) (t : List UInt8) (tl : Tail) (i k K N : Nat) (c : Int) (x49 x9 x10 x60 : AV) (s : Sg) (hK : K < 5) {Q : Ex → Fr → Sg → Prop} (h : ∀ x49 x9 x10 x60, Q (.exit 2) (pfr t tl i k K K N 0 0 c x49 x9 x10 x60 .undef) s) :
    OkL (L + 1) (fun fr s => ACode.run (loopN M) (callF T M) b lp24_1 fr s) (pfr t tl i k K K N 0 0 c x49 x9 x10 x60 .undef) s Q := by
  apply l_round
  refine qqV ?_
  refine lV ?_
  exact c_exit (h _ _ _ _)

end Go.Vmm

namespace Go.Vmm
open Go Go.Am Go.Proofs

abbrev qfr (t : List UInt8) (tl : Tail) (i k : Nat) (x13 x6 x7 x37 : AV) : Fr :=
  ⟨[(0, .vec (Am.byteCells t) tl), (1, .int .i64 i), (4, .int .i64 0), (5, .int .i64 0), (12, .int .i64 k), (13, x13), (11, .agg kindCs), (6, x6), (7, x7), (37, x37), (48, .undef), (47, .undef), (49, .undef), (9, .undef), (10, .undef), (60, .undef), (8, .undef), (80, .undef)], [], .off⟩

theorem mask_1 : ∀ n : Fin 256, (IntKind.u8.wrap ((BitVec.ofInt 8 (n.val : Int) &&& BitVec.ofInt 8 128).toNat : Int) = 0 ↔ (0 ≤ n.val ∧ n.val < 128)) ∧ (0 ≤ n.val → n.val < 128 → IntKind.u8.wrap ((BitVec.ofInt 8 (n.val : Int) &&& ~~~BitVec.ofInt 8 128).toNat : Int) = (n.val : Int) - 0) := by decide +kernel

theorem ev_mask1 (x : UInt8) : ∃ z, evBin .and (.int .u8 x.toNat) (.int .u8 128) = some (.int .u8 z) ∧ (z = 0 ↔ (0 ≤ x.toNat ∧ x.toNat < 128)) :=
  ⟨_, rfl, (mask_1 ⟨x.toNat, x.toNat_lt⟩).1⟩

theorem ev_sub1 (x : UInt8) (h1 : 0 ≤ x.toNat) (h2 : x.toNat < 128) : evBin .andNot (.int .u8 x.toNat) (.int .u8 128) = some (.int .u8 ((x.toNat : Int) - 0)) :=
  congrArg (fun z => some (AV.int .u8 z)) ((mask_1 ⟨x.toNat, x.toNat_lt⟩).2 h1 h2)

theorem mask_2 : ∀ n : Fin 256, (IntKind.u8.wrap ((BitVec.ofInt 8 (n.val : Int) &&& BitVec.ofInt 8 224).toNat : Int) = 192 ↔ (192 ≤ n.val ∧ n.val < 224)) ∧ (192 ≤ n.val → n.val < 224 → IntKind.u8.wrap ((BitVec.ofInt 8 (n.val : Int) &&& ~~~BitVec.ofInt 8 224).toNat : Int) = (n.val : Int) - 192) := by decide +kernel

theorem ev_mask2 (x : UInt8) : ∃ z, evBin .and (.int .u8 x.toNat) (.int .u8 224) = some (.int .u8 z) ∧ (z = 192 ↔ (192 ≤ x.toNat ∧ x.toNat < 224)) :=
  ⟨_, rfl, (mask_2 ⟨x.toNat, x.toNat_lt⟩).1⟩

theorem ev_sub2 (x : UInt8) (h1 : 192 ≤ x.toNat) (h2 : x.toNat < 224) : evBin .andNot (.int .u8 x.toNat) (.int .u8 224) = some (.int .u8 ((x.toNat : Int) - 192)) :=
  congrArg (fun z => some (AV.int .u8 z)) ((mask_2 ⟨x.toNat, x.toNat_lt⟩).2 h1 h2)

theorem mask_3 : ∀ n : Fin 256, (IntKind.u8.wrap ((BitVec.ofInt 8 (n.val : Int) &&& BitVec.ofInt 8 240).toNat : Int) = 224 ↔ (224 ≤ n.val ∧ n.val < 240)) ∧ (224 ≤ n.val → n.val < 240 → IntKind.u8.wrap ((BitVec.ofInt 8 (n.val : Int) &&& ~~~BitVec.ofInt 8 240).toNat : Int) = (n.val : Int) - 224) := by decide +kernel

theorem ev_mask3 (x : UInt8) : ∃ z, evBin .and (.int .u8 x.toNat) (.int .u8 240) = some (.int .u8 z) ∧ (z = 224 ↔ (224 ≤ x.toNat ∧ x.toNat < 240)) :=
  ⟨_, rfl, (mask_3 ⟨x.toNat, x.toNat_lt⟩).1⟩

theorem ev_sub3 (x : UInt8) (h1 : 224 ≤ x.toNat) (h2 : x.toNat < 240) : evBin .andNot (.int .u8 x.toNat) (.int .u8 240) = some (.int .u8 ((x.toNat : Int) - 224)) :=
  congrArg (fun z => some (AV.int .u8 z)) ((mask_3 ⟨x.toNat, x.toNat_lt⟩).2 h1 h2)

theorem mask_4 : ∀ n : Fin 256, (IntKind.u8.wrap ((BitVec.ofInt 8 (n.val : Int) &&& BitVec.ofInt 8 248).toNat : Int) = 240 ↔ (240 ≤ n.val ∧ n.val < 248)) ∧ (240 ≤ n.val → n.val < 248 → IntKind.u8.wrap ((BitVec.ofInt 8 (n.val : Int) &&& ~~~BitVec.ofInt 8 248).toNat : Int) = (n.val : Int) - 240) := by decide +kernel

theorem ev_mask4 (x : UInt8) : ∃ z, evBin .and (.int .u8 x.toNat) (.int .u8 248) = some (.int .u8 z) ∧ (z = 240 ↔ (240 ≤ x.toNat ∧ x.toNat < 248)) :=
  ⟨_, rfl, (mask_4 ⟨x.toNat, x.toNat_lt⟩).1⟩

theorem ev_sub4 (x : UInt8) (h1 : 240 ≤ x.toNat) (h2 : x.toNat < 248) : evBin .andNot (.int .u8 x.toNat) (.int .u8 248) = some (.int .u8 ((x.toNat : Int) - 240)) :=
  congrArg (fun z => some (AV.int .u8 z)) ((mask_4 ⟨x.toNat, x.toNat_lt⟩).2 h1 h2)

/-- a round that goes on: the one of 0 -/
theorem rk0 (M L : Nat) (b : Bar) (t : List UInt8) (tl : Tail) (i : Nat) (x13 x6 x7 x37 : AV) (s : Sg) (hb : b.w ≤ s.heap.length) (hbe : b.es = []) {Q : Ex → Fr → Sg → Prop}
    (h : ∀ x7 s', s.heap.length ≤ s'.heap.length → OkL L (fun fr s => ACode.run (loopN M) (callF T M) b lp24_0 fr s) (qfr t tl i 1 (.bool true) (.int .i64 0) x7 (.bool true)) s' Q) :
    OkL (L + 1) (fun fr s => ACode.run (loopN M) (callF T M) b lp24_0 fr s) (qfr t tl i 0 x13 x6 x7 x37) s Q := by
  apply l_round
  refine qqV ?_
  refine iV ?_
  refine c_skip ?_
  refine c_seq ?_
  refine bV ?_
  refine qV ?_
  refine o_alloc rfl ?_
  refine sV ?_
  refine o_st (l := [.int .u8 0, .int .u8 0, .int .i64 0]) rfl rfl rfl rfl (getCells_new _ _ 0) rfl (lets_nil (blt_no hb) hbe) (cs' := [.int .u8 0, .int .u8 0, .int .i64 0]) rfl ?_
  rw [push_put]
  refine eV ?_
  have hp : s.heap.length ≤ (s.push (.cells [.int .u8 0, .int .u8 0, .int .i64 0] 0)).heap.length := by simp [Sg.push]
  generalize (s.push (.cells [.int .u8 0, .int .u8 0, .int .i64 0] 0)) = s1 at hp ⊢
  refine dqqV ?_
  refine iV ?_
  refine c_exit ?_
  refine qqV ?_
  exact h _ s1 hp

/-- a round that goes on: the one of 1 -/
theorem rg1 (M L : Nat) (b : Bar) (t : List UInt8) (tl : Tail) (i : Nat) (x : UInt8) (x13 x6 x7 x37 : AV) (s : Sg) (hx : t[i]? = some x) (htl : t.length < 2 ^ 40) (hb : b.w ≤ s.heap.length) (hbe : b.es = []) (hno : ¬ (0 ≤ x.toNat ∧ x.toNat < 128) ∨ ¬ i + 1 ≤ t.length) {Q : Ex → Fr → Sg → Prop}
    (h : ∀ x7 s', s.heap.length ≤ s'.heap.length → OkL L (fun fr s => ACode.run (loopN M) (callF T M) b lp24_0 fr s) (qfr t tl i 2 (.bool true) (.int .i64 1) x7 (.bool true)) s' Q) :
    OkL (L + 1) (fun fr s => ACode.run (loopN M) (callF T M) b lp24_0 fr s) (qfr t tl i 1 x13 x6 x7 x37) s Q := by
  have hbl := Am.byteCells_length t
  have hil := lt_of_getElem? hx
  apply l_round
  refine qqV ?_
  refine iV ?_
  refine c_skip ?_
  refine c_seq ?_
  refine bV ?_
  refine qV ?_
  refine o_alloc rfl ?_
  refine sV ?_
  refine o_st (l := [.int .u8 128, .int .u8 0, .int .i64 0]) rfl rfl rfl rfl (getCells_new _ _ 0) rfl (lets_nil (blt_no hb) hbe) (cs' := [.int .u8 128, .int .u8 0, .int .i64 0]) rfl ?_
  rw [push_put]
  refine eV ?_
  have hp : s.heap.length ≤ (s.push (.cells [.int .u8 128, .int .u8 0, .int .i64 0] 0)).heap.length := by simp [Sg.push]
  have h8 : getCells (s.push (.cells [.int .u8 128, .int .u8 0, .int .i64 0] 0)).heap s.heap.length 0 = some [.int .u8 128, .int .u8 0, .int .i64 0] := getCells_new _ _ 0
  generalize (s.push (.cells [.int .u8 128, .int .u8 0, .int .i64 0] 0)) = s1 at hp h8 ⊢
  generalize hN : s.heap.length = N at hp h8 ⊢
  obtain ⟨z, hz, hzi⟩ := ev_mask1 x
  refine dqV ?_
  refine o_ixvec (j := i) rfl rfl rfl rfl (bc_get hx) rfl ?_
  refine sV ?_
  refine o_bin z rfl rfl rfl hz ?_
  by_cases he : z = 0
  · have hle : ¬ i + 1 ≤ t.length := hno.resolve_left fun hn => hn (hzi.1 he)
    refine sV ?_
    refine dV ?_
    refine iV ?_
    refine c_exit ?_
    refine qqV ?_
    exact h _ s1 (by rw [hN]; exact hp)
  · refine sV ?_
    refine dV ?_
    refine iV ?_
    refine c_exit ?_
    refine qqV ?_
    exact h _ s1 (by rw [hN]; exact hp)

/-- a round that goes on: the one of 2 -/
theorem rg2 (M L : Nat) (b : Bar) (t : List UInt8) (tl : Tail) (i : Nat) (x : UInt8) (x13 x6 x7 x37 : AV) (s : Sg) (hx : t[i]? = some x) (htl : t.length < 2 ^ 40) (hb : b.w ≤ s.heap.length) (hbe : b.es = []) (hno : ¬ (192 ≤ x.toNat ∧ x.toNat < 224) ∨ ¬ i + 2 ≤ t.length) {Q : Ex → Fr → Sg → Prop}
    (h : ∀ x7 s', s.heap.length ≤ s'.heap.length → OkL L (fun fr s => ACode.run (loopN M) (callF T M) b lp24_0 fr s) (qfr t tl i 3 (.bool true) (.int .i64 2) x7 (.bool true)) s' Q) :
    OkL (L + 1) (fun fr s => ACode.run (loopN M) (callF T M) b lp24_0 fr s) (qfr t tl i 2 x13 x6 x7 x37) s Q := by
  have hbl := Am.byteCells_length t
  have hil := lt_of_getElem? hx
  apply l_round
  refine qqV ?_
  refine iV ?_
  refine c_skip ?_
  refine c_seq ?_
  refine bV ?_
  refine qV ?_
  refine o_alloc rfl ?_
  refine sV ?_
  refine o_st (l := [.int .u8 224, .int .u8 192, .int .i64 128]) rfl rfl rfl rfl (getCells_new _ _ 0) rfl (lets_nil (blt_no hb) hbe) (cs' := [.int .u8 224, .int .u8 192, .int .i64 128]) rfl ?_
  rw [push_put]
  refine eV ?_
  have hp : s.heap.length ≤ (s.push (.cells [.int .u8 224, .int .u8 192, .int .i64 128] 0)).heap.length := by simp [Sg.push]
  have h8 : getCells (s.push (.cells [.int .u8 224, .int .u8 192, .int .i64 128] 0)).heap s.heap.length 0 = some [.int .u8 224, .int .u8 192, .int .i64 128] := getCells_new _ _ 0
  generalize (s.push (.cells [.int .u8 224, .int .u8 192, .int .i64 128] 0)) = s1 at hp h8 ⊢
  generalize hN : s.heap.length = N at hp h8 ⊢
  obtain ⟨z, hz, hzi⟩ := ev_mask2 x
  refine dqV ?_
  refine o_ixvec (j := i) rfl rfl rfl rfl (bc_get hx) rfl ?_
  refine sV ?_
  refine o_bin z rfl rfl rfl hz ?_
  by_cases he : z = 192
  · have hle : ¬ i + 2 ≤ t.length := hno.resolve_left fun hn => hn (hzi.1 he)
    refine sV ?_
    refine dV ?_
    refine iV ?_
    refine c_exit ?_
    refine qqV ?_
    exact h _ s1 (by rw [hN]; exact hp)
  · refine sV ?_
    refine dV ?_
    refine iV ?_
    refine c_exit ?_
    refine qqV ?_
    exact h _ s1 (by rw [hN]; exact hp)

/-- a round that goes on: the one of 3 -/
theorem rg3 (M L : Nat) (b : Bar) (t : List UInt8) (tl : Tail) (i : Nat) (x : UInt8) (x13 x6 x7 x37 : AV) (s : Sg) (hx : t[i]? = some x) (htl : t.length < 2 ^ 40) (hb : b.w ≤ s.heap.length) (hbe : b.es = []) (hno : ¬ (224 ≤ x.toNat ∧ x.toNat < 240) ∨ ¬ i + 3 ≤ t.length) {Q : Ex → Fr → Sg → Prop}
    (h : ∀ x7 s', s.heap.length ≤ s'.heap.length → OkL L (fun fr s => ACode.run (loopN M) (callF T M) b lp24_0 fr s) (qfr t tl i 4 (.bool true) (.int .i64 3) x7 (.bool true)) s' Q) :
    OkL (L + 1) (fun fr s => ACode.run (loopN M) (callF T M) b lp24_0 fr s) (qfr t tl i 3 x13 x6 x7 x37) s Q := by
  have hbl := Am.byteCells_length t
  have hil := lt_of_getElem? hx
  apply l_round
  refine qqV ?_
  refine iV ?_
  refine c_skip ?_
  refine c_seq ?_
  refine bV ?_
  refine qV ?_
  refine o_alloc rfl ?_
  refine sV ?_
  refine o_st (l := [.int .u8 240, .int .u8 224, .int .i64 2048]) rfl rfl rfl rfl (getCells_new _ _ 0) rfl (lets_nil (blt_no hb) hbe) (cs' := [.int .u8 240, .int .u8 224, .int .i64 2048]) rfl ?_
  rw [push_put]
  refine eV ?_
  have hp : s.heap.length ≤ (s.push (.cells [.int .u8 240, .int .u8 224, .int .i64 2048] 0)).heap.length := by simp [Sg.push]
  have h8 : getCells (s.push (.cells [.int .u8 240, .int .u8 224, .int .i64 2048] 0)).heap s.heap.length 0 = some [.int .u8 240, .int .u8 224, .int .i64 2048] := getCells_new _ _ 0
  generalize (s.push (.cells [.int .u8 240, .int .u8 224, .int .i64 2048] 0)) = s1 at hp h8 ⊢
  generalize hN : s.heap.length = N at hp h8 ⊢
  obtain ⟨z, hz, hzi⟩ := ev_mask3 x
  refine dqV ?_
  refine o_ixvec (j := i) rfl rfl rfl rfl (bc_get hx) rfl ?_
  refine sV ?_
  refine o_bin z rfl rfl rfl hz ?_
  by_cases he : z = 224
  · have hle : ¬ i + 3 ≤ t.length := hno.resolve_left fun hn => hn (hzi.1 he)
    refine sV ?_
    refine dV ?_
    refine iV ?_
    refine c_exit ?_
    refine qqV ?_
    exact h _ s1 (by rw [hN]; exact hp)
  · refine sV ?_
    refine dV ?_
    refine iV ?_
    refine c_exit ?_
    refine qqV ?_
    exact h _ s1 (by rw [hN]; exact hp)

/-- a round that goes on: the one of 4 -/
theorem rg4 (M L : Nat) (b : Bar) (t : List UInt8) (tl : Tail) (i : Nat) (x : UInt8) (x13 x6 x7 x37 : AV) (s : Sg) (hx : t[i]? = some x) (htl : t.length < 2 ^ 40) (hb : b.w ≤ s.heap.length) (hbe : b.es = []) (hno : ¬ (240 ≤ x.toNat ∧ x.toNat < 248) ∨ ¬ i + 4 ≤ t.length) {Q : Ex → Fr → Sg → Prop}
    (h : ∀ x7 s', s.heap.length ≤ s'.heap.length → OkL L (fun fr s => ACode.run (loopN M) (callF T M) b lp24_0 fr s) (qfr t tl i 5 (.bool true) (.int .i64 4) x7 (.bool true)) s' Q) :
    OkL (L + 1) (fun fr s => ACode.run (loopN M) (callF T M) b lp24_0 fr s) (qfr t tl i 4 x13 x6 x7 x37) s Q := by
  have hbl := Am.byteCells_length t
  have hil := lt_of_getElem? hx
  apply l_round
  refine qqV ?_
  refine iV ?_
  refine c_skip ?_
  refine c_seq ?_
  refine bV ?_
  refine qV ?_
  refine o_alloc rfl ?_
  refine sV ?_
  refine o_st (l := [.int .u8 248, .int .u8 240, .int .i64 65536]) rfl rfl rfl rfl (getCells_new _ _ 0) rfl (lets_nil (blt_no hb) hbe) (cs' := [.int .u8 248, .int .u8 240, .int .i64 65536]) rfl ?_
  rw [push_put]
  refine eV ?_
  have hp : s.heap.length ≤ (s.push (.cells [.int .u8 248, .int .u8 240, .int .i64 65536] 0)).heap.length := by simp [Sg.push]
  have h8 : getCells (s.push (.cells [.int .u8 248, .int .u8 240, .int .i64 65536] 0)).heap s.heap.length 0 = some [.int .u8 248, .int .u8 240, .int .i64 65536] := getCells_new _ _ 0
  generalize (s.push (.cells [.int .u8 248, .int .u8 240, .int .i64 65536] 0)) = s1 at hp h8 ⊢
  generalize hN : s.heap.length = N at hp h8 ⊢
  obtain ⟨z, hz, hzi⟩ := ev_mask4 x
  refine dqV ?_
  refine o_ixvec (j := i) rfl rfl rfl rfl (bc_get hx) rfl ?_
  refine sV ?_
  refine o_bin z rfl rfl rfl hz ?_
  by_cases he : z = 240
  · have hle : ¬ i + 4 ≤ t.length := hno.resolve_left fun hn => hn (hzi.1 he)
    refine sV ?_
    refine dV ?_
    refine iV ?_
    refine c_exit ?_
    refine qqV ?_
    exact h _ s1 (by rw [hN]; exact hp)
  · refine sV ?_
    refine dV ?_
    refine iV ?_
    refine c_exit ?_
    refine qqV ?_
    exact h _ s1 (by rw [hN]; exact hp)

end Go.Vmm

namespace Go.Vmm
open Go Go.Am Go.Proofs

/-- a part of function 24 -/
def pt24 : ACode := .seq (.seq (.region [Mv 68 8, Fa 69 2 7, Ld 70 69, Bn 71 .lss 68 70, Mv 72 71, Gf 73 72 (.move (.tmp 8)), Gf 74 72 (.bin .gtr (.tmp 73) (Ci 1114111)), Vv 75 (.pick (.tmp 72) (.const (.bool true)) (.tmp 74)), Mv 76 75, Gf 77 76 (.move (.tmp 8)), Gf 78 76 (.bin .shr (.tmp 77) (.const (.int .u64 11))), Gf 79 76 (.bin .eql (.tmp 78) (Ci 27)), Vv 80 (.pick (.tmp 76) (.const (.bool true)) (.tmp 79))] [80]) (.cond (.tmp 80) (.seq (.region [Mc 4 0, Mc 5 0] [4, 5]) (.ret)) (.skip))) (.seq (.region [Mv 81 8, Mv 82 6, Mv 4 81, Mv 5 82] [4, 5]) (.ret))

theorem pt_tail (M : Nat) (b : Bar) (t : List UInt8) (tl : Tail) (i k K N : Nat) (c mask F least : Int) (x49 x9 x10 x60 : AV) (s : Sg) (h8 : getCells s.heap N 0 = some [.int .u8 mask, .int .u8 F, .int .i64 least]) (h0 : 0 ≤ c) (hc : c < 2 ^ 40) {Q : Ex → Fr → Sg → Prop}
    (hq1 : c < least ∨ c > 1114111 ∨ (c ≥ 55296 ∧ c ≤ 57343) → ∀ pers, Env.get pers 4 = .int .i64 0 → Env.get pers 5 = .int .i64 0 → Q .ret ⟨pers, [], .off⟩ s)
    (hq2 : ¬ (c < least ∨ c > 1114111 ∨ (c ≥ 55296 ∧ c ≤ 57343)) → ∀ pers, Env.get pers 4 = .int .i64 c → Env.get pers 5 = .int .i64 k → Q .ret ⟨pers, [], .off⟩ s) :
    OkC (loopN M) (callF T M) b pt24 (pfr t tl i k K K N 0 0 c x49 x9 x10 x60 .undef) s Q := by
  by_cases h1 : c < least
  · refine c_seq ?_
    refine qqV ?_
    refine iV ?_
    refine qqV ?_
    exact c_ret (hq1 (.inl h1) _ rfl rfl)
  · by_cases h2 : c > 1114111
    · refine c_seq ?_
      refine qqV ?_
      refine iV ?_
      refine qqV ?_
      exact c_ret (hq1 (.inr (.inl h2)) _ rfl rfl)
    · refine c_seq ?_
      refine qV ?_
      refine o_bin (c / 2048) rfl rfl rfl ev_shr11 ?_
      by_cases h3 : c / 2048 = 27
      · refine sV ?_
        refine eV ?_
        refine iV ?_
        refine qqV ?_
        exact c_ret (hq1 (.inr (.inr ⟨by omega, by omega⟩)) _ rfl rfl)
      · refine sV ?_
        refine eV ?_
        refine lV ?_
        refine c_skip ?_
        refine qqV ?_
        exact c_ret (hq2 (by omega) _ rfl rfl)

/-- the round of 1 -/
theorem rh1 (M L : Nat) (b : Bar) (t : List UInt8) (tl : Tail) (i : Nat) (x : UInt8) (x13 x6 x7 x37 : AV) (s : Sg) (r : List Int) (hM : 5 ≤ M) (hx : t[i]? = some x) (hr : (ints t).drop i = (((x.toNat : Nat) : Int)) :: r) (htl : t.length < 2 ^ 40) (hb : b.w ≤ s.heap.length) (hbe : b.es = []) (hlo : 0 ≤ x.toNat) (hhi : x.toNat < 128) (hlen : i + 1 ≤ t.length) {Q : Ex → Fr → Sg → Prop}
    (hq : ∀ pers s', Env.get pers 4 = .int .i64 (dec ((ints t).drop i)).1 → Env.get pers 5 = .int .i64 (dec ((ints t).drop i)).2 → Q .ret ⟨pers, [], .off⟩ s') :
    OkL (L + 1) (fun fr s => ACode.run (loopN M) (callF T M) b lp24_0 fr s) (qfr t tl i 1 x13 x6 x7 x37) s Q := by
  have hbl := Am.byteCells_length t
  have hil := lt_of_getElem? hx
  have hx8 := u8_lt x
  obtain ⟨M, rfl⟩ : ∃ M', M = M' + 5 := ⟨M - 5, by omega⟩
  rw [hr] at hq
  apply l_round
  refine qqV ?_
  refine iV ?_
  refine c_skip ?_
  refine c_seq ?_
  refine bV ?_
  refine qV ?_
  refine o_alloc rfl ?_
  refine sV ?_
  refine o_st (l := [.int .u8 128, .int .u8 0, .int .i64 0]) rfl rfl rfl rfl (getCells_new _ _ 0) rfl (lets_nil (blt_no hb) hbe) (cs' := [.int .u8 128, .int .u8 0, .int .i64 0]) rfl ?_
  rw [push_put]
  refine eV ?_
  have h8 : getCells (s.push (.cells [.int .u8 128, .int .u8 0, .int .i64 0] 0)).heap s.heap.length 0 = some [.int .u8 128, .int .u8 0, .int .i64 0] := getCells_new _ _ 0
  generalize (s.push (.cells [.int .u8 128, .int .u8 0, .int .i64 0] 0)) = s1 at h8 ⊢
  generalize s.heap.length = N at h8 ⊢
  obtain ⟨z, hz, hzi⟩ := ev_mask1 x
  have he : z = 0 := hzi.2 ⟨hlo, hhi⟩
  refine dqV ?_
  refine o_ixvec (j := i) rfl rfl rfl rfl (bc_get hx) rfl ?_
  refine sV ?_
  refine o_bin z rfl rfl rfl hz ?_
  refine sV ?_
  refine dV ?_
  refine lV ?_
  refine c_skip ?_
  refine dqV ?_
  refine o_ixvec (j := i) rfl rfl rfl rfl (bc_get hx) rfl ?_
  refine sV ?_
  refine o_bin ((x.toNat : Int) - 0) rfl rfl rfl (ev_sub1 x hlo hhi) ?_
  refine o_cv ((x.toNat : Int) - 0) rfl rfl (wrap_i64 (by omega) (by omega)) ?_
  refine sV ?_
  refine dV ?_
  refine qqV ?_
  refine bV ?_
  refine c_loop ?_
  refine in_end (M + 5) (M + 4) _ t tl i 1 0 N ((x.toNat : Int) - 0) _ _ _ _ s1 (by omega) (fun x49 x9 x10 x60 => ?_)
  have hv : ((x.toNat : Int) - 0) = (x.toNat : Int) := by omega
  refine pt_tail (M + 5) _ t tl i 1 0 N _ 128 0 0 _ _ _ _ s1 h8 (by omega) (by omega) (fun h pers e4 e5 => ?_) (fun h pers e4 e5 => ?_)
  · exfalso; omega
  · have e : dec ((((x.toNat : Nat) : Int)) :: r) = ((x.toNat : Int), 1) := by simp only [dec]; rw [if_pos (by omega)]
    rw [e] at hq
    exact hq _ s1 (by rw [e4, hv]) e5

/-- the round of 2 -/
theorem rh2 (M L : Nat) (b : Bar) (t : List UInt8) (tl : Tail) (i : Nat) (x : UInt8) (y1 : UInt8) (x13 x6 x7 x37 : AV) (s : Sg) (r : List Int) (hM : 5 ≤ M) (hx : t[i]? = some x) (hy1 : t[i + 1 + 0]? = some y1) (hr : (ints t).drop i = (((x.toNat : Nat) : Int)) :: (((y1.toNat : Nat) : Int)) :: r) (htl : t.length < 2 ^ 40) (hb : b.w ≤ s.heap.length) (hbe : b.es = []) (hlo : 192 ≤ x.toNat) (hhi : x.toNat < 224) (hlen : i + 2 ≤ t.length) {Q : Ex → Fr → Sg → Prop}
    (hq : ∀ pers s', Env.get pers 4 = .int .i64 (dec ((ints t).drop i)).1 → Env.get pers 5 = .int .i64 (dec ((ints t).drop i)).2 → Q .ret ⟨pers, [], .off⟩ s') :
    OkL (L + 1) (fun fr s => ACode.run (loopN M) (callF T M) b lp24_0 fr s) (qfr t tl i 2 x13 x6 x7 x37) s Q := by
  have hbl := Am.byteCells_length t
  have hil := lt_of_getElem? hx
  have hx8 := u8_lt x
  have hy8_1 := u8_lt y1
  obtain ⟨M, rfl⟩ : ∃ M', M = M' + 5 := ⟨M - 5, by omega⟩
  rw [hr] at hq
  apply l_round
  refine qqV ?_
  refine iV ?_
  refine c_skip ?_
  refine c_seq ?_
  refine bV ?_
  refine qV ?_
  refine o_alloc rfl ?_
  refine sV ?_
  refine o_st (l := [.int .u8 224, .int .u8 192, .int .i64 128]) rfl rfl rfl rfl (getCells_new _ _ 0) rfl (lets_nil (blt_no hb) hbe) (cs' := [.int .u8 224, .int .u8 192, .int .i64 128]) rfl ?_
  rw [push_put]
  refine eV ?_
  have h8 : getCells (s.push (.cells [.int .u8 224, .int .u8 192, .int .i64 128] 0)).heap s.heap.length 0 = some [.int .u8 224, .int .u8 192, .int .i64 128] := getCells_new _ _ 0
  generalize (s.push (.cells [.int .u8 224, .int .u8 192, .int .i64 128] 0)) = s1 at h8 ⊢
  generalize s.heap.length = N at h8 ⊢
  obtain ⟨z, hz, hzi⟩ := ev_mask2 x
  have he : z = 192 := hzi.2 ⟨hlo, hhi⟩
  refine dqV ?_
  refine o_ixvec (j := i) rfl rfl rfl rfl (bc_get hx) rfl ?_
  refine sV ?_
  refine o_bin z rfl rfl rfl hz ?_
  refine sV ?_
  refine dV ?_
  refine lV ?_
  refine c_skip ?_
  refine dqV ?_
  refine o_ixvec (j := i) rfl rfl rfl rfl (bc_get hx) rfl ?_
  refine sV ?_
  refine o_bin ((x.toNat : Int) - 192) rfl rfl rfl (ev_sub2 x hlo hhi) ?_
  refine o_cv ((x.toNat : Int) - 192) rfl rfl (wrap_i64 (by omega) (by omega)) ?_
  refine sV ?_
  refine dV ?_
  refine qqV ?_
  refine bV ?_
  refine c_loop ?_
  refine in_step (M + 5) (M + 4) _ t tl i 2 1 0 N ((x.toNat : Int) - 192) y1 _ _ _ _ s1 htl (by omega) (by omega) hy1 (by omega) (by omega) (fun hc1 x49 x9 x10 x60 => ?_) (fun hc1 x49 x9 x10 x60 => ?_)
  rotate_left
  · have e : dec ((((x.toNat : Nat) : Int)) :: (((y1.toNat : Nat) : Int)) :: r) = (0, 0) := by
      simp only [dec]
      rw [if_neg (by omega)]; rw [if_neg (by omega)]; rw [if_pos (by omega)]
      exact if_neg (fun h => hc1 h.1)
    rw [e] at hq
    exact hq _ s1 rfl rfl
  refine in_end (M + 5) (M + 3) _ t tl i 2 1 N (((x.toNat : Int) - 192) * 64 + ((y1.toNat : Int) - 128)) _ _ _ _ s1 (by omega) (fun x49 x9 x10 x60 => ?_)
  have h1a := hc1.1
  have h1b := hc1.2
  have hv : (((x.toNat : Int) - 192) * 64 + ((y1.toNat : Int) - 128)) = (((x.toNat : Nat) : Int) - 192) * 64 + (((y1.toNat : Nat) : Int) - 128) := by omega
  refine pt_tail (M + 5) _ t tl i 2 1 N _ 224 192 128 _ _ _ _ s1 h8 (by omega) (by omega) (fun h pers e4 e5 => ?_) (fun h pers e4 e5 => ?_)
  · have e : dec ((((x.toNat : Nat) : Int)) :: (((y1.toNat : Nat) : Int)) :: r) = (0, 0) := by
      simp only [dec]
      rw [if_neg (by omega)]; rw [if_neg (by omega)]; rw [if_pos (by omega)]
      exact if_neg (by rintro h'; rcases h with h | h | h <;> omega)
    rw [e] at hq
    exact hq _ s1 e4 e5
  · have e : dec ((((x.toNat : Nat) : Int)) :: (((y1.toNat : Nat) : Int)) :: r) = ((((x.toNat : Nat) : Int) - 192) * 64 + (((y1.toNat : Nat) : Int) - 128), 2) := by
      simp only [dec]
      rw [if_neg (by omega)]; rw [if_neg (by omega)]; rw [if_pos (by omega)]
      exact if_pos (by omega)
    rw [e] at hq
    exact hq _ s1 (by rw [e4, hv]) e5

/-- the round of 3 -/
theorem rh3 (M L : Nat) (b : Bar) (t : List UInt8) (tl : Tail) (i : Nat) (x : UInt8) (y1 y2 : UInt8) (x13 x6 x7 x37 : AV) (s : Sg) (r : List Int) (hM : 5 ≤ M) (hx : t[i]? = some x) (hy1 : t[i + 1 + 0]? = some y1) (hy2 : t[i + 1 + 1]? = some y2) (hr : (ints t).drop i = (((x.toNat : Nat) : Int)) :: (((y1.toNat : Nat) : Int)) :: (((y2.toNat : Nat) : Int)) :: r) (htl : t.length < 2 ^ 40) (hb : b.w ≤ s.heap.length) (hbe : b.es = []) (hlo : 224 ≤ x.toNat) (hhi : x.toNat < 240) (hlen : i + 3 ≤ t.length) {Q : Ex → Fr → Sg → Prop}
    (hq : ∀ pers s', Env.get pers 4 = .int .i64 (dec ((ints t).drop i)).1 → Env.get pers 5 = .int .i64 (dec ((ints t).drop i)).2 → Q .ret ⟨pers, [], .off⟩ s') :
    OkL (L + 1) (fun fr s => ACode.run (loopN M) (callF T M) b lp24_0 fr s) (qfr t tl i 3 x13 x6 x7 x37) s Q := by
  have hbl := Am.byteCells_length t
  have hil := lt_of_getElem? hx
  have hx8 := u8_lt x
  have hy8_1 := u8_lt y1
  have hy8_2 := u8_lt y2
  obtain ⟨M, rfl⟩ : ∃ M', M = M' + 5 := ⟨M - 5, by omega⟩
  rw [hr] at hq
  apply l_round
  refine qqV ?_
  refine iV ?_
  refine c_skip ?_
  refine c_seq ?_
  refine bV ?_
  refine qV ?_
  refine o_alloc rfl ?_
  refine sV ?_
  refine o_st (l := [.int .u8 240, .int .u8 224, .int .i64 2048]) rfl rfl rfl rfl (getCells_new _ _ 0) rfl (lets_nil (blt_no hb) hbe) (cs' := [.int .u8 240, .int .u8 224, .int .i64 2048]) rfl ?_
  rw [push_put]
  refine eV ?_
  have h8 : getCells (s.push (.cells [.int .u8 240, .int .u8 224, .int .i64 2048] 0)).heap s.heap.length 0 = some [.int .u8 240, .int .u8 224, .int .i64 2048] := getCells_new _ _ 0
  generalize (s.push (.cells [.int .u8 240, .int .u8 224, .int .i64 2048] 0)) = s1 at h8 ⊢
  generalize s.heap.length = N at h8 ⊢
  obtain ⟨z, hz, hzi⟩ := ev_mask3 x
  have he : z = 224 := hzi.2 ⟨hlo, hhi⟩
  refine dqV ?_
  refine o_ixvec (j := i) rfl rfl rfl rfl (bc_get hx) rfl ?_
  refine sV ?_
  refine o_bin z rfl rfl rfl hz ?_
  refine sV ?_
  refine dV ?_
  refine lV ?_
  refine c_skip ?_
  refine dqV ?_
  refine o_ixvec (j := i) rfl rfl rfl rfl (bc_get hx) rfl ?_
  refine sV ?_
  refine o_bin ((x.toNat : Int) - 224) rfl rfl rfl (ev_sub3 x hlo hhi) ?_
  refine o_cv ((x.toNat : Int) - 224) rfl rfl (wrap_i64 (by omega) (by omega)) ?_
  refine sV ?_
  refine dV ?_
  refine qqV ?_
  refine bV ?_
  refine c_loop ?_
  refine in_step (M + 5) (M + 4) _ t tl i 3 2 0 N ((x.toNat : Int) - 224) y1 _ _ _ _ s1 htl (by omega) (by omega) hy1 (by omega) (by omega) (fun hc1 x49 x9 x10 x60 => ?_) (fun hc1 x49 x9 x10 x60 => ?_)
  rotate_left
  · have e : dec ((((x.toNat : Nat) : Int)) :: (((y1.toNat : Nat) : Int)) :: (((y2.toNat : Nat) : Int)) :: r) = (0, 0) := by
      simp only [dec]
      rw [if_neg (by omega)]; rw [if_neg (by omega)]; rw [if_neg (by omega)]; rw [if_pos (by omega)]
      exact if_neg (fun h => hc1 h.1)
    rw [e] at hq
    exact hq _ s1 rfl rfl
  refine in_step (M + 5) (M + 3) _ t tl i 3 2 1 N (((x.toNat : Int) - 224) * 64 + ((y1.toNat : Int) - 128)) y2 _ _ _ _ s1 htl (by omega) (by omega) hy2 (by omega) (by omega) (fun hc2 x49 x9 x10 x60 => ?_) (fun hc2 x49 x9 x10 x60 => ?_)
  rotate_left
  · have e : dec ((((x.toNat : Nat) : Int)) :: (((y1.toNat : Nat) : Int)) :: (((y2.toNat : Nat) : Int)) :: r) = (0, 0) := by
      simp only [dec]
      rw [if_neg (by omega)]; rw [if_neg (by omega)]; rw [if_neg (by omega)]; rw [if_pos (by omega)]
      exact if_neg (fun h => hc2 h.2.1)
    rw [e] at hq
    exact hq _ s1 rfl rfl
  refine in_end (M + 5) (M + 2) _ t tl i 3 2 N ((((x.toNat : Int) - 224) * 64 + ((y1.toNat : Int) - 128)) * 64 + ((y2.toNat : Int) - 128)) _ _ _ _ s1 (by omega) (fun x49 x9 x10 x60 => ?_)
  have h1a := hc1.1
  have h1b := hc1.2
  have h2a := hc2.1
  have h2b := hc2.2
  have hv : ((((x.toNat : Int) - 224) * 64 + ((y1.toNat : Int) - 128)) * 64 + ((y2.toNat : Int) - 128)) = (((x.toNat : Nat) : Int) - 224) * 4096 + (((y1.toNat : Nat) : Int) - 128) * 64 + (((y2.toNat : Nat) : Int) - 128) := by omega
  refine pt_tail (M + 5) _ t tl i 3 2 N _ 240 224 2048 _ _ _ _ s1 h8 (by omega) (by omega) (fun h pers e4 e5 => ?_) (fun h pers e4 e5 => ?_)
  · have e : dec ((((x.toNat : Nat) : Int)) :: (((y1.toNat : Nat) : Int)) :: (((y2.toNat : Nat) : Int)) :: r) = (0, 0) := by
      simp only [dec]
      rw [if_neg (by omega)]; rw [if_neg (by omega)]; rw [if_neg (by omega)]; rw [if_pos (by omega)]
      exact if_neg (by rintro h'; rcases h with h | h | h <;> omega)
    rw [e] at hq
    exact hq _ s1 e4 e5
  · have e : dec ((((x.toNat : Nat) : Int)) :: (((y1.toNat : Nat) : Int)) :: (((y2.toNat : Nat) : Int)) :: r) = ((((x.toNat : Nat) : Int) - 224) * 4096 + (((y1.toNat : Nat) : Int) - 128) * 64 + (((y2.toNat : Nat) : Int) - 128), 3) := by
      simp only [dec]
      rw [if_neg (by omega)]; rw [if_neg (by omega)]; rw [if_neg (by omega)]; rw [if_pos (by omega)]
      exact if_pos (by omega)
    rw [e] at hq
    exact hq _ s1 (by rw [e4, hv]) e5

/-- the round of 4 -/
theorem rh4 (M L : Nat) (b : Bar) (t : List UInt8) (tl : Tail) (i : Nat) (x : UInt8) (y1 y2 y3 : UInt8) (x13 x6 x7 x37 : AV) (s : Sg) (r : List Int) (hM : 5 ≤ M) (hx : t[i]? = some x) (hy1 : t[i + 1 + 0]? = some y1) (hy2 : t[i + 1 + 1]? = some y2) (hy3 : t[i + 1 + 2]? = some y3) (hr : (ints t).drop i = (((x.toNat : Nat) : Int)) :: (((y1.toNat : Nat) : Int)) :: (((y2.toNat : Nat) : Int)) :: (((y3.toNat : Nat) : Int)) :: r) (htl : t.length < 2 ^ 40) (hb : b.w ≤ s.heap.length) (hbe : b.es = []) (hlo : 240 ≤ x.toNat) (hhi : x.toNat < 248) (hlen : i + 4 ≤ t.length) {Q : Ex → Fr → Sg → Prop}
    (hq : ∀ pers s', Env.get pers 4 = .int .i64 (dec ((ints t).drop i)).1 → Env.get pers 5 = .int .i64 (dec ((ints t).drop i)).2 → Q .ret ⟨pers, [], .off⟩ s') :
    OkL (L + 1) (fun fr s => ACode.run (loopN M) (callF T M) b lp24_0 fr s) (qfr t tl i 4 x13 x6 x7 x37) s Q := by
  have hbl := Am.byteCells_length t
  have hil := lt_of_getElem? hx
  have hx8 := u8_lt x
  have hy8_1 := u8_lt y1
  have hy8_2 := u8_lt y2
  have hy8_3 := u8_lt y3
  obtain ⟨M, rfl⟩ : ∃ M', M = M' + 5 := ⟨M - 5, by omega⟩
  rw [hr] at hq
  apply l_round
  refine qqV ?_
  refine iV ?_
  refine c_skip ?_
  refine c_seq ?_
  refine bV ?_
  refine qV ?_
  refine o_alloc rfl ?_
  refine sV ?_
  refine o_st (l := [.int .u8 248, .int .u8 240, .int .i64 65536]) rfl rfl rfl rfl (getCells_new _ _ 0) rfl (lets_nil (blt_no hb) hbe) (cs' := [.int .u8 248, .int .u8 240, .int .i64 65536]) rfl ?_
  rw [push_put]
  refine eV ?_
  have h8 : getCells (s.push (.cells [.int .u8 248, .int .u8 240, .int .i64 65536] 0)).heap s.heap.length 0 = some [.int .u8 248, .int .u8 240, .int .i64 65536] := getCells_new _ _ 0
  generalize (s.push (.cells [.int .u8 248, .int .u8 240, .int .i64 65536] 0)) = s1 at h8 ⊢
  generalize s.heap.length = N at h8 ⊢
  obtain ⟨z, hz, hzi⟩ := ev_mask4 x
  have he : z = 240 := hzi.2 ⟨hlo, hhi⟩
  refine dqV ?_
  refine o_ixvec (j := i) rfl rfl rfl rfl (bc_get hx) rfl ?_
  refine sV ?_
  refine o_bin z rfl rfl rfl hz ?_
  refine sV ?_
  refine dV ?_
  refine lV ?_
  refine c_skip ?_
  refine dqV ?_
  refine o_ixvec (j := i) rfl rfl rfl rfl (bc_get hx) rfl ?_
  refine sV ?_
  refine o_bin ((x.toNat : Int) - 240) rfl rfl rfl (ev_sub4 x hlo hhi) ?_
  refine o_cv ((x.toNat : Int) - 240) rfl rfl (wrap_i64 (by omega) (by omega)) ?_
  refine sV ?_
  refine dV ?_
  refine qqV ?_
  refine bV ?_
  refine c_loop ?_
  refine in_step (M + 5) (M + 4) _ t tl i 4 3 0 N ((x.toNat : Int) - 240) y1 _ _ _ _ s1 htl (by omega) (by omega) hy1 (by omega) (by omega) (fun hc1 x49 x9 x10 x60 => ?_) (fun hc1 x49 x9 x10 x60 => ?_)
  rotate_left
  · have e : dec ((((x.toNat : Nat) : Int)) :: (((y1.toNat : Nat) : Int)) :: (((y2.toNat : Nat) : Int)) :: (((y3.toNat : Nat) : Int)) :: r) = (0, 0) := by
      simp only [dec]
      rw [if_neg (by omega)]; rw [if_neg (by omega)]; rw [if_neg (by omega)]; rw [if_neg (by omega)]; rw [if_pos (by omega)]
      exact if_neg (fun h => hc1 h.1)
    rw [e] at hq
    exact hq _ s1 rfl rfl
  refine in_step (M + 5) (M + 3) _ t tl i 4 3 1 N (((x.toNat : Int) - 240) * 64 + ((y1.toNat : Int) - 128)) y2 _ _ _ _ s1 htl (by omega) (by omega) hy2 (by omega) (by omega) (fun hc2 x49 x9 x10 x60 => ?_) (fun hc2 x49 x9 x10 x60 => ?_)
  rotate_left
  · have e : dec ((((x.toNat : Nat) : Int)) :: (((y1.toNat : Nat) : Int)) :: (((y2.toNat : Nat) : Int)) :: (((y3.toNat : Nat) : Int)) :: r) = (0, 0) := by
      simp only [dec]
      rw [if_neg (by omega)]; rw [if_neg (by omega)]; rw [if_neg (by omega)]; rw [if_neg (by omega)]; rw [if_pos (by omega)]
      exact if_neg (fun h => hc2 h.2.1)
    rw [e] at hq
    exact hq _ s1 rfl rfl
  refine in_step (M + 5) (M + 2) _ t tl i 4 3 2 N ((((x.toNat : Int) - 240) * 64 + ((y1.toNat : Int) - 128)) * 64 + ((y2.toNat : Int) - 128)) y3 _ _ _ _ s1 htl (by omega) (by omega) hy3 (by omega) (by omega) (fun hc3 x49 x9 x10 x60 => ?_) (fun hc3 x49 x9 x10 x60 => ?_)
  rotate_left
  · have e : dec ((((x.toNat : Nat) : Int)) :: (((y1.toNat : Nat) : Int)) :: (((y2.toNat : Nat) : Int)) :: (((y3.toNat : Nat) : Int)) :: r) = (0, 0) := by
      simp only [dec]
      rw [if_neg (by omega)]; rw [if_neg (by omega)]; rw [if_neg (by omega)]; rw [if_neg (by omega)]; rw [if_pos (by omega)]
      exact if_neg (fun h => hc3 h.2.2.1)
    rw [e] at hq
    exact hq _ s1 rfl rfl
  refine in_end (M + 5) (M + 1) _ t tl i 4 3 N (((((x.toNat : Int) - 240) * 64 + ((y1.toNat : Int) - 128)) * 64 + ((y2.toNat : Int) - 128)) * 64 + ((y3.toNat : Int) - 128)) _ _ _ _ s1 (by omega) (fun x49 x9 x10 x60 => ?_)
  have h1a := hc1.1
  have h1b := hc1.2
  have h2a := hc2.1
  have h2b := hc2.2
  have h3a := hc3.1
  have h3b := hc3.2
  have hv : (((((x.toNat : Int) - 240) * 64 + ((y1.toNat : Int) - 128)) * 64 + ((y2.toNat : Int) - 128)) * 64 + ((y3.toNat : Int) - 128)) = (((x.toNat : Nat) : Int) - 240) * 262144 + (((y1.toNat : Nat) : Int) - 128) * 4096 + (((y2.toNat : Nat) : Int) - 128) * 64 + (((y3.toNat : Nat) : Int) - 128) := by omega
  refine pt_tail (M + 5) _ t tl i 4 3 N _ 248 240 65536 _ _ _ _ s1 h8 (by omega) (by omega) (fun h pers e4 e5 => ?_) (fun h pers e4 e5 => ?_)
  · have e : dec ((((x.toNat : Nat) : Int)) :: (((y1.toNat : Nat) : Int)) :: (((y2.toNat : Nat) : Int)) :: (((y3.toNat : Nat) : Int)) :: r) = (0, 0) := by
      simp only [dec]
      rw [if_neg (by omega)]; rw [if_neg (by omega)]; rw [if_neg (by omega)]; rw [if_neg (by omega)]; rw [if_pos (by omega)]
      exact if_neg (by rintro h'; rcases h with h | h | h <;> omega)
    rw [e] at hq
    exact hq _ s1 e4 e5
  · have e : dec ((((x.toNat : Nat) : Int)) :: (((y1.toNat : Nat) : Int)) :: (((y2.toNat : Nat) : Int)) :: (((y3.toNat : Nat) : Int)) :: r) = ((((x.toNat : Nat) : Int) - 240) * 262144 + (((y1.toNat : Nat) : Int) - 128) * 4096 + (((y2.toNat : Nat) : Int) - 128) * 64 + (((y3.toNat : Nat) : Int) - 128), 4) := by
      simp only [dec]
      rw [if_neg (by omega)]; rw [if_neg (by omega)]; rw [if_neg (by omega)]; rw [if_neg (by omega)]; rw [if_pos (by omega)]
      exact if_pos (by omega)
    rw [e] at hq
    exact hq _ s1 (by rw [e4, hv]) e5

end Go.Vmm

namespace Go.Vmm
open Go Go.Am Go.Proofs

theorem drop_cons {t : List UInt8} {i : Nat} {x : UInt8} (h : t[i]? = some x) : (ints t).drop i = ((x.toNat : Nat) : Int) :: (ints t).drop (i + 1) := by
  have hl := lt_of_getElem? h
  have hi : i < (ints t).length := by rw [ints_len]; exact hl
  rw [List.drop_eq_getElem_cons hi]
  congr 1
  have e : (ints t)[i]? = some ((x.toNat : Nat) : Int) := by simp [ints, h]
  rw [List.getElem?_eq_getElem hi] at e
  exact Option.some.inj e

theorem dec_none (x : Int) (r : List Int) (h1 : 128 ≤ x) (h2 : 192 ≤ x → x < 224 → r.length < 1) (h3 : 224 ≤ x → x < 240 → r.length < 2) (h4 : 240 ≤ x → x < 248 → r.length < 3) : dec (x :: r) = (0, 0) := by
  simp only [dec]
  rw [if_neg (by omega)]
  by_cases a1 : x < 192
  · rw [if_pos a1]
  rw [if_neg a1]
  by_cases a2 : x < 224
  · rw [if_pos a2]
    have := h2 (by omega) a2
    match r, this with
    | [], _ => rfl
  rw [if_neg a2]
  by_cases a3 : x < 240
  · rw [if_pos a3]
    have := h3 (by omega) a3
    match r, this with
    | [], _ => rfl
    | [_], _ => rfl
  rw [if_neg a3]
  by_cases a4 : x < 248
  · rw [if_pos a4]
    have := h4 (by omega) a4
    match r, this with
    | [], _ => rfl
    | [_], _ => rfl
    | [_, _], _ => rfl
  rw [if_neg a4]

theorem point_loop (M : Nat) (b : Bar) (t : List UInt8) (tl : Tail) (i : Nat) (x : UInt8) (s : Sg) (hM : 7 ≤ M) (hx : t[i]? = some x) (htl : t.length < 2 ^ 40) (hb : b.w ≤ s.heap.length) (hbe : b.es = []) {Q : Ex → Fr → Sg → Prop}
    (hq : ∀ pers s', Env.get pers 4 = .int .i64 (dec ((ints t).drop i)).1 → Env.get pers 5 = .int .i64 (dec ((ints t).drop i)).2 → Q .ret ⟨pers, [], .off⟩ s')
    (hno : ∀ x13 x6 x7 x37 s', dec ((ints t).drop i) = (0, 0) → Q (.exit 0) (qfr t tl i 5 x13 x6 x7 x37) s') :
    OkL M (fun fr s => ACode.run (loopN M) (callF T M) b lp24_0 fr s) (qfr t tl i 0 .undef .undef .undef .undef) s Q := by
  have hil := lt_of_getElem? hx
  have hd := drop_cons hx
  have hrl : ((ints t).drop (i + 1)).length = t.length - (i + 1) := by rw [List.length_drop, ints_len]
  have get : ∀ j, i + 1 + j < t.length → ∃ y : UInt8, t[i + 1 + j]? = some y := fun j hj => ⟨_, List.getElem?_eq_getElem hj⟩
  obtain ⟨M, rfl⟩ : ∃ M', M = M' + 7 := ⟨M - 7, by omega⟩
  generalize hMM : M + 7 = MM
  have hM5 : 5 ≤ MM := by omega
  rw [show MM = (M + 6) + 1 by omega] at *
  refine rk0 _ (M + 6) b t tl i _ _ _ _ s hb hbe fun x7 s0 hs0 => ?_
  by_cases h1 : x.toNat < 128
  · exact rh1 _ (M + 5) b t tl i x _ _ _ _ s0 _ hM5 hx hd htl (by omega) hbe (by omega) h1 (by omega) hq
  refine rg1 _ (M + 5) b t tl i x _ _ _ _ s0 hx htl (by omega) hbe (.inl (by omega)) fun x7 s1 hs1 => ?_
  by_cases h2 : (192 ≤ x.toNat ∧ x.toNat < 224) ∧ i + 2 ≤ t.length
  · obtain ⟨y1, hy1⟩ := get 0 (by omega)
    exact rh2 _ (M + 4) b t tl i x y1 _ _ _ _ s1 _ hM5 hx hy1 (by rw [hd, drop_cons hy1]) htl (by omega) hbe h2.1.1 h2.1.2 h2.2 hq
  refine rg2 _ (M + 4) b t tl i x _ _ _ _ s1 hx htl (by omega) hbe (by omega) fun x7 s2 hs2 => ?_
  by_cases h3 : (224 ≤ x.toNat ∧ x.toNat < 240) ∧ i + 3 ≤ t.length
  · obtain ⟨y1, hy1⟩ := get 0 (by omega)
    obtain ⟨y2, hy2⟩ := get 1 (by omega)
    exact rh3 _ (M + 3) b t tl i x y1 y2 _ _ _ _ s2 _ hM5 hx hy1 hy2 (by rw [hd, drop_cons hy1, drop_cons (i := i + 1 + 0 + 1) hy2]) htl (by omega) hbe h3.1.1 h3.1.2 h3.2 hq
  refine rg3 _ (M + 3) b t tl i x _ _ _ _ s2 hx htl (by omega) hbe (by omega) fun x7 s3 hs3 => ?_
  by_cases h4 : (240 ≤ x.toNat ∧ x.toNat < 248) ∧ i + 4 ≤ t.length
  · obtain ⟨y1, hy1⟩ := get 0 (by omega)
    obtain ⟨y2, hy2⟩ := get 1 (by omega)
    obtain ⟨y3, hy3⟩ := get 2 (by omega)
    exact rh4 _ (M + 2) b t tl i x y1 y2 y3 _ _ _ _ s3 _ hM5 hx hy1 hy2 hy3 (by rw [hd, drop_cons hy1, drop_cons (i := i + 1 + 0 + 1) hy2, drop_cons (i := i + 1 + 0 + 1 + 1) hy3]) htl (by omega) hbe h4.1.1 h4.1.2 h4.2 hq
  refine rg4 _ (M + 2) b t tl i x _ _ _ _ s3 hx htl (by omega) hbe (by omega) fun x7 s4 hs4 => ?_
  apply l_round
  refine qqV ?_
  refine lV ?_
  refine c_exit (hno _ _ _ _ s4 ?_)
  rw [hd]
  exact dec_none _ _ (by omega) (fun _ _ => by omega) (fun _ _ => by omega) (fun _ _ => by omega)

theorem point_spec (M : Nat) (b : Bar) (t : List UInt8) (tl : Tail) (i : Nat) (s : Sg) (hM : 7 ≤ M) (hi : i < t.length) (htl : t.length < 2 ^ 40) :
    callF T (M + 1) b 24 [.vec (Am.byteCells t) tl, .int .i64 i] s = some (.ret (.tup [.int .i64 (dec ((ints t).drop i)).1, .int .i64 (dec ((ints t).drop i)).2]), s) := by
  have hx := List.getElem?_eq_getElem hi
  generalize t[i] = x at hx
  obtain ⟨M, rfl⟩ : ∃ M', M = M' + 1 := ⟨M - 1, by omega⟩
  apply OkF.ret
  (apply f_wp rfl rfl; (repeat (first | exact Shape.nil | (apply Shape.cons; conv => lhs; whnf))))
  refine qqV ?_
  refine qV ?_
  refine o_call rfl rfl (kinds_spec M _ s) ?_
  refine sV ?_
  refine eV ?_
  refine bV ?_
  refine c_loop ?_
  refine point_loop (M + 1) _ t tl i x s hM hx htl (Nat.le_refl _) rfl (fun pers s' h1 h2 => ?_) (fun x13 x6 x7 x37 s' h => ?_)
  · exact fin_ret (.inl rfl) (read_tmp (by rw [h1]; rfl) (read_tmp (by rw [h2]; rfl) read_nil)) (leave_pure rfl rfl) ⟨rfl, rfl⟩
  · rw [h]
    refine qqV ?_
    refine c_ret ?_
    exact fin_ret (.inl rfl) (read_tmp rfl (read_tmp rfl read_nil)) (leave_pure rfl rfl) ⟨rfl, rfl⟩

end Go.Vmm

namespace Go.Vmm
open Go Go.Am Go.Proofs

/-- what comes at a place: a character, and how many bytes it has -/
def nxP (utf : Bool) (r : List Int) : Int × Int := if utf = true ∧ 0 < (dec r).2 then dec r else (r.headD 0, 1)

theorem dec_range (r : List Int) (hb : ∀ n ∈ r, 0 ≤ n ∧ n < 256) : 0 ≤ (dec r).1 ∧ (dec r).1 ≤ 1114111 ∧ 0 ≤ (dec r).2 ∧ (dec r).2 ≤ 4 ∧ (dec r).2 ≤ r.length := by
  match r with
  | [] => simp [dec]
  | a :: r =>
    have ha := hb a (by simp)
    simp only [dec]
    split
    · simp only [List.length_cons]; omega
    split
    · refine ⟨?_, ?_, ?_, ?_, ?_⟩ <;> simp <;> omega
    split
    · split
      · rename_i b rest
        have hbb := hb b (by simp)
        split
        · simp only [List.length_cons]; omega
        · refine ⟨?_, ?_, ?_, ?_, ?_⟩ <;> simp <;> omega
      · refine ⟨?_, ?_, ?_, ?_, ?_⟩ <;> simp <;> omega
    split
    · split
      · rename_i b c rest
        have hbb := hb b (by simp)
        have hbc := hb c (by simp)
        split
        · simp only [List.length_cons]; omega
        · refine ⟨?_, ?_, ?_, ?_, ?_⟩ <;> simp <;> omega
      · refine ⟨?_, ?_, ?_, ?_, ?_⟩ <;> simp <;> omega
    split
    · split
      · rename_i b c d rest
        have hbb := hb b (by simp)
        have hbc := hb c (by simp)
        have hbd := hb d (by simp)
        split
        · simp only [List.length_cons]; omega
        · refine ⟨?_, ?_, ?_, ?_, ?_⟩ <;> simp <;> omega
      · refine ⟨?_, ?_, ?_, ?_, ?_⟩ <;> simp <;> omega
    · refine ⟨?_, ?_, ?_, ?_, ?_⟩ <;> simp <;> omega

theorem next_prog (M : Nat) (b : Bar) (t : List UInt8) (tl : Tail) (at_ : Nat) (utf : Bool) (s : Sg) (hM : 8 ≤ M) (hat : at_ < t.length) (htl : t.length < 2 ^ 40) :
    callF T (M + 1) b 10 [.vec (Am.byteCells t) tl, .int .i64 at_, .bool utf] s = some (.ret (.tup [.int .i64 (nxP utf ((ints t).drop at_)).1, .int .i64 (at_ + (nxP utf ((ints t).drop at_)).2)]), s) := by
  have hbl := Am.byteCells_length t
  have hrb : ∀ n ∈ (ints t).drop at_, 0 ≤ n ∧ n < 256 := fun n hn => ints_range t n (List.mem_of_mem_drop hn)
  have hk := dec_range ((ints t).drop at_) hrb
  have hx := List.getElem?_eq_getElem hat
  generalize t[at_] = x at hx
  have hx8 := u8_lt x
  have hhd : ((ints t).drop at_).headD 0 = x.toNat := by
    rw [List.headD_eq_head?_getD, List.head?_drop]
    simp [ints, hx]
  obtain ⟨M, rfl⟩ : ∃ M', M = M' + 1 := ⟨M - 1, by omega⟩
  unfold nxP
  apply OkF.ret
  (apply f_wp rfl rfl; (repeat (first | exact Shape.nil | (apply Shape.cons; conv => lhs; whnf))))
  refine qqV ?_
  refine qqV ?_
  refine lV ?_
  refine c_skip ?_
  cases utf with
  | true =>
    refine qqV ?_
    refine iV ?_
    refine qV ?_
    refine o_call rfl rfl (point_spec M _ t tl at_ s (by omega) hat htl) ?_
    generalize dec ((ints t).drop at_) = q at hk ⊢
    obtain ⟨c, k⟩ := q
    dsimp only at hk ⊢
    refine sV ?_
    refine eV ?_
    by_cases h0 : 0 < k
    · rw [if_pos ⟨rfl, h0⟩]
      refine qqV ?_
      refine iV ?_
      refine qqV ?_
      refine c_ret ?_
      exact fin_ret (.inl rfl) (read_tmp rfl (read_tmp rfl read_nil)) (leave_pure rfl rfl) ⟨rfl, rfl⟩
    · rw [if_neg (by simp [h0]), hhd]
      refine qqV ?_
      refine lV ?_
      refine c_skip ?_
      refine qV ?_
      refine o_ixvec (j := at_) rfl rfl rfl rfl (bc_get hx) rfl ?_
      refine sV ?_
      refine o_cv (x.toNat : Int) rfl rfl (wrap_i64 (by omega) (by omega)) ?_
      refine sV ?_
      refine eV ?_
      refine c_ret ?_
      exact fin_ret (.inl rfl) (read_tmp rfl (read_tmp rfl read_nil)) (leave_pure rfl rfl) ⟨rfl, rfl⟩
  | false =>
    rw [if_neg (by simp), hhd]
    refine qqV ?_
    refine lV ?_
    refine c_skip ?_
    refine qV ?_
    refine o_ixvec (j := at_) rfl rfl rfl rfl (bc_get hx) rfl ?_
    refine sV ?_
    refine o_cv (x.toNat : Int) rfl rfl (wrap_i64 (by omega) (by omega)) ?_
    refine sV ?_
    refine eV ?_
    refine c_ret ?_
    exact fin_ret (.inl rfl) (read_tmp rfl (read_tmp rfl read_nil)) (leave_pure rfl rfl) ⟨rfl, rfl⟩

-- ---------------------------------------------------------------- both are the same

theorem of_yes {l : List Int} (hne : l ≠ []) (h : seqI (cand l) = l) : ofI l = cand l ∧ 0 ≤ cand l := by
  refine ⟨if_pos h, ?_⟩
  apply Classical.byContradiction
  intro hn
  exact hne (h.symm.trans (seq_none (.inl (by omega))))

theorem of_no {l : List Int} (h : ¬ seqI (cand l) = l) : ofI l = -1 := if_neg h

theorem go_hit {r : List Int} {d n : Nat} (hn : n ≤ r.length) (hne : r.take n ≠ []) (h : seqI (cand (r.take n)) = r.take n) : atGo r (d + 1) n = (cand (r.take n), (n : Int)) := by
  obtain ⟨e1, e2⟩ := of_yes hne h
  simp only [atGo]
  rw [if_pos hn, e1, if_pos e2]

theorem go_on {r : List Int} {d n : Nat} (hn : n ≤ r.length) (h : ¬ seqI (cand (r.take n)) = r.take n) : atGo r (d + 1) n = atGo r d (n + 1) := by
  simp only [atGo]
  rw [if_pos hn, of_no h, if_neg (by decide)]

theorem go_end {r : List Int} {d n : Nat} (hn : ¬ n ≤ r.length) : atGo r d n = (-1, 0) := by
  cases d with
  | zero => rfl
  | succ d => simp only [atGo]; rw [if_neg hn]

/-- what is read by bits, and by its own sequence -/
theorem at_dec (r : List Int) (hb : ∀ n ∈ r, 0 ≤ n ∧ n < 256) (hne : r ≠ []) : atI r = if 0 < (dec r).2 then dec r else (-1, 0) := by
  match r, hne with
  | a :: r1, _ =>
    have ha := hb a (by simp)
    unfold atI
    by_cases h1 : a < 128
    · rw [go_hit (by simp) (by simp) (by simpa [cand] using (is_1 ha.1).2 h1)]
      simp [dec, h1, cand]
    rw [go_on (by simp) (by simpa [cand] using fun h => h1 ((is_1 ha.1).1 h))]
    match r1 with
    | [] =>
      rw [go_end (by simp), dec_none a [] (by omega) (fun _ _ => by simp) (fun _ _ => by simp) (fun _ _ => by simp)]
      rfl
    | c :: r2 =>
      have hc := hb c (by simp)
      have v2 := is_2 ha.1 ha.2 hc.1 hc.2
      by_cases h2 : 192 ≤ a ∧ a < 224 ∧ Cont c ∧ 128 ≤ (a - 192) * 64 + (c - 128)
      · rw [go_hit (by simp) (by simp) (by simpa using v2.2 h2)]
        have e : dec (a :: c :: r2) = ((a - 192) * 64 + (c - 128), 2) := by
          simp only [dec]
          rw [if_neg h1, if_neg (by omega), if_pos (by omega)]
          exact if_pos ⟨h2.2.2.1, h2.2.2.2⟩
        rw [e, if_pos (by dsimp only; omega)]
        simp [cand]
        omega
      rw [go_on (by simp) (by simpa using fun h => h2 (v2.1 h))]
      have d2 : 192 ≤ a → a < 224 → dec (a :: c :: r2) = (0, 0) := fun q1 q2 => by
        simp only [dec]
        rw [if_neg h1, if_neg (by omega), if_pos q2]
        exact if_neg fun h => h2 ⟨q1, q2, h.1, h.2⟩
      match r2 with
      | [] =>
        rw [go_end (by simp)]
        by_cases q : 192 ≤ a ∧ a < 224
        · rw [d2 q.1 q.2]; rfl
        · rw [dec_none a [c] (by omega) (fun _ _ => by omega) (fun _ _ => by simp) (fun _ _ => by simp)]; rfl
      | d :: r3 =>
        have hd := hb d (by simp)
        have v3 := is_3 ha.1 ha.2 hc.1 hc.2 hd.1 hd.2
        by_cases h3 : 224 ≤ a ∧ a < 240 ∧ Cont c ∧ Cont d ∧ 2048 ≤ (a - 224) * 4096 + (c - 128) * 64 + (d - 128) ∧ ¬ ((a - 224) * 4096 + (c - 128) * 64 + (d - 128) ≥ 55296 ∧ (a - 224) * 4096 + (c - 128) * 64 + (d - 128) ≤ 57343)
        · rw [go_hit (by simp) (by simp) (by simpa using v3.2 h3)]
          have e : dec (a :: c :: d :: r3) = ((a - 224) * 4096 + (c - 128) * 64 + (d - 128), 3) := by
            simp only [dec]
            rw [if_neg h1, if_neg (by omega), if_neg (by omega), if_pos (by omega)]
            exact if_pos ⟨h3.2.2.1, h3.2.2.2.1, h3.2.2.2.2⟩
          rw [e, if_pos (by dsimp only; omega)]
          simp [cand]
          omega
        rw [go_on (by simp) (by simpa using fun h => h3 (v3.1 h))]
        have d3 : 224 ≤ a → a < 240 → dec (a :: c :: d :: r3) = (0, 0) := fun q1 q2 => by
          simp only [dec]
          rw [if_neg h1, if_neg (by omega), if_neg (by omega), if_pos q2]
          exact if_neg fun h => h3 ⟨q1, q2, h.1, h.2.1, h.2.2⟩
        match r3 with
        | [] =>
          rw [go_end (by simp)]
          by_cases q : 192 ≤ a ∧ a < 224
          · rw [d2 q.1 q.2]; rfl
          by_cases q3 : 224 ≤ a ∧ a < 240
          · rw [d3 q3.1 q3.2]; rfl
          · rw [dec_none a [c, d] (by omega) (fun _ _ => by omega) (fun _ _ => by omega) (fun _ _ => by simp)]; rfl
        | e4 :: r4 =>
          have he := hb e4 (by simp)
          have v4 := is_4 ha.1 ha.2 hc.1 hc.2 hd.1 hd.2 he.1 he.2
          by_cases h4 : 240 ≤ a ∧ a < 248 ∧ Cont c ∧ Cont d ∧ Cont e4 ∧ 65536 ≤ (a - 240) * 262144 + (c - 128) * 4096 + (d - 128) * 64 + (e4 - 128) ∧ (a - 240) * 262144 + (c - 128) * 4096 + (d - 128) * 64 + (e4 - 128) ≤ 1114111
          · rw [go_hit (by simp) (by simp) (by simpa using v4.2 h4)]
            have e : dec (a :: c :: d :: e4 :: r4) = ((a - 240) * 262144 + (c - 128) * 4096 + (d - 128) * 64 + (e4 - 128), 4) := by
              simp only [dec]
              rw [if_neg h1, if_neg (by omega), if_neg (by omega), if_neg (by omega), if_pos (by omega)]
              exact if_pos ⟨h4.2.2.1, h4.2.2.2.1, h4.2.2.2.2.1, h4.2.2.2.2.2⟩
            rw [e, if_pos (by dsimp only; omega)]
            simp [cand]
            omega
          rw [go_on (by simp) (by simpa using fun h => h4 (v4.1 h))]
          have d4 : dec (a :: c :: d :: e4 :: r4) = (0, 0) := by
            by_cases q : 192 ≤ a ∧ a < 224
            · exact d2 q.1 q.2
            by_cases q3 : 224 ≤ a ∧ a < 240
            · exact d3 q3.1 q3.2
            by_cases q4 : 240 ≤ a ∧ a < 248
            · simp only [dec]
              rw [if_neg h1, if_neg (by omega), if_neg (by omega), if_neg (by omega), if_pos q4.2]
              exact if_neg fun h => h4 ⟨q4.1, q4.2, h.1, h.2.1, h.2.2.1, h.2.2.2⟩
            · exact dec_none _ _ (by omega) (fun _ _ => by omega) (fun _ _ => by omega) (fun _ _ => by omega)
          rw [d4]
          rfl

theorem nx_same (utf : Bool) (r : List Int) (hb : ∀ n ∈ r, 0 ≤ n ∧ n < 256) (hne : r ≠ []) : nxR utf r = nxP utf r := by
  unfold nxR nxP
  rw [at_dec r hb hne]
  by_cases h : 0 < (dec r).2
  · rw [if_pos h]
  · rw [if_neg h, if_neg (fun q => by have := q.2; simp at this), if_neg (fun q => h q.2)]

end Go.Vmm
