/-
  References, widths, Build; the law on the abstract machine.
-/
import Derived.Test.YtopnndphfdeoiaaGreatBctC
import Derived.Test.YtopnndphfdeoiaaGreatBctA
import Derived.Test.YtopnndphfdeoiaaGreatMachD

namespace Go.Vmm
open Go Go.Am Go.Proofs

/-- the loop 0 of function 30 -/
def lp30_0 : ACode := .seq (.region [Bn 51 .lss 50 49] [51]) (.seq (.cond (.tmp 51) (.skip) (.exit 1)) (.seq (.block 2 (.seq (.region [Vv 52 (.indexAddrS (some 12) (.tmp 48) (.tmp 50)), La 53 12 52, ⟨some 9, .e (.alloc [(.int .i64 0), (.int .i64 0), (.int .i64 0), .nilsl, (.bool false), (.int .i64 0), (.int .i64 0), (.int .i64 0), (.str []), (.int .i64 0), (.int .i64 0), .nilsl]), none⟩, St 12 9 53] [9]) (.seq (.seq (.region [Fa 54 0 3, Ld 55 54, Bc 56 .eql 55 16] [56]) (.cond (.tmp 56) (.region [Mv 57 0, Mv 58 5, Nc 59 57, Fa 60 0 59, St 1 60 58] []) (.skip))) (.seq (.region [Mv 61 7, Mv 62 0, La 63 12 9, Cl 64 30 [Tm 62, Tm 63], Vv 65 (.buildSl 12 (.agg [(.int .i64 0), (.int .i64 0), (.int .i64 0), .nilsl, (.bool false), (.int .i64 0), (.int .i64 0), (.int .i64 0), (.str []), (.int .i64 0), (.int .i64 0), .nilsl]) 1 [(0, (.tmp 64))]), ⟨some 66, .e (.append false (some 12) 136 (.tmp 61) (.tmp 65)), none⟩, Mv 7 66] [7]) (.region [Mv 67 6, Mv 68 0, Nc 69 68, Fa 70 0 69, Ld 71 70, Vv 72 (.mm true [Tm 67, Tm 71]), Mv 6 72] [6]))))) (.region [Bc 73 .add 50 1, Mv 50 73] [50])))

/-- a resolver without groups -/
def refC : List AV := [.int .i64 0, .int .i64 0, .nilsl, .int .i64 0, .int .i64 0]

/-- a set's node, its references resolved -/
theorem ref_set (m : Nat) (b : Bar) (s : Sg) (c : Nat) (x : Int × Int) (hb : b.w ≤ c) (hc : getCells s.heap c 0 = some refC) :
    callF T (m + 2) b 30 [.ptr c 0 0, .agg (setN x)] s = some (.ret (.agg (setN x)), s) := by
  have hcl := getCells_lt hc
  refine eq_of_okF ?_
  (apply f_wp rfl rfl; (repeat (first | exact Shape.nil | (apply Shape.cons; conv => lhs; whnf))))
  refine qV ?_
  refine o_box (v := .agg (setN x)) (l := setN x) rfl rfl rfl ?_
  refine o_alloc (z := kidsN 0 .nilsl) rfl ?_
  refine eV ?_
  have hN := getCells_push (.cells (kidsN 0 .nilsl) 0) (getCells_new s (setN x) 0)
  have hA := getCells_new (s.push (.cells (setN x) 0)) (kidsN 0 .nilsl) 0
  have hc1 := getCells_push (.cells (kidsN 0 .nilsl) 0) (getCells_push (.cells (setN x) 0) hc)
  have hl0 : (s.push (.cells (setN x) 0)).heap.length = s.heap.length + 1 := by simp [Sg.push]
  have hl1 : ((s.push (.cells (setN x) 0)).push (.cells (kidsN 0 .nilsl) 0)).heap.length = s.heap.length + 2 := by simp [Sg.push]
  have hlo : ∀ q, q < s.heap.length → ((s.push (.cells (setN x) 0)).push (.cells (kidsN 0 .nilsl) 0)).heap[q]? = s.heap[q]? := fun q hq => by rw [Sg.push_get _ _ (by omega), Sg.push_get _ _ hq]
  rw [hl0] at hA ⊢
  generalize (s.push (.cells (setN x) 0)).push (.cells (kidsN 0 .nilsl) 0) = s1 at hN hA hc1 hl1 hlo ⊢
  (repeat (first | refine lV ?_ | refine iV ?_ | refine c_skip ?_ | refine bV ?_ | refine qqV ?_ | refine dqqV ?_))
  refine c_loop (x := lp30_0) ?_
  apply l_round
  refine qqV ?_
  refine lV ?_
  refine c_exit ?_
  show OkC _ _ _ _ _ _ _
  refine qV ?_
  refine o_st rfl rfl rfl rfl hN rfl (lets_of (blt_no (by show b.w ≤ s.heap.length; omega)) (fun e => rfl)) (cs' := setN x) rfl ?_
  rw [put_same hN]
  refine eV ?_
  refine qV ?_
  refine o_app_first (ys := [.agg [.int .i64 x.2, .int .i64 x.2]]) rfl rfl rfl rfl rfl (by simp) rfl ?_
  have hN5 : getCells ({ s1 with toks := s1.toks ++ [0] } : Sg).heap s.heap.length 0 = some (setN x) := hN
  have hA5 : getCells ({ s1 with toks := s1.toks ++ [0] } : Sg).heap (s.heap.length + 1) 0 = some (kidsN 0 .nilsl) := hA
  refine sV ?_
  refine o_st rfl rfl rfl rfl hN5 rfl (lets_of (blt_no (by show b.w ≤ s.heap.length; omega)) (fun e => rfl)) (cs' := setN x) rfl ?_
  rw [put_same hN5]
  refine eV ?_
  refine qqV ?_
  refine lV ?_
  refine c_skip ?_
  refine qV ?_
  refine o_st rfl rfl rfl rfl hA5 rfl (lets_of (blt_no (by show b.w ≤ s.heap.length + 1; omega)) (fun e => rfl)) (cs' := setN x) rfl ?_
  have hA6 := getCells_put (cs' := setN x) (g' := 0) hA5
  refine eV ?_
  refine c_ret (fin_ret (fn := af30) (.inl rfl) (read_cell (v := .agg (setN x)) rfl hA6 rfl read_nil) (leave_eff (l := [.agg (setN x)]) (lay_ck (layOne_agg rfl) lay_nil rfl) rfl) ⟨rfl, ?_⟩)
  exact sg_back (by rw [Sg.put_len]; show _ ≤ s1.heap.length; omega) fun q hq => by rw [Sg.put_get _ _ _ (by omega)]; exact hlo q hq

abbrev fr30 (c : Nat) (x17 : AV) (cs es : List AV) (A N i : Nat) (x51 x56 x9 v : AV) : Fr :=
  ⟨[(0, .ptr c 0 0), (1, .agg cs), (4, .ptr A 0 0), (14, .bool false), (3, .ptr N 0 0), (17, x17), (18, .bool false), (25, .bool false), (30, .bool false), (35, .bool false), (50, .int .i64 i), (49, .int .i64 es.length), (51, x51), (48, .vec es .shut), (56, x56), (5, .int .i64 0), (7, v), (9, x9), (6, .int .i64 0), (82, .undef)], [], .off⟩

theorem ref_loop (m : Nat) (b : Bar) (s0 : Sg) (c A N : Nat) (x17 : AV) (cs : List AV) (hcs : cs.head? = some (.int .i64 12)) (hb : b.w ≤ c) (hbs : b.w ≤ s0.heap.length) (hc : getCells s0.heap c 0 = some refC) (hN : getCells s0.heap N 0 = some cs) (xs : List (Int × Int)) (hn : xs.length ≤ 1000) {Q : Ex → Fr → Sg → Prop}
    (hq : ∀ x58 x63 x9 v s', TS b (snavs xs) v s' → s0.heap.length ≤ s'.heap.length → (∀ q, q < s0.heap.length → s'.heap[q]? = s0.heap[q]?) → Q (.exit 1) (fr30 c x17 cs (snavs xs) A N xs.length x58 x63 x9 v) s') :
    ∀ (rest done : List (Int × Int)) (M : Nat) (x58 x63 x9 v : AV) (s : Sg), xs = done ++ rest → rest.length + 1 ≤ M → TS b (snavs done) v s → s0.heap.length ≤ s.heap.length → (∀ q, q < s0.heap.length → s.heap[q]? = s0.heap[q]?) →
    OkL M (fun fr s => ACode.run (loopN (m + 2)) (callF T (m + 2)) b lp30_0 fr s) (fr30 c x17 cs (snavs xs) A N done.length x58 x63 x9 v) s Q := by
  intro rest
  have hcp : cs[0]? = some (.int .i64 12) := by rw [← List.head?_eq_getElem?]; exact hcs
  induction rest with
  | nil =>
    intro done M x58 x63 x9 v s hl2 hM h hle hlow
    obtain ⟨M, rfl⟩ : ∃ M', M = M' + 1 := ⟨M - 1, by omega⟩
    rw [List.append_nil] at hl2
    subst hl2
    have hnl : (snavs xs).length = xs.length := by unfold snavs; rw [List.length_map]
    apply l_round
    refine qqV ?_
    refine lV ?_
    exact c_exit (hq _ _ _ _ _ h hle hlow)
  | cons x rest ih =>
    intro done M x58 x63 x9 v s hl2 hM h hle hlow
    obtain ⟨M, rfl⟩ : ∃ M', M = M' + 1 := ⟨M - 1, by omega⟩
    have hnl : (snavs xs).length = xs.length := by unfold snavs; rw [List.length_map]
    have hnd : (snavs done).length = done.length := by unfold snavs; rw [List.length_map]
    have hkl : done.length < xs.length := by rw [hl2]; simp
    have hget : xs[done.length]? = some x := by rw [hl2]; simp
    have hg2 : (snavs xs)[done.length]? = some (.agg (setN x)) := by unfold snavs; rw [List.getElem?_map, hget]; rfl
    have hcl := getCells_lt hc
    have hc1 := getCells_at hc (hlow _ hcl)
    have hN1 := getCells_at hN (hlow _ (getCells_lt hN))
    apply l_round
    refine qqV ?_
    refine iV ?_
    refine c_skip ?_
    refine bV ?_
    refine qV ?_
    refine o_ixvec (j := done.length) rfl rfl rfl rfl hg2 rfl ?_
    refine sV ?_
    refine o_alloc (z := kidsN 0 .nilsl) rfl ?_
    have hT := getCells_new s (kidsN 0 .nilsl) 0
    refine o_st rfl rfl rfl rfl hT rfl (lets_of (blt_no (by omega)) (fun e => rfl)) (cs' := setN x) rfl ?_
    have hT2 := getCells_put (cs' := setN x) (g' := 0) hT
    have hc2 := getCells_put_ne (i := s.heap.length) (o := .cells (setN x) 0) (by omega) (getCells_push (.cells (kidsN 0 .nilsl) 0) hc1)
    have hN2 := getCells_put_ne (i := s.heap.length) (o := .cells (setN x) 0) (by have := getCells_lt hN1; omega) (getCells_push (.cells (kidsN 0 .nilsl) 0) hN1)
    have hle2 : s0.heap.length ≤ ((s.push (.cells (kidsN 0 .nilsl) 0)).put s.heap.length (.cells (setN x) 0)).heap.length := by rw [Sg.put_len]; simp [Sg.push]; omega
    have hlow2 : ∀ q, q < s0.heap.length → ((s.push (.cells (kidsN 0 .nilsl) 0)).put s.heap.length (.cells (setN x) 0)).heap[q]? = s0.heap[q]? := fun q hq => by
      rw [Sg.put_get _ _ _ (by omega), Sg.push_get _ _ (by omega)]
      exact hlow q hq
    have hTS : TS b (snavs done) v ((s.push (.cells (kidsN 0 .nilsl) 0)).put s.heap.length (.cells (setN x) 0)) := h.toks rfl
    refine eV ?_
    revert hT2 hc2 hN2 hle2 hlow2 hTS
    generalize (s.push (.cells (kidsN 0 .nilsl) 0)).put s.heap.length (.cells (setN x) 0) = s2
    intro hT2 hc2 hN2 hle2 hlow2 hTS
    refine qqV ?_
    refine lV ?_
    refine c_skip ?_
    refine c_seq (c_region ?_)
    refine o_w (v := v) rfl hTS.def ?_
    refine sV ?_
    refine o_call rfl rfl (ref_set m _ s2 c x hb hc2) ?_
    refine sV ?_
    refine o_app_ts (es := snavs done) (e := .agg (setN x)) rfl hTS hTS.def rfl rfl rfl (snavs_size done) (ble_of (by rw [hnd]; show (done.length + 1) * 136 ≤ 2 ^ 46; omega)) ?_
    intro v' s3 e1 _ _ hTS3
    refine o_w (v := v') rfl hTS3.def ?_
    refine eV ?_
    have hc3 : getCells s3.heap c 0 = some refC := by rw [e1]; exact hc2
    refine qV ?_
    have e0 : (if true = true then if (0 : Int) > 0 then (0 : Int) else 0 else if (0 : Int) < 0 then (0 : Int) else 0) = 0 := by decide
    rw [e0]
    refine eV ?_
    refine qqV ?_
    have hc9 : ((done.length : Nat) : Int) + 1 = ((done ++ [x]).length : Nat) := by simp
    rw [hc9]
    refine ih (done ++ [x]) M _ _ _ _ s3 (by rw [hl2]; simp) (by simp at hM; omega) (by rw [snavs_app]; exact hTS3) (by rw [e1]; exact hle2) (fun q hq => by rw [e1]; exact hlow2 q hq)

/-- a sequence, its references resolved -/
theorem ref_seq (m : Nat) (b : Bar) (s : Sg) (c : Nat) (xs : List (Int × Int)) (hne : xs ≠ []) (hn : xs.length ≤ 1000) (hm : xs.length ≤ m) (hb : b.w ≤ c) (hes : allGe s.heap.length b.es = true) (hc : getCells s.heap c 0 = some refC) :
    callF T (m + 3) b 30 [.ptr c 0 0, .agg (kidsN 12 (.vec (snavs xs) .shut))] s = some (.ret (.agg (kidsN 12 (.vec (snavs xs) .shut))), s) := by
  have hcl := getCells_lt hc
  have hnl : (snavs xs).length = xs.length := by unfold snavs; rw [List.length_map]
  have hes1 : ∀ i, s.heap.length ≤ i → allGe i (b.into .eff s).es = true := fun i hi => by
    show (Nat.ble s.heap.length i && allGe i b.es) = true
    rw [ble_of hi, allGe_le hi hes]
    rfl
  refine eq_of_okF ?_
  (apply f_wp rfl rfl; (repeat (first | exact Shape.nil | (apply Shape.cons; conv => lhs; whnf))))
  refine qV ?_
  refine o_box (v := .agg (kidsN 12 (.vec (snavs xs) .shut))) (l := kidsN 12 (.vec (snavs xs) .shut)) rfl rfl rfl ?_
  refine o_alloc (z := kidsN 0 .nilsl) rfl ?_
  refine eV ?_
  have hN := getCells_push (.cells (kidsN 0 .nilsl) 0) (getCells_new s (kidsN 12 (.vec (snavs xs) .shut)) 0)
  have hA := getCells_new (s.push (.cells (kidsN 12 (.vec (snavs xs) .shut)) 0)) (kidsN 0 .nilsl) 0
  have hc1 := getCells_push (.cells (kidsN 0 .nilsl) 0) (getCells_push (.cells (kidsN 12 (.vec (snavs xs) .shut)) 0) hc)
  have hl0 : (s.push (.cells (kidsN 12 (.vec (snavs xs) .shut)) 0)).heap.length = s.heap.length + 1 := by simp [Sg.push]
  have hl1 : ((s.push (.cells (kidsN 12 (.vec (snavs xs) .shut)) 0)).push (.cells (kidsN 0 .nilsl) 0)).heap.length = s.heap.length + 2 := by simp [Sg.push]
  have hlo : ∀ q, q < s.heap.length → ((s.push (.cells (kidsN 12 (.vec (snavs xs) .shut)) 0)).push (.cells (kidsN 0 .nilsl) 0)).heap[q]? = s.heap[q]? := fun q hq => by rw [Sg.push_get _ _ (by omega), Sg.push_get _ _ hq]
  have htk : ((s.push (.cells (kidsN 12 (.vec (snavs xs) .shut)) 0)).push (.cells (kidsN 0 .nilsl) 0)).toks = s.toks := rfl
  rw [hl0] at hA ⊢
  generalize (s.push (.cells (kidsN 12 (.vec (snavs xs) .shut)) 0)).push (.cells (kidsN 0 .nilsl) 0) = s1 at hN hA hc1 hl1 hlo htk ⊢
  (repeat (first | refine lV ?_ | refine iV ?_ | refine c_skip ?_ | refine bV ?_ | refine qqV ?_ | refine dqqV ?_))
  refine c_loop (x := lp30_0) ?_
  refine ref_loop m (b.into .eff s) s1 c (s.heap.length + 1) s.heap.length _ _ rfl hb (by show b.w ≤ _; omega) hc1 hN xs hn ?_ xs [] (m + 2) _ _ _ .nilsl s1 rfl (by omega) ⟨by rw [htk]; exact Nat.le_refl _, .inl ⟨rfl, rfl⟩⟩ (Nat.le_refl _) (fun _ _ => rfl)
  intro x58 x63 x9 v s3 hTS hle3 hlow3
  have hN3 := getCells_at hN (hlow3 _ (by omega))
  have hA3 := getCells_at hA (hlow3 _ (by omega))
  have hc3 := getCells_at hc1 (hlow3 _ (by omega))
  have hsne : snavs xs ≠ [] := fun e => by rw [e] at hnl; exact hne (List.length_eq_zero_iff.1 hnl.symm)
  show OkC _ _ _ _ _ _ _
  refine qV ?_
  refine o_w (v := v) rfl hTS.def ?_
  refine sV ?_
  refine o_st rfl rfl hTS.def (hTS.stored hsne) hN3 rfl (lets_ge (blt_no (by show b.w ≤ s.heap.length; omega)) (hes1 _ (by omega))) (cs' := kidsN 12 (.vec (snavs xs) .shut)) rfl ?_
  rw [put_same hN3]
  refine eV ?_
  refine qV ?_
  refine o_app_none rfl rfl (.inl rfl) rfl rfl rfl ?_
  refine sV ?_
  refine o_st rfl rfl rfl rfl hN3 rfl (lets_of (blt_no (by show b.w ≤ s.heap.length; omega)) (fun e => rfl)) (cs' := kidsN 12 (.vec (snavs xs) .shut)) rfl ?_
  rw [put_same hN3]
  refine eV ?_
  refine qqV ?_
  refine lV ?_
  refine c_skip ?_
  refine qV ?_
  refine o_st rfl rfl rfl rfl hA3 rfl (lets_ge (blt_no (by show b.w ≤ s.heap.length + 1; omega)) (hes1 _ (by omega))) (cs' := kidsN 12 (.vec (snavs xs) .shut)) rfl ?_
  have hA6 := getCells_put (cs' := kidsN 12 (.vec (snavs xs) .shut)) (g' := 0) hA3
  refine eV ?_
  refine c_ret (fin_ret (fn := af30) (.inl rfl) (read_cell (v := .agg (kidsN 12 (.vec (snavs xs) .shut))) rfl hA6 rfl read_nil) (leave_eff (l := [.agg (kidsN 12 (.vec (snavs xs) .shut))]) (lay_ck (layOne_agg ?_) lay_nil rfl) ?_) ⟨rfl, ?_⟩)
  · simp only [kidsN, AV.oldAll, AV.old, snavs_old, Bool.and_true]
  · simp only [kidsN, AV.oldAll, AV.old, snavs_old, Bool.and_true]
  · exact sg_back (by rw [Sg.put_len]; omega) fun q hq => by rw [Sg.put_get _ _ _ (by omega), hlow3 q (by omega)]; exact hlo q hq

end Go.Vmm

namespace Go.Vmm
open Go Go.Am Go.Proofs

/-- the loop 1 of function 31 -/
def lp31_1 : ACode := .seq (.region [Bn 60 .lss 59 58] [60]) (.seq (.cond (.tmp 60) (.skip) (.exit 2)) (.seq (.block 3 (.seq (.region [Vv 61 (.indexAddrS (some 12) (.tmp 57) (.tmp 59)), La 62 12 61, ⟨some 12, .e (.alloc [(.int .i64 0), (.int .i64 0), (.int .i64 0), .nilsl, (.bool false), (.int .i64 0), (.int .i64 0), (.int .i64 0), (.str []), (.int .i64 0), (.int .i64 0), .nilsl]), none⟩, St 12 12 62] [12]) (.seq (.region [La 64 12 12, La 65 12 3, Cl 66 31 [Tm 64, Tm 65], Mv 63 66, Vv 67 (.extract (.tmp 63) 0), Vv 68 (.extract (.tmp 63) 1), Mv 13 67, Mv 14 68] [13, 14]) (.seq (.region [Mv 69 13, Bc 70 .neq 69 0] [70]) (.cond (.tmp 70) (.seq (.region [Mv 71 13, Mv 72 14, Mv 4 71, Mv 5 72] [4, 5]) (.ret)) (.skip)))))) (.region [Bc 73 .add 59 1, Mv 59 73] [59])))

/-- no lookbehind in a set -/
theorem wid_set (m : Nat) (b : Bar) (s : Sg) (x : Int × Int) (R : List AV) (hst : (AV.agg R).stored = some R) :
    callF T (m + 2) b 31 [.agg (setN x), .agg R] s = some (.ret (.tup [.int .i64 0, .int .i64 0]), s) := by
  refine eq_of_okF ?_
  (apply f_wp rfl rfl; (repeat (first | exact Shape.nil | (apply Shape.cons; conv => lhs; whnf))))
  refine qV ?_
  refine o_box (v := .agg (setN x)) (l := setN x) rfl rfl rfl ?_
  refine o_box (v := .agg R) (l := R) rfl rfl hst ?_
  refine sV ?_
  refine eV ?_
  have hN := getCells_push (.cells R 0) (getCells_new s (setN x) 0)
  generalize (s.push (.cells (setN x) 0)).push (.cells R 0) = s1 at hN ⊢
  (repeat (first | refine lV ?_ | refine iV ?_ | refine c_skip ?_ | refine bV ?_ | refine qqV ?_ | refine dqqV ?_))
  refine c_loop (x := lp31_1) ?_
  apply l_round
  refine qqV ?_
  refine lV ?_
  refine c_exit ?_
  show OkC _ _ _ _ _ _ _
  refine qqV ?_
  exact c_ret (fin_ret (fn := af31) (.inl rfl) (read_tmp rfl (read_tmp rfl read_nil)) (leave_pure (l := [.int .i64 0, .int .i64 0]) (lay_ck (v := .int .i64 0) (u := .int .i64 0) rfl (lay_ck (v := .int .i64 0) (u := .int .i64 0) rfl lay_nil rfl) rfl) rfl) ⟨rfl, rfl⟩)

theorem wid_loop (m : Nat) (b : Bar) (s0 : Sg) (N R : Nat) (x16 x17 : AV) (cs rc : List AV) (hst : (AV.agg rc).stored = some rc) (h12 : rc.length = 12) (hbs : b.w ≤ s0.heap.length) (hR : getCells s0.heap R 0 = some rc) (xs : List (Int × Int)) (hn : xs.length ≤ 1000) {Q : Ex → Fr → Sg → Prop} {fr : AV → AV → AV → AV → AV → Int → Fr}
    (hfr : fr = fun x60 x12 x13 x14 x70 i => ⟨[(0, .agg cs), (1, .agg rc), (4, .int .i64 0), (5, .int .i64 0), (2, .ptr N 0 0), (22, .bool false), (6, .undef), (29, .undef), (36, .undef), (35, .undef), (37, .undef), (34, .undef), (8, .undef), (3, .ptr R 0 0), (9, .undef), (10, .undef), (52, .undef), (59, .int .i64 i), (58, .int .i64 (snavs xs).length), (60, x60), (57, .vec (snavs xs) .shut), (12, x12), (13, x13), (70, x70), (14, x14)], [], .off⟩)
    (hq : ∀ x60 x12 x13 x14 x70 s', Q (.exit 2) (fr x60 x12 x13 x14 x70 xs.length) s') :
    ∀ (rest done : List (Int × Int)) (M : Nat) (x60 x12 x13 x14 x70 : AV) (s : Sg), xs = done ++ rest → rest.length + 1 ≤ M → s0.heap.length ≤ s.heap.length → (∀ q, q < s0.heap.length → s.heap[q]? = s0.heap[q]?) →
    OkL M (fun fr s => ACode.run (loopN (m + 2)) (callF T (m + 2)) b lp31_1 fr s) (fr x60 x12 x13 x14 x70 done.length) s Q := by
  subst hfr
  have hp := part_all h12
  intro rest
  induction rest with
  | nil =>
    intro done M x60 x12 x13 x14 x70 s hl2 hM hle hlow
    obtain ⟨M, rfl⟩ : ∃ M', M = M' + 1 := ⟨M - 1, by omega⟩
    rw [List.append_nil] at hl2
    subst hl2
    have hnl : (snavs xs).length = xs.length := by unfold snavs; rw [List.length_map]
    apply l_round
    refine qqV ?_
    refine lV ?_
    exact c_exit (hq _ _ _ _ _ _)
  | cons x rest ih =>
    intro done M x60 x12 x13 x14 x70 s hl2 hM hle hlow
    obtain ⟨M, rfl⟩ : ∃ M', M = M' + 1 := ⟨M - 1, by omega⟩
    have hnl : (snavs xs).length = xs.length := by unfold snavs; rw [List.length_map]
    have hkl : done.length < xs.length := by rw [hl2]; simp
    have hget : xs[done.length]? = some x := by rw [hl2]; simp
    have hg2 : (snavs xs)[done.length]? = some (.agg (setN x)) := by unfold snavs; rw [List.getElem?_map, hget]; rfl
    have hRl := getCells_lt hR
    have hR1 := getCells_at hR (hlow _ hRl)
    apply l_round
    refine qqV ?_
    refine iV ?_
    refine c_skip ?_
    refine bV ?_
    refine qV ?_
    refine o_ixvec (j := done.length) rfl rfl rfl rfl hg2 rfl ?_
    refine sV ?_
    refine o_alloc (z := kidsN 0 .nilsl) rfl ?_
    have hT := getCells_new s (kidsN 0 .nilsl) 0
    refine o_st rfl rfl rfl rfl hT rfl (lets_of (blt_no (by omega)) (fun e => rfl)) (cs' := setN x) rfl ?_
    have hT2 := getCells_put (cs' := setN x) (g' := 0) hT
    have hR2 := getCells_put_ne (i := s.heap.length) (o := .cells (setN x) 0) (by omega) (getCells_push (.cells (kidsN 0 .nilsl) 0) hR1)
    have hle2 : s0.heap.length ≤ ((s.push (.cells (kidsN 0 .nilsl) 0)).put s.heap.length (.cells (setN x) 0)).heap.length := by rw [Sg.put_len]; simp [Sg.push]; omega
    have hlow2 : ∀ q, q < s0.heap.length → ((s.push (.cells (kidsN 0 .nilsl) 0)).put s.heap.length (.cells (setN x) 0)).heap[q]? = s0.heap[q]? := fun q hq => by
      rw [Sg.put_get _ _ _ (by omega), Sg.push_get _ _ (by omega)]
      exact hlow q hq
    refine eV ?_
    revert hT2 hR2 hle2 hlow2
    generalize (s.push (.cells (kidsN 0 .nilsl) 0)).put s.heap.length (.cells (setN x) 0) = s2
    intro hT2 hR2 hle2 hlow2
    refine qV ?_
    refine o_call rfl rfl (wid_set m _ s2 x rc hst) ?_
    refine sV ?_
    refine eV ?_
    refine qqV ?_
    refine lV ?_
    refine c_skip ?_
    refine qqV ?_
    have hc9 : ((done.length : Nat) : Int) + 1 = ((done ++ [x]).length : Nat) := by simp
    rw [hc9]
    exact ih (done ++ [x]) M _ _ _ _ _ s2 (by rw [hl2]; simp) (by simp at hM; omega) hle2 hlow2

/-- no lookbehind in a sequence of sets -/
theorem wid_seq (m : Nat) (b : Bar) (s : Sg) (R : List AV) (hst : (AV.agg R).stored = some R) (h12 : R.length = 12) (xs : List (Int × Int)) (hn : xs.length ≤ 1000) (hm : xs.length ≤ m) :
    callF T (m + 3) b 31 [.agg (kidsN 12 (.vec (snavs xs) .shut)), .agg R] s = some (.ret (.tup [.int .i64 0, .int .i64 0]), s) := by
  refine eq_of_okF ?_
  (apply f_wp rfl rfl; (repeat (first | exact Shape.nil | (apply Shape.cons; conv => lhs; whnf))))
  refine qV ?_
  refine o_box (v := .agg (kidsN 12 (.vec (snavs xs) .shut))) (l := kidsN 12 (.vec (snavs xs) .shut)) rfl rfl rfl ?_
  refine o_box (v := .agg R) (l := R) rfl rfl hst ?_
  refine sV ?_
  refine eV ?_
  have hN := getCells_push (.cells R 0) (getCells_new s (kidsN 12 (.vec (snavs xs) .shut)) 0)
  have hR := getCells_new (s.push (.cells (kidsN 12 (.vec (snavs xs) .shut)) 0)) R 0
  have hl1 : ((s.push (.cells (kidsN 12 (.vec (snavs xs) .shut)) 0)).push (.cells R 0)).heap.length = s.heap.length + 2 := by simp [Sg.push]
  generalize (s.push (.cells (kidsN 12 (.vec (snavs xs) .shut)) 0)).push (.cells R 0) = s1 at hN hR hl1 ⊢
  (repeat (first | refine lV ?_ | refine iV ?_ | refine c_skip ?_ | refine bV ?_ | refine qqV ?_ | refine dqqV ?_))
  refine c_loop (x := lp31_1) ?_
  refine wid_loop m (b.into .pure s) s1 s.heap.length _ .undef .undef _ R hst h12 (by show s.heap.length ≤ _; omega) hR xs hn rfl ?_ xs [] (m + 2) _ _ _ _ _ s1 rfl (by omega) (Nat.le_refl _) (fun _ _ => rfl)
  intro x60 x12 x13 x14 x70 s3
  show OkC _ _ _ _ _ _ _
  refine qqV ?_
  exact c_ret (fin_ret (fn := af31) (.inl rfl) (read_tmp rfl (read_tmp rfl read_nil)) (leave_pure (l := [.int .i64 0, .int .i64 0]) (lay_ck (v := .int .i64 0) (u := .int .i64 0) rfl (lay_ck (v := .int .i64 0) (u := .int .i64 0) rfl lay_nil rfl) rfl) rfl) ⟨rfl, rfl⟩)

/-- Check, of a resolved tree of characters -/
theorem wcheck_spec (m : Nat) (b : Bar) (s : Sg) (xs : List (Int × Int)) (h : RawOk xs) (hm : xs.length ≤ m) : callF T (m + 4) b 14 [.agg (resN xs)] s = some (.ret (.tup [.int .i64 0, .int .i64 0]), s) := by
  obtain ⟨hst, h12⟩ := resN_stored xs h.ne
  have hp := part_all h12
  have hw : ∀ (b : Bar) (s : Sg), callF T (m + 3) b 31 [.agg (resN xs), .agg (resN xs)] s = some (.ret (.tup [.int .i64 0, .int .i64 0]), s) := by
    intro b s
    rcases res_cases xs h.ne with ⟨x, rfl⟩ | ⟨_, _, e⟩
    · exact wid_set (m + 1) b s x _ hst
    · rw [e] at hst h12 ⊢
      exact wid_seq m b s _ hst h12 xs h.len hm
  refine eq_of_okF ?_
  (apply f_wp rfl rfl; (repeat (first | exact Shape.nil | (apply Shape.cons; conv => lhs; whnf))))
  refine qV ?_
  refine o_box (v := .agg (resN xs)) (l := resN xs) rfl rfl hst ?_
  refine sV ?_
  refine eV ?_
  have hN := getCells_new s (resN xs) 0
  refine qV ?_
  refine o_call rfl rfl (hw _ _) ?_
  refine sV ?_
  refine eV ?_
  exact c_ret (fin_ret (fn := af14) (.inl rfl) (read_tmp rfl (read_tmp rfl read_nil)) (leave_pure (l := [.int .i64 0, .int .i64 0]) (lay_ck (v := .int .i64 0) (u := .int .i64 0) rfl (lay_ck (v := .int .i64 0) (u := .int .i64 0) rfl lay_nil rfl) rfl) rfl) ⟨rfl, rfl⟩)

end Go.Vmm

namespace Go.Vmm
open Go Go.Am Go.Proofs

/-- Number, of a resolved tree of characters -/
theorem number_spec (m : Nat) (b : Bar) (s : Sg) (xs : List (Int × Int)) (h : RawOk xs) (hm : xs.length ≤ m) :
    callF T (m + 4) b 11 [.agg (resN xs)] s = some (.ret (.tup [.agg (resN xs), .int .i64 0, .nilsl, .int .i64 0, .int .i64 0]), s) := by
  obtain ⟨hst, h12⟩ := resN_stored xs h.ne
  have hp := part_all h12
  have hw : ∀ (b : Bar) (s : Sg) (c j : Nat), b.w ≤ c → allGe s.heap.length b.es = true → getCells s.heap c 0 = some (cntC j) → callF T (m + 3) b 28 [.ptr c 0 0, .agg (resN xs)] s = some (.ret (.agg (resN xs)), s) := by
    intro b s c j hb hes hc
    rcases res_cases xs h.ne with ⟨x, rfl⟩ | ⟨_, _, e⟩
    · exact num_set (m + 1) b s c j x hb hc
    · rw [e]
      exact num_seq m b s c j xs h.ne h.len hm hb hes hc
  refine eq_of_okF ?_
  (apply f_wp rfl rfl; (repeat (first | exact Shape.nil | (apply Shape.cons; conv => lhs; whnf))))
  refine qV ?_
  refine o_box (v := .agg (resN xs)) (l := resN xs) rfl rfl hst ?_
  refine o_alloc (z := kidsN 0 .nilsl) rfl ?_
  refine sV ?_
  refine eV ?_
  have hN := getCells_push (.cells (kidsN 0 .nilsl) 0) (getCells_new s (resN xs) 0)
  have hA := getCells_new (s.push (.cells (resN xs) 0)) (kidsN 0 .nilsl) 0
  have hl0 : (s.push (.cells (resN xs) 0)).heap.length = s.heap.length + 1 := by simp [Sg.push]
  have hl1 : ((s.push (.cells (resN xs) 0)).push (.cells (kidsN 0 .nilsl) 0)).heap.length = s.heap.length + 2 := by simp [Sg.push]
  rw [hl0] at hA ⊢
  generalize (s.push (.cells (resN xs) 0)).push (.cells (kidsN 0 .nilsl) 0) = s1 at hN hA hl1 ⊢
  refine qV ?_
  refine o_e (v := .map s1.heap.length) (s1 := s1.push (.mapo [])) rfl rfl ?_
  refine sV ?_
  have hl2 : (s1.push (.mapo [])).heap.length = s1.heap.length + 1 := by simp [Sg.push]
  refine o_box (v := .agg (cntC s1.heap.length)) (l := cntC s1.heap.length) rfl rfl rfl ?_
  refine sV ?_
  refine eV ?_
  have hC := getCells_new (s1.push (.mapo [])) (cntC s1.heap.length) 0
  have hN2 := getCells_push (.cells (cntC s1.heap.length) 0) (getCells_push (.mapo []) hN)
  have hA2 := getCells_push (.cells (cntC s1.heap.length) 0) (getCells_push (.mapo []) hA)
  have hl3 : ((s1.push (.mapo [])).push (.cells (cntC s1.heap.length) 0)).heap.length = s1.heap.length + 2 := by simp [Sg.push]
  rw [hl2] at hC ⊢
  generalize (s1.push (.mapo [])).push (.cells (cntC s1.heap.length) 0) = s2 at hC hN2 hA2 hl3 ⊢
  refine qV ?_
  refine o_call rfl rfl (hw _ s2 (s1.heap.length + 1) s1.heap.length (by show s.heap.length ≤ _; omega) rfl hC) ?_
  refine o_alloc (z := kidsN 0 .nilsl) rfl ?_
  have hD := getCells_new s2 (kidsN 0 .nilsl) 0
  have hC3 := getCells_push (.cells (kidsN 0 .nilsl) 0) hC
  have hA3 := getCells_push (.cells (kidsN 0 .nilsl) 0) hA2
  refine o_st rfl rfl rfl hst hD (by rw [h12]; rfl) (lets_nil (blt_no (by show s.heap.length ≤ s2.heap.length; omega)) rfl) (cs' := resN xs) (write_all (by rw [h12]; rfl)) ?_
  have hD4 := getCells_put (cs' := resN xs) (g' := 0) hD
  have hC4 := getCells_put_ne (i := s2.heap.length) (o := .cells (resN xs) 0) (by omega) hC3
  have hA4 := getCells_put_ne (i := s2.heap.length) (o := .cells (resN xs) 0) (by omega) hA3
  refine eV ?_
  generalize (s2.push (.cells (kidsN 0 .nilsl) 0)).put s2.heap.length (.cells (resN xs) 0) = s3 at hD4 hC4 hA4 ⊢
  refine qqV ?_
  refine lV ?_
  refine c_skip ?_
  refine dqV ?_
  refine o_st rfl rfl rfl hst hA4 (by rw [h12]; rfl) (lets_nil (blt_no (by show s.heap.length ≤ s.heap.length + 1; omega)) rfl) (cs' := resN xs) (write_all (by rw [h12]; rfl)) ?_
  have hA5 := getCells_put (cs' := resN xs) (g' := 0) hA4
  refine sV ?_
  refine d_end ?_ (by (repeat (first | exact OutS.nil | exact GetS.hit | exact PutS.hit | apply GetS.miss rfl | apply PutS.miss rfl | apply OutS.cons | apply OutS.skip rfl))) ?_
  · show (!(Nat.beq (s1.heap.length + 1) (s.heap.length + 1)) && (!(Nat.beq (s1.heap.length + 1) (s.heap.length + 1)) && true)) = true
    rw [beq_no (by omega)]
    rfl
  refine c_ret (fin_ret (fn := af11) (.inl rfl) (read_cell (v := .agg (resN xs)) rfl hA5 hp (read_tmp rfl (read_tmp rfl (read_tmp rfl (read_tmp rfl read_nil))))) (leave_pure (l := [.agg (resN xs), .int .i64 0, .nilsl, .int .i64 0, .int .i64 0]) (lay_ck (layOne_agg (resN_old _ xs h.ne)) (by rfl) rfl) ?_) ⟨rfl, rfl⟩)
  simp only [AV.oldAll, AV.old, resN_old _ xs h.ne, Bool.and_true]

/-- Resolve, of a resolved tree of characters -/
theorem refs_spec (m : Nat) (b : Bar) (s : Sg) (xs : List (Int × Int)) (h : RawOk xs) (hm : xs.length ≤ m) :
    callF T (m + 4) b 13 [.agg (resN xs), .int .i64 0, .nilsl] s = some (.ret (.tup [.agg (resN xs), .int .i64 0, .int .i64 0]), s) := by
  obtain ⟨hst, h12⟩ := resN_stored xs h.ne
  have hp := part_all h12
  have hw : ∀ (b : Bar) (s : Sg) (c : Nat), b.w ≤ c → allGe s.heap.length b.es = true → getCells s.heap c 0 = some refC → callF T (m + 3) b 30 [.ptr c 0 0, .agg (resN xs)] s = some (.ret (.agg (resN xs)), s) := by
    intro b s c hb hes hc
    rcases res_cases xs h.ne with ⟨x, rfl⟩ | ⟨_, _, e⟩
    · exact ref_set (m + 1) b s c x hb hc
    · rw [e]
      exact ref_seq m b s c xs h.ne h.len hm hb hes hc
  refine eq_of_okF ?_
  (apply f_wp rfl rfl; (repeat (first | exact Shape.nil | (apply Shape.cons; conv => lhs; whnf))))
  refine qV ?_
  refine o_box (v := .agg (resN xs)) (l := resN xs) rfl rfl hst ?_
  refine o_alloc (z := kidsN 0 .nilsl) rfl ?_
  refine sV ?_
  refine eV ?_
  have hN := getCells_push (.cells (kidsN 0 .nilsl) 0) (getCells_new s (resN xs) 0)
  have hA := getCells_new (s.push (.cells (resN xs) 0)) (kidsN 0 .nilsl) 0
  have hl0 : (s.push (.cells (resN xs) 0)).heap.length = s.heap.length + 1 := by simp [Sg.push]
  have hl1 : ((s.push (.cells (resN xs) 0)).push (.cells (kidsN 0 .nilsl) 0)).heap.length = s.heap.length + 2 := by simp [Sg.push]
  rw [hl0] at hA ⊢
  generalize (s.push (.cells (resN xs) 0)).push (.cells (kidsN 0 .nilsl) 0) = s1 at hN hA hl1 ⊢
  refine qV ?_
  refine o_box (v := .agg refC) (l := refC) rfl rfl rfl ?_
  refine sV ?_
  refine eV ?_
  have hC := getCells_new s1 refC 0
  have hN2 := getCells_push (.cells refC 0) hN
  have hA2 := getCells_push (.cells refC 0) hA
  have hl3 : (s1.push (.cells refC 0)).heap.length = s1.heap.length + 1 := by simp [Sg.push]
  generalize s1.push (.cells refC 0) = s2 at hC hN2 hA2 hl3 ⊢
  refine qV ?_
  refine o_call rfl rfl (hw _ s2 s1.heap.length (by show s.heap.length ≤ _; omega) rfl hC) ?_
  refine o_alloc (z := kidsN 0 .nilsl) rfl ?_
  have hD := getCells_new s2 (kidsN 0 .nilsl) 0
  have hC3 := getCells_push (.cells (kidsN 0 .nilsl) 0) hC
  have hA3 := getCells_push (.cells (kidsN 0 .nilsl) 0) hA2
  refine o_st rfl rfl rfl hst hD (by rw [h12]; rfl) (lets_nil (blt_no (by show s.heap.length ≤ s2.heap.length; omega)) rfl) (cs' := resN xs) (write_all (by rw [h12]; rfl)) ?_
  have hD4 := getCells_put (cs' := resN xs) (g' := 0) hD
  have hC4 := getCells_put_ne (i := s2.heap.length) (o := .cells (resN xs) 0) (by omega) hC3
  have hA4 := getCells_put_ne (i := s2.heap.length) (o := .cells (resN xs) 0) (by omega) hA3
  refine eV ?_
  generalize (s2.push (.cells (kidsN 0 .nilsl) 0)).put s2.heap.length (.cells (resN xs) 0) = s3 at hD4 hC4 hA4 ⊢
  refine qqV ?_
  refine lV ?_
  refine c_skip ?_
  refine qV ?_
  refine o_st rfl rfl rfl hst hA4 (by rw [h12]; rfl) (lets_nil (blt_no (by show s.heap.length ≤ s.heap.length + 1; omega)) rfl) (cs' := resN xs) (write_all (by rw [h12]; rfl)) ?_
  have hA5 := getCells_put (cs' := resN xs) (g' := 0) hA4
  refine sV ?_
  refine eV ?_
  refine c_ret (fin_ret (fn := af13) (.inl rfl) (read_cell (v := .agg (resN xs)) rfl hA5 hp (read_tmp rfl (read_tmp rfl read_nil))) (leave_pure (l := [.agg (resN xs), .int .i64 0, .int .i64 0]) (lay_ck (layOne_agg (resN_old _ xs h.ne)) (by rfl) rfl) ?_) ⟨rfl, rfl⟩)
  simp only [AV.oldAll, AV.old, resN_old _ xs h.ne, Bool.and_true]

end Go.Vmm

namespace Go.Vmm
open Go Go.Am Go.Proofs

theorem list12 {α : Type} {l : List α} (h : l.length = 12) : ∃ a0 a1 a2 a3 a4 a5 a6 a7 a8 a9 a10 a11, l = [a0, a1, a2, a3, a4, a5, a6, a7, a8, a9, a10, a11] := by
  match l, h with
  | [a0, a1, a2, a3, a4, a5, a6, a7, a8, a9, a10, a11], _ => exact ⟨a0, a1, a2, a3, a4, a5, a6, a7, a8, a9, a10, a11, rfl⟩

theorem kept_app : ∀ a b : List AV, keptAll (a ++ b) = keptAll a ++ keptAll b
  | [], _ => rfl
  | x :: r, b => by simp only [List.cons_append, keptAll, kept_app r b]

theorem one_app : ∀ a b : List AV, allOne (a ++ b) = (allOne a && allOne b)
  | [], _ => rfl
  | x :: r, b => by simp only [List.cons_append, allOne, one_app r b, Bool.and_assoc]

theorem stored_iff (a : List AV) : (AV.agg a).stored = some a ↔ allOne (keptAll a) = true ∧ keptAll a = a := by
  have h : (AV.agg a).stored = if allOne (keptAll a) = true then some (keptAll a) else none := rfl
  rw [h]
  cases allOne (keptAll a) <;> simp

theorem stored_app {a b : List AV} (ha : (AV.agg a).stored = some a) (hb : (AV.agg b).stored = some b) : (AV.agg (a ++ b)).stored = some (a ++ b) := by
  rw [stored_iff] at ha hb ⊢
  rw [kept_app, one_app, ha.1, hb.1, ha.2, hb.2]
  exact ⟨rfl, rfl⟩

theorem old_app (n : Nat) : ∀ a b : List AV, AV.oldAll n (a ++ b) = (AV.oldAll n a && AV.oldAll n b)
  | [], _ => rfl
  | x :: r, b => by simp only [List.cons_append, AV.oldAll, old_app n r b, Bool.and_assoc]

/-- a builder, as it lies -/
def bld (N : List AV) : List AV := N ++ [.int .i64 0, .nilsl, .int .i64 0, .int .i64 0, .int .i64 0]

theorem nodesOf_get : ∀ (k : Nat) (t : List UInt8) (x : Int × Int), x ∈ nodesOf k t → ∃ c ∈ t, x.2 = ((c.toNat : Nat) : Int)
  | _, [], _, h => by cases h
  | k, c :: r, x, h => by
    rcases List.mem_cons.1 h with rfl | h
    · exact ⟨c, by simp, rfl⟩
    · obtain ⟨d, hd, e⟩ := nodesOf_get (k + 1) r x h
      exact ⟨d, by simp [hd], e⟩

theorem rawOk_of {t : List UInt8} (hne : t ≠ []) (ht : t.length ≤ 1000) (hc : ∀ c ∈ t, c.toNat ≤ 127) : RawOk (nodesOf 0 t) := by
  refine ⟨fun e => ?_, by rw [nodesOf_len]; exact ht, fun x hx => ?_⟩
  · have := nodesOf_len 0 t
    rw [e] at this
    exact hne (List.length_eq_zero_iff.1 this.symm)
  · obtain ⟨c, h1, h2⟩ := nodesOf_get 0 t x hx
    have := hc c h1
    rw [h2]
    omega

/-- raw, of a text of characters -/
theorem braw_spec (m : Nat) (b : Bar) (s : Sg) (c : Nat) (t : List UInt8) (hne : t ≠ []) (ht : t.length ≤ 1000) (hp : ∀ c ∈ t, isIt c) (hc : ∀ c ∈ t, c.toNat ≤ 127) (hm : t.length + 1 ≤ m) (hb : b.w ≤ c) (hes : b.es = []) (hg : getCells s.heap c 0 = some (bld (kidsN 0 .nilsl))) :
    callF T (m + 8) b 6 [.ptr c 0 0, .vec (Am.byteCells t) .shut] s = some (.ret (.tup []), s.put c (.cells (bld (rawN (nodesOf 0 t))) 0)) := by
  have hcl := getCells_lt hg
  have hbl := Am.byteCells_length t
  have hR := rawOk_of hne ht hc
  have hxl := nodesOf_len 0 t
  obtain ⟨hst, h12⟩ := raw_stored _ hR.ne
  have hchk := fun (b : Bar) (s : Sg) => check_spec m b s _ hR (by omega)
  have hprs := fun (b : Bar) (s : Sg) => parse_spec t hne ht t.length (m + 3) (by omega) b s
  have hold := fun n : Nat => (show AV.oldAll n (rawN (nodesOf 0 t)) = true by
    rcases raw_cases _ hR.ne with ⟨x, e⟩ | ⟨_, e⟩
    · rw [e]; rfl
    · rw [e]; simp only [kidsN, AV.oldAll, AV.old, navs_old, Bool.and_true])
  generalize rawN (nodesOf 0 t) = N at hst h12 hchk hprs hold ⊢
  obtain ⟨a0, a1, a2, a3, a4, a5, a6, a7, a8, a9, a10, a11, rfl⟩ := list12 h12
  have hl : ∀ i, s.heap.length ≤ i → True := fun _ _ => trivial
  refine eq_of_okF ?_
  (apply f_wp rfl rfl; (repeat (first | exact Shape.nil | (apply Shape.cons; conv => lhs; whnf))))
  refine qV ?_
  refine o_call rfl rfl (lex_plain t hne ht hp (m + 3) (by omega) _ s) ?_
  refine sV ?_
  refine eV ?_
  refine qqV ?_
  refine lV ?_
  refine c_skip ?_
  refine qV ?_
  refine o_call rfl rfl (by rw [hbl]; exact hprs _ s) ?_
  refine sV ?_
  refine o_st rfl rfl rfl hst hg rfl (lets_of (blt_no hb) hold) (cs' := bld [a0, a1, a2, a3, a4, a5, a6, a7, a8, a9, a10, a11]) rfl ?_
  have hg1 := getCells_put (cs' := bld [a0, a1, a2, a3, a4, a5, a6, a7, a8, a9, a10, a11]) (g' := 0) hg
  have hs1 : (s.put c (.cells (bld [a0, a1, a2, a3, a4, a5, a6, a7, a8, a9, a10, a11]) 0)).heap.length = s.heap.length := Sg.put_len ..
  have hgoal : ({ heap := (s.put c (.cells (bld [a0, a1, a2, a3, a4, a5, a6, a7, a8, a9, a10, a11]) 0)).heap.take s.heap.length, toks := s.toks, ty := s.ty, gl := s.gl } : Sg) = s.put c (.cells (bld [a0, a1, a2, a3, a4, a5, a6, a7, a8, a9, a10, a11]) 0) := by
    rw [← hs1, List.take_length]
    rfl
  revert hg1 hs1 hgoal
  generalize s.put c (.cells (bld [a0, a1, a2, a3, a4, a5, a6, a7, a8, a9, a10, a11]) 0) = s1
  intro hg1 hs1 hgoal
  refine sV ?_
  refine o_st rfl rfl rfl rfl hg1 rfl (lets_of (blt_no hb) (fun e => rfl)) (cs' := bld [a0, a1, a2, a3, a4, a5, a6, a7, a8, a9, a10, a11]) rfl ?_
  rw [put_same hg1]
  refine sV ?_
  refine o_st rfl rfl rfl rfl hg1 rfl (lets_of (blt_no hb) (fun e => rfl)) (cs' := bld [a0, a1, a2, a3, a4, a5, a6, a7, a8, a9, a10, a11]) rfl ?_
  rw [put_same hg1]
  refine eV ?_
  refine qV ?_
  refine o_call rfl rfl (hchk _ s1) ?_
  refine sV ?_
  refine eV ?_
  refine lV ?_
  refine c_skip ?_
  exact fin_ret (fn := af6) (.inr rfl) read_nil (leave_eff (l := []) lay_nil rfl) ⟨rfl, hgoal⟩

/-- resolve, of a text of characters -/
theorem bres_spec (m : Nat) (b : Bar) (s : Sg) (c : Nat) (xs : List (Int × Int)) (h : RawOk xs) (hm : xs.length ≤ m) (hb : b.w ≤ c) (hg : getCells s.heap c 0 = some (bld (rawN xs))) :
    callF T (m + 13) b 7 [.ptr c 0 0] s = some (.ret (.tup []), s.put c (.cells (bld (resN xs)) 0)) := by
  have hcl := getCells_lt hg
  obtain ⟨hst, h12⟩ := raw_stored _ h.ne
  obtain ⟨hst2, h122⟩ := resN_stored _ h.ne
  have hflg := fun (b : Bar) (s : Sg) => resolve_spec (m + 1) b s _ h (by omega)
  have hnum := fun (b : Bar) (s : Sg) => number_spec (m + 8) b s _ h (by omega)
  have href := fun (b : Bar) (s : Sg) => refs_spec (m + 8) b s _ h (by omega)
  have hwid := fun (b : Bar) (s : Sg) => wcheck_spec (m + 8) b s _ h (by omega)
  have hold := fun n : Nat => resN_old n xs h.ne
  generalize rawN xs = N at hst h12 hflg hg ⊢
  generalize resN xs = R at hst2 h122 hflg hnum href hwid hold ⊢
  obtain ⟨a0, a1, a2, a3, a4, a5, a6, a7, a8, a9, a10, a11, rfl⟩ := list12 h12
  obtain ⟨b0, b1, b2, b3, b4, b5, b6, b7, b8, b9, b10, b11, rfl⟩ := list12 h122
  refine eq_of_okF ?_
  (apply f_wp rfl rfl; (repeat (first | exact Shape.nil | (apply Shape.cons; conv => lhs; whnf))))
  refine dqV ?_
  refine o_call rfl rfl (hflg _ s) ?_
  refine o_call rfl rfl (hnum _ s) ?_
  refine sV ?_
  refine o_st rfl rfl rfl hst2 hg rfl (lets_of (blt_no hb) hold) (cs' := bld [b0, b1, b2, b3, b4, b5, b6, b7, b8, b9, b10, b11]) rfl ?_
  have hg1 := getCells_put (cs' := bld [b0, b1, b2, b3, b4, b5, b6, b7, b8, b9, b10, b11]) (g' := 0) hg
  have hs1 : (s.put c (.cells (bld [b0, b1, b2, b3, b4, b5, b6, b7, b8, b9, b10, b11]) 0)).heap.length = s.heap.length := Sg.put_len ..
  have hgoal : ({ heap := (s.put c (.cells (bld [b0, b1, b2, b3, b4, b5, b6, b7, b8, b9, b10, b11]) 0)).heap.take s.heap.length, toks := s.toks, ty := s.ty, gl := s.gl } : Sg) = s.put c (.cells (bld [b0, b1, b2, b3, b4, b5, b6, b7, b8, b9, b10, b11]) 0) := by
    rw [← hs1, List.take_length]
    rfl
  revert hg1 hs1 hgoal
  generalize s.put c (.cells (bld [b0, b1, b2, b3, b4, b5, b6, b7, b8, b9, b10, b11]) 0) = s1
  intro hg1 hs1 hgoal
  have hput := put_same hg1
  refine sV ?_
  refine o_st rfl rfl rfl rfl hg1 rfl (lets_of (blt_no hb) (fun e => rfl)) (cs' := bld [b0, b1, b2, b3, b4, b5, b6, b7, b8, b9, b10, b11]) rfl ?_
  rw [hput]
  refine sV ?_
  refine o_st rfl rfl rfl rfl hg1 rfl (lets_of (blt_no hb) (fun e => rfl)) (cs' := bld [b0, b1, b2, b3, b4, b5, b6, b7, b8, b9, b10, b11]) rfl ?_
  rw [hput]
  refine sV ?_
  refine o_st rfl rfl rfl rfl hg1 rfl (lets_of (blt_no hb) (fun e => rfl)) (cs' := bld [b0, b1, b2, b3, b4, b5, b6, b7, b8, b9, b10, b11]) rfl ?_
  rw [hput]
  refine sV ?_
  refine o_st rfl rfl rfl rfl hg1 rfl (lets_of (blt_no hb) (fun e => rfl)) (cs' := bld [b0, b1, b2, b3, b4, b5, b6, b7, b8, b9, b10, b11]) rfl ?_
  rw [hput]
  refine dV ?_
  refine qqV ?_
  refine iV ?_
  refine dqV ?_
  refine o_call rfl rfl (href _ s1) ?_
  refine sV ?_
  refine o_st rfl rfl rfl hst2 hg1 rfl (lets_of (blt_no hb) hold) (cs' := bld [b0, b1, b2, b3, b4, b5, b6, b7, b8, b9, b10, b11]) rfl ?_
  rw [hput]
  refine sV ?_
  refine o_st rfl rfl rfl rfl hg1 rfl (lets_of (blt_no hb) (fun e => rfl)) (cs' := bld [b0, b1, b2, b3, b4, b5, b6, b7, b8, b9, b10, b11]) rfl ?_
  rw [hput]
  refine sV ?_
  refine o_st rfl rfl rfl rfl hg1 rfl (lets_of (blt_no hb) (fun e => rfl)) (cs' := bld [b0, b1, b2, b3, b4, b5, b6, b7, b8, b9, b10, b11]) rfl ?_
  rw [hput]
  refine dV ?_
  refine qqV ?_
  refine iV ?_
  refine qV ?_
  refine o_call rfl rfl (hwid _ s1) ?_
  refine sV ?_
  refine o_st rfl rfl rfl rfl hg1 rfl (lets_of (blt_no hb) (fun e => rfl)) (cs' := bld [b0, b1, b2, b3, b4, b5, b6, b7, b8, b9, b10, b11]) rfl ?_
  rw [hput]
  refine sV ?_
  refine o_st rfl rfl rfl rfl hg1 rfl (lets_of (blt_no hb) (fun e => rfl)) (cs' := bld [b0, b1, b2, b3, b4, b5, b6, b7, b8, b9, b10, b11]) rfl ?_
  rw [hput]
  refine eV ?_
  exact fin_ret (fn := af7) (.inr rfl) read_nil (leave_eff (l := []) lay_nil rfl) ⟨rfl, hgoal⟩

/-- a core, as it lies -/
def coreC (N : List AV) : List AV := N ++ [.int .i64 0, .nilsl, .int .i64 0]

/-- Build, of a text of characters -/
theorem build_spec (m : Nat) (b : Bar) (s : Sg) (t : List UInt8) (hne : t ≠ []) (ht : t.length ≤ 1000) (hp : ∀ c ∈ t, isIt c) (hc : ∀ c ∈ t, c.toNat ≤ 127) (hm : t.length + 1 ≤ m) :
    callF T (m + 14) b 5 [.vec (Am.byteCells t) .shut, .int .i64 0] s = some (.ret (.tup [.agg (coreC (resN (nodesOf 0 t))), .int .i64 0, .int .i64 0]), s) := by
  have hR := rawOk_of hne ht hc
  have hxl := nodesOf_len 0 t
  obtain ⟨hst, h12⟩ := raw_stored _ hR.ne
  obtain ⟨hst2, h122⟩ := resN_stored _ hR.ne
  have hraw := fun (b : Bar) (s : Sg) (c : Nat) => braw_spec (m + 5) b s c t hne ht hp hc (by omega)
  have hres := fun (b : Bar) (s : Sg) (c : Nat) => bres_spec m b s c _ hR (by omega)
  have hold := fun n : Nat => resN_old n _ hR.ne
  generalize rawN (nodesOf 0 t) = N at hst h12 hraw hres ⊢
  generalize resN (nodesOf 0 t) = R at hst2 h122 hres hold ⊢
  obtain ⟨b0, b1, b2, b3, b4, b5, b6, b7, b8, b9, b10, b11, rfl⟩ := list12 h122
  refine eq_of_okF ?_
  (apply f_wp rfl rfl; (repeat (first | exact Shape.nil | (apply Shape.cons; conv => lhs; whnf))))
  refine qV ?_
  refine o_alloc (z := coreC (kidsN 0 .nilsl)) rfl ?_
  refine sV ?_
  refine eV ?_
  have hA := getCells_new s (coreC (kidsN 0 .nilsl)) 0
  have hl1 : (s.push (.cells (coreC (kidsN 0 .nilsl)) 0)).heap.length = s.heap.length + 1 := by simp [Sg.push]
  generalize s.push (.cells (coreC (kidsN 0 .nilsl)) 0) = s1 at hA hl1 ⊢
  refine qV ?_
  refine o_box (v := .agg (bld (kidsN 0 .nilsl))) (l := bld (kidsN 0 .nilsl)) rfl rfl rfl ?_
  refine sV ?_
  refine eV ?_
  have hB := getCells_new s1 (bld (kidsN 0 .nilsl)) 0
  have hA1 := getCells_push (.cells (bld (kidsN 0 .nilsl)) 0) hA
  have hl2 : (s1.push (.cells (bld (kidsN 0 .nilsl)) 0)).heap.length = s1.heap.length + 1 := by simp [Sg.push]
  generalize s1.push (.cells (bld (kidsN 0 .nilsl)) 0) = s2 at hB hA1 hl2 ⊢
  refine qV ?_
  refine o_st rfl rfl rfl rfl hB rfl (lets_nil (blt_no (by show s.heap.length ≤ s1.heap.length; omega)) rfl) (cs' := bld (kidsN 0 .nilsl)) rfl ?_
  rw [put_same hB]
  refine eV ?_
  refine qV ?_
  refine o_call rfl rfl (hraw _ s2 s1.heap.length (by show s.heap.length ≤ _; omega) rfl hB) ?_
  have hB2 := getCells_put (cs' := bld N) (g' := 0) hB
  have hA2 := getCells_put_ne (i := s1.heap.length) (o := .cells (bld N) 0) (by omega) hA1
  refine eV ?_
  generalize s2.put s1.heap.length (.cells (bld N) 0) = s3 at hB2 hA2 ⊢
  obtain ⟨a0, a1, a2, a3, a4, a5, a6, a7, a8, a9, a10, a11, rfl⟩ := list12 h12
  refine qqV ?_
  refine iV ?_
  refine qV ?_
  refine o_call rfl rfl (hres _ s3 s1.heap.length (by show s.heap.length ≤ _; omega) hB2) ?_
  have hB3 := getCells_put (cs' := bld [b0, b1, b2, b3, b4, b5, b6, b7, b8, b9, b10, b11]) (g' := 0) hB2
  have hA3 := getCells_put_ne (i := s1.heap.length) (o := .cells (bld [b0, b1, b2, b3, b4, b5, b6, b7, b8, b9, b10, b11]) 0) (by omega) hA2
  refine eV ?_
  generalize s3.put s1.heap.length (.cells (bld [b0, b1, b2, b3, b4, b5, b6, b7, b8, b9, b10, b11]) 0) = s4 at hB3 hA3 ⊢
  refine qqV ?_
  refine lV ?_
  refine c_skip ?_
  have hst3 : (AV.agg (coreC [b0, b1, b2, b3, b4, b5, b6, b7, b8, b9, b10, b11])).stored = some (coreC [b0, b1, b2, b3, b4, b5, b6, b7, b8, b9, b10, b11]) := stored_app hst2 rfl
  refine qV ?_
  refine o_st rfl rfl rfl hst3 hA3 rfl (lets_nil (blt_no (by show s.heap.length ≤ s.heap.length; omega)) rfl) (cs' := coreC [b0, b1, b2, b3, b4, b5, b6, b7, b8, b9, b10, b11]) rfl ?_
  have hA4 := getCells_put (cs' := coreC [b0, b1, b2, b3, b4, b5, b6, b7, b8, b9, b10, b11]) (g' := 0) hA3
  refine sV ?_
  refine eV ?_
  have holdc : AV.oldAll s.heap.length (coreC [b0, b1, b2, b3, b4, b5, b6, b7, b8, b9, b10, b11]) = true := by
    unfold coreC
    rw [old_app, hold]
    rfl
  refine c_ret (fin_ret (fn := af5) (.inl rfl) (read_cell (v := .agg (coreC [b0, b1, b2, b3, b4, b5, b6, b7, b8, b9, b10, b11])) rfl hA4 rfl (read_tmp rfl (read_tmp rfl read_nil))) (leave_pure (l := [.agg (coreC [b0, b1, b2, b3, b4, b5, b6, b7, b8, b9, b10, b11]), .int .i64 0, .int .i64 0]) (lay_ck (layOne_agg holdc) (by rfl) rfl) ?_) ⟨rfl, rfl⟩)
  simp only [AV.oldAll, AV.old, holdc, Bool.and_true]

end Go.Vmm

namespace Go.Vmm
open Go Go.Am Go.Proofs

/-- the loop 0 of function 3 -/
def lp3_0 : ACode := .seq (.seq (.region [Mv 14 4, Mv 15 0, Vv 16 (.len 1 (.tmp 15)), Bn 17 .lss 14 16] [17]) (.cond (.tmp 17) (.skip) (.exit 0))) (.seq (.block 1 (.seq (.region [Mv 20 0, Mv 21 4, Vv 22 (.indexAddrS none (.tmp 20) (.tmp 21)), Ld 23 22, Mv 5 23] [5]) (.seq (.region [Mv 24 5, Vv 25 (.bin .lss (.tmp 24) (.const (.int .u8 97))), Mv 26 25, Gf 27 26 (.move (.tmp 5)), Gf 28 26 (.bin .gtr (.tmp 27) (.const (.int .u8 122))), Vv 29 (.pick (.tmp 26) (.const (.bool true)) (.tmp 28)), Mv 30 29, Gt 31 30 (.move (.tmp 5)), Gt 32 30 (.bin .lss (.tmp 31) (.const (.int .u8 48))), Gt 33 30 (.move (.tmp 32)), Gf 34 33 (.move (.tmp 5)), Gf 35 33 (.bin .gtr (.tmp 34) (.const (.int .u8 57))), Gt 36 30 (.pick (.tmp 33) (.const (.bool true)) (.tmp 35)), Vv 37 (.pick (.tmp 30) (.tmp 36) (.const (.bool false)))] [37]) (.cond (.tmp 37) (.seq (.region [Vv 2 (.move (.const (.bool true)))] [2]) (.ret)) (.skip))))) (.region [Mv 18 4, Bc 19 .add 18 1, Mv 4 19] [4]))

/-- the loop 1 of function 3 -/
def lp3_1 : ACode := .seq (.seq (.region [Mv 76 10, Mv 77 9, Vv 78 (.len 1 (.tmp 77)), Bn 79 .lss 76 78] [79]) (.cond (.tmp 79) (.skip) (.exit 2))) (.seq (.block 3 (.seq (.drawn (Mv 82 9 :: Mv 83 10 :: Vv 84 (.indexAddrS (some 12) (.tmp 82) (.tmp 83)) :: Fa 85 0 84 :: Ld 86 85 :: Bc 87 .neq 86 2 :: Mv 88 87 :: Gf 89 88 (.move (.tmp 9)) :: Gf 90 88 (.move (.tmp 10)) :: Gf 91 88 (.indexAddrS (some 12) (.tmp 89) (.tmp 90)) :: Gf 92 88 (.fieldAddr 3 none (.tmp 91)) :: Gf 93 88 (.load none (.tmp 92)) :: Gf 94 88 (.len 1 (.tmp 93)) :: Gf 95 88 (.bin .neq (.tmp 94) (Ci 1)) :: Vv 96 (.pick (.tmp 88) (.const (.bool true)) (.tmp 95)) :: Mv 97 96 :: Gf 98 97 (.move (.tmp 9)) :: Gf 99 97 (.move (.tmp 10)) :: Gf 100 97 (.indexAddrS (some 12) (.tmp 98) (.tmp 99)) :: Gf 101 97 (.fieldAddr 3 none (.tmp 100)) :: Gf 102 97 (.load none (.tmp 101)) :: Gf 103 97 (.indexAddrS (some 2) (.tmp 102) (Ci 0)) :: Gf 104 97 (.fieldAddr 0 none (.tmp 103)) :: Gf 105 97 (.load none (.tmp 104)) :: Gf 106 97 (.move (.tmp 0)) :: Gf 107 97 (.move (.tmp 10)) :: Gf 108 97 (.indexAddrS none (.tmp 106) (.tmp 107)) :: Gf 109 97 (.load none (.tmp 108)) :: Gf 110 97 (.conv (.intInt .i64) (.tmp 109)) :: Gf 111 97 (.bin .neq (.tmp 105) (.tmp 110)) :: Vv 112 (.pick (.tmp 97) (.const (.bool true)) (.tmp 111)) :: Mv 113 112 :: Gf 114 113 (.move (.tmp 9)) :: Gf 115 113 (.move (.tmp 10)) :: Gf 116 113 (.indexAddrS (some 12) (.tmp 114) (.tmp 115)) :: Gf 117 113 (.fieldAddr 3 none (.tmp 116)) :: Gf 118 113 (.load none (.tmp 117)) :: Gf 119 113 (.indexAddrS (some 2) (.tmp 118) (Ci 0)) :: Gf 120 113 (.fieldAddr 1 none (.tmp 119)) :: Gf 121 113 (.load none (.tmp 120)) :: Gf 122 113 (.move (.tmp 0)) :: Gf 123 113 (.move (.tmp 10)) :: Gf 124 113 (.indexAddrS none (.tmp 122) (.tmp 123)) :: Gf 125 113 (.load none (.tmp 124)) :: Gf 126 113 (.conv (.intInt .i64) (.tmp 125)) :: Gf 127 113 (.bin .neq (.tmp 121) (.tmp 126)) :: Vv 128 (.pick (.tmp 113) (.const (.bool true)) (.tmp 127)) :: []) [128] [] false 0) (.cond (.tmp 128) (.seq (.region [Vv 2 (.move (.const (.bool false)))] [2]) (.ret)) (.skip)))) (.region [Mv 80 10, Bc 81 .add 80 1, Mv 10 81] [10]))

def isLd (c : UInt8) : Prop := (97 ≤ c.toNat ∧ c.toNat ≤ 122) ∨ (48 ≤ c.toNat ∧ c.toNat ≤ 57)

theorem isLd_it {c : UInt8} (h : isLd c) : isIt c := by
  rcases h with h | h <;> exact ⟨by omega, by omega, by omega, by omega, by omega, by omega, by omega, by omega, by omega, by omega, by omega, by omega⟩

theorem ld_classes (n : Nat) : (97 ≤ n ∧ n ≤ 122) ∨ (48 ≤ n ∧ n ≤ 57) ∨ n < 48 ∨ (57 < n ∧ n < 97) ∨ 122 < n := by omega

abbrev fr3 (t : List UInt8) (x2 : AV) (k : Nat) (x17 x5 x37 x46 x7 x8 x6 x58 x9 x75 x10 x79 x128 : AV) : Fr :=
  ⟨[(0, .vec (Am.byteCells t) .shut), (2, x2), (3, .bool true), (13, .bool false), (4, .int .i64 k), (17, x17), (5, x5), (37, x37), (46, x46), (7, x7), (8, x8), (6, x6), (58, x58), (9, x9), (75, x75), (10, x10), (79, x79), (128, x128)], [], .off⟩

theorem law_loop1 (m : Nat) (b : Bar) (t : List UInt8) (ht : t.length ≤ 2 ^ 63 - 1) (s : Sg) {Q : Ex → Fr → Sg → Prop} {u : AV} (hu : u = .undef)
    (hq : (∀ c ∈ t, isLd c) → ∀ x17 x5 x37, Q (.exit 0) (fr3 t (.bool false) t.length x17 x5 x37 u u u u u u u u u u) s)
    (hr : ∀ k x17 x5 x37, Q .ret (fr3 t (.bool true) k x17 x5 x37 u u u u u u u u u u) s) :
    ∀ (rest done : List UInt8) (k L : Nat) (x17 x5 x37 : AV), t = done ++ rest → k = done.length → rest.length + 1 ≤ L → (∀ c ∈ done, isLd c) →
    OkL L (fun fr s => ACode.run (loopN m) (callF T m) b lp3_0 fr s) (fr3 t (.bool false) k x17 x5 x37 u u u u u u u u u u) s Q := by
  subst hu
  have hbl := Am.byteCells_length t
  intro rest
  induction rest with
  | nil =>
    intro done k L x17 x5 x37 hl hk hL hd
    obtain ⟨L, rfl⟩ : ∃ L', L = L' + 1 := ⟨L - 1, by omega⟩
    rw [List.append_nil] at hl
    subst hl
    subst hk
    apply l_round
    refine qqV ?_
    refine lV ?_
    exact c_exit (hq hd _ _ _)
  | cons c rest ih =>
    intro done k L x17 x5 x37 hl hk hL hd
    obtain ⟨L, rfl⟩ : ∃ L', L = L' + 1 := ⟨L - 1, by omega⟩
    have hkl : k < t.length := by rw [hl, hk]; simp
    have hget : t[k]? = some c := by rw [hl, hk]; simp
    have hstep : ∀ x17 x5 x37, isLd c → OkL L (fun fr s => ACode.run (loopN m) (callF T m) b lp3_0 fr s) (fr3 t (.bool false) (k + 1) x17 x5 x37 .undef .undef .undef .undef .undef .undef .undef .undef .undef .undef) s Q := by
      intro x17 x5 x37 hc
      refine ih (done ++ [c]) (k + 1) L x17 x5 x37 (by rw [hl]; simp) (by rw [hk]; simp) (by simp at hL; omega) fun d hdm => ?_
      rcases List.mem_append.1 hdm with h | h
      · exact hd d h
      · rw [List.mem_singleton.1 h]; exact hc
    apply l_round
    refine qqV ?_
    refine iV ?_
    refine c_skip ?_
    refine bV ?_
    refine qV ?_
    refine o_ixvec (j := k) rfl rfl rfl rfl (bc_get hget) rfl ?_
    refine sV ?_
    refine eV ?_
    rcases ld_classes c.toNat with h | h | h | h | h
    · refine qqV ?_
      refine lV ?_
      refine c_skip ?_
      refine qqV ?_
      exact hstep _ _ _ (.inl h)
    · refine qqV ?_
      refine lV ?_
      refine c_skip ?_
      refine qqV ?_
      exact hstep _ _ _ (.inr h)
    · refine qqV ?_
      refine iV ?_
      refine qqV ?_
      exact c_ret (hr _ _ _ _)
    · refine qqV ?_
      refine iV ?_
      refine qqV ?_
      exact c_ret (hr _ _ _ _)
    · refine qqV ?_
      refine iV ?_
      refine qqV ?_
      exact c_ret (hr _ _ _ _)

end Go.Vmm

namespace Go.Vmm
open Go Go.Am Go.Proofs

theorem nodesOf_at : ∀ (k : Nat) (t : List UInt8) (j : Nat) (c : UInt8), t[j]? = some c → (nodesOf k t)[j]? = some ((((k + j : Nat)) : Int), ((c.toNat : Nat) : Int))
  | k, [], j, c, h => by simp at h
  | k, d :: r, 0, c, h => by
    simp at h
    subst h
    rfl
  | k, d :: r, j + 1, c, h => by
    have := nodesOf_at (k + 1) r j c (by simpa using h)
    simp only [nodesOf, List.getElem?_cons_succ, this]
    rw [show k + 1 + j = k + (j + 1) by omega]

theorem law_loop2 (m : Nat) (b : Bar) (t : List UInt8) (ht : t.length ≤ 1000) (s : Sg) {Q : Ex → Fr → Sg → Prop} (x17 x5 x37 x46 x7 x8 x6 x58 x75 : AV) (tl : Tail) (htl : tl = .shut ∨ tl = .exact true)
    (hq : ∀ x79 x128, Q (.exit 2) (fr3 t (.bool false) t.length x17 x5 x37 x46 x7 x8 x6 x58 (.vec (snavs (nodesOf 0 t)) tl) x75 (.int .i64 t.length) x79 x128) s) :
    ∀ (rest done : List UInt8) (k L : Nat) (x79 x128 : AV), t = done ++ rest → k = done.length → rest.length + 1 ≤ L →
    OkL L (fun fr s => ACode.run (loopN m) (callF T m) b lp3_1 fr s) (fr3 t (.bool false) t.length x17 x5 x37 x46 x7 x8 x6 x58 (.vec (snavs (nodesOf 0 t)) tl) x75 (.int .i64 k) x79 x128) s Q := by
  have hbl := Am.byteCells_length t
  have hsl : (snavs (nodesOf 0 t)).length = t.length := by unfold snavs; rw [List.length_map, nodesOf_len]
  have hdf : ∀ es : List AV, (AV.vec es tl).def? = some (.vec es tl) := fun _ => rfl
  intro rest
  induction rest with
  | nil =>
    intro done k L x79 x128 hl hk hL
    obtain ⟨L, rfl⟩ : ∃ L', L = L' + 1 := ⟨L - 1, by omega⟩
    rw [List.append_nil] at hl
    subst hl
    subst hk
    apply l_round
    refine qqV ?_
    refine lV ?_
    exact c_exit (hq _ _)
  | cons c rest ih =>
    intro done k L x79 x128 hl hk hL
    obtain ⟨L, rfl⟩ : ∃ L', L = L' + 1 := ⟨L - 1, by omega⟩
    have hkl : k < t.length := by rw [hl, hk]; simp
    have hget : t[k]? = some c := by rw [hl, hk]; simp
    have hn := nodesOf_at 0 t k c hget
    rw [Nat.zero_add] at hn
    have hsg : (snavs (nodesOf 0 t))[k]? = some (.agg (setN ((k : Nat), (c.toNat : Nat)))) := by
      unfold snavs
      rw [List.getElem?_map, hn]
      rfl
    have hc8 : c.toNat < 256 := c.toNat_lt
    apply l_round
    refine qqV ?_
    refine iV ?_
    refine c_skip ?_
    refine bV ?_
    refine dqV ?_
    refine o_ixvec (j := k) rfl rfl rfl rfl hsg rfl ?_
    refine sV ?_
    refine o_ixvec (j := k) rfl rfl rfl rfl hsg rfl ?_
    refine sV ?_
    refine o_ixvec (j := k) rfl rfl rfl rfl hsg rfl ?_
    refine sV ?_
    refine o_ixvec (j := 0) (v := .agg [.int .i64 (c.toNat : Nat), .int .i64 (c.toNat : Nat)]) rfl rfl rfl rfl rfl (by rfl) ?_
    refine sV ?_
    refine o_ixvec (j := k) rfl rfl rfl rfl (bc_get hget) rfl ?_
    refine sV ?_
    refine o_cv rfl rfl (wrap_i64 (by omega) (by omega)) ?_
    refine sV ?_
    refine o_ixvec (j := k) rfl rfl rfl rfl hsg rfl ?_
    refine sV ?_
    refine o_ixvec (j := 0) (v := .agg [.int .i64 (c.toNat : Nat), .int .i64 (c.toNat : Nat)]) rfl rfl rfl rfl rfl (by rfl) ?_
    refine sV ?_
    refine o_ixvec (j := k) rfl rfl rfl rfl (bc_get hget) rfl ?_
    refine sV ?_
    refine o_cv rfl rfl (wrap_i64 (by omega) (by omega)) ?_
    refine sV ?_
    refine dV ?_
    refine lV ?_
    refine c_skip ?_
    refine qqV ?_
    exact ih (done ++ [c]) (k + 1) L _ _ (by rw [hl]; simp) (by rw [hk]; simp) (by simp at hL; omega)

end Go.Vmm

namespace Go.Vmm
open Go Go.Am Go.Proofs

/-- no text at all -/
theorem build_nil : callF T 600 bar0 5 [.vec [] .shut, .int .i64 0] sg0 = some (.ret (.tup [.agg (coreC (kidsN 12 .nilsl)), .int .i64 0, .int .i64 0]), sg0) := by
  rw [← qcall_eq]
  kernel_rfl

/-- Lex, of too long a text -/
theorem lex_long (m : Nat) (b : Bar) (s : Sg) (t : List UInt8) (ht : 1000 < t.length) (ht2 : t.length ≤ 2 ^ 63 - 1) : callF T (m + 1) b 8 [.vec (Am.byteCells t) .shut, .int .i64 0] s = some (.ret (.tup [.nilsl, .int .i64 10, .int .i64 1000]), s) := by
  have hbl := Am.byteCells_length t
  refine eq_of_okF ?_
  (apply f_wp rfl rfl; (repeat (first | exact Shape.nil | (apply Shape.cons; conv => lhs; whnf))))
  refine qV ?_
  refine o_alloc (z := [.nilsl]) rfl ?_
  refine o_alloc (z := [.int .i64 0]) rfl ?_
  refine o_alloc (z := [.int .i64 0]) rfl ?_
  refine eV ?_
  have hA := getCells_push (.cells [.int .i64 0] 0) (getCells_push (.cells [.int .i64 0] 0) (getCells_new s [.nilsl] 0))
  have hB := getCells_push (.cells [.int .i64 0] 0) (getCells_new (s.push (.cells [.nilsl] 0)) [.int .i64 0] 0)
  have hC := getCells_new ((s.push (.cells [.nilsl] 0)).push (.cells [.int .i64 0] 0)) [.int .i64 0] 0
  have lA : (s.push (.cells [.nilsl] 0)).heap.length = s.heap.length + 1 := by rw [Sg.push_len]
  have lB : ((s.push (.cells [.nilsl] 0)).push (.cells [.int .i64 0] 0)).heap.length = s.heap.length + 2 := by rw [Sg.push_len (s.push _), lA]
  rw [lA] at hB ⊢
  rw [lB] at hC ⊢
  generalize ((s.push (.cells [.nilsl] 0)).push (.cells [.int .i64 0] 0)).push (.cells [.int .i64 0] 0) = s1 at hA hB hC ⊢
  (repeat (first | refine lV ?_ | refine iV ?_ | refine c_skip ?_ | refine bV ?_ | refine qqV ?_ | refine dqqV ?_))
  refine qV ?_
  refine o_st rfl rfl rfl rfl hA rfl (lets_nil (blt_no (by show s.heap.length ≤ s.heap.length; omega)) rfl) (cs' := [.nilsl]) rfl ?_
  rw [put_same hA]
  refine sV ?_
  refine o_st rfl rfl rfl rfl hB rfl (lets_nil (blt_no (by show s.heap.length ≤ s.heap.length + 1; omega)) rfl) (cs' := [.int .i64 10]) rfl ?_
  have hA2 := getCells_put_ne (i := s.heap.length + 1) (o := .cells [.int .i64 10] 0) (by omega) hA
  have hB2 := getCells_put (cs' := [.int .i64 10]) (g' := 0) hB
  have hC2 := getCells_put_ne (i := s.heap.length + 1) (o := .cells [.int .i64 10] 0) (by omega) hC
  refine sV ?_
  refine o_st rfl rfl rfl rfl hC2 rfl (lets_nil (blt_no (by show s.heap.length ≤ s.heap.length + 2; omega)) rfl) (cs' := [.int .i64 1000]) rfl ?_
  have hA3 := getCells_put_ne (i := s.heap.length + 2) (o := .cells [.int .i64 1000] 0) (by omega) hA2
  have hB3 := getCells_put_ne (i := s.heap.length + 2) (o := .cells [.int .i64 1000] 0) (by omega) hB2
  have hC3 := getCells_put (cs' := [.int .i64 1000]) (g' := 0) hC2
  refine eV ?_
  exact c_ret (fin_ret (fn := af8) (.inl rfl) (read_cell (v := .nilsl) rfl hA3 rfl (read_cell (v := .int .i64 10) rfl hB3 rfl (read_cell (v := .int .i64 1000) rfl hC3 rfl read_nil))) (leave_pure (l := [.nilsl, .int .i64 10, .int .i64 1000]) rfl rfl) ⟨rfl, rfl⟩)

theorem setAt_twice {α : Type} : ∀ (l : List α) (i : Nat) (a b : α), setAt (setAt l i a) i b = setAt l i b
  | [], 0, _, _ => rfl
  | [], _ + 1, _, _ => rfl
  | _ :: _, 0, _, _ => rfl
  | x :: r, i + 1, a, b => by simp only [setAt, setAt_twice r i a b]

theorem put_twice (s : Sg) (i : Nat) (a b : AObj) : (s.put i a).put i b = s.put i b := by
  show ({ s with heap := setAt (setAt s.heap i a) i b } : Sg) = { s with heap := setAt s.heap i b }
  rw [setAt_twice]

theorem put_take (s : Sg) (i : Nat) (a : AObj) : ({ heap := (s.put i a).heap.take s.heap.length, toks := s.toks, ty := s.ty, gl := s.gl } : Sg) = s.put i a := by
  rw [← Sg.put_len s i a, List.take_length]
  rfl

/-- Build, of too long a text -/
theorem build_long (m : Nat) (b : Bar) (s : Sg) (t : List UInt8) (ht : 1000 < t.length) (ht2 : t.length ≤ 2 ^ 63 - 1) : callF T (m + 3) b 5 [.vec (Am.byteCells t) .shut, .int .i64 0] s = some (.ret (.tup [.agg (coreC (kidsN 0 .nilsl)), .int .i64 10, .int .i64 1000]), s) := by
  have hbl := Am.byteCells_length t
  have hraw : ∀ (b : Bar) (s : Sg) (c : Nat), b.w ≤ c → getCells s.heap c 0 = some (bld (kidsN 0 .nilsl)) → callF T (m + 2) b 6 [.ptr c 0 0, .vec (Am.byteCells t) .shut] s = some (.ret (.tup []), s.put c (.cells (kidsN 0 .nilsl ++ [.int .i64 0, .nilsl, .int .i64 0, .int .i64 10, .int .i64 1000]) 0)) := by
    intro b s c hb hg
    refine eq_of_okF ?_
    (apply f_wp rfl rfl; (repeat (first | exact Shape.nil | (apply Shape.cons; conv => lhs; whnf))))
    refine qV ?_
    refine o_call rfl rfl (lex_long m _ s t ht ht2) ?_
    refine sV ?_
    refine eV ?_
    refine qqV ?_
    refine iV ?_
    refine qV ?_
    refine o_st rfl rfl rfl rfl hg rfl (lets_of (blt_no hb) (fun e => rfl)) (cs' := kidsN 0 .nilsl ++ [.int .i64 0, .nilsl, .int .i64 0, .int .i64 10, .int .i64 0]) rfl ?_
    have hg1 := getCells_put (cs' := kidsN 0 .nilsl ++ [.int .i64 0, .nilsl, .int .i64 0, .int .i64 10, .int .i64 0]) (g' := 0) hg
    refine sV ?_
    refine o_st rfl rfl rfl rfl hg1 rfl (lets_of (blt_no hb) (fun e => rfl)) (cs' := kidsN 0 .nilsl ++ [.int .i64 0, .nilsl, .int .i64 0, .int .i64 10, .int .i64 1000]) rfl ?_
    refine eV ?_
    refine c_ret (fin_ret (fn := af6) (.inl rfl) read_nil (leave_eff (l := []) lay_nil rfl) ⟨rfl, ?_⟩)
    rw [put_twice]
    exact put_take _ _ _
  refine eq_of_okF ?_
  (apply f_wp rfl rfl; (repeat (first | exact Shape.nil | (apply Shape.cons; conv => lhs; whnf))))
  refine qV ?_
  refine o_alloc (z := coreC (kidsN 0 .nilsl)) rfl ?_
  refine sV ?_
  refine eV ?_
  have hA := getCells_new s (coreC (kidsN 0 .nilsl)) 0
  have hl1 : (s.push (.cells (coreC (kidsN 0 .nilsl)) 0)).heap.length = s.heap.length + 1 := by simp [Sg.push]
  generalize s.push (.cells (coreC (kidsN 0 .nilsl)) 0) = s1 at hA hl1 ⊢
  refine qV ?_
  refine o_box (v := .agg (bld (kidsN 0 .nilsl))) (l := bld (kidsN 0 .nilsl)) rfl rfl rfl ?_
  refine sV ?_
  refine eV ?_
  have hB := getCells_new s1 (bld (kidsN 0 .nilsl)) 0
  have hA1 := getCells_push (.cells (bld (kidsN 0 .nilsl)) 0) hA
  have hl2 : (s1.push (.cells (bld (kidsN 0 .nilsl)) 0)).heap.length = s1.heap.length + 1 := by simp [Sg.push]
  generalize s1.push (.cells (bld (kidsN 0 .nilsl)) 0) = s2 at hB hA1 hl2 ⊢
  refine qV ?_
  refine o_st rfl rfl rfl rfl hB rfl (lets_nil (blt_no (by show s.heap.length ≤ s1.heap.length; omega)) rfl) (cs' := bld (kidsN 0 .nilsl)) rfl ?_
  rw [put_same hB]
  refine eV ?_
  refine qV ?_
  refine o_call rfl rfl (hraw _ s2 s1.heap.length (by show s.heap.length ≤ _; omega) hB) ?_
  have hB2 := getCells_put (cs' := kidsN 0 .nilsl ++ [.int .i64 0, .nilsl, .int .i64 0, .int .i64 10, .int .i64 1000]) (g' := 0) hB
  have hA2 := getCells_put_ne (i := s1.heap.length) (o := .cells (kidsN 0 .nilsl ++ [.int .i64 0, .nilsl, .int .i64 0, .int .i64 10, .int .i64 1000]) 0) (by omega) hA1
  refine eV ?_
  generalize s2.put s1.heap.length (.cells (kidsN 0 .nilsl ++ [.int .i64 0, .nilsl, .int .i64 0, .int .i64 10, .int .i64 1000]) 0) = s3 at hB2 hA2 ⊢
  refine qqV ?_
  refine lV ?_
  refine c_skip ?_
  refine qqV ?_
  refine iV ?_
  refine dqV ?_
  refine o_st rfl rfl rfl rfl hA2 rfl (lets_nil (blt_no (by show s.heap.length ≤ s.heap.length; omega)) rfl) (cs' := coreC (kidsN 0 .nilsl)) rfl ?_
  have hA3 := getCells_put (cs' := coreC (kidsN 0 .nilsl)) (g' := 0) hA2
  refine sV ?_
  refine d_end ?_ (by (repeat (first | exact OutS.nil | exact GetS.hit | exact PutS.hit | apply GetS.miss rfl | apply PutS.miss rfl | apply OutS.cons | apply OutS.skip rfl))) ?_
  · show (!(Nat.beq s1.heap.length s.heap.length) && (!(Nat.beq s1.heap.length s.heap.length) && true)) = true
    rw [beq_no (by omega)]
    rfl
  exact c_ret (fin_ret (fn := af5) (.inl rfl) (read_cell (v := .agg (coreC (kidsN 0 .nilsl))) rfl hA3 rfl (read_tmp rfl (read_tmp rfl read_nil))) (leave_pure (l := [.agg (coreC (kidsN 0 .nilsl)), .int .i64 10, .int .i64 1000]) rfl rfl) ⟨rfl, rfl⟩)

end Go.Vmm

namespace Go.Vmm
open Go Go.Am Go.Proofs

theorem awake' (n : Nat) (h : 600 ≤ n) : callF T n bar0 4 [] sg0 = some (.ret (.bool true), sg0) := callF_mono T _ _ h _ _ _ _ _ awake
theorem build_nil' (n : Nat) (h : 600 ≤ n) : callF T n bar0 5 [.vec [] .shut, .int .i64 0] sg0 = some (.ret (.tup [.agg (coreC (kidsN 12 .nilsl)), .int .i64 0, .int .i64 0]), sg0) := callF_mono T _ _ h _ _ _ _ _ build_nil

theorem chars_true (t : List UInt8) (ht : t.length ≤ 2 ^ 63 - 1) : ∃ n, callF T n bar0 3 [.vec (Am.byteCells t) .shut] sg0 = some (.ret (.bool true), sg0) := by
  have hbl := Am.byteCells_length t
  refine ⟨600 + t.length + 30 + 1, ?_⟩
  refine eq_of_okF ?_
  (apply f_wp rfl rfl; (repeat (first | exact Shape.nil | (apply Shape.cons; conv => lhs; whnf))))
  refine qqV ?_
  refine qV ?_
  refine o_call rfl rfl (awake' _ (by omega)) ?_
  refine sV ?_
  refine eV ?_
  refine qqV ?_
  refine lV ?_
  refine c_skip ?_
  refine qqV ?_
  refine bV ?_
  refine c_loop (x := lp3_0) ?_
  refine law_loop1 _ _ t ht sg0 (u := .undef) rfl ?_ ?_ t [] 0 _ _ _ _ rfl rfl (by omega) (fun c h => absurd h List.not_mem_nil)
  · intro hp x17 x5 x37
    show OkC _ _ _ _ _ _ _
    by_cases hl : t.length > 1000
    · refine qV ?_
      refine o_call rfl rfl (build_long _ _ sg0 t hl ht) ?_
      refine sV ?_
      refine o_alloc (z := coreC (kidsN 0 .nilsl)) rfl ?_
      have hA := getCells_new sg0 (coreC (kidsN 0 .nilsl)) 0
      refine o_st rfl rfl rfl rfl hA rfl (lets_nil (blt_no (by show 0 ≤ sg0.heap.length; omega)) rfl) (cs' := coreC (kidsN 0 .nilsl)) rfl ?_
      refine sV ?_
      refine eV ?_
      refine qqV ?_
      refine iV ?_
      refine qqV ?_
      exact c_ret (fin_ret (fn := af3) (.inl rfl) (read_tmp rfl read_nil) (leave_pure (l := [.bool true]) rfl rfl) ⟨rfl, rfl⟩)
    · by_cases hz : t = []
      · subst hz
        refine qV ?_
        refine o_call rfl rfl (build_nil' _ (by omega)) ?_
        refine sV ?_
        refine o_alloc (z := coreC (kidsN 0 .nilsl)) rfl ?_
        have hA := getCells_new sg0 (coreC (kidsN 0 .nilsl)) 0
        refine o_st rfl rfl rfl rfl hA rfl (lets_nil (blt_no (by show 0 ≤ sg0.heap.length; omega)) rfl) (cs' := coreC (kidsN 12 .nilsl)) rfl ?_
        have hA2 := getCells_put (cs' := coreC (kidsN 12 .nilsl)) (g' := 0) hA
        refine sV ?_
        refine eV ?_
        (repeat (first | refine lV ?_ | refine iV ?_ | refine c_skip ?_ | refine bV ?_ | refine qqV ?_ | refine dqqV ?_))
        refine c_loop (x := lp3_1) ?_
        apply l_round
        refine qqV ?_
        refine lV ?_
        refine c_exit ?_
        show OkC _ _ _ _ _ _ _
        refine qqV ?_
        exact c_ret (fin_ret (fn := af3) (.inl rfl) (read_tmp rfl read_nil) (leave_pure (l := [.bool true]) rfl rfl) ⟨rfl, rfl⟩)
      · have hxl := nodesOf_len 0 t
        have hR := rawOk_of hz (by omega) (fun c hc => by rcases hp c hc with h | h <;> omega)
        obtain ⟨hst2, h122⟩ := resN_stored _ hR.ne
        have hst3 : (AV.agg (coreC (resN (nodesOf 0 t)))).stored = some (coreC (resN (nodesOf 0 t))) := stored_app hst2 rfl
        have hbs := fun (b : Bar) (s : Sg) => build_spec (600 + t.length + 16) b s t hz (by omega) (fun c hc => isLd_it (hp c hc)) (fun c hc => by rcases hp c hc with h | h <;> omega) (by omega)
        refine qV ?_
        refine o_call rfl rfl (hbs _ sg0) ?_
        refine sV ?_
        refine o_alloc (z := coreC (kidsN 0 .nilsl)) rfl ?_
        have hA := getCells_new sg0 (coreC (kidsN 0 .nilsl)) 0
        have h15 : (coreC (resN (nodesOf 0 t))).length = 15 := by unfold coreC; rw [List.length_append, h122]; rfl
        refine o_st rfl rfl rfl hst3 hA (by rw [h15]; rfl) (lets_nil (blt_no (by show 0 ≤ sg0.heap.length; omega)) rfl) (cs' := coreC (resN (nodesOf 0 t))) (write_all (by rw [h15]; rfl)) ?_
        have hA2 := getCells_put (cs' := coreC (resN (nodesOf 0 t))) (g' := 0) hA
        refine sV ?_
        refine eV ?_
        generalize (sg0.push (.cells (coreC (kidsN 0 .nilsl)) 0)).put sg0.heap.length (.cells (coreC (resN (nodesOf 0 t))) 0) = s1 at hA2 ⊢
        refine qqV ?_
        refine lV ?_
        refine c_skip ?_
        rcases res_cases _ hR.ne with ⟨x, e⟩ | ⟨hn1, _, e⟩
        · have hl1 : t.length = 1 := by rw [← hxl, e]; rfl
          rw [e] at hA2
          have hsn : snavs (nodesOf 0 t) = [.agg (setN x)] := by rw [e]; rfl
          have hsl : (snavs (nodesOf 0 t)).length = t.length := by unfold snavs; rw [List.length_map, nodesOf_len]
          refine qqV ?_
          refine qqV ?_
          refine iV ?_
          refine qqV ?_
          show OkC _ _ _ _ (fr3 t (.bool false) t.length _ _ _ _ _ _ _ _ (.vec [.agg (setN x)] (.exact true)) _ _ _ _) _ _
          rw [← hsn]
          refine qqV ?_
          refine lV ?_
          refine c_skip ?_
          refine qqV ?_
          refine bV ?_
          refine c_loop (x := lp3_1) ?_
          refine law_loop2 _ _ t (by omega) s1 _ _ _ _ _ _ _ _ _ _ (.inr rfl) ?_ t [] 0 _ _ _ rfl rfl (by omega)
          intro x79 x128
          show OkC _ _ _ _ _ _ _
          refine qqV ?_
          exact c_ret (fin_ret (fn := af3) (.inl rfl) (read_tmp rfl read_nil) (leave_pure (l := [.bool true]) rfl rfl) ⟨rfl, rfl⟩)
        · rw [e] at hA2
          have hsl : (snavs (nodesOf 0 t)).length = t.length := by unfold snavs; rw [List.length_map, nodesOf_len]
          refine qqV ?_
          refine qqV ?_
          refine lV ?_
          refine c_skip ?_
          refine qqV ?_
          refine lV ?_
          refine c_skip ?_
          refine qqV ?_
          refine bV ?_
          refine c_loop (x := lp3_1) ?_
          refine law_loop2 _ _ t (by omega) s1 _ _ _ _ _ _ _ _ _ _ (.inl rfl) ?_ t [] 0 _ _ _ rfl rfl (by omega)
          intro x79 x128
          show OkC _ _ _ _ _ _ _
          refine qqV ?_
          exact c_ret (fin_ret (fn := af3) (.inl rfl) (read_tmp rfl read_nil) (leave_pure (l := [.bool true]) rfl rfl) ⟨rfl, rfl⟩)
  · intro k x17 x5 x37
    exact fin_ret (fn := af3) (.inl rfl) (read_tmp rfl read_nil) (leave_pure (l := [.bool true]) rfl rfl) ⟨rfl, rfl⟩

end Go.Vmm
