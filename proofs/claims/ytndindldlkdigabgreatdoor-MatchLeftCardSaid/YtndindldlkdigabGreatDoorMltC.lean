/-
  Of MatchLeft: what the functions that the law reaches come to.
-/
import Derived.Test.YtndindldlkdigabGreatDoorMltB

namespace Go.Vmm
open Go Go.Am Go.Proofs
set_option linter.unusedSectionVars false
variable [At0]

theorem eff_same {s : Sg} {vs l : List AV} {ks : List ARes} (hl : lay s.heap s.heap.length vs ks = some l) (ho : AV.oldAll s.heap.length l = true) : leave .eff s vs ks s = some (l, s) := by
  rw [leave_eff hl ho, List.take_length]

theorem eff_put {s : Sg} {i : Nat} {o : AObj} {vs l : List AV} {ks : List ARes} (hl : lay (s.put i o).heap s.heap.length vs ks = some l) (ho : AV.oldAll s.heap.length l = true) : leave .eff s vs ks (s.put i o) = some (l, s.put i o) := by
  rw [leave_eff hl ho]
  have : (s.put i o).heap.take s.heap.length = (s.put i o).heap := by rw [← Sg.put_len s i o, List.take_length]
  rw [this]
  rfl

theorem ends_spec (m : Nat) (b : Bar) (s : Sg) (im : Nat) (q : MQ) (hm : getCells s.heap im 0 = some (mc q)) : callF T (m + 1) b 219 [.ptr im 0 0] s = some (.ret (.tup []), s) := by
  obtain ⟨pr, sb, pc, p, regs, opens, sv, kind, spans, taken⟩ := q
  apply OkF.ret
  by_cases hp : p = (At0.a : Nat)
  · (apply f_wp rfl rfl; (repeat (first | exact Shape.nil | (apply Shape.cons; conv => lhs; whnf))))
    refine c_seq ?_
    refine dqV ?_
    refine dV ?_
    refine iV ?_
    refine c_ret ?_
    exact fin_ret (.inl rfl) read_nil (eff_same rfl rfl) ⟨rfl, rfl⟩
  · (apply f_wp rfl rfl; (repeat (first | exact Shape.nil | (apply Shape.cons; conv => lhs; whnf))))
    refine c_seq ?_
    refine dqV ?_
    refine dV ?_
    refine lV ?_
    refine c_skip ?_
    refine bV ?_
    refine qV ?_
    refine o_w (v := .int .i64 0) rfl rfl ?_
    refine sV ?_
    refine eV ?_
    refine lV ?_
    refine qV ?_
    refine o_w (v := .int .i64 0) rfl rfl ?_
    refine sV ?_
    refine eV ?_
    refine lV ?_
    refine c_skip ?_
    exact fin_ret (.inr rfl) read_nil (eff_same rfl rfl) ⟨rfl, rfl⟩

theorem part_one {l : List AV} {j : Nat} {v : AV} (h : l[j]? = some v) : partOf l (0 + j * 1) (some 1) = some (.agg [v]) := by
  have hj := lt_of_getElem? h
  simp only [partOf, Nat.zero_add, Nat.mul_one]
  rw [if_pos (ble_of (by omega))]
  have : l.drop j = v :: l.drop (j + 1) := by
    rw [List.drop_eq_getElem_cons hj]
    rw [List.getElem?_eq_getElem hj] at h
    rw [Option.some.inj h]
  rw [this]
  rfl

/-- a set, by what it says of characters -/
def HasOk (v : AV) (z : Int → Bool) : Prop := ∀ (m : Nat) (b : Bar) (c : Int) (s : Sg), callF T (m + 6) b 27 [.agg [v], .int .i64 c] s = some (.ret (.bool (z c)), s)

/-- what a set needs -/
structure SetOk (g : PG) (a : Nat) (z : Int → Bool) : Prop where
  ex : ∃ v, g.pool[a]? = some v ∧ HasOk v z

/-- no character is left -/
theorem set_end (m : Nat) (b : Bar) (s : Sg) (im ip : Nat) (q : MQ) (pcs : PG) (ri oi : Nat) (l k : List Int) (stk : List Ch) (a : Int) (t : List UInt8) (ht : t.length < 2 ^ 40) (h : VM s im ip pcs q ri oi l k stk) (hsb : q.sb = .vec (Am.byteCells t) .shut) (hp : q.p = (t.length : Int)) :
    callF T (m + 2) b 167 [.ptr im 0 0, .int .i64 a] s = some (.ret (.bool false), s) := by
  have hm := h.hm
  obtain ⟨pr, sb, pc, p, regs, opens, sv, kind, spans, taken⟩ := q
  dsimp only at hsb hp
  subst hsb hp
  apply OkF.ret
  (apply f_wp rfl rfl; (repeat (first | exact Shape.nil | (apply Shape.cons; conv => lhs; whnf))))
  refine qqV ?_
  refine c_seq ?_
  refine dqV ?_
  refine o_call rfl rfl (next_end m _ t t.length s rfl) ?_
  refine sV ?_
  refine dV ?_
  refine c_seq ?_
  refine c_seq ?_
  refine qqV ?_
  refine iV ?_
  refine qV ?_
  refine o_call rfl rfl (ends_spec m _ s im _ hm) ?_
  refine sV ?_
  refine eV ?_
  refine qqV ?_
  refine c_ret ?_
  exact fin_ret (.inl rfl) (read_tmp rfl read_nil) (eff_same rfl rfl) ⟨rfl, rfl⟩

/-- a character -/
theorem set_char (m : Nat) (b : Bar) (s : Sg) (im ip : Nat) (q : MQ) (pcs : PG) (ri oi : Nat) (l k : List Int) (stk : List Ch) (a : Nat) (z : Int → Bool) (t : List UInt8) (i : Nat) (c : UInt8) (ht : t.length < 2 ^ 40) (hw : b.w ≤ im) (h : VM s im ip pcs q ri oi l k stk) (hsb : q.sb = .vec (Am.byteCells t) .shut) (hp : q.p = (i : Int)) (hc : t[i]? = some c) (ha : SetOk pcs a z) :
    callF T (m + 7) b 167 [.ptr im 0 0, .int .i64 a] s = some (.ret (.bool (z c.toNat)), if z c.toNat = true then s.put im (.cells (mc { q with p := (i : Int) + 1 }) 0) else s) := by
  have hm := h.hm
  have hpo := h.po.1
  have hpr := h.pr
  obtain ⟨jp, gp, hp1, hp2, hp3⟩ := h.pg.pool
  obtain ⟨v, hv, hhas⟩ := ha.ex
  have hla := lt_of_getElem? hv
  have hpa := part_one hv
  obtain ⟨pr, sb, pc, p, regs, opens, sv, kind, spans, taken⟩ := q
  dsimp only at hsb hp hpr
  subst hsb hp hpr
  apply OkF.ret
  (apply f_wp rfl rfl; (repeat (first | exact Shape.nil | (apply Shape.cons; conv => lhs; whnf))))
  refine qqV ?_
  refine c_seq ?_
  refine dqV ?_
  refine o_call rfl rfl (next_spec (m + 5) _ t i c s ht hc) ?_
  refine sV ?_
  refine dV ?_
  refine c_seq ?_
  refine c_seq ?_
  refine qqV ?_
  refine lV ?_
  refine c_skip ?_
  refine c_seq ?_
  refine c_seq ?_
  refine qV ?_
  refine o_ixms (j := a) rfl rfl rfl rfl hla hp3 rfl ?_
  refine sV ?_
  refine o_call rfl rfl (hhas m _ c.toNat s) ?_
  by_cases hcn : z c.toNat = true
  · rw [if_pos hcn, hcn]
    refine sV ?_
    refine eV ?_
    refine lV ?_
    refine c_skip ?_
    refine qV ?_
    refine o_st rfl rfl rfl rfl hm rfl (lets_of (blt_no hw) (fun e => rfl)) (w_p ..) ?_
    refine eV ?_
    refine qqV ?_
    refine c_ret ?_
    exact fin_ret (.inl rfl) (read_tmp rfl read_nil) (eff_put rfl rfl) ⟨rfl, rfl⟩
  · rw [if_neg hcn, Bool.eq_false_iff.mpr hcn]
    refine sV ?_
    refine eV ?_
    refine iV ?_
    refine qqV ?_
    refine c_ret ?_
    exact fin_ret (.inl rfl) (read_tmp rfl read_nil) (eff_same rfl rfl) ⟨rfl, rfl⟩

end Go.Vmm

namespace Go.Vmm
open Go Go.Am Go.Proofs
set_option linter.unusedSectionVars false
variable [At0]

/-- an instruction that takes a character, by what it does -/
theorem may_set (m : Nat) (b : Bar) (s : Sg) (im : Nat) (i : In) (a b' c r : Int) (lz : Bool) (hin : i = ⟨1, a, b', c, r, lz⟩) {P : Bool → Sg → Prop}
    (hc : ∀ s1, Grow s s1 → ∃ t s2, callF T (m + 7) b 167 [.ptr im 0 0, .int .i64 a] s1 = some (.ret (.bool t), s2) ∧ P t s2) :
    OkF (callF T (m + 8) b 119 [.ptr im 0 0, i.av] s) fun o s' => ∃ t, o = .ret (.bool t) ∧ P t s' := by
  subst hin
  (apply f_wp rfl rfl; (repeat (first | exact Shape.nil | (apply Shape.cons; conv => lhs; whnf))))
  refine qV ?_
  refine o_box rfl rfl rfl ?_
  refine sV ?_
  refine eV ?_
  have hB := getCells_new s (⟨1, a, b', c, r, lz⟩ : In).cs 0
  have hG := (Grow.refl s).push (.cells (⟨1, a, b', c, r, lz⟩ : In).cs 0)
  change OkC _ _ _ _ _ (s.push (.cells (⟨1, a, b', c, r, lz⟩ : In).cs 0)) _
  generalize s.push (.cells (⟨1, a, b', c, r, lz⟩ : In).cs 0) = s1 at hB hG ⊢
  obtain ⟨t, s2, h1, h2⟩ := hc s1 hG
  refine qqV ?_
  refine bV ?_
  refine qqV ?_
  refine iV ?_
  refine qV ?_
  refine o_call rfl rfl h1 ?_
  refine sV ?_
  refine eV ?_
  refine c_ret ?_
  exact fin_ret (.inl rfl) (read_tmp rfl read_nil) rfl ⟨t, rfl, h2⟩

theorem part_last {cs c : List AV} {l : List (List AV)} (hc : c.length = 75) (hl : ((l ++ [c]).length) * 75 ≤ cs.length) (h : cs.take ((l ++ [c]).length * 75) = (l ++ [c]).flatten) (hfl : l.flatten.length = l.length * 75) : partOf cs (0 + l.length * 75) (some 75) = some (.agg c) := by
  simp only [List.length_append, List.length_cons, List.length_nil] at hl h
  simp only [partOf, Nat.zero_add]
  rw [if_pos (ble_of (by omega))]
  have h1 : (cs.drop (l.length * 75)).take 75 = (cs.take ((l.length + (0 + 1)) * 75)).drop (l.length * 75) := by
    rw [List.drop_take]
    congr 1
    omega
  rw [h1, h, List.flatten_append, ← hfl, List.drop_left]
  simp

theorem flat_len : ∀ l : List Ch, ((l.map Ch.cs).flatten).length = l.length * 75
  | [] => rfl
  | a :: r => by
    have ih := flat_len r
    simp only [List.map_cons, List.flatten_cons, List.length_append, ih, a.ok.2, List.length_cons]
    omega

/-- the last choice, taken -/
theorem VM.pop {s s' : Sg} {im ip : Nat} {pcs : PG} {q q' : MQ} {ri oi : Nat} {l k : List Int} {stk : List Ch} {pc p : Int} {i j : Nat} {l' k' : List Int} (h : VM s im ip pcs q ri oi l k (stk ++ [.tr pc p i j l' k'])) {jj g cp : Nat} (hq : q.stk = .ms jj g 0 (stk ++ [Ch.tr pc p i j l' k']).length cp 75)
    (hk : Kept s s' (fun x => x = im)) (hm : getCells s'.heap im 0 = some (mc q')) (h1 : q'.pr = q.pr) (h2 : q'.regs = rv i l'.length) (h3 : q'.opens = rv j k'.length) (h4 : q'.stk = .ms jj g 0 stk.length cp 75) : VM s' im ip pcs q' i j l' k' stk := by
  have hc := h.cut hq (n := stk.length) (by simp)
  have hch := h.ch (.tr pc p i j l' k') (by simp)
  have hk2 : Kept (s.put im (.cells (mc { q with stk := .ms jj g 0 stk.length cp 75 }) 0)) s' (fun x => x = im) := ⟨by rw [Sg.put_len]; exact hk.len, fun x hx hn => by rw [Sg.put_get _ _ _ hn]; exact hk.same x (by rw [Sg.put_len] at hx; exact hx) hn⟩
  have hio : idsOf (stk ++ [.tr pc p i j l' k']) = idsOf stk ++ [i, j] := by simp [idsOf, Ch.ids]
  have htk : (stk ++ [Ch.tr pc p i j l' k']).take stk.length = stk := by simp
  have hnd := h.nd
  have hids := h.ids
  rw [hio] at hnd hids
  have hst := hc.st
  rw [htk] at hst
  have hmi : im < i := (hids i (by simp)).1
  have hmj : im < j := (hids j (by simp)).1
  have hsr : ∀ x, heapRef (.ms jj g 0 stk.length cp 75) ≠ some x ↔ heapRef q.stk ≠ some x := fun x => by rw [hq]; exact Iff.rfl
  refine ⟨hm, h1.trans h.pr, ⟨getCells_at h.po.1 (hk.same _ (getCells_lt h.po.1) (by have := h.lo; omega)), h.po.2, h.po.3⟩, h.pg.kept hk (fun x hx => by omega), h.lo, h2, h3, hch.1.kept hk (by omega), hch.2.kept hk (by omega), ?_, ?_, ?_, ?_, ?_⟩
  · rw [h4]
    exact hst.kept hk2 fun x hx _ => by omega
  · intro c hcm
    refine (h.ch c (List.mem_append_left _ hcm)).kept hk fun x hx => ?_
    have := (hids x (List.mem_cons_of_mem _ (List.mem_cons_of_mem _ (List.mem_append_left _ (mem_ids hcm hx))))).1
    omega
  · have h5 : (idsOf stk ++ [i, j]).Nodup := (List.nodup_cons.mp (List.nodup_cons.mp hnd).2).2
    have h6 : ([i, j] ++ idsOf stk).Nodup := (List.perm_append_comm.nodup_iff).mp h5
    exact h6
  · intro x hx
    rw [h4]
    rw [hsr]
    rcases List.mem_cons.mp hx with rfl | hx
    · exact hids _ (by simp)
    rcases List.mem_cons.mp hx with rfl | hx
    · exact hids _ (by simp)
    · exact hids x (by simp [hx])
  · intro p hp
    obtain ⟨a, b, c, d⟩ := h.ex p hp
    rw [hio] at c
    refine ⟨getCells_at a (hk.same _ (getCells_lt a) b), b, fun hm => c ?_, by rw [h4, hsr]; exact d⟩
    rcases List.mem_cons.mp hm with e | hm
    · simp [e]
    rcases List.mem_cons.mp hm with e | hm
    · simp [e]
    · simp [hm]

/-- (*machine).fail, with a choice -/
theorem fail_pop (m : Nat) (b : Bar) (s : Sg) (im ip : Nat) (q : MQ) (pcs : PG) (ri oi : Nat) (l k : List Int) (stk : List Ch) (pc p : Int) (i j : Nat) (l' k' : List Int) (hw : b.w ≤ im) (hes : b.es = []) (h : VM s im ip pcs q ri oi l k (stk ++ [.tr pc p i j l' k'])) (hn : stk.length < 100000) (ht : q.taken < 1000000) (ht0 : 0 ≤ q.taken) (hpc : pc ≠ 0) :
    OkF (callF T (m + 2) b 118 [.ptr im 0 0] s) fun o s' => o = .ret (.tup []) ∧ s.heap.length ≤ s'.heap.length ∧ ∃ v, VM s' im ip pcs { q with pc := pc, p := p, regs := rv i l'.length, opens := rv j k'.length, stk := v, taken := q.taken + 1 } i j l' k' stk := by
  have hm := h.hm
  have hi := getCells_lt hm
  obtain ⟨pr, sb, pc0, p0, regs, opens, sv, kind, spans, taken⟩ := q
  dsimp only at ht ht0
  rcases h.st with ⟨h1, _⟩ | ⟨jj, g, cp, h1, h2, h3, h4, cs, h5, h6, h7⟩
  · simp at h1
  dsimp only at h1
  subst h1
  rw [List.length_map] at h3 h7
  have hlast : partOf cs (0 + stk.length * 75) (some 75) = some (.agg (Ch.tr pc p i j l' k').cs) := by
    have := part_last (cs := cs) (c := (Ch.tr pc p i j l' k').cs) (l := stk.map Ch.cs) rfl (by simp at h3 ⊢; omega) (by simpa using h7) (by rw [flat_len, List.length_map])
    rwa [List.length_map] at this
  have hlen : (stk ++ [Ch.tr pc p i j l' k']).length = stk.length + 1 := by simp
  have hlm : (List.map Ch.cs (stk ++ [Ch.tr pc p i j l' k'])).length = stk.length + 1 := by simp
  (apply f_wp rfl rfl; (repeat (first | exact Shape.nil | (apply Shape.cons; conv => lhs; whnf))))
  refine bV ?_
  refine c_loop ?_
  refine l_round ?_
  refine bV ?_
  refine qqV ?_
  refine c_seq ?_
  refine c_seq ?_
  refine qqV ?_
  refine lV ?_
  refine c_skip ?_
  refine c_seq ?_
  refine c_seq ?_
  refine dqV ?_
  refine dV ?_
  refine lV ?_
  refine c_skip ?_
  refine qV ?_
  refine o_st rfl rfl rfl rfl hm rfl (lets_nil (blt_no (by show b.w ≤ im; omega)) hes) (w_taken ..) ?_
  refine eV ?_
  have hm1 := getCells_put (cs' := mc ⟨pr, sb, pc0, p0, regs, opens, .ms jj g 0 (List.map Ch.cs (stk ++ [Ch.tr pc p i j l' k'])).length cp 75, kind, spans, taken + 1⟩) (g' := 0) hm
  have h51 := getCells_put_ne (i := im) (o := .cells (mc ⟨pr, sb, pc0, p0, regs, opens, .ms jj g 0 (List.map Ch.cs (stk ++ [Ch.tr pc p i j l' k'])).length cp 75, kind, spans, taken + 1⟩) 0) (by omega) h5
  have hK1 : Kept s (s.put im (.cells (mc ⟨pr, sb, pc0, p0, regs, opens, .ms jj g 0 (List.map Ch.cs (stk ++ [Ch.tr pc p i j l' k'])).length cp 75, kind, spans, taken + 1⟩) 0)) (fun x => x = im) := Kept.put
  change OkC _ _ _ _ _ (s.put im (.cells (mc ⟨pr, sb, pc0, p0, regs, opens, .ms jj g 0 (List.map Ch.cs (stk ++ [Ch.tr pc p i j l' k'])).length cp 75, kind, spans, taken + 1⟩) 0)) _
  generalize s.put im (.cells (mc ⟨pr, sb, pc0, p0, regs, opens, .ms jj g 0 (List.map Ch.cs (stk ++ [Ch.tr pc p i j l' k'])).length cp 75, kind, spans, taken + 1⟩) 0) = s1 at hm1 h51 hK1 ⊢
  refine qV ?_
  refine o_ixms (j := stk.length) (z := ((List.map Ch.cs (stk ++ [Ch.tr pc p i j l' k'])).length : Int) - 1) rfl rfl rfl (by omega) (by omega) h51 rfl ?_
  refine sV ?_
  refine o_alloc rfl ?_
  refine sV ?_
  refine o_st (l := (Ch.tr pc p i j l' k').cs) rfl rfl rfl rfl (getCells_new s1 _ 0) rfl (lets_nil (blt_no (by show b.w ≤ s1.heap.length; have := getCells_lt hm1; omega)) hes) (cs' := (Ch.tr pc p i j l' k').cs) rfl ?_
  rw [push_put]
  refine eV ?_
  have hT := getCells_new s1 (Ch.tr pc p i j l' k').cs 0
  have hm2 := getCells_push (.cells (Ch.tr pc p i j l' k').cs 0) hm1
  have hK2 : Kept s (s1.push (.cells (Ch.tr pc p i j l' k').cs 0)) (fun x => x = im) := hK1.trans (((Grow.refl s1).push _).kept)
  have hlt := getCells_lt hm1
  generalize s1.push (.cells (Ch.tr pc p i j l' k').cs 0) = s2 at hT hm2 hK2 ⊢
  refine qV ?_
  refine o_slms (j := stk.length) (z := ((List.map Ch.cs (stk ++ [Ch.tr pc p i j l' k'])).length : Int) - 1) rfl rfl rfl (by omega) (by omega) h4 ?_
  refine sV ?_
  refine o_st rfl rfl rfl rfl hm2 rfl (lets_nil (blt_no (by show b.w ≤ im; omega)) hes) (w_stk ..) ?_
  refine eV ?_
  have hm3 := getCells_put (cs' := mc ⟨pr, sb, pc0, p0, regs, opens, .ms jj g 0 stk.length cp 75, kind, spans, taken + 1⟩) (g' := 0) hm2
  have hT3 := getCells_put_ne (i := im) (o := .cells (mc ⟨pr, sb, pc0, p0, regs, opens, .ms jj g 0 stk.length cp 75, kind, spans, taken + 1⟩) 0) (by omega) hT
  have hK3 : Kept s (s2.put im (.cells (mc ⟨pr, sb, pc0, p0, regs, opens, .ms jj g 0 stk.length cp 75, kind, spans, taken + 1⟩) 0)) (fun x => x = im) := hK2.trans Kept.put
  change OkC _ _ _ _ _ (s2.put im (.cells (mc ⟨pr, sb, pc0, p0, regs, opens, .ms jj g 0 stk.length cp 75, kind, spans, taken + 1⟩) 0)) _
  generalize s2.put im (.cells (mc ⟨pr, sb, pc0, p0, regs, opens, .ms jj g 0 stk.length cp 75, kind, spans, taken + 1⟩) 0) = s3 at hm3 hT3 hK3 ⊢
  refine bV ?_
  refine qqV ?_
  refine lV ?_
  refine qqV ?_
  refine iV ?_
  refine qV ?_
  refine o_st (l := st pc p (rv i l'.length) (rv j k'.length)) rfl rfl rfl rfl hm3 rfl (lets_nil (blt_no (by show b.w ≤ im; omega)) hes) (w_st ..) ?_
  refine eV ?_
  refine c_ret ?_
  refine fin_ret (.inl rfl) read_nil rfl ⟨rfl, by have := hK3.len; rw [Sg.put_len]; omega, .ms jj g 0 stk.length cp 75, h.pop (by rw [hlen, ← hlm]) (hK3.trans Kept.put) (getCells_put hm3) rfl rfl rfl rfl⟩

end Go.Vmm

namespace Go.Vmm
open Go Go.Am Go.Proofs
set_option linter.unusedSectionVars false
variable [At0]

/-- what is thrown at the end -/
abbrev doneV : AV := .iface 164 (.agg [])

theorem finish_spec (m : Nat) (b : Bar) (s : Sg) (im : Nat) (q : MQ) (z : Int) (hw : b.w ≤ im) (hm : getCells s.heap im 0 = some (mc q)) : callF T (m + 1) b 164 [.ptr im 0 0, .int .i64 z] s = some (.panic doneV, s.put im (.cells (mc { q with kind := z }) 0)) := by
  obtain ⟨pr, sb, pc, p, regs, opens, sv, kind, spans, taken⟩ := q
  apply OkF.pan
  (apply f_wp rfl rfl; (repeat (first | exact Shape.nil | (apply Shape.cons; conv => lhs; whnf))))
  refine qV ?_
  refine o_st rfl rfl rfl rfl hm rfl (lets_of (blt_no hw) (fun e => rfl)) (w_kind ..) ?_
  refine eV ?_
  refine qV ?_
  refine o_panic rfl rfl ?_
  exact fin_panic (eff_put rfl rfl) ⟨rfl, rfl⟩

/-- (*machine).fail, without a choice -/
theorem fail_none (m : Nat) (b : Bar) (s : Sg) (im ip : Nat) (q : MQ) (pcs : PG) (ri oi : Nat) (l k : List Int) (hw : b.w ≤ im) (h : VM s im ip pcs q ri oi l k []) :
    callF T (m + 2) b 118 [.ptr im 0 0] s = some (.panic doneV, s.put im (.cells (mc { q with kind := 2 }) 0)) := by
  have hm := h.hm
  obtain ⟨pr, sb, pc0, p0, regs, opens, sv, kind, spans, taken⟩ := q
  apply OkF.pan
  rcases h.st with ⟨_, h1⟩ | ⟨jj, g, cp, h1, _⟩
  · dsimp only at h1
    subst h1
    (apply f_wp rfl rfl; (repeat (first | exact Shape.nil | (apply Shape.cons; conv => lhs; whnf))))
    refine bV ?_
    refine c_loop ?_
    refine l_round ?_
    refine bV ?_
    refine qqV ?_
    refine c_seq ?_
    refine c_seq ?_
    refine qqV ?_
    refine iV ?_
    refine qV ?_
    refine o_callp rfl rfl (finish_spec m _ s im _ 2 hw hm) ?_
    exact fin_panic rfl ⟨rfl, rfl⟩
  · dsimp only at h1
    subst h1
    have hz : (List.map Ch.cs []).length = 0 := rfl
    (apply f_wp rfl rfl; (repeat (first | exact Shape.nil | (apply Shape.cons; conv => lhs; whnf))))
    refine bV ?_
    refine c_loop ?_
    refine l_round ?_
    refine bV ?_
    refine qqV ?_
    refine c_seq ?_
    refine c_seq ?_
    refine qqV ?_
    refine iV ?_
    refine qV ?_
    refine o_callp rfl rfl (finish_spec m _ s im _ 2 hw hm) ?_
    exact fin_panic rfl ⟨rfl, rfl⟩

/-- no groups -/
def caps0 : List AV := [.int .i64 0, .cplx .f64 0 0, .cplx .f64 0 0, .cplx .f64 0 0, .cplx .f64 0 0, .cplx .f64 0 0, .cplx .f64 0 0, .cplx .f64 0 0, .cplx .f64 0 0, .cplx .f64 0 0, .cplx .f64 0 0, .cplx .f64 0 0, .cplx .f64 0 0, .cplx .f64 0 0, .cplx .f64 0 0, .cplx .f64 0 0, .cplx .f64 0 0, .cplx .f64 0 0, .cplx .f64 0 0, .cplx .f64 0 0, .cplx .f64 0 0, .cplx .f64 0 0, .cplx .f64 0 0, .cplx .f64 0 0, .cplx .f64 0 0, .cplx .f64 0 0, .cplx .f64 0 0, .cplx .f64 0 0, .cplx .f64 0 0, .cplx .f64 0 0, .cplx .f64 0 0, .cplx .f64 0 0, .cplx .f64 0 0, .cplx .f64 0 0, .cplx .f64 0 0, .cplx .f64 0 0, .cplx .f64 0 0, .cplx .f64 0 0, .cplx .f64 0 0, .cplx .f64 0 0, .cplx .f64 0 0, .cplx .f64 0 0, .cplx .f64 0 0, .cplx .f64 0 0, .cplx .f64 0 0, .cplx .f64 0 0, .cplx .f64 0 0, .cplx .f64 0 0, .cplx .f64 0 0, .cplx .f64 0 0, .cplx .f64 0 0, .cplx .f64 0 0, .cplx .f64 0 0, .cplx .f64 0 0, .cplx .f64 0 0, .cplx .f64 0 0, .cplx .f64 0 0, .cplx .f64 0 0, .cplx .f64 0 0, .cplx .f64 0 0, .cplx .f64 0 0, .cplx .f64 0 0]

theorem spans_spec (m : Nat) (b : Bar) (s : Sg) : callF T (m + 3) b 163 [.agg caps0] s = some (.ret .nilsl, s) := by
  apply OkF.ret
  (apply f_wp rfl rfl; (repeat (first | exact Shape.nil | (apply Shape.cons; conv => lhs; whnf))))
  refine qV ?_
  refine o_box (v := .agg caps0) (l := caps0) rfl rfl rfl ?_
  refine sV ?_
  refine eV ?_
  have hA := getCells_new s caps0 0
  change OkC _ _ _ _ _ (s.push (.cells caps0 0)) _
  generalize s.push (.cells caps0 0) = s1 at hA ⊢
  refine qqV ?_
  refine qqV ?_
  refine c_block ?_
  refine c_loop ?_
  refine l_round ?_
  refine qqV ?_
  refine lV ?_
  refine c_exit ?_
  refine qqV ?_
  refine c_ret ?_
  exact fin_ret (.inl rfl) (read_tmp rfl read_nil) (leave_pure rfl rfl) ⟨rfl, rfl⟩

end Go.Vmm

namespace Go.Vmm
open Go Go.Am Go.Proofs
set_option linter.unusedSectionVars false
variable [At0]

theorem lets_ge {b : Bar} {i : Nat} {xs : List AV} (hw : Nat.blt i b.w = false) (h : allGe i b.es = true) : b.lets i xs = true := by
  have : ∀ l : List Nat, allGe i l = true → letsAll i xs l = true := by
    intro l
    induction l with
    | nil => intro _; rfl
    | cons e r ih =>
      intro h
      simp only [allGe, Bool.and_eq_true] at h
      have h1 : Nat.blt i e = false := blt_no (Nat.le_of_ble_eq_true h.1)
      simp only [letsAll, h1, ih h.2, Bool.not_false, Bool.true_or, Bool.and_self]
  simp only [Bar.lets, hw, this _ h, Bool.not_false, Bool.and_self]

theorem part_caps (pc p : Int) (u v : AV) : partOf (st pc p u v) 3 (some 62) = some (.agg caps0) := rfl

/-- what a match leaves behind -/
def spansOf (p : Int) : AV := .vec [.agg [.int .i64 (At0.a : Nat), .int .i64 p]] (.exact true)

theorem over_spec (m : Nat) (b : Bar) (s : Sg) (im : Nat) (q : MQ) (hw : b.w ≤ im) (hes : b.es = []) (hm : getCells s.heap im 0 = some (mc q)) (hr : ∃ i n, q.regs = rv i n) (ho : ∃ i n, q.opens = rv i n) :
    callF T (m + 4) b 117 [.ptr im 0 0] s = some (.panic doneV, s.put im (.cells (mc { q with kind := 1, spans := spansOf q.p }) 0)) := by
  obtain ⟨pr, sb, pc, p, regs, opens, sv, kind, spans, taken⟩ := q
  obtain ⟨ri, rn, rfl⟩ := hr
  obtain ⟨oi, on, rfl⟩ := ho
  have hi := getCells_lt hm
  have hmk := getCells_keep (k := 1) hm
  apply OkF.pan
  (apply f_wp rfl rfl; (repeat (first | exact Shape.nil | (apply Shape.cons; conv => lhs; whnf))))
  refine qqV ?_
  refine c_seq ?_
  refine c_drawnk ?_
  refine sV ?_
  refine o_fill rfl (evF_alloc keep_last rfl (by show b.w ≤ s.heap.length; omega) (by show (Nat.ble s.heap.length s.heap.length && allGe _ b.es) = true; rw [hes, ble_of (Nat.le_refl _)]; rfl)) ?_
  show OkO _ _ _ _ _ ((s.keep 1).put s.heap.length _) _
  rw [keep_put]
  refine o_st (i := s.heap.length) (g' := 0) (off := 0) (l := st pc p (rv ri rn) (rv oi on)) rfl rfl rfl rfl (getCells_new s _ 0) rfl (lets_ge (blt_no (by show b.w ≤ s.heap.length; omega)) (by show (Nat.ble s.heap.length s.heap.length && allGe _ b.es) = true; rw [hes, ble_of (Nat.le_refl _)]; rfl)) (cs' := st pc p (rv ri rn) (rv oi on)) rfl ?_
  rw [push_put]
  have hmp := getCells_push (.cells (st pc p (rv ri rn) (rv oi on)) 0) hm
  have hO := (On.refl hm).push (.cells (st pc p (rv ri rn) (rv oi on)) 0)
  have hT := getCells_new s (st pc p (rv ri rn) (rv oi on)) 0
  have hL := Sg.push_len s (.cells (st pc p (rv ri rn) (rv oi on)) 0)
  refine sV ?_
  refine d_end (by show (!(Nat.beq im s.heap.length) && (!(Nat.beq im s.heap.length) && (!(Nat.beq im s.heap.length) && true))) = true; rw [beq_no (by omega)]; rfl) (by (repeat (first | exact OutS.nil | exact GetS.hit | exact PutS.hit | apply GetS.miss rfl | apply PutS.miss rfl | apply OutS.cons | apply OutS.skip rfl))) ?_
  generalize s.push (.cells (st pc p (rv ri rn) (rv oi on)) 0) = s1 at hmp hO hT hL ⊢
  refine c_seq ?_
  refine c_seq ?_
  refine dqV ?_
  refine o_w (v := .int .i64 0) rfl rfl ?_
  refine sV ?_
  refine o_w (v := .int .i64 0) rfl rfl ?_
  refine sV ?_
  refine o_w (v := .int .i64 0) rfl rfl ?_
  refine sV ?_
  refine dV ?_
  refine lV ?_
  refine c_skip ?_
  refine qV ?_
  refine o_st rfl rfl rfl rfl hmp rfl (lets_of (blt_no (by show b.w ≤ im; omega)) (fun e => rfl)) (cs' := mc ⟨pr, sb, pc, p, rv ri rn, rv oi on, sv, kind, spans, taken⟩) rfl ?_
  rw [Sg.put_same hmp]
  refine eV ?_
  refine c_seq ?_
  refine dqV ?_
  refine o_call (l := [.agg caps0]) rfl rfl (spans_spec m _ s1) ?_
  refine o_app_none (v := spansOf p) rfl rfl (.inr ⟨_, _, rfl⟩) rfl rfl rfl ?_
  refine sV ?_
  refine o_st (l := [spansOf p]) rfl rfl rfl rfl hmp rfl (lets_of (blt_no (by show b.w ≤ im; omega)) (fun e => rfl)) (w_spans ..) ?_
  refine dV ?_
  have hmp2 := getCells_put (cs' := mc ⟨pr, sb, pc, p, rv ri rn, rv oi on, sv, kind, spansOf p, taken⟩) (g' := 0) hmp
  have hO2 := hO.putr (mc ⟨pr, sb, pc, p, rv ri rn, rv oi on, sv, kind, spansOf p, taken⟩) 0
  refine qV ?_
  refine o_callp rfl rfl (finish_spec (m + 2) _ _ im _ 1 hw hmp2) ?_
  exact fin_panic (leave_eff rfl rfl) ⟨rfl, (hO2.putr (mc ⟨pr, sb, pc, p, rv ri rn, rv oi on, sv, 1, spansOf p, taken⟩) 0).trunc⟩

end Go.Vmm

namespace Go.Vmm
open Go Go.Am Go.Proofs
set_option linter.unusedSectionVars false
variable [At0]

/-- the loop 0 of function 73 -/
def lp73_0 : ACode := .block 1 (.seq (.drawn [⟨(some 3), .v (.move (.tmp 0)), none⟩, ⟨(some 4), .v (.nilCheck (.tmp 3)), none⟩, ⟨(some 5), .v (.fieldAddr 0 none (.tmp 4)), none⟩, ⟨(some 6), .v (.load none (.tmp 5)), none⟩, ⟨(some 7), .v (.nilCheck (.tmp 6)), none⟩, ⟨(some 8), .v (.fieldAddr 0 none (.tmp 7)), none⟩, ⟨(some 9), .v (.load none (.tmp 8)), none⟩, ⟨(some 10), .v (.move (.tmp 0)), none⟩, ⟨(some 11), .v (.nilCheck (.tmp 10)), none⟩, ⟨(some 12), .v (.fieldAddr 12 (some 72) (.tmp 11)), none⟩, ⟨(some 13), .v (.fieldAddr 0 none (.tmp 12)), none⟩, ⟨(some 14), .v (.load none (.tmp 13)), none⟩, ⟨(some 15), .v (.indexAddrS (some 7) (.tmp 9) (.tmp 14)), none⟩, ⟨(some 16), .v (.load (some 7) (.tmp 15)), none⟩, ⟨(some 2), .fill 0 (.alloc [(.int .i64 0), (.int .i64 0), (.int .i64 0), (.int .i64 0), (.int .i64 0), (.bool false), (.str [])]), none⟩, ⟨none, .e (.store 7 (.tmp 2) (.tmp 16)), none⟩] [2] [.apart ⟨(some (.tmp 5)), none⟩ ⟨none, (some 0)⟩, .apart ⟨(some (.tmp 8)), none⟩ ⟨none, (some 0)⟩, .apart ⟨(some (.tmp 13)), none⟩ ⟨none, (some 0)⟩, .apart ⟨(some (.tmp 9)), none⟩ ⟨none, (some 0)⟩, .apart ⟨(some (.tmp 15)), none⟩ ⟨none, (some 0)⟩] false 1) (.seq (.region [⟨(some 17), .v (.move (.tmp 0)), none⟩, ⟨(some 18), .v (.nilCheck (.tmp 17)), none⟩, ⟨(some 19), .v (.fieldAddr 12 (some 72) (.tmp 18)), none⟩, ⟨(some 20), .v (.fieldAddr 0 none (.tmp 19)), none⟩, ⟨(some 21), .v (.load none (.tmp 20)), none⟩, ⟨(some 22), .v (.bin .add (.tmp 21) (.const (.int .i64 1))), none⟩, ⟨(some 23), .v (.nilCheck (.tmp 17)), none⟩, ⟨(some 24), .v (.fieldAddr 12 (some 72) (.tmp 23)), none⟩, ⟨(some 25), .v (.fieldAddr 0 none (.tmp 24)), none⟩, ⟨none, .e (.store 1 (.tmp 25) (.tmp 22)), none⟩] []) (.seq (.region [⟨(some 26), .v (.fieldAddr 0 none (.tmp 2)), none⟩, ⟨(some 27), .v (.load none (.tmp 26)), none⟩] [27]) (.block 2 (.seq (.region [⟨(some 32), .v (.bin .eql (.tmp 27) (.const (.int .i64 23))), none⟩, ⟨(some 31), .v (.move (.tmp 32)), none⟩] [31]) (.cond (.tmp 31) (.seq (.seq (.region [⟨(some 33), .v (.move (.tmp 0)), none⟩, ⟨(some 34), .call 117 [(.tmp 33)], none⟩] [34]) (.cond (.tmp 34) (.exit 0) (.skip))) (.region [⟨(some 35), .v (.move (.tmp 0)), none⟩, ⟨(some 36), .call 118 [(.tmp 35)], none⟩] [])) (.seq (.seq (.region [⟨(some 38), .v (.bin .eql (.tmp 27) (.const (.int .i64 1))), none⟩, ⟨(some 37), .v (.move (.tmp 38)), none⟩] [37]) (.cond (.tmp 37) (.skip) (.seq (.region [⟨(some 39), .v (.bin .eql (.tmp 27) (.const (.int .i64 2))), none⟩, ⟨(some 37), .v (.move (.tmp 39)), none⟩] [37]) (.cond (.tmp 37) (.skip) (.seq (.region [⟨(some 40), .v (.bin .eql (.tmp 27) (.const (.int .i64 5))), none⟩, ⟨(some 37), .v (.move (.tmp 40)), none⟩] [37]) (.cond (.tmp 37) (.skip) (.seq (.region [⟨(some 41), .v (.bin .eql (.tmp 27) (.const (.int .i64 17))), none⟩, ⟨(some 37), .v (.move (.tmp 41)), none⟩] [37]) (.cond (.tmp 37) (.skip) (.seq (.region [⟨(some 42), .v (.bin .eql (.tmp 27) (.const (.int .i64 4))), none⟩, ⟨(some 37), .v (.move (.tmp 42)), none⟩] [37]) (.cond (.tmp 37) (.skip) (.seq (.region [⟨(some 43), .v (.bin .eql (.tmp 27) (.const (.int .i64 8))), none⟩, ⟨(some 37), .v (.move (.tmp 43)), none⟩] [37]) (.cond (.tmp 37) (.skip) (.region [⟨(some 44), .v (.bin .eql (.tmp 27) (.const (.int .i64 6))), none⟩, ⟨(some 37), .v (.move (.tmp 44)), none⟩] [37]))))))))))))) (.cond (.tmp 37) (.seq (.region [⟨(some 45), .v (.move (.tmp 0)), none⟩, ⟨(some 46), .v (.load (some 7) (.tmp 2)), none⟩, ⟨(some 47), .call 119 [(.tmp 45), (.tmp 46)], none⟩, ⟨(some 48), .v (.un .not (.tmp 47)), none⟩] [48]) (.cond (.tmp 48) (.region [⟨(some 49), .v (.move (.tmp 0)), none⟩, ⟨(some 50), .call 118 [(.tmp 49)], none⟩] []) (.skip))) (.seq (.region [⟨(some 52), .v (.bin .eql (.tmp 27) (.const (.int .i64 16))), none⟩, ⟨(some 51), .v (.move (.tmp 52)), none⟩] [51]) (.cond (.tmp 51) (.seq (.region [⟨(some 53), .v (.move (.tmp 0)), none⟩, ⟨(some 54), .v (.load (some 7) (.tmp 2)), none⟩, ⟨(some 55), .call 120 [(.tmp 53), (.tmp 54)], none⟩] [55]) (.cond (.tmp 55) (.region [⟨(some 56), .v (.move (.tmp 0)), none⟩, ⟨(some 57), .call 118 [(.tmp 56)], none⟩] []) (.skip))) (.region [⟨(some 28), .v (.move (.tmp 0)), none⟩, ⟨(some 29), .v (.load (some 7) (.tmp 2)), none⟩, ⟨(some 30), .call 121 [(.tmp 28), (.tmp 29)], none⟩] [])))))))))))

/-- the frame of run -/
abbrev rf (im : Nat) (a b c d e f g h : AV) : Fr := ⟨[(0, .ptr im 0 0), (2, a), (27, b), (31, c), (34, d), (37, e), (48, f), (51, g), (55, h)], [], .off⟩

/-- rounds of run -/
abbrev RunL (k m : Nat) (b : Bar) (fr : Fr) (s : Sg) (Q : Ex → Fr → Sg → Prop) : Prop := OkL k (fun fr s => ACode.run (loopN m) (callF T m) b lp73_0 fr s) fr s Q

theorem part_in {g : PG} {n : Nat} {i : In} (h : g.ins[n]? = some i) : partOf (g.ins.map In.cs).flatten (0 + n * 7) (some 7) = some i.av := by
  have hlen : ∀ i : In, i.cs.length = 7 := fun i => by cases i; rfl
  have key : ∀ (l : List In) (n : Nat), l[n]? = some i → Nat.ble (n * 7 + 7) (l.map In.cs).flatten.length = true ∧ ((l.map In.cs).flatten.drop (n * 7)).take 7 = i.cs := by
    intro l
    induction l with
    | nil => intro n h; simp at h
    | cons a r ih =>
      intro n h
      cases n with
      | zero =>
        obtain rfl : a = i := by simpa using h
        refine ⟨ble_of (by simp only [List.map_cons, List.flatten_cons, List.length_append, hlen]; omega), ?_⟩
        simp only [List.map_cons, List.flatten_cons, Nat.zero_mul, List.drop_zero]
        rw [List.take_append_of_le_length (by rw [hlen]; omega), List.take_of_length_le (by rw [hlen]; omega)]
      | succ n =>
        obtain ⟨h1, h2⟩ := ih n (by simpa using h)
        have h1 := Nat.le_of_ble_eq_true h1
        refine ⟨ble_of (by simp only [List.map_cons, List.flatten_cons, List.length_append, hlen]; omega), ?_⟩
        simp only [List.map_cons, List.flatten_cons]
        have : (n + 1) * 7 = a.cs.length + n * 7 := by rw [hlen]; omega
        rw [this, List.drop_append, List.drop_of_length_le (by omega), Nat.add_sub_cancel_left, List.nil_append]
        exact h2
  obtain ⟨h1, h2⟩ := key g.ins n h
  simp only [partOf, Nat.zero_add]
  rw [if_pos h1, h2]
  rfl


theorem run_plain (k m : Nat) (b : Bar) (im ip : Nat) (q : MQ) (pcs : PG) (ri oi : Nat) (l ko : List Int) (stk : List Ch) (s : Sg) (i : In) (n : Nat) (a1 a2 a3 a4 a5 a6 a7 a8 : AV) (Q : Ex → Fr → Sg → Prop) {P : Sg → Prop} (hw : b.w ≤ im) (hes : b.es = []) (h : VM s im ip pcs q ri oi l ko stk) (hpc : q.pc = (n : Int)) (hnb : n < 1000) (hin : pcs.ins[n]? = some i) (hop : i.op ≠ 23 ∧ i.op ≠ 1 ∧ i.op ≠ 2 ∧ i.op ≠ 5 ∧ i.op ≠ 17 ∧ i.op ≠ 4 ∧ i.op ≠ 8 ∧ i.op ≠ 6 ∧ i.op ≠ 16)
    (hc : ∀ s1, VM s1 im ip pcs { q with pc := (n : Int) + 1 } ri oi l ko stk → OkF (callF T m b 121 [.ptr im 0 0, i.av] s1) fun o s' => o = .ret (.tup []) ∧ P s')
    (hn : ∀ s', P s' → ∀ b1 b2 b3 b4 b5 b6 b7 b8, RunL k m b (rf im b1 b2 b3 b4 b5 b6 b7 b8) s' Q) : RunL (k + 1) m b (rf im a1 a2 a3 a4 a5 a6 a7 a8) s Q := by
  obtain ⟨op, ia, ib, ic, ir, lz⟩ := i
  dsimp only at hop
  obtain ⟨o1, o2, o3, o4, o5, o6, o7, o8, o9⟩ := hop
  have hm := h.hm
  have hi := getCells_lt hm
  have hpo := h.po.1
  have hpr := h.pr
  have hlo := h.lo
  obtain ⟨jc, gc, hc1, hc2, hc3⟩ := h.pg.code
  have hln := lt_of_getElem? hin
  have hpa := part_in hin
  obtain ⟨pr, sb, pc, p, regs, opens, sv, kind, spans, taken⟩ := q
  dsimp only at hpr hpc
  subst hpr hpc
  refine l_round ?_
  refine bV ?_
  have hmk := getCells_keep (k := 1) hm
  have hpk := getCells_keep (k := 1) hpo
  have hck := getCells_keep (k := 1) hc3
  have hjl := getCells_lt hc3
  have hpl := getCells_lt hpo
  refine c_seq ?_
  refine c_drawnk ?_
  refine sV ?_
  refine o_ixms (j := n) rfl rfl rfl rfl hln hck rfl ?_
  refine sV ?_
  refine o_fill rfl (evF_alloc keep_last rfl (by show b.w ≤ s.heap.length; omega) (by show allGe _ b.es = true; rw [hes]; rfl)) ?_
  show OkO _ _ _ _ _ ((s.keep 1).put s.heap.length _) _
  rw [keep_put]
  refine o_st (i := s.heap.length) (g' := 0) (off := 0) rfl rfl rfl rfl (getCells_new s _ 0) rfl (lets_nil (blt_no (by show b.w ≤ s.heap.length; omega)) hes) (cs' := (⟨op, ia, ib, ic, ir, lz⟩ : In).cs) rfl ?_
  rw [push_put]
  have hG := (Grow.refl s).push (.cells (⟨op, ia, ib, ic, ir, lz⟩ : In).cs 0)
  have hB := getCells_new s (⟨op, ia, ib, ic, ir, lz⟩ : In).cs 0
  have hV := h.grow hG
  have hm1 := getCells_push (.cells (⟨op, ia, ib, ic, ir, lz⟩ : In).cs 0) hm
  refine sV ?_
  refine d_end (by show (!(Nat.beq im s.heap.length) && (!(Nat.beq ip s.heap.length) && (!(Nat.beq im s.heap.length) && (!(Nat.beq jc s.heap.length) && (!(Nat.beq jc s.heap.length) && true))))) = true; rw [beq_no (by omega), beq_no (by omega), beq_no (by omega)]; rfl) (by (repeat (first | exact OutS.nil | exact GetS.hit | exact PutS.hit | apply GetS.miss rfl | apply PutS.miss rfl | apply OutS.cons | apply OutS.skip rfl))) ?_
  generalize s.push (.cells (⟨op, ia, ib, ic, ir, lz⟩ : In).cs 0) = s1 at hG hB hV hm1 ⊢
  have hL1 := hG.len
  refine c_seq ?_
  refine qV ?_
  refine o_st rfl rfl rfl rfl hm1 rfl (lets_nil (blt_no (by show b.w ≤ im; omega)) hes) (w_pc ..) ?_
  refine eV ?_
  have hB2 := getCells_put_ne (i := im) (o := .cells (mc ⟨.ptr ip 0 0, sb, (n : Int) + 1, p, regs, opens, sv, kind, spans, taken⟩) 0) (by omega) hB
  have hV2 : VM (s1.put im (.cells (mc ⟨.ptr ip 0 0, sb, (n : Int) + 1, p, regs, opens, sv, kind, spans, taken⟩) 0)) im ip pcs ⟨.ptr ip 0 0, sb, (n : Int) + 1, p, regs, opens, sv, kind, spans, taken⟩ ri oi l ko stk := hV.move Kept.put (getCells_put hm1) rfl rfl rfl rfl
  have hL2 : s1.heap.length ≤ (s1.put im (.cells (mc ⟨.ptr ip 0 0, sb, (n : Int) + 1, p, regs, opens, sv, kind, spans, taken⟩) 0)).heap.length := by rw [Sg.put_len]; exact Nat.le_refl _
  change OkC _ _ _ _ _ (s1.put im (.cells (mc ⟨.ptr ip 0 0, sb, (n : Int) + 1, p, regs, opens, sv, kind, spans, taken⟩) 0)) _
  generalize s1.put im (.cells (mc ⟨.ptr ip 0 0, sb, (n : Int) + 1, p, regs, opens, sv, kind, spans, taken⟩) 0) = s2 at hB2 hV2 hL2 ⊢
  refine qqV ?_
  refine bV ?_
  refine qqV ?_
  refine lV ?_
  refine qqV ?_
  refine lV ?_
  refine qqV ?_
  refine lV ?_
  refine qqV ?_
  refine lV ?_
  refine qqV ?_
  refine lV ?_
  refine qqV ?_
  refine lV ?_
  refine qqV ?_
  refine lV ?_
  refine qqV ?_
  refine lV ?_
  refine qqV ?_
  refine lV ?_
  refine qV ?_
  refine o_callw (l := [.ptr im 0 0, (⟨op, ia, ib, ic, ir, lz⟩ : In).av]) rfl rfl ((hc s2 hV2).mono ?_)
  rintro _ s3 ⟨rfl, hP⟩
  refine eV ?_
  exact hn s3 hP _ _ _ _ _ _ _ _

theorem run_set (k m : Nat) (b : Bar) (im ip : Nat) (q : MQ) (pcs : PG) (ri oi : Nat) (l ko : List Int) (stk : List Ch) (s : Sg) (i : In) (n : Nat) (a1 a2 a3 a4 a5 a6 a7 a8 : AV) (Q : Ex → Fr → Sg → Prop) {P : Bool → Sg → Prop} (hw : b.w ≤ im) (hes : b.es = []) (h : VM s im ip pcs q ri oi l ko stk) (hpc : q.pc = (n : Int)) (hnb : n < 1000) (hin : pcs.ins[n]? = some i) (hop : i.op = 1)
    (hc : ∀ s1, VM s1 im ip pcs { q with pc := (n : Int) + 1 } ri oi l ko stk → OkF (callF T m b 119 [.ptr im 0 0, i.av] s1) fun o s' => ∃ t, o = .ret (.bool t) ∧ P t s')
    (hy : ∀ s', P true s' → ∀ b1 b2 b3 b4 b5 b6 b7 b8, RunL k m b (rf im b1 b2 b3 b4 b5 b6 b7 b8) s' Q)
    (hf : ∀ s', P false s' → OkF (callF T m b 118 [.ptr im 0 0] s') fun o s'' => (o = .ret (.tup []) ∧ ∀ b1 b2 b3 b4 b5 b6 b7 b8, RunL k m b (rf im b1 b2 b3 b4 b5 b6 b7 b8) s'' Q) ∨ (o = .panic doneV ∧ ∀ fr, fr.defers = [] → Q (.panic doneV) fr s'')) : RunL (k + 1) m b (rf im a1 a2 a3 a4 a5 a6 a7 a8) s Q := by
  obtain ⟨op, ia, ib, ic, ir, lz⟩ := i
  dsimp only at hop
  subst hop
  have hm := h.hm
  have hi := getCells_lt hm
  have hpo := h.po.1
  have hpr := h.pr
  have hlo := h.lo
  obtain ⟨jc, gc, hc1, hc2, hc3⟩ := h.pg.code
  have hln := lt_of_getElem? hin
  have hpa := part_in hin
  obtain ⟨pr, sb, pc, p, regs, opens, sv, kind, spans, taken⟩ := q
  dsimp only at hpr hpc
  subst hpr hpc
  refine l_round ?_
  refine bV ?_
  have hmk := getCells_keep (k := 1) hm
  have hpk := getCells_keep (k := 1) hpo
  have hck := getCells_keep (k := 1) hc3
  have hjl := getCells_lt hc3
  have hpl := getCells_lt hpo
  refine c_seq ?_
  refine c_drawnk ?_
  refine sV ?_
  refine o_ixms (j := n) rfl rfl rfl rfl hln hck rfl ?_
  refine sV ?_
  refine o_fill rfl (evF_alloc keep_last rfl (by show b.w ≤ s.heap.length; omega) (by show allGe _ b.es = true; rw [hes]; rfl)) ?_
  show OkO _ _ _ _ _ ((s.keep 1).put s.heap.length _) _
  rw [keep_put]
  refine o_st (i := s.heap.length) (g' := 0) (off := 0) rfl rfl rfl rfl (getCells_new s _ 0) rfl (lets_nil (blt_no (by show b.w ≤ s.heap.length; omega)) hes) (cs' := (⟨1, ia, ib, ic, ir, lz⟩ : In).cs) rfl ?_
  rw [push_put]
  have hG := (Grow.refl s).push (.cells (⟨1, ia, ib, ic, ir, lz⟩ : In).cs 0)
  have hB := getCells_new s (⟨1, ia, ib, ic, ir, lz⟩ : In).cs 0
  have hV := h.grow hG
  have hm1 := getCells_push (.cells (⟨1, ia, ib, ic, ir, lz⟩ : In).cs 0) hm
  refine sV ?_
  refine d_end (by show (!(Nat.beq im s.heap.length) && (!(Nat.beq ip s.heap.length) && (!(Nat.beq im s.heap.length) && (!(Nat.beq jc s.heap.length) && (!(Nat.beq jc s.heap.length) && true))))) = true; rw [beq_no (by omega), beq_no (by omega), beq_no (by omega)]; rfl) (by (repeat (first | exact OutS.nil | exact GetS.hit | exact PutS.hit | apply GetS.miss rfl | apply PutS.miss rfl | apply OutS.cons | apply OutS.skip rfl))) ?_
  generalize s.push (.cells (⟨1, ia, ib, ic, ir, lz⟩ : In).cs 0) = s1 at hG hB hV hm1 ⊢
  have hL1 := hG.len
  refine c_seq ?_
  refine qV ?_
  refine o_st rfl rfl rfl rfl hm1 rfl (lets_nil (blt_no (by show b.w ≤ im; omega)) hes) (w_pc ..) ?_
  refine eV ?_
  have hB2 := getCells_put_ne (i := im) (o := .cells (mc ⟨.ptr ip 0 0, sb, (n : Int) + 1, p, regs, opens, sv, kind, spans, taken⟩) 0) (by omega) hB
  have hV2 : VM (s1.put im (.cells (mc ⟨.ptr ip 0 0, sb, (n : Int) + 1, p, regs, opens, sv, kind, spans, taken⟩) 0)) im ip pcs ⟨.ptr ip 0 0, sb, (n : Int) + 1, p, regs, opens, sv, kind, spans, taken⟩ ri oi l ko stk := hV.move Kept.put (getCells_put hm1) rfl rfl rfl rfl
  have hL2 : s1.heap.length ≤ (s1.put im (.cells (mc ⟨.ptr ip 0 0, sb, (n : Int) + 1, p, regs, opens, sv, kind, spans, taken⟩) 0)).heap.length := by rw [Sg.put_len]; exact Nat.le_refl _
  change OkC _ _ _ _ _ (s1.put im (.cells (mc ⟨.ptr ip 0 0, sb, (n : Int) + 1, p, regs, opens, sv, kind, spans, taken⟩) 0)) _
  generalize s1.put im (.cells (mc ⟨.ptr ip 0 0, sb, (n : Int) + 1, p, regs, opens, sv, kind, spans, taken⟩) 0) = s2 at hB2 hV2 hL2 ⊢
  refine qqV ?_
  refine bV ?_
  refine qqV ?_
  refine lV ?_
  refine qqV ?_
  refine iV ?_
  refine c_skip ?_
  refine iV ?_
  refine qV ?_
  refine o_callw (l := [.ptr im 0 0, (⟨1, ia, ib, ic, ir, lz⟩ : In).av]) rfl rfl ((hc s2 hV2).mono ?_)
  rintro _ s3 ⟨t, rfl, hP⟩
  change OkO _ _ _ _ _ _ _
  cases t with
  | true =>
    refine sV ?_
    refine eV ?_
    refine lV ?_
    refine c_skip ?_
    exact hy s3 hP _ _ _ _ _ _ _ _
  | false =>
    refine sV ?_
    refine eV ?_
    refine iV ?_
    refine qV ?_
    refine o_callw (l := [.ptr im 0 0]) rfl rfl ((hf s3 hP).mono ?_)
    rintro _ s4 (⟨rfl, hR⟩ | ⟨rfl, hR⟩)
    · refine eV ?_
      exact hR _ _ _ _ _ _ _ _
    · exact hR _ rfl

theorem run_end (k m : Nat) (b : Bar) (im ip : Nat) (q : MQ) (pcs : PG) (ri oi : Nat) (l ko : List Int) (stk : List Ch) (s : Sg) (i : In) (n : Nat) (a1 a2 a3 a4 a5 a6 a7 a8 : AV) (Q : Ex → Fr → Sg → Prop) (hw : b.w ≤ im) (hes : b.es = []) (h : VM s im ip pcs q ri oi l ko stk) (hpc : q.pc = (n : Int)) (hnb : n < 1000) (hin : pcs.ins[n]? = some i) (hop : i.op = 23)
    (hQ : ∀ s' fr, fr.defers = [] → s.heap.length ≤ s'.heap.length → VM s' im ip pcs { q with pc := (n : Int) + 1, kind := 1, spans := spansOf q.p } ri oi l ko stk → Q (.panic doneV) fr s') : RunL (k + 1) (m + 4) b (rf im a1 a2 a3 a4 a5 a6 a7 a8) s Q := by
  obtain ⟨op, ia, ib, ic, ir, lz⟩ := i
  dsimp only at hop
  subst hop
  have hm := h.hm
  have hi := getCells_lt hm
  have hpo := h.po.1
  have hpr := h.pr
  have hlo := h.lo
  obtain ⟨jc, gc, hc1, hc2, hc3⟩ := h.pg.code
  have hln := lt_of_getElem? hin
  have hpa := part_in hin
  obtain ⟨pr, sb, pc, p, regs, opens, sv, kind, spans, taken⟩ := q
  dsimp only at hpr hpc
  subst hpr hpc
  refine l_round ?_
  refine bV ?_
  have hmk := getCells_keep (k := 1) hm
  have hpk := getCells_keep (k := 1) hpo
  have hck := getCells_keep (k := 1) hc3
  have hjl := getCells_lt hc3
  have hpl := getCells_lt hpo
  refine c_seq ?_
  refine c_drawnk ?_
  refine sV ?_
  refine o_ixms (j := n) rfl rfl rfl rfl hln hck rfl ?_
  refine sV ?_
  refine o_fill rfl (evF_alloc keep_last rfl (by show b.w ≤ s.heap.length; omega) (by show allGe _ b.es = true; rw [hes]; rfl)) ?_
  show OkO _ _ _ _ _ ((s.keep 1).put s.heap.length _) _
  rw [keep_put]
  refine o_st (i := s.heap.length) (g' := 0) (off := 0) rfl rfl rfl rfl (getCells_new s _ 0) rfl (lets_nil (blt_no (by show b.w ≤ s.heap.length; omega)) hes) (cs' := (⟨23, ia, ib, ic, ir, lz⟩ : In).cs) rfl ?_
  rw [push_put]
  have hG := (Grow.refl s).push (.cells (⟨23, ia, ib, ic, ir, lz⟩ : In).cs 0)
  have hB := getCells_new s (⟨23, ia, ib, ic, ir, lz⟩ : In).cs 0
  have hV := h.grow hG
  have hm1 := getCells_push (.cells (⟨23, ia, ib, ic, ir, lz⟩ : In).cs 0) hm
  refine sV ?_
  refine d_end (by show (!(Nat.beq im s.heap.length) && (!(Nat.beq ip s.heap.length) && (!(Nat.beq im s.heap.length) && (!(Nat.beq jc s.heap.length) && (!(Nat.beq jc s.heap.length) && true))))) = true; rw [beq_no (by omega), beq_no (by omega), beq_no (by omega)]; rfl) (by (repeat (first | exact OutS.nil | exact GetS.hit | exact PutS.hit | apply GetS.miss rfl | apply PutS.miss rfl | apply OutS.cons | apply OutS.skip rfl))) ?_
  generalize s.push (.cells (⟨23, ia, ib, ic, ir, lz⟩ : In).cs 0) = s1 at hG hB hV hm1 ⊢
  have hL1 := hG.len
  refine c_seq ?_
  refine qV ?_
  refine o_st rfl rfl rfl rfl hm1 rfl (lets_nil (blt_no (by show b.w ≤ im; omega)) hes) (w_pc ..) ?_
  refine eV ?_
  have hB2 := getCells_put_ne (i := im) (o := .cells (mc ⟨.ptr ip 0 0, sb, (n : Int) + 1, p, regs, opens, sv, kind, spans, taken⟩) 0) (by omega) hB
  have hV2 : VM (s1.put im (.cells (mc ⟨.ptr ip 0 0, sb, (n : Int) + 1, p, regs, opens, sv, kind, spans, taken⟩) 0)) im ip pcs ⟨.ptr ip 0 0, sb, (n : Int) + 1, p, regs, opens, sv, kind, spans, taken⟩ ri oi l ko stk := hV.move Kept.put (getCells_put hm1) rfl rfl rfl rfl
  have hL2 : s1.heap.length ≤ (s1.put im (.cells (mc ⟨.ptr ip 0 0, sb, (n : Int) + 1, p, regs, opens, sv, kind, spans, taken⟩) 0)).heap.length := by rw [Sg.put_len]; exact Nat.le_refl _
  change OkC _ _ _ _ _ (s1.put im (.cells (mc ⟨.ptr ip 0 0, sb, (n : Int) + 1, p, regs, opens, sv, kind, spans, taken⟩) 0)) _
  generalize s1.put im (.cells (mc ⟨.ptr ip 0 0, sb, (n : Int) + 1, p, regs, opens, sv, kind, spans, taken⟩) 0) = s2 at hB2 hV2 hL2 ⊢
  refine qqV ?_
  refine bV ?_
  refine qqV ?_
  refine iV ?_
  refine qV ?_
  refine o_callp rfl rfl (over_spec m _ s2 im _ hw hes hV2.hm ⟨_, _, hV2.rg⟩ ⟨_, _, hV2.op⟩) ?_
  exact hQ _ _ rfl (by rw [Sg.put_len]; omega) (hV2.move Kept.put (getCells_put hV2.hm) rfl rfl rfl rfl)

end Go.Vmm

namespace Go.Vmm
open Go Go.Am Go.Proofs
set_option linter.unusedSectionVars false
variable [At0]

/-- the choices of a greedy repetition: one for each place -/
structure GS (C : Int) (Z : List Int → Prop) (stk0 stk : List Ch) (k : Nat) : Prop where
  ex : ∃ cs : List Ch, stk = stk0 ++ cs ∧ cs.length = k ∧ ∀ (j : Nat) (c : Ch), cs[j]? = some c → ∃ i i' l ko, c = .tr C j i i' l ko ∧ Z l

theorem GS.push {C : Int} {Z : List Int → Prop} {stk0 stk : List Ch} {k : Nat} (h : GS C Z stk0 stk k) {i i' : Nat} {l ko : List Int} (hz : Z l) : GS C Z stk0 (stk ++ [.tr C k i i' l ko]) (k + 1) := by
  obtain ⟨cs, rfl, hl, hc⟩ := h
  refine ⟨cs ++ [.tr C k i i' l ko], by simp, by simp [hl], fun j c hj => ?_⟩
  rcases Nat.lt_or_ge j cs.length with h1 | h1
  · rw [List.getElem?_append_left h1] at hj
    exact hc j c hj
  · rw [List.getElem?_append_right h1] at hj
    have h2 : j - cs.length = 0 := by
      have := lt_of_getElem? hj
      simp at this
      omega
    rw [h2] at hj
    obtain rfl := Option.some.inj hj
    exact ⟨i, i', l, ko, by rw [show j = k by omega], hz⟩

theorem GS.pop {C : Int} {Z : List Int → Prop} {stk0 stk : List Ch} {k : Nat} (h : GS C Z stk0 stk (k + 1)) : ∃ stk' i i' l ko, stk = stk' ++ [.tr C k i i' l ko] ∧ Z l ∧ GS C Z stk0 stk' k := by
  obtain ⟨cs, rfl, hl, hc⟩ := h
  have hne : cs ≠ [] := by intro e; rw [e] at hl; simp at hl
  obtain ⟨i, i', l, ko, h1, h2⟩ := hc k (cs.getLast hne) (by rw [List.getLast_eq_getElem, List.getElem?_eq_getElem (by omega)]; congr 1; simp only [hl]; congr 1)
  refine ⟨stk0 ++ cs.dropLast, i, i', l, ko, by rw [← h1, List.append_assoc, List.dropLast_concat_getLast hne], h2, cs.dropLast, rfl, by simp [hl], fun j c hj => hc j c ?_⟩
  have hj' := lt_of_getElem? hj
  rw [List.getElem?_dropLast] at hj
  split at hj
  · exact hj
  · cases hj

theorem GS.len {C : Int} {Z : List Int → Prop} {stk0 stk : List Ch} {k : Nat} (h : GS C Z stk0 stk k) : stk.length = stk0.length + k := by
  obtain ⟨cs, rfl, hl, _⟩ := h
  simp [hl]

/-- what a text has of some characters from a place on: up to a place, and no more -/
structure Many (t : List UInt8) (i n : Nat) (z : Int → Bool) : Prop where
  len : t.length < 1000
  le' : i ≤ n
  all : ∀ j, i ≤ j → j < n → ∃ c, t[j]? = some c ∧ z c.toNat = true
  last : n = t.length ∨ ∃ c, t[n]? = some c ∧ z c.toNat = false

theorem Many.le {t : List UInt8} {i n : Nat} {z : Int → Bool} (h : Many t i n z) : n ≤ t.length := by
  rcases h.last with h1 | ⟨c, h1, _⟩
  · omega
  · have := lt_of_getElem? h1; omega

/-- a character that is there: on -/
theorem step_set (k M : Nat) (b : Bar) (im ip : Nat) (q : MQ) (pcs : PG) (ri oi : Nat) (l ko : List Int) (stk : List Ch) (s : Sg) (n a : Nat) (z : Int → Bool) (t : List UInt8) (j : Nat) (c : UInt8) (a1 a2 a3 a4 a5 a6 a7 a8 : AV) (Q : Ex → Fr → Sg → Prop) (hw : b.w ≤ im) (hes : b.es = []) (h : VM s im ip pcs q ri oi l ko stk) (hpc : q.pc = (n : Int)) (hnb : n < 1000) (ib ic ir : Int) (lz : Bool) (hin : pcs.ins[n]? = some ⟨1, a, ib, ic, ir, lz⟩) (ht : t.length < 1000) (hsb : q.sb = .vec (Am.byteCells t) .shut) (hp : q.p = (j : Int)) (hc : t[j]? = some c) (ha : SetOk pcs a z) (hcz : z c.toNat = true)
    (hy : ∀ s', VM s' im ip pcs { q with pc := (n : Int) + 1, p := (j : Int) + 1 } ri oi l ko stk → ∀ b1 b2 b3 b4 b5 b6 b7 b8, RunL k (M + 8) b (rf im b1 b2 b3 b4 b5 b6 b7 b8) s' Q) : RunL (k + 1) (M + 8) b (rf im a1 a2 a3 a4 a5 a6 a7 a8) s Q := by
  refine run_set k (M + 8) b im ip q pcs ri oi l ko stk s _ n a1 a2 a3 a4 a5 a6 a7 a8 Q (P := fun r s' => r = true ∧ VM s' im ip pcs { q with pc := (n : Int) + 1, p := (j : Int) + 1 } ri oi l ko stk) hw hes h hpc hnb hin rfl (fun s1 h1 => ?_) (fun s' h' => hy s' h'.2) (fun s' h' => absurd h'.1 (by simp))
  refine may_set M b s1 im _ a ib ic ir lz rfl fun s2 hg => ?_
  have h2 := h1.grow hg
  have h3 := set_char M b s2 im ip _ pcs ri oi l ko stk a z t j c (by omega) hw h2 hsb hp hc ha
  rw [if_pos hcz, hcz] at h3
  exact ⟨true, _, h3, rfl, h2.move Kept.put (getCells_put h2.hm) rfl rfl rfl rfl⟩

/-- no such character: the last choice is taken -/
theorem step_pop (k M : Nat) (b : Bar) (im ip : Nat) (q : MQ) (pcs : PG) (ri oi : Nat) (l ko : List Int) (stk : List Ch) (s : Sg) (n a : Nat) (z : Int → Bool) (t : List UInt8) (j : Nat) (pc p : Int) (i i' : Nat) (l' k' : List Int) (a1 a2 a3 a4 a5 a6 a7 a8 : AV) (Q : Ex → Fr → Sg → Prop) (hw : b.w ≤ im) (hes : b.es = []) (h : VM s im ip pcs q ri oi l ko (stk ++ [.tr pc p i i' l' k'])) (hpc : q.pc = (n : Int)) (hnb : n < 1000) (ib ic ir : Int) (lz : Bool) (hin : pcs.ins[n]? = some ⟨1, a, ib, ic, ir, lz⟩) (ht : t.length < 1000) (hsb : q.sb = .vec (Am.byteCells t) .shut) (hp : q.p = (j : Int)) (hc : j = t.length ∨ ∃ c, t[j]? = some c ∧ z c.toNat = false) (ha : SetOk pcs a z) (hn : stk.length < 100000) (htk : 0 ≤ q.taken ∧ q.taken < 1000000) (hpc0 : pc ≠ 0)
    (hy : ∀ s' v, VM s' im ip pcs { q with pc := pc, p := p, regs := rv i l'.length, opens := rv i' k'.length, stk := v, taken := q.taken + 1 } i i' l' k' stk → ∀ b1 b2 b3 b4 b5 b6 b7 b8, RunL k (M + 8) b (rf im b1 b2 b3 b4 b5 b6 b7 b8) s' Q) : RunL (k + 1) (M + 8) b (rf im a1 a2 a3 a4 a5 a6 a7 a8) s Q := by
  refine run_set k (M + 8) b im ip q pcs ri oi l ko _ s _ n a1 a2 a3 a4 a5 a6 a7 a8 Q (P := fun r s' => r = false ∧ VM s' im ip pcs { q with pc := (n : Int) + 1 } ri oi l ko (stk ++ [.tr pc p i i' l' k'])) hw hes h hpc hnb hin rfl (fun s1 h1 => ?_) (fun s' h' => absurd h'.1 (by simp)) (fun s' h' => ?_)
  · refine may_set M b s1 im _ a ib ic ir lz rfl fun s2 hg => ?_
    have h2 := h1.grow hg
    rcases hc with hc | ⟨c, hc, hcz⟩
    · have h3 := set_end (M + 5) b s2 im ip _ pcs ri oi l ko _ a t (by omega) h2 hsb (by rw [← hc]; exact hp)
      exact ⟨false, _, h3, rfl, h2⟩
    · have h3 := set_char M b s2 im ip _ pcs ri oi l ko _ a z t j c (by omega) hw h2 hsb hp hc ha
      rw [if_neg (by rw [hcz]; exact Bool.false_ne_true), hcz] at h3
      exact ⟨false, _, h3, rfl, h2⟩
  · refine (fail_pop (M + 6) b s' im ip _ pcs ri oi l ko stk pc p i i' l' k' hw hes h'.2 hn htk.2 htk.1 hpc0).mono ?_
    rintro o s'' ⟨rfl, _, v, hv⟩
    exact .inl ⟨rfl, hy s'' v hv⟩

/-- no such character, and no choice -/
theorem step_fail (k M : Nat) (b : Bar) (im ip : Nat) (q : MQ) (pcs : PG) (ri oi : Nat) (l ko : List Int) (s : Sg) (n a : Nat) (z : Int → Bool) (t : List UInt8) (j : Nat) (a1 a2 a3 a4 a5 a6 a7 a8 : AV) (Q : Ex → Fr → Sg → Prop) (hw : b.w ≤ im) (hes : b.es = []) (h : VM s im ip pcs q ri oi l ko []) (hpc : q.pc = (n : Int)) (hnb : n < 1000) (ib ic ir : Int) (lz : Bool) (hin : pcs.ins[n]? = some ⟨1, a, ib, ic, ir, lz⟩) (ht : t.length < 1000) (hsb : q.sb = .vec (Am.byteCells t) .shut) (hp : q.p = (j : Int)) (hc : j = t.length ∨ ∃ c, t[j]? = some c ∧ z c.toNat = false) (ha : SetOk pcs a z)
    (hQ : ∀ s' fr, fr.defers = [] → VM s' im ip pcs { q with pc := (n : Int) + 1, kind := 2 } ri oi l ko [] → Q (.panic doneV) fr s') : RunL (k + 1) (M + 8) b (rf im a1 a2 a3 a4 a5 a6 a7 a8) s Q := by
  refine run_set k (M + 8) b im ip q pcs ri oi l ko _ s _ n a1 a2 a3 a4 a5 a6 a7 a8 Q (P := fun r s' => r = false ∧ VM s' im ip pcs { q with pc := (n : Int) + 1 } ri oi l ko []) hw hes h hpc hnb hin rfl (fun s1 h1 => ?_) (fun s' h' => absurd h'.1 (by simp)) (fun s' h' => ?_)
  · refine may_set M b s1 im _ a ib ic ir lz rfl fun s2 hg => ?_
    have h2 := h1.grow hg
    rcases hc with hc | ⟨c, hc, hcz⟩
    · have h3 := set_end (M + 5) b s2 im ip _ pcs ri oi l ko _ a t (by omega) h2 hsb (by rw [← hc]; exact hp)
      exact ⟨false, _, h3, rfl, h2⟩
    · have h3 := set_char M b s2 im ip _ pcs ri oi l ko _ a z t j c (by omega) hw h2 hsb hp hc ha
      rw [if_neg (by rw [hcz]; exact Bool.false_ne_true), hcz] at h3
      exact ⟨false, _, h3, rfl, h2⟩
  · exact ⟨_, _, fail_none (M + 6) b s' im ip _ pcs ri oi l ko hw h'.2, .inr ⟨rfl, fun fr hfr => hQ _ fr hfr (h'.2.move Kept.put (getCells_put h'.2.hm) rfl rfl rfl rfl)⟩⟩

end Go.Vmm

namespace Go.Vmm
open Go Go.Am Go.Proofs
set_option linter.unusedSectionVars false
variable [At0]

theorem ok13 : (13 : Int) ≠ 23 ∧ (13 : Int) ≠ 1 ∧ (13 : Int) ≠ 2 ∧ (13 : Int) ≠ 5 ∧ (13 : Int) ≠ 17 ∧ (13 : Int) ≠ 4 ∧ (13 : Int) ≠ 8 ∧ (13 : Int) ≠ 6 ∧ (13 : Int) ≠ 16 := by decide
theorem ok14 : (14 : Int) ≠ 23 ∧ (14 : Int) ≠ 1 ∧ (14 : Int) ≠ 2 ∧ (14 : Int) ≠ 5 ∧ (14 : Int) ≠ 17 ∧ (14 : Int) ≠ 4 ∧ (14 : Int) ≠ 8 ∧ (14 : Int) ≠ 6 ∧ (14 : Int) ≠ 16 := by decide
theorem ok20 : (20 : Int) ≠ 23 ∧ (20 : Int) ≠ 1 ∧ (20 : Int) ≠ 2 ∧ (20 : Int) ≠ 5 ∧ (20 : Int) ≠ 17 ∧ (20 : Int) ≠ 4 ∧ (20 : Int) ≠ 8 ∧ (20 : Int) ≠ 6 ∧ (20 : Int) ≠ 16 := by decide
theorem ok21 : (21 : Int) ≠ 23 ∧ (21 : Int) ≠ 1 ∧ (21 : Int) ≠ 2 ∧ (21 : Int) ≠ 5 ∧ (21 : Int) ≠ 17 ∧ (21 : Int) ≠ 4 ∧ (21 : Int) ≠ 8 ∧ (21 : Int) ≠ 6 ∧ (21 : Int) ≠ 16 := by decide
theorem ok22 : (22 : Int) ≠ 23 ∧ (22 : Int) ≠ 1 ∧ (22 : Int) ≠ 2 ∧ (22 : Int) ≠ 5 ∧ (22 : Int) ≠ 17 ∧ (22 : Int) ≠ 4 ∧ (22 : Int) ≠ 8 ∧ (22 : Int) ≠ 6 ∧ (22 : Int) ≠ 16 := by decide

/-- an instruction that is no set, no end -/
theorem step_jump (k M : Nat) (b : Bar) (im ip : Nat) (q : MQ) (pcs : PG) (ri oi : Nat) (l ko : List Int) (stk : List Ch) (s : Sg) (n : Nat) (to ib ic ir : Int) (lz : Bool) (a1 a2 a3 a4 a5 a6 a7 a8 : AV) (Q : Ex → Fr → Sg → Prop) (hw : b.w ≤ im) (hes : b.es = []) (h : VM s im ip pcs q ri oi l ko stk) (hpc : q.pc = (n : Int)) (hnb : n < 1000) (hin : pcs.ins[n]? = some ⟨20, to, ib, ic, ir, lz⟩)
    (hy : ∀ s', VM s' im ip pcs { q with pc := to } ri oi l ko stk → ∀ b1 b2 b3 b4 b5 b6 b7 b8, RunL k (M + 8) b (rf im b1 b2 b3 b4 b5 b6 b7 b8) s' Q) : RunL (k + 1) (M + 8) b (rf im a1 a2 a3 a4 a5 a6 a7 a8) s Q := by
  refine run_plain k (M + 8) b im ip q pcs ri oi l ko stk s _ n a1 a2 a3 a4 a5 a6 a7 a8 Q (P := fun s' => VM s' im ip pcs { q with pc := to } ri oi l ko stk) hw hes h hpc hnb hin ok20 (fun s1 h1 => ?_) hy
  exact (plain_jump (M + 3) b s1 im ip _ pcs ri oi l ko stk _ to ib ic ir lz rfl hw hes h1).mono fun o s' ho => ⟨ho.1, ho.2.2⟩

theorem step_init (k M : Nat) (b : Bar) (im ip : Nat) (q : MQ) (pcs : PG) (ri oi : Nat) (l ko : List Int) (stk : List Ch) (s : Sg) (n R : Nat) (ia ib ic : Int) (lz : Bool) (a1 a2 a3 a4 a5 a6 a7 a8 : AV) (Q : Ex → Fr → Sg → Prop) (hw : b.w ≤ im) (hes : b.es = []) (h : VM s im ip pcs q ri oi l ko stk) (hpc : q.pc = (n : Int)) (hnb : n < 1000) (hin : pcs.ins[n]? = some ⟨21, ia, ib, ic, R, lz⟩) (hR : R < 1000) (hl : R + 1 < l.length)
    (hy : ∀ s', VM s' im ip pcs { q with pc := (n : Int) + 1 } ri oi ((l.set R 0).set (R + 1) (-1)) ko stk → ∀ b1 b2 b3 b4 b5 b6 b7 b8, RunL k (M + 8) b (rf im b1 b2 b3 b4 b5 b6 b7 b8) s' Q) : RunL (k + 1) (M + 8) b (rf im a1 a2 a3 a4 a5 a6 a7 a8) s Q := by
  refine run_plain k (M + 8) b im ip q pcs ri oi l ko stk s _ n a1 a2 a3 a4 a5 a6 a7 a8 Q (P := fun s' => VM s' im ip pcs { q with pc := (n : Int) + 1 } ri oi ((l.set R 0).set (R + 1) (-1)) ko stk) hw hes h hpc hnb hin ok21 (fun s1 h1 => ?_) hy
  exact (plain_init (M + 3) b s1 im ip _ pcs ri oi l ko stk _ ia ib ic R lz rfl hR hl hw hes h1).mono fun o s' ho => ⟨ho.1, ho.2.2⟩

theorem step_greedy (k M : Nat) (b : Bar) (im ip : Nat) (q : MQ) (pcs : PG) (ri oi : Nat) (l ko : List Int) (stk : List Ch) (s : Sg) (n R : Nat) (A C : Int) (c w : Int) (a1 a2 a3 a4 a5 a6 a7 a8 : AV) (Q : Ex → Fr → Sg → Prop) (hw : b.w ≤ im) (hes : b.es = []) (h : VM s im ip pcs q ri oi l ko stk) (hpc : q.pc = (n : Int)) (hnb : n < 1000) (hin : pcs.ins[n]? = some ⟨22, A, -1, C, R, false⟩) (hn : stk.length < 100000) (hc0 : 0 ≤ c) (hA : A ≤ c) (hc1 : c < 100000) (hR : R < 1000) (h1 : l[R]? = some c) (h2 : l[R + 1]? = some w) (hp : c ≤ 0 ∨ w ≠ q.p)
    (hy : ∀ s' v i i', VM s' im ip pcs { q with pc := (n : Int) + 1, stk := v } ri oi ((l.set R (c + 1)).set (R + 1) q.p) ko (stk ++ [.tr C q.p i i' l ko]) → ∀ b1 b2 b3 b4 b5 b6 b7 b8, RunL k (M + 8) b (rf im b1 b2 b3 b4 b5 b6 b7 b8) s' Q) : RunL (k + 1) (M + 8) b (rf im a1 a2 a3 a4 a5 a6 a7 a8) s Q := by
  refine run_plain k (M + 8) b im ip q pcs ri oi l ko stk s _ n a1 a2 a3 a4 a5 a6 a7 a8 Q (P := fun s' => ∃ v i i', VM s' im ip pcs { q with pc := (n : Int) + 1, stk := v } ri oi ((l.set R (c + 1)).set (R + 1) q.p) ko (stk ++ [.tr C q.p i i' l ko])) hw hes h hpc hnb hin ok22 (fun s1 hv => ?_) (fun s' ⟨v, i, i', h'⟩ => hy s' v i i' h')
  refine plain_rep (M + 3) b s1 im ip _ pcs ri oi l ko stk _ A (-1) C R false rfl hv fun s2 hg hv2 => ?_
  refine (rep_greedy (M + 3) b s2 im ip _ pcs ri oi l ko stk A (-1) C R c w hw hes hv2 hn hc0 hc1 hR h1 h2 hA (by omega) hp).mono ?_
  rintro o s' ⟨rfl, _, v, i, i', h'⟩
  exact ⟨rfl, v, i, i', h'⟩

theorem step_must (k M : Nat) (b : Bar) (im ip : Nat) (q : MQ) (pcs : PG) (ri oi : Nat) (l ko : List Int) (stk : List Ch) (s : Sg) (n R : Nat) (A C : Int) (c w : Int) (a1 a2 a3 a4 a5 a6 a7 a8 : AV) (Q : Ex → Fr → Sg → Prop) (hw : b.w ≤ im) (hes : b.es = []) (h : VM s im ip pcs q ri oi l ko stk) (hpc : q.pc = (n : Int)) (hnb : n < 1000) (hin : pcs.ins[n]? = some ⟨22, A, -1, C, R, false⟩) (hc0 : 0 ≤ c) (hc1 : c < 100000) (hR : R < 1000) (h1 : l[R]? = some c) (h2 : l[R + 1]? = some w) (hA : c < A)
    (hy : ∀ s', VM s' im ip pcs { q with pc := (n : Int) + 1 } ri oi ((l.set R (c + 1)).set (R + 1) q.p) ko stk → ∀ b1 b2 b3 b4 b5 b6 b7 b8, RunL k (M + 8) b (rf im b1 b2 b3 b4 b5 b6 b7 b8) s' Q) : RunL (k + 1) (M + 8) b (rf im a1 a2 a3 a4 a5 a6 a7 a8) s Q := by
  refine run_plain k (M + 8) b im ip q pcs ri oi l ko stk s _ n a1 a2 a3 a4 a5 a6 a7 a8 Q (P := fun s' => VM s' im ip pcs { q with pc := (n : Int) + 1 } ri oi ((l.set R (c + 1)).set (R + 1) q.p) ko stk) hw hes h hpc hnb hin ok22 (fun s1 hv => ?_) hy
  refine plain_rep (M + 3) b s1 im ip _ pcs ri oi l ko stk _ A (-1) C R false rfl hv fun s2 hg hv2 => ?_
  exact (rep_must (M + 3) b s2 im ip _ pcs ri oi l ko stk A (-1) C R c w hw hes hv2 hc0 hc1 hR h1 h2 hA).mono fun o s' ho => ⟨ho.1, ho.2.2⟩

/-- a greedy repetition takes all that there are -/
theorem greedy (M : Nat) (b : Bar) (im ip : Nat) (pcs : PG) (t : List UInt8) (i n a r R : Nat) (A : Int) (z : Int → Bool) (C T0 : Int) (L0 : Nat) (K : Nat) (Q : Ex → Fr → Sg → Prop) (hw : b.w ≤ im) (hes : b.es = []) (hr : r + 2 < 1000) (hR : R < 1000) (hC : C ≠ 0)
    (e1 e2 e3 : Int) (z1 : Bool) (f1 f2 f3 : Int) (z2 : Bool) (i0 : pcs.ins[r]? = some ⟨22, A, -1, C, R, false⟩) (i1 : pcs.ins[r + 1]? = some ⟨1, a, e1, e2, e3, z1⟩) (i2 : pcs.ins[r + 2]? = some ⟨20, r, f1, f2, f3, z2⟩) (ha : SetOk pcs a z) (ht : Many t i n z) (hT : 0 ≤ T0 ∧ T0 < 1000000) (hL0 : L0 < 1000)
    (hend : ∀ s q ri oi l ko stk, VM s im ip pcs q ri oi l ko stk → q.pc = C → q.p = (n : Int) → q.sb = .vec (Am.byteCells t) .shut → q.spans = .nilsl → q.taken = T0 + 1 → ∀ b1 b2 b3 b4 b5 b6 b7 b8, RunL K (M + 8) b (rf im b1 b2 b3 b4 b5 b6 b7 b8) s Q) :
    ∀ d k, k + d = n → i ≤ k → A ≤ ((k - i : Nat) : Int) → ∀ s q ri oi l ko stk, VM s im ip pcs q ri oi l ko stk → q.pc = (r : Int) → q.p = (k : Int) → q.sb = .vec (Am.byteCells t) .shut → q.spans = .nilsl → q.taken = T0 → l[R]? = some ((k - i : Nat) : Int) → (∃ w, l[R + 1]? = some w ∧ (((k - i : Nat) : Int) ≤ 0 ∨ w ≠ (k : Int))) → stk.length ≤ L0 + k → ∀ b1 b2 b3 b4 b5 b6 b7 b8, RunL (3 * d + K + 2) (M + 8) b (rf im b1 b2 b3 b4 b5 b6 b7 b8) s Q := by
  have hnl := ht.le
  have hnl2 := ht.len
  intro d
  induction d with
  | zero =>
    intro k hk hik hA s q ri oi l ko stk h hpc hp hsb hsp hT0 hl1 ⟨w, hl2, hw2⟩ hsl a1 a2 a3 a4 a5 a6 a7 a8
    obtain rfl : k = n := by omega
    refine step_greedy (0 + K + 1) M b im ip q pcs ri oi l ko stk s r R A C _ w a1 a2 a3 a4 a5 a6 a7 a8 Q hw hes h hpc (by omega) i0 (by omega) (by omega) hA (by omega) hR hl1 hl2 (by rw [hp]; exact hw2) ?_
    intro s1 v j j' h1 b1 b2 b3 b4 b5 b6 b7 b8
    refine step_pop (0 + K) M b im ip _ pcs ri oi _ ko stk s1 (r + 1) a z t k C q.p j j' l ko b1 b2 b3 b4 b5 b6 b7 b8 Q hw hes h1 rfl (by omega) e1 e2 e3 z1 i1 hnl2 hsb hp ht.last ha (by omega) (by rw [show ({ q with pc := (r : Int) + 1, stk := v } : MQ).taken = T0 from hT0]; exact hT) hC ?_
    intro s2 v2 h2 c1 c2 c3 c4 c5 c6 c7 c8
    rw [Nat.zero_add]
    exact hend s2 _ j j' l ko stk h2 rfl hp hsb hsp (by show q.taken + 1 = _; rw [hT0]) _ _ _ _ _ _ _ _
  | succ d ih =>
    intro k hk hik hA s q ri oi l ko stk h hpc hp hsb hsp hT0 hl1 ⟨w, hl2, hw2⟩ hsl a1 a2 a3 a4 a5 a6 a7 a8
    have hb1 := lt_of_getElem? hl1
    have hb2 := lt_of_getElem? hl2
    obtain ⟨c, hc, hcz⟩ := ht.all k hik (by omega)
    rw [show 3 * (d + 1) + K + 2 = (3 * d + K + 2) + 1 + 1 + 1 by omega]
    refine step_greedy _ M b im ip q pcs ri oi l ko stk s r R A C _ w a1 a2 a3 a4 a5 a6 a7 a8 Q hw hes h hpc (by omega) i0 (by omega) (by omega) hA (by omega) hR hl1 hl2 (by rw [hp]; exact hw2) ?_
    intro s1 v j j' h1 b1 b2 b3 b4 b5 b6 b7 b8
    refine step_set _ M b im ip _ pcs ri oi _ ko _ s1 (r + 1) a z t k c b1 b2 b3 b4 b5 b6 b7 b8 Q hw hes h1 rfl (by omega) e1 e2 e3 z1 i1 hnl2 hsb hp hc ha hcz ?_
    intro s2 h2 c1 c2 c3 c4 c5 c6 c7 c8
    refine step_jump _ M b im ip _ pcs ri oi _ ko _ s2 (r + 2) r f1 f2 f3 z2 c1 c2 c3 c4 c5 c6 c7 c8 Q hw hes h2 (by show ((r + 1 : Nat) : Int) + 1 = _; omega) hr i2 ?_
    intro s3 h3 d1 d2 d3 d4 d5 d6 d7 d8
    refine ih (k + 1) (by omega) (by omega) (by omega) s3 _ ri oi _ ko _ h3 rfl (by show (k : Int) + 1 = _; omega) hsb hsp hT0 ?_ ⟨q.p, ?_, ?_⟩ (by simp; omega) _ _ _ _ _ _ _ _
    · rw [List.getElem?_set_ne (by omega), List.getElem?_set_self hb1]; congr 1; omega
    · rw [List.getElem?_set_self (by rw [List.length_set]; exact hb2)]
    · rw [hp]; right; omega

end Go.Vmm

namespace Go.Vmm
open Go Go.Am Go.Proofs
set_option linter.unusedSectionVars false
variable [At0]

/-- how an attempt ends: with a match up to a place, or with none -/
def Ends (im : Nat) (pcs : PG) (r : Option Nat) : Ex → Fr → Sg → Prop := fun e fr s => e = .panic doneV ∧ fr.defers = [] ∧ (∀ p ∈ pcs.ext, getCells s.heap p.1 0 = some p.2) ∧ ∃ q, getCells s.heap im 0 = some (mc q) ∧
  match r with
  | some n => q.kind = 1 ∧ q.spans = spansOf n
  | none => q.kind = 2 ∧ q.spans = .nilsl

/-- a machine at its beginning -/
structure Begun (s : Sg) (im ip : Nat) (pcs : PG) (q : MQ) (ri oi : Nat) (l ko : List Int) (t : List UInt8) (R : Nat) : Prop where
  vm : VM s im ip pcs q ri oi l ko []
  pc : q.pc = 1
  p : q.p = (At0.a : Nat)
  sb : q.sb = .vec (Am.byteCells t) .shut
  tk : q.taken = 0
  sp : q.spans = .nilsl
  len : l.length = R
  stk : q.stk = .nilsl

end Go.Vmm

namespace Go.Vmm
open Go Go.Am Go.Proofs
set_option linter.unusedSectionVars false
variable [At0]

theorem step_end (M : Nat) (b : Bar) (im ip : Nat) (q : MQ) (pcs : PG) (ri oi : Nat) (l ko : List Int) (stk : List Ch) (s : Sg) (n j : Nat) (ia ib ic ir : Int) (lz : Bool) (a1 a2 a3 a4 a5 a6 a7 a8 : AV) (hw : b.w ≤ im) (hes : b.es = []) (h : VM s im ip pcs q ri oi l ko stk) (hpc : q.pc = (n : Int)) (hp : q.p = (j : Int)) (hnb : n < 1000) (hin : pcs.ins[n]? = some ⟨23, ia, ib, ic, ir, lz⟩) : RunL 1 (M + 8) b (rf im a1 a2 a3 a4 a5 a6 a7 a8) s (Ends im pcs (some j)) :=
  run_end 0 (M + 4) b im ip q pcs ri oi l ko stk s _ n a1 a2 a3 a4 a5 a6 a7 a8 _ hw hes h hpc hnb hin rfl fun s' fr hfr _ h' => ⟨rfl, hfr, fun p hp => (h'.ex p hp).1, _, h'.hm, rfl, by show spansOf q.p = _; rw [hp]⟩

theorem l2 {l : List Int} (h : l.length = 2) : ((l.set 0 0).set 1 (-1))[0]? = some 0 ∧ ((l.set 0 0).set 1 (-1))[1]? = some (-1) := by
  match l, h with
  | [a, b], _ => exact ⟨rfl, rfl⟩
theorem l3 {l : List Int} (h : l.length = 3) : (((l.set 0 0).set 1 0).set 2 (-1))[0]? = some 0 ∧ (((l.set 0 0).set 1 0).set 2 (-1))[1]? = some 0 ∧ (((l.set 0 0).set 1 0).set 2 (-1))[2]? = some (-1) := by
  match l, h with
  | [a, b, c], _ => exact ⟨rfl, rfl, rfl⟩

abbrev i0 : In := ⟨0, 0, 0, 0, 0, false⟩

/-- "[..]+", where one stands at least -/
theorem run_plus (M : Nat) (b : Bar) (im ip : Nat) (q : MQ) (pcs : PG) (ri oi : Nat) (l ko : List Int) (t : List UInt8) (n : Nat) (z : Int → Bool) (s : Sg) (a1 a2 a3 a4 a5 a6 a7 a8 : AV) (hw : b.w ≤ im) (hes : b.es = []) (hi : pcs.ins = [i0, ⟨21, 0, 0, 0, 0, false⟩, ⟨22, 1, -1, 5, 0, false⟩, ⟨1, 0, 0, 0, 0, false⟩, ⟨20, 2, 0, 0, 0, false⟩, ⟨23, 0, 0, 0, 0, false⟩]) (ha : SetOk pcs 0 z) (ht : Many t At0.a n z) (hn : At0.a < n) (h : Begun s im ip pcs q ri oi l ko t 2) :
    RunL (3 * (n - (At0.a + 1)) + 1 + 2 + 1 + 1 + 1 + 1) (M + 8) b (rf im a1 a2 a3 a4 a5 a6 a7 a8) s (Ends im pcs (some n)) := by
  have hl := l2 h.len
  have hll := h.len
  have hnl := ht.le
  have hnl2 := ht.len
  obtain ⟨c, hc, hcz⟩ := ht.all At0.a (Nat.le_refl _) hn
  refine step_init _ M b im ip q pcs ri oi l ko [] s 1 0 0 0 0 false a1 a2 a3 a4 a5 a6 a7 a8 _ hw hes h.vm h.pc (by omega) (by rw [hi]; rfl) (by omega) (by rw [h.len]; omega) fun s1 h1 => ?_
  intro b1 b2 b3 b4 b5 b6 b7 b8
  refine step_must _ M b im ip _ pcs ri oi _ ko [] s1 2 0 1 5 0 (-1) b1 b2 b3 b4 b5 b6 b7 b8 _ hw hes h1 rfl (by omega) (by rw [hi]; rfl) (by omega) (by omega) (by omega) hl.1 hl.2 (by omega) ?_
  intro s2 h2 c1 c2 c3 c4 c5 c6 c7 c8
  refine step_set _ M b im ip _ pcs ri oi _ ko [] s2 3 0 z t At0.a c c1 c2 c3 c4 c5 c6 c7 c8 _ hw hes h2 rfl (by omega) 0 0 0 false (by rw [hi]; rfl) hnl2 h.sb h.p hc ha hcz ?_
  intro s3 h3 d1 d2 d3 d4 d5 d6 d7 d8
  refine step_jump _ M b im ip _ pcs ri oi _ ko [] s3 4 2 0 0 0 false d1 d2 d3 d4 d5 d6 d7 d8 _ hw hes h3 rfl (by omega) (by rw [hi]; rfl) ?_
  intro s4 h4 e1 e2 e3 e4 e5 e6 e7 e8
  have hL : ∀ (y : Int), ((((l.set 0 0).set 1 (-1)).set 0 (0 + 1)).set 1 y)[0]? = some 1 ∧ ((((l.set 0 0).set 1 (-1)).set 0 (0 + 1)).set 1 y)[1]? = some y := by
    intro y
    match l, hll with
    | [u, v], _ => exact ⟨rfl, rfl⟩
  refine greedy M b im ip pcs t At0.a n 0 2 0 1 z 5 0 0 1 _ hw hes (by omega) (by omega) (by omega) 0 0 0 false 0 0 0 false (by rw [hi]; rfl) (by rw [hi]; rfl) (by rw [hi]; rfl) ha ht ⟨by omega, by omega⟩ (by omega) ?_ (n - (At0.a + 1)) (At0.a + 1) (by omega) (by omega) (by omega) s4 _ ri oi _ ko [] h4 rfl (by show (At0.a : Int) + 1 = _; omega) h.sb h.sp h.tk ?_ ⟨_, (hL _).2, ?_⟩ (by simp) e1 e2 e3 e4 e5 e6 e7 e8
  · intro s2 q2 ri2 oi2 l2 ko2 stk2 h2 hpc hp _ _ _ b1 b2 b3 b4 b5 b6 b7 b8
    exact step_end M b im ip q2 pcs ri2 oi2 l2 ko2 stk2 s2 5 n 0 0 0 0 false b1 b2 b3 b4 b5 b6 b7 b8 hw hes h2 hpc hp (by omega) (by rw [hi]; rfl)
  · rw [(hL _).1]; congr 1; omega
  · right; show q.p ≠ _; rw [h.p]; omega

end Go.Vmm

namespace Go.Vmm
open Go Go.Am Go.Proofs
set_option linter.unusedSectionVars false
variable [At0]

theorem loopN_mono {f : Fr → Sg → Ran} : ∀ {k k' : Nat} {fr : Fr} {s : Sg} {r : Ex × Fr × Sg}, k ≤ k' → loopN k f fr s = some r → loopN k' f fr s = some r
  | 0, _, _, _, _, _, h => by cases h
  | k + 1, 0, _, _, _, hk, _ => absurd hk (by omega)
  | k + 1, k' + 1, fr, s, r, hk, h => by
    simp only [loopN] at h ⊢
    cases hf : f fr s with
    | none => rw [hf] at h; cases h
    | some x =>
      rw [hf] at h
      simp only [Option.bind_some] at h ⊢
      obtain ⟨e, fr1, s1⟩ := x
      cases e with
      | normal => exact loopN_mono (by omega) h
      | exit j => exact h
      | ret => exact h
      | panic v => exact h

/-- run: a panic, with how the attempt ended -/
theorem run_spec (k M : Nat) (b : Bar) (im : Nat) (pcs : PG) (s : Sg) (r : Option Nat) (hk : k ≤ M + 8) (h : ∀ a1 a2 a3 a4 a5 a6 a7 a8, RunL k (M + 8) b (rf im a1 a2 a3 a4 a5 a6 a7 a8) s (Ends im pcs r)) :
    OkF (callF T (M + 9) b 73 [.ptr im 0 0] s) fun o s' => o = .panic doneV ∧ (∀ p ∈ pcs.ext, getCells s'.heap p.1 0 = some p.2) ∧ ∃ q, getCells s'.heap im 0 = some (mc q) ∧ match (motive := Option Nat → Prop) r with
      | some n => q.kind = 1 ∧ q.spans = spansOf n
      | none => q.kind = 2 ∧ q.spans = .nilsl := by
  (apply f_wp rfl rfl; (repeat (first | exact Shape.nil | (apply Shape.cons; conv => lhs; whnf))))
  refine c_seq ?_
  refine c_skip ?_
  refine c_block ?_
  refine c_loop ?_
  obtain ⟨e, fr, s', h1, rfl, h2, h3⟩ := (h .undef .undef .undef .undef .undef .undef .undef .undef).ok
  refine ⟨⟨_, _, _, loopN_mono hk h1, ?_⟩⟩
  obtain ⟨pers, df, pn⟩ := fr
  dsimp only at h2
  subst h2
  exact fin_panic rfl ⟨rfl, h3⟩

end Go.Vmm

namespace Go.Vmm
open Go Go.Am Go.Proofs
set_option linter.unusedSectionVars false
variable [At0]

/-- an attempt's input, as it lies -/
def xs (sb : AV) : List AV := [sb, .int .i64 0, .int .i64 (At0.o : Nat), .int .i64 (At0.a : Nat), .nilsl, .int .i64 0, .int .i64 0, .int .i64 0, .int .i64 0, .int .i64 0]

/-- a machine that is made -/
def m0 (pr sb : AV) : List AV := [pr, sb, .int .i64 0, .int .i64 (At0.o : Nat), .int .i64 (At0.a : Nat), .nilsl, .int .i64 0, .int .i64 0, .int .i64 0, .int .i64 0, .int .i64 0, .bool false, .int .i64 0, .int .i64 0, .int .i64 0, .int .i64 0, .cplx .f64 0 0, .cplx .f64 0 0, .cplx .f64 0 0, .cplx .f64 0 0, .cplx .f64 0 0, .cplx .f64 0 0, .cplx .f64 0 0, .cplx .f64 0 0, .cplx .f64 0 0, .cplx .f64 0 0, .cplx .f64 0 0, .cplx .f64 0 0, .cplx .f64 0 0, .cplx .f64 0 0, .cplx .f64 0 0, .cplx .f64 0 0, .cplx .f64 0 0, .cplx .f64 0 0, .cplx .f64 0 0, .cplx .f64 0 0, .cplx .f64 0 0, .cplx .f64 0 0, .cplx .f64 0 0, .cplx .f64 0 0, .cplx .f64 0 0, .cplx .f64 0 0, .cplx .f64 0 0, .cplx .f64 0 0, .cplx .f64 0 0, .cplx .f64 0 0, .cplx .f64 0 0, .cplx .f64 0 0, .cplx .f64 0 0, .cplx .f64 0 0, .cplx .f64 0 0, .cplx .f64 0 0, .cplx .f64 0 0, .cplx .f64 0 0, .cplx .f64 0 0, .cplx .f64 0 0, .cplx .f64 0 0, .cplx .f64 0 0, .cplx .f64 0 0, .cplx .f64 0 0, .cplx .f64 0 0, .cplx .f64 0 0, .cplx .f64 0 0, .cplx .f64 0 0, .cplx .f64 0 0, .cplx .f64 0 0, .cplx .f64 0 0, .cplx .f64 0 0, .cplx .f64 0 0, .cplx .f64 0 0, .cplx .f64 0 0, .cplx .f64 0 0, .cplx .f64 0 0, .cplx .f64 0 0, .cplx .f64 0 0, .cplx .f64 0 0, .cplx .f64 0 0, .str [], .nilptr, .int .i64 0, .int .i64 0, .nilptr, .nilsl, .nilsl,
  .nilsl, .int .i64 0, .nilsl, .str [], .int .i64 0, .int .i64 0, .int .i64 0, .int .i64 0, .bool false, .int .i64 0, .int .i64 0, .int .i64 0]
/-- .. with its limits -/
def m1 (pr sb : AV) : List AV := [pr, sb, .int .i64 0, .int .i64 (At0.o : Nat), .int .i64 (At0.a : Nat), .nilsl, .int .i64 0, .int .i64 0, .int .i64 0, .int .i64 0, .int .i64 0, .bool false, .int .i64 0, .int .i64 0, .int .i64 0, .int .i64 0, .cplx .f64 0 0, .cplx .f64 0 0, .cplx .f64 0 0, .cplx .f64 0 0, .cplx .f64 0 0, .cplx .f64 0 0, .cplx .f64 0 0, .cplx .f64 0 0, .cplx .f64 0 0, .cplx .f64 0 0, .cplx .f64 0 0, .cplx .f64 0 0, .cplx .f64 0 0, .cplx .f64 0 0, .cplx .f64 0 0, .cplx .f64 0 0, .cplx .f64 0 0, .cplx .f64 0 0, .cplx .f64 0 0, .cplx .f64 0 0, .cplx .f64 0 0, .cplx .f64 0 0, .cplx .f64 0 0, .cplx .f64 0 0, .cplx .f64 0 0, .cplx .f64 0 0, .cplx .f64 0 0, .cplx .f64 0 0, .cplx .f64 0 0, .cplx .f64 0 0, .cplx .f64 0 0, .cplx .f64 0 0, .cplx .f64 0 0, .cplx .f64 0 0, .cplx .f64 0 0, .cplx .f64 0 0, .cplx .f64 0 0, .cplx .f64 0 0, .cplx .f64 0 0, .cplx .f64 0 0, .cplx .f64 0 0, .cplx .f64 0 0, .cplx .f64 0 0, .cplx .f64 0 0, .cplx .f64 0 0, .cplx .f64 0 0, .cplx .f64 0 0, .cplx .f64 0 0, .cplx .f64 0 0, .cplx .f64 0 0, .cplx .f64 0 0, .cplx .f64 0 0, .cplx .f64 0 0, .cplx .f64 0 0, .cplx .f64 0 0, .cplx .f64 0 0, .cplx .f64 0 0, .cplx .f64 0 0, .cplx .f64 0 0, .cplx .f64 0 0, .cplx .f64 0 0, .str [], .nilptr, .int .i64 0, .int .i64 0, .nilptr, .nilsl, .nilsl,
  .nilsl, .int .i64 0, .nilsl, .str [], .int .i64 0, .int .i64 0, .int .i64 0, .int .i64 0, .bool false, .int .i64 1000000, .int .i64 1000000, .int .i64 1000000]

/-- an end, as it lies -/
def es8 (kind : Int) (spans : AV) (taken : Int) : List AV := [.int .i64 kind, spans, .str [], .int .i64 0, .int .i64 0, .int .i64 0, .int .i64 taken, .bool false]

theorem or_spec (m : Nat) (b : Bar) (s : Sg) : callF T (m + 1) b 69 [.int .i64 0] s = some (.ret (.int .i64 1000000), s) := by
  (apply f_of rfl rfl; (repeat (first | exact Shape.nil | (apply Shape.cons; conv => lhs; whnf))))
  refine qqV ?_
  refine qqV ?_
  refine iV ?_
  refine qqV ?_
  exact c_ret rfl

theorem new_spec (m : Nat) (b : Bar) (s : Sg) : callF T (m + 1) b 70 [.int .i64 0] s = some (.ret (.agg caps0), s) := by
  apply OkF.ret
  (apply f_wp rfl rfl; (repeat (first | exact Shape.nil | (apply Shape.cons; conv => lhs; whnf))))
  refine qV ?_
  refine o_alloc rfl ?_
  refine eV ?_
  have hA := getCells_new s caps0 0
  have hL := Sg.push_len s (.cells caps0 0)
  refine qV ?_
  refine o_st (l := caps0) rfl rfl rfl rfl hA rfl (lets_nil (blt_no (by show s.heap.length ≤ s.heap.length; omega)) rfl) (cs' := caps0) rfl ?_
  rw [push_put]
  refine eV ?_
  refine c_ret ?_
  exact fin_ret (.inl rfl) (read_cell rfl (getCells_new s caps0 0) rfl read_nil) (leave_pure rfl rfl) ⟨rfl, rfl⟩

theorem getCells_take {h : List AObj} {n i g : Nat} {cs : List AV} (e : getCells h i g = some cs) (hi : i < n) : getCells (h.take n) i g = some cs := getCells_at e (by rw [List.getElem?_take, if_pos hi])

theorem flat_rep : ∀ n : Nat, flatAll (List.replicate n (.int .i64 0)) = ints (List.replicate n 0)
  | 0 => rfl
  | n + 1 => by
    have ih := flat_rep n
    simp only [List.replicate_succ, flatAll, ints, List.map_cons] at ih ⊢
    rw [ih]; rfl

theorem evF_mk {b : Bar} {loc pers : Env} {s : Sg} {k bytes n : Nat} {x y : AOpd} (hx : x.ev loc pers = some (.int .i64 n)) (hy : y.ev loc pers = some (.int .i64 n)) (hl : n * bytes ≤ limit)
    (hp : s.heap[b.n0 + k]? = some .pend) (hw : b.w ≤ b.n0 + k) (hes : allGe (b.n0 + k) b.es = true) :
    evF b loc pers s k (.makeSl true bytes (.int .i64 0) x y) = some (rv (b.n0 + k) n, s.put (b.n0 + k) (.cells (ints (List.replicate n 0)) 0)) := by
  refine evF_new ?_ rfl renum_ms rfl hp (old_ints _ _) hw hes
  have h0 : ¬ ((n : Int) < 0 ∨ (n : Int) < (n : Int)) := by omega
  simp only [evE, hx, hy, Option.bind_some, if_neg h0, Int.toNat_natCast, ble_of hl, if_true, flat_rep]
  rfl

end Go.Vmm

namespace Go.Vmm
open Go Go.Am Go.Proofs
set_option linter.unusedSectionVars false
variable [At0]

theorem PrOk.cut {h : List AObj} {ip n : Nat} {cs : List AV} (hp : PrOk h ip cs) (hi : ip < n) : PrOk (h.take n) ip cs := ⟨getCells_take hp.1 hi, hp.2, hp.3⟩

theorem keep2_get0 {s : Sg} : (s.keep 2).heap[s.heap.length]? = some .pend := by simp [Sg.keep]
theorem keep2_get1 {s : Sg} : (s.keep 2).heap[s.heap.length + 1]? = some .pend := by simp [Sg.keep]
theorem keep2_put {s : Sg} {o o' : AObj} : ((s.keep 2).put s.heap.length o).put (s.heap.length + 1) o' = (s.push o).push o' := by
  have h1 : (s.keep 2).put s.heap.length o = (s.push o).keep 1 := by
    show ({ s.keep 2 with heap := setAt (s.heap ++ [.pend, .pend]) s.heap.length o } : Sg) = ({ s.push o with heap := (s.heap ++ [o]) ++ [.pend] } : Sg)
    rw [setAt_app' o _ _ _ (Nat.le_refl _)]
    simp [setAt, Sg.push, Sg.keep]
  rw [h1]
  have := keep_put (s := s.push o) (o := o')
  rw [Sg.push_len] at this
  exact this

theorem oldAll_bytes (n : Nat) : ∀ l : List UInt8, AV.oldAll n (Am.byteCells l) = true
  | [] => rfl
  | c :: r => by
    have ih := oldAll_bytes n r
    simp only [Am.byteCells, List.map_cons, AV.oldAll] at ih ⊢
    rw [ih]; rfl
theorem old_m0 {n ip : Nat} (t : List UInt8) (h : ip < n) : AV.oldAll n (m0 (.ptr ip 0 0) (.vec (Am.byteCells t) .shut)) = true := by
  have h1 : Nat.blt ip n = true := ble_of h
  simp only [m0, AV.oldAll, AV.old, h1, oldAll_bytes, Bool.and_self]

/-- vm.Run -/
theorem vmrun_spec (k M : Nat) (b : Bar) (ip : Nat) (pcs : PG) (t : List UInt8) (R : Nat) (s : Sg) (r : Option Nat) (hip : ip < s.heap.length) (hpo : PrOk s.heap ip pcs.cs) (hpg : Pg s.heap s.heap.length pcs) (hreg : pcs.cs[3]? = some (.int .i64 R)) (hR0 : 0 < R) (hR1 : R < 1000) (hold : allOld s.heap.length s.heap = true) (ht : t.length < 1000) (hA : At0.a ≤ t.length) (hk : k ≤ M + 8)
    (h : ∀ b' im q ri oi l ko s' ext, b'.w ≤ im → b'.es = [] → Begun s' im ip { pcs with ext := ext } q ri oi l ko t R → ∀ a1 a2 a3 a4 a5 a6 a7 a8, RunL k (M + 8) b' (rf im a1 a2 a3 a4 a5 a6 a7 a8) s' (Ends im { pcs with ext := ext } r)) :
    OkF (callF T (M + 10) b 30 [.ptr ip 0 0, .agg (xs (.vec (Am.byteCells t) .shut))] s) fun o s' => s' = s ∧ ∃ tk, o = .ret (.agg (match r with | some n => es8 1 (spansOf n) tk | none => es8 2 .nilsl tk)) := by
  have hbl := Am.byteCells_length t
  have hlk : ∃ tk : Int, True := ⟨0, trivial⟩
  (apply f_wp rfl rfl; (repeat (first | exact Shape.nil | (apply Shape.cons; conv => lhs; whnf))))
  refine qV ?_
  refine o_box (v := .agg (xs (.vec (Am.byteCells t) .shut))) (l := xs (.vec (Am.byteCells t) .shut)) rfl rfl rfl ?_
  refine o_alloc rfl ?_
  refine eV ?_
  have hX := getCells_push (.cells (es8 0 .nilsl 0) 0) (getCells_new s (xs (.vec (Am.byteCells t) .shut)) 0)
  have hE := getCells_new (s.push (.cells (xs (.vec (Am.byteCells t) .shut)) 0)) (es8 0 .nilsl 0) 0
  have hG := ((Grow.refl s).push (.cells (xs (.vec (Am.byteCells t) .shut)) 0)).push (.cells (es8 0 .nilsl 0) 0)
  have hL : ((s.push (.cells (xs (.vec (Am.byteCells t) .shut)) 0)).push (.cells (es8 0 .nilsl 0) 0)).heap.length = s.heap.length + 2 := by rw [Sg.push_len, Sg.push_len]
  have hEl := Sg.push_len s (.cells (xs (.vec (Am.byteCells t) .shut)) 0)
  change OkC _ _ _ _ _ ((s.push (.cells (xs (.vec (Am.byteCells t) .shut)) 0)).push (.cells (es8 0 .nilsl 0) 0)) _
  generalize hs1 : (s.push (.cells (xs (.vec (Am.byteCells t) .shut)) 0)).push (.cells (es8 0 .nilsl 0) 0) = s1 at hX hE hG hL ⊢
  generalize (s.push (.cells (xs (.vec (Am.byteCells t) .shut)) 0)).heap.length = E at hE hEl ⊢
  have hpo1 : PrOk s1.heap ip pcs.cs := ⟨hG.get hpo.1, hpo.2, hpo.3⟩
  refine c_seq ?_
  refine c_seq ?_
  refine qV ?_
  refine o_call rfl rfl (options_spec (M + 8) _ s1 ip pcs.cs hpo1) ?_
  refine o_w (v := .int .i64 0) rfl rfl ?_
  refine sV ?_
  refine eV ?_
  refine lV ?_
  refine c_skip ?_
  have htk1 : s1.heap.take s.heap.length = s.heap := by
    obtain ⟨⟨X, hX'⟩⟩ := hG
    rw [hX']
    exact List.take_left
  have hXk := getCells_keep (k := 2) hX
  refine c_seq ?_
  refine c_drawnW (by show s.heap.length ≤ _; omega) (by show allOld s.heap.length (s1.heap.take s.heap.length) = true; rw [htk1]; exact hold) ?_
  refine sV ?_
  refine o_calli rfl rfl (by show (Nat.blt ip s.heap.length && true) = true; rw [Nat.blt, ble_of hip]; rfl) (options_spec (M + 8) _ _ ip pcs.cs (by show PrOk ((s1.keep 2).heap.take s.heap.length) ip pcs.cs; exact PrOk.cut ⟨getCells_keep hpo1.1, hpo1.2, hpo1.3⟩ hip)) ?_
  refine o_w (v := .int .i64 0) rfl rfl ?_
  refine sV ?_
  refine o_fill rfl (evF_box (v := .agg (m0 (.ptr ip 0 0) (.vec (Am.byteCells t) .shut))) (l := m0 (.ptr ip 0 0) (.vec (Am.byteCells t) .shut)) rfl rfl keep2_get0 (by rw [keep_len]; exact old_m0 t (by omega)) (by show s.heap.length ≤ s1.heap.length; omega) (by show (Nat.ble s.heap.length s1.heap.length && true) = true; rw [ble_of (by omega)]; rfl)) ?_
  refine o_fill rfl (evF_alloc (by show ((s1.keep 2).put s1.heap.length _).heap[s1.heap.length + 1]? = _; rw [Sg.put_get _ _ _ (by omega)]; exact keep2_get1) rfl (by show s.heap.length ≤ s1.heap.length + 1; omega) (by show (Nat.ble s.heap.length (s1.heap.length + 1) && true) = true; rw [ble_of (by omega)]; rfl)) ?_
  show OkO _ _ _ _ _ (((s1.keep 2).put s1.heap.length _).put (s1.heap.length + 1) _) _
  rw [keep2_put]
  have hV0 : getCells ((s1.push (.cells (m0 (.ptr ip 0 0) (.vec (Am.byteCells t) .shut)) 0)).push (.cells [.nilptr] 0)).heap (s1.heap.length + 1) 0 = some [.nilptr] := by
    have := getCells_new (s1.push (.cells (m0 (.ptr ip 0 0) (.vec (Am.byteCells t) .shut)) 0)) [.nilptr] 0
    rw [Sg.push_len] at this
    exact this
  refine o_st (i := s1.heap.length + 1) (g' := 0) (off := 0) (l := [.ptr s1.heap.length 0 0]) rfl rfl rfl rfl hV0 rfl (lets_ge (blt_no (by show s.heap.length ≤ s1.heap.length + 1; omega)) (by show (Nat.ble s.heap.length (s1.heap.length + 1) && true) = true; rw [ble_of (by omega)]; rfl)) (cs' := [.ptr s1.heap.length 0 0]) rfl ?_
  refine d_end (by show (!(Nat.beq s.heap.length (s1.heap.length + 1)) && (Nat.ble s1.heap.length (s1.heap.length + 1) && (!(Nat.beq s1.heap.length (s1.heap.length + 1)) && true))) = true; rw [beq_no (by omega), beq_no (by omega), ble_of (by omega)]; rfl) (by (repeat (first | exact OutS.nil | exact GetS.hit | exact PutS.hit | apply GetS.miss rfl | apply PutS.miss rfl | apply OutS.cons | apply OutS.skip rfl))) ?_
  have hM := getCells_put_ne (i := s1.heap.length + 1) (o := .cells [.ptr s1.heap.length 0 0] 0) (by omega) (getCells_push (.cells [.nilptr] 0) (getCells_new s1 (m0 (.ptr ip 0 0) (.vec (Am.byteCells t) .shut)) 0))
  have hV := getCells_put (cs' := [.ptr s1.heap.length 0 0]) (g' := 0) hV0
  have hX2 := getCells_put_ne (i := s1.heap.length + 1) (o := .cells [.ptr s1.heap.length 0 0] 0) (by omega) (getCells_push (.cells [.nilptr] 0) (getCells_push (.cells (m0 (.ptr ip 0 0) (.vec (Am.byteCells t) .shut)) 0) hX))
  have hE2 := getCells_put_ne (i := s1.heap.length + 1) (o := .cells [.ptr s1.heap.length 0 0] 0) (by omega) (getCells_push (.cells [.nilptr] 0) (getCells_push (.cells (m0 (.ptr ip 0 0) (.vec (Am.byteCells t) .shut)) 0) hE))
  have hG2 := (((hG.push (.cells (m0 (.ptr ip 0 0) (.vec (Am.byteCells t) .shut)) 0)).push (.cells [.nilptr] 0)).put_new (i := s1.heap.length + 1) (by omega) (.cells [.ptr s1.heap.length 0 0] 0))
  have hL2 : (((s1.push (.cells (m0 (.ptr ip 0 0) (.vec (Am.byteCells t) .shut)) 0)).push (.cells [.nilptr] 0)).put (s1.heap.length + 1) (.cells [.ptr s1.heap.length 0 0] 0)).heap.length = s.heap.length + 4 := by rw [Sg.put_len, Sg.push_len, Sg.push_len]; omega
  generalize ((s1.push (.cells (m0 (.ptr ip 0 0) (.vec (Am.byteCells t) .shut)) 0)).push (.cells [.nilptr] 0)).put (s1.heap.length + 1) (.cells [.ptr s1.heap.length 0 0] 0) = s2 at hM hV hX2 hE2 hG2 hL2 ⊢
  have htk2 : s2.heap.take s.heap.length = s.heap := by
    obtain ⟨⟨X, hX'⟩⟩ := hG2
    rw [hX']
    exact List.take_left
  refine c_seq ?_
  refine c_drawnW (by show s.heap.length ≤ _; omega) (by show allOld s.heap.length (s2.heap.take s.heap.length) = true; rw [htk2]; exact hold) ?_
  rw [s2.keep_zero]
  refine sV ?_
  refine o_call rfl rfl (or_spec (M + 8) _ s2) ?_
  refine sV ?_
  refine o_call rfl rfl (or_spec (M + 8) _ s2) ?_
  refine sV ?_
  refine o_call rfl rfl (or_spec (M + 8) _ s2) ?_
  refine sV ?_
  refine o_st (l := [.int .i64 1000000, .int .i64 1000000, .int .i64 1000000]) rfl rfl rfl rfl hM rfl (lets_ge (blt_no (by show s.heap.length ≤ s1.heap.length; omega)) (by show (Nat.ble s.heap.length s1.heap.length && true) = true; rw [ble_of (by omega)]; rfl)) (cs' := m1 (.ptr ip 0 0) (.vec (Am.byteCells t) .shut)) rfl ?_
  refine dV ?_
  have hne1 : s1.heap.length + 1 ≠ s1.heap.length := by omega
  have hM3 := getCells_put (cs' := m1 (.ptr ip 0 0) (.vec (Am.byteCells t) .shut)) (g' := 0) hM
  have hV3 := getCells_put_ne (i := s1.heap.length) (o := .cells (m1 (.ptr ip 0 0) (.vec (Am.byteCells t) .shut)) 0) hne1 hV
  have hX3 := getCells_put_ne (i := s1.heap.length) (o := .cells (m1 (.ptr ip 0 0) (.vec (Am.byteCells t) .shut)) 0) (by omega) hX2
  have hE3 := getCells_put_ne (i := s1.heap.length) (o := .cells (m1 (.ptr ip 0 0) (.vec (Am.byteCells t) .shut)) 0) (by omega) hE2
  have hG3 := hG2.put_new (i := s1.heap.length) (by omega) (.cells (m1 (.ptr ip 0 0) (.vec (Am.byteCells t) .shut)) 0)
  have hL3 : (s2.put s1.heap.length (.cells (m1 (.ptr ip 0 0) (.vec (Am.byteCells t) .shut)) 0)).heap.length = s.heap.length + 4 := by rw [Sg.put_len]; exact hL2
  generalize s2.put s1.heap.length (.cells (m1 (.ptr ip 0 0) (.vec (Am.byteCells t) .shut)) 0) = s3 at hM3 hV3 hX3 hE3 hG3 hL3 ⊢
  have htk3 : s3.heap.take s.heap.length = s.heap := by
    obtain ⟨⟨X, hX'⟩⟩ := hG3
    rw [hX']
    exact List.take_left
  have hXk3 := getCells_keep (k := 2) hX3
  have hVk3 := getCells_keep (k := 2) hV3
  have hPk3 := getCells_keep (k := 2) (hG3.get hpo.1)
  have hbi : (Nat.blt ip s.heap.length && true) = true := by rw [Nat.blt, ble_of hip]; rfl
  refine c_seq ?_
  refine c_drawnW (by show s.heap.length ≤ _; omega) (by show allOld s.heap.length (s3.heap.take s.heap.length) = true; rw [htk3]; exact hold) ?_
  refine sV ?_
  refine o_calli rfl rfl hbi (groups_spec (M + 8) _ _ ip pcs.cs (by show PrOk ((s3.keep 2).heap.take s.heap.length) ip pcs.cs; exact PrOk.cut ⟨hPk3, hpo.2, hpo.3⟩ hip)) ?_
  refine sV ?_
  refine o_calli rfl rfl rfl (new_spec (M + 8) _ _) ?_
  refine sV ?_
  refine o_fill rfl (evF_mk (n := R) rfl rfl (by show R * 8 ≤ 2 ^ 46; omega) keep2_get0 (by show s.heap.length ≤ s3.heap.length; omega) (by show (Nat.ble s.heap.length s3.heap.length && true) = true; rw [ble_of (by omega)]; rfl)) ?_
  refine sV ?_
  refine o_calli rfl rfl hbi (groups_spec (M + 8) _ _ ip pcs.cs (by show PrOk (((s3.keep 2).put s3.heap.length _).heap.take s.heap.length) ip pcs.cs; exact PrOk.cut ⟨getCells_put_ne (by omega) hPk3, hpo.2, hpo.3⟩ hip)) ?_
  refine sV ?_
  refine o_fill rfl (evF_mk (n := 1) rfl rfl (by show 1 * 8 ≤ 2 ^ 46; omega) (by show ((s3.keep 2).put s3.heap.length _).heap[s3.heap.length + 1]? = _; rw [Sg.put_get _ _ _ (by omega)]; exact keep2_get1) (by show s.heap.length ≤ s3.heap.length + 1; omega) (by show (Nat.ble s.heap.length (s3.heap.length + 1) && true) = true; rw [ble_of (by omega)]; rfl)) ?_
  show OkO _ _ _ _ _ (((s3.keep 2).put s3.heap.length _).put (s3.heap.length + 1) _) _
  rw [keep2_put]
  have hM4 := getCells_push (.cells (ints (List.replicate 1 0)) 0) (getCells_push (.cells (ints (List.replicate R 0)) 0) hM3)
  refine sV ?_
  refine o_st (l := st 1 (At0.a : Nat) (rv s3.heap.length R) (rv (s3.heap.length + 1) 1)) rfl rfl rfl rfl hM4 rfl (lets_ge (blt_no (by show s.heap.length ≤ s1.heap.length; omega)) (by show (Nat.ble s.heap.length s1.heap.length && true) = true; rw [ble_of (by omega)]; rfl)) (cs' := mc ⟨.ptr ip 0 0, .vec (Am.byteCells t) .shut, 1, (At0.a : Nat), rv s3.heap.length R, rv (s3.heap.length + 1) 1, .nilsl, 0, .nilsl, 0⟩) rfl ?_
  refine d_end (by
    show (!(Nat.beq (s1.heap.length + 1) s3.heap.length) && (!(Nat.beq (s1.heap.length + 1) (s3.heap.length + 1)) && (!(Nat.beq s.heap.length s3.heap.length) && (!(Nat.beq s.heap.length (s3.heap.length + 1)) && (!(Nat.beq s.heap.length s3.heap.length) && (!(Nat.beq s.heap.length (s3.heap.length + 1)) && (Nat.ble s3.heap.length s3.heap.length && (Nat.ble s3.heap.length s3.heap.length && (!(Nat.beq ip (s3.heap.length + 1)) && (Nat.ble s3.heap.length s3.heap.length && (!(Nat.beq s3.heap.length (s3.heap.length + 1)) && true))))))))))) = true
    rw [beq_no (by omega), beq_no (by omega), beq_no (by omega), beq_no (by omega), beq_no (by omega), beq_no (by omega), ble_of (Nat.le_refl _)]
    rfl) (by (repeat (first | exact OutS.nil | exact GetS.hit | exact PutS.hit | apply GetS.miss rfl | apply PutS.miss rfl | apply OutS.cons | apply OutS.skip rfl))) ?_
  have hA4 := getCells_push (.cells (ints (List.replicate 1 0)) 0) (getCells_new s3 (ints (List.replicate R 0)) 0)
  have hB4 : getCells ((s3.push (.cells (ints (List.replicate R 0)) 0)).push (.cells (ints (List.replicate 1 0)) 0)).heap (s3.heap.length + 1) 0 = some (ints (List.replicate 1 0)) := by
    have := getCells_new (s3.push (.cells (ints (List.replicate R 0)) 0)) (ints (List.replicate 1 0)) 0
    rw [Sg.push_len] at this
    exact this
  have hV4 := getCells_push (.cells (ints (List.replicate 1 0)) 0) (getCells_push (.cells (ints (List.replicate R 0)) 0) hV3)
  have hX4 := getCells_push (.cells (ints (List.replicate 1 0)) 0) (getCells_push (.cells (ints (List.replicate R 0)) 0) hX3)
  have hE4 := getCells_push (.cells (ints (List.replicate 1 0)) 0) (getCells_push (.cells (ints (List.replicate R 0)) 0) hE3)
  have hG4 := (hG3.push (.cells (ints (List.replicate R 0)) 0)).push (.cells (ints (List.replicate 1 0)) 0)
  have hL4 : ((s3.push (.cells (ints (List.replicate R 0)) 0)).push (.cells (ints (List.replicate 1 0)) 0)).heap.length = s.heap.length + 6 := by rw [Sg.push_len, Sg.push_len]; omega
  generalize (s3.push (.cells (ints (List.replicate R 0)) 0)).push (.cells (ints (List.replicate 1 0)) 0) = s4 at hM4 hA4 hB4 hV4 hX4 hE4 hG4 hL4 ⊢
  obtain ⟨q, hq⟩ : ∃ q, q = (⟨.ptr ip 0 0, .vec (Am.byteCells t) .shut, 1, (At0.a : Nat), rv s3.heap.length R, rv (s3.heap.length + 1) 1, .nilsl, 0, .nilsl, 0⟩ : MQ) := ⟨_, rfl⟩
  have hM5 := getCells_put (cs' := mc ⟨.ptr ip 0 0, .vec (Am.byteCells t) .shut, 1, (At0.a : Nat), rv s3.heap.length R, rv (s3.heap.length + 1) 1, .nilsl, 0, .nilsl, 0⟩) (g' := 0) hM4
  have hA5 := getCells_put_ne (i := s1.heap.length) (o := .cells (mc ⟨.ptr ip 0 0, .vec (Am.byteCells t) .shut, 1, (At0.a : Nat), rv s3.heap.length R, rv (s3.heap.length + 1) 1, .nilsl, 0, .nilsl, 0⟩) 0) (by omega) hA4
  have hB5 := getCells_put_ne (i := s1.heap.length) (o := .cells (mc ⟨.ptr ip 0 0, .vec (Am.byteCells t) .shut, 1, (At0.a : Nat), rv s3.heap.length R, rv (s3.heap.length + 1) 1, .nilsl, 0, .nilsl, 0⟩) 0) (by omega) hB4
  have hV5 := getCells_put_ne (i := s1.heap.length) (o := .cells (mc ⟨.ptr ip 0 0, .vec (Am.byteCells t) .shut, 1, (At0.a : Nat), rv s3.heap.length R, rv (s3.heap.length + 1) 1, .nilsl, 0, .nilsl, 0⟩) 0) hne1 hV4
  have hX5 := getCells_put_ne (i := s1.heap.length) (o := .cells (mc ⟨.ptr ip 0 0, .vec (Am.byteCells t) .shut, 1, (At0.a : Nat), rv s3.heap.length R, rv (s3.heap.length + 1) 1, .nilsl, 0, .nilsl, 0⟩) 0) (by omega) hX4
  have hE5 := getCells_put_ne (i := s1.heap.length) (o := .cells (mc ⟨.ptr ip 0 0, .vec (Am.byteCells t) .shut, 1, (At0.a : Nat), rv s3.heap.length R, rv (s3.heap.length + 1) 1, .nilsl, 0, .nilsl, 0⟩) 0) (by omega) hE4
  have hG5 := hG4.put_new (i := s1.heap.length) (by omega) (.cells (mc ⟨.ptr ip 0 0, .vec (Am.byteCells t) .shut, 1, (At0.a : Nat), rv s3.heap.length R, rv (s3.heap.length + 1) 1, .nilsl, 0, .nilsl, 0⟩) 0)
  have hL5 : (s4.put s1.heap.length (.cells (mc ⟨.ptr ip 0 0, .vec (Am.byteCells t) .shut, 1, (At0.a : Nat), rv s3.heap.length R, rv (s3.heap.length + 1) 1, .nilsl, 0, .nilsl, 0⟩) 0)).heap.length = s.heap.length + 6 := by rw [Sg.put_len]; exact hL4
  generalize s4.put s1.heap.length (.cells (mc ⟨.ptr ip 0 0, .vec (Am.byteCells t) .shut, 1, (At0.a : Nat), rv s3.heap.length R, rv (s3.heap.length + 1) 1, .nilsl, 0, .nilsl, 0⟩) 0) = s5 at hM5 hA5 hB5 hV5 hX5 hE5 hG5 hL5 ⊢
  have htk5 : s5.heap.take s.heap.length = s.heap := by
    obtain ⟨⟨X, hX'⟩⟩ := hG5
    rw [hX']
    exact List.take_left
  refine c_seq ?_
  refine c_drawnW (by show s.heap.length ≤ _; omega) (by show allOld s.heap.length (s5.heap.take s.heap.length) = true; rw [htk5]; exact hold) ?_
  rw [s5.keep_zero]
  refine sV ?_
  refine o_st (l := [.int .i64 0]) rfl rfl rfl rfl hM5 rfl (lets_ge (blt_no (by show s.heap.length ≤ s1.heap.length; omega)) (by show (Nat.ble s.heap.length s1.heap.length && true) = true; rw [ble_of (by omega)]; rfl)) (cs' := mc ⟨.ptr ip 0 0, .vec (Am.byteCells t) .shut, 1, (At0.a : Nat), rv s3.heap.length R, rv (s3.heap.length + 1) 1, .nilsl, 0, .nilsl, 0⟩) rfl ?_
  rw [Sg.put_same hM5]
  refine sV ?_
  refine o_st (l := [.int .i64 0]) rfl rfl rfl rfl hM5 rfl (lets_ge (blt_no (by show s.heap.length ≤ s1.heap.length; omega)) (by show (Nat.ble s.heap.length s1.heap.length && true) = true; rw [ble_of (by omega)]; rfl)) (cs' := mc ⟨.ptr ip 0 0, .vec (Am.byteCells t) .shut, 1, (At0.a : Nat), rv s3.heap.length R, rv (s3.heap.length + 1) 1, .nilsl, 0, .nilsl, 0⟩) rfl ?_
  rw [Sg.put_same hM5]
  refine d_end (by show (!(Nat.beq (s1.heap.length + 1) s1.heap.length) && (!(Nat.beq s.heap.length s1.heap.length) && true)) = true; rw [beq_no (by omega), beq_no (by omega)]; rfl) (by (repeat (first | exact OutS.nil | exact GetS.hit | exact PutS.hit | apply GetS.miss rfl | apply PutS.miss rfl | apply OutS.cons | apply OutS.skip rfl))) ?_
  refine c_seq ?_
  refine qV ?_
  refine o_defer rfl rfl rfl rfl rfl ?_
  refine eV ?_
  have hVM : VM s5 s1.heap.length ip { pcs with ext := [(s1.heap.length + 1, [.ptr s1.heap.length 0 0]), (E, es8 0 .nilsl 0)] } ⟨.ptr ip 0 0, .vec (Am.byteCells t) .shut, 1, (At0.a : Nat), rv s3.heap.length R, rv (s3.heap.length + 1) 1, .nilsl, 0, .nilsl, 0⟩ s3.heap.length (s3.heap.length + 1) (List.replicate R 0) (List.replicate 1 0) [] := by
    obtain ⟨⟨j, v, g1, g2, g3⟩, ⟨j', v', g4, g5, g6⟩⟩ := hpg
    refine ⟨hM5, rfl, ⟨hG5.get hpo.1, hpo.2, hpo.3⟩, ⟨⟨j, v, g1, by omega, hG5.get g3⟩, ⟨j', v', g4, by omega, hG5.get g6⟩⟩, by omega, by simp, by simp, ⟨fun e => ?_, by simp; omega, hA5⟩, ⟨by simp, by simp, hB5⟩, .inl ⟨rfl, rfl⟩, fun c hc => (by cases hc), by simp [idsOf], ?_, ?_⟩
    · have := congrArg List.length e
      simp at this
      omega
    · intro x hx
      rcases List.mem_cons.mp hx with rfl | hx
      · exact ⟨by omega, fun e => by cases e⟩
      rcases List.mem_cons.mp hx with rfl | hx
      · exact ⟨by omega, fun e => by cases e⟩
      · cases hx
    · intro p hp
      rcases List.mem_cons.mp hp with rfl | hp
      · refine ⟨hV5, hne1, fun hm => ?_, fun e => by cases e⟩
        rcases List.mem_cons.mp hm with e | hm
        · dsimp only at e; omega
        rcases List.mem_cons.mp hm with e | hm
        · dsimp only at e; omega
        · cases hm
      · obtain rfl := List.mem_singleton.mp hp
        refine ⟨hE5, by dsimp only; omega, fun hm => ?_, fun e => by cases e⟩
        rcases List.mem_cons.mp hm with e | hm
        · dsimp only at e; omega
        rcases List.mem_cons.mp hm with e | hm
        · dsimp only at e; omega
        · cases hm
  have hrun := run_spec k M (b.into af30.mode s) s1.heap.length _ s5 r hk (h _ s1.heap.length _ _ _ _ _ s5 _ (by show s.heap.length ≤ _; omega) rfl ⟨hVM, rfl, rfl, rfl, rfl, rfl, by simp, rfl⟩)
  refine c_seq ?_
  refine qV ?_
  refine o_callw (l := [.ptr s1.heap.length 0 0]) rfl rfl (hrun.mono ?_)
  rintro _ s6 ⟨rfl, hex, q6, hq6, hr6⟩
  have hV6 := hex (s1.heap.length + 1, [.ptr s1.heap.length 0 0]) (by simp)
  have hE6 := hex (E, es8 0 .nilsl 0) (by simp)
  dsimp only at hV6 hE6
  refine fin_def (.inr ⟨_, rfl, rfl⟩) ?_
  refine d_wp rfl rfl (by (repeat (first | exact Shape.nil | (apply Shape.cons; conv => lhs; whnf)))) ?_
  refine qV ?_
  refine o_rec rfl ?_
  refine eV ?_
  refine bV ?_
  refine qqV ?_
  refine lV ?_
  refine qqV ?_
  refine iV ?_
  refine c_seq ?_
  refine qV ?_
  refine o_alloc rfl ?_
  refine o_st (l := []) rfl rfl rfl rfl (getCells_new s6 [] 0) rfl (lets_nil (blt_no (by show s.heap.length ≤ _; have := getCells_lt hq6; omega)) rfl) (cs' := []) rfl ?_
  rw [push_put]
  refine eV ?_
  have hq7 := getCells_push (.cells [] 0) hq6
  have hV7 := getCells_push (.cells [] 0) hV6
  have hE7 := getCells_push (.cells [] 0) hE6
  generalize s6.push (.cells [] 0) = s7 at hq7 hV7 hE7 ⊢
  obtain ⟨pr, sb, pc, p, regs, opens, sv, kind, spans, taken⟩ := q6
  cases r with
  | some n =>
    obtain ⟨rfl, rfl⟩ := hr6
    refine qV ?_
    refine o_st (i := E) (g' := 0) (off := 0) (l := es8 1 (spansOf n) taken) rfl rfl rfl rfl hE7 rfl (lets_nil (blt_no (by show s.heap.length ≤ E; omega)) rfl) (cs' := es8 1 (spansOf n) taken) rfl ?_
    refine eV ?_
    refine ⟨.inl rfl, rfl, rfl, ?_⟩
    exact end_ret (read_cell rfl (getCells_put hE7) rfl read_nil) (leave_pure rfl rfl) ⟨rfl, taken, rfl⟩
  | none =>
    obtain ⟨rfl, rfl⟩ := hr6
    refine qV ?_
    refine o_st (i := E) (g' := 0) (off := 0) (l := es8 2 .nilsl taken) rfl rfl rfl rfl hE7 rfl (lets_nil (blt_no (by show s.heap.length ≤ E; omega)) rfl) (cs' := es8 2 .nilsl taken) rfl ?_
    refine eV ?_
    refine ⟨.inl rfl, rfl, rfl, ?_⟩
    exact end_ret (read_cell rfl (getCells_put hE7) rfl read_nil) (leave_pure rfl rfl) ⟨rfl, taken, rfl⟩

end Go.Vmm
