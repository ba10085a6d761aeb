/-
  Of MatchLeft: what the functions that the law reaches come to.
-/
import Derived.Test.YtndindldlkdigabGreatDoorMltA

namespace Go.Vmm
open Go Go.Am Go.Proofs

/-- where an attempt begins, and where matching was asked to begin -/
class At0 where
  a : Nat
  o : Nat
set_option linter.unusedSectionVars false
variable [At0]

/-- a thread, as it lies: without groups, marks, calls -/
def st (pc p : Int) (regs opens : AV) : List AV := [.int .i64 pc, .int .i64 p, .int .i64 (At0.a : Nat), .int .i64 0, .cplx .f64 0 0, .cplx .f64 0 0, .cplx .f64 0 0, .cplx .f64 0 0, .cplx .f64 0 0, .cplx .f64 0 0, .cplx .f64 0 0, .cplx .f64 0 0, .cplx .f64 0 0, .cplx .f64 0 0, .cplx .f64 0 0, .cplx .f64 0 0, .cplx .f64 0 0, .cplx .f64 0 0, .cplx .f64 0 0, .cplx .f64 0 0, .cplx .f64 0 0, .cplx .f64 0 0, .cplx .f64 0 0, .cplx .f64 0 0, .cplx .f64 0 0, .cplx .f64 0 0, .cplx .f64 0 0, .cplx .f64 0 0, .cplx .f64 0 0, .cplx .f64 0 0, .cplx .f64 0 0, .cplx .f64 0 0, .cplx .f64 0 0, .cplx .f64 0 0, .cplx .f64 0 0, .cplx .f64 0 0, .cplx .f64 0 0, .cplx .f64 0 0, .cplx .f64 0 0, .cplx .f64 0 0, .cplx .f64 0 0, .cplx .f64 0 0, .cplx .f64 0 0, .cplx .f64 0 0, .cplx .f64 0 0, .cplx .f64 0 0, .cplx .f64 0 0, .cplx .f64 0 0, .cplx .f64 0 0, .cplx .f64 0 0, .cplx .f64 0 0, .cplx .f64 0 0, .cplx .f64 0 0, .cplx .f64 0 0, .cplx .f64 0 0, .cplx .f64 0 0, .cplx .f64 0 0, .cplx .f64 0 0, .cplx .f64 0 0, .cplx .f64 0 0, .cplx .f64 0 0, .cplx .f64 0 0, .cplx .f64 0 0, .cplx .f64 0 0, .cplx .f64 0 0, .str [], .nilptr, .int .i64 (-1), .int .i64 (-1), .nilptr, regs, opens]

/-- no thread -/
def st0 : List AV := [.int .i64 0, .int .i64 0, .int .i64 0, .int .i64 0, .cplx .f64 0 0, .cplx .f64 0 0, .cplx .f64 0 0, .cplx .f64 0 0, .cplx .f64 0 0, .cplx .f64 0 0, .cplx .f64 0 0, .cplx .f64 0 0, .cplx .f64 0 0, .cplx .f64 0 0, .cplx .f64 0 0, .cplx .f64 0 0, .cplx .f64 0 0, .cplx .f64 0 0, .cplx .f64 0 0, .cplx .f64 0 0, .cplx .f64 0 0, .cplx .f64 0 0, .cplx .f64 0 0, .cplx .f64 0 0, .cplx .f64 0 0, .cplx .f64 0 0, .cplx .f64 0 0, .cplx .f64 0 0, .cplx .f64 0 0, .cplx .f64 0 0, .cplx .f64 0 0, .cplx .f64 0 0, .cplx .f64 0 0, .cplx .f64 0 0, .cplx .f64 0 0, .cplx .f64 0 0, .cplx .f64 0 0, .cplx .f64 0 0, .cplx .f64 0 0, .cplx .f64 0 0, .cplx .f64 0 0, .cplx .f64 0 0, .cplx .f64 0 0, .cplx .f64 0 0, .cplx .f64 0 0, .cplx .f64 0 0, .cplx .f64 0 0, .cplx .f64 0 0, .cplx .f64 0 0, .cplx .f64 0 0, .cplx .f64 0 0, .cplx .f64 0 0, .cplx .f64 0 0, .cplx .f64 0 0, .cplx .f64 0 0, .cplx .f64 0 0, .cplx .f64 0 0, .cplx .f64 0 0, .cplx .f64 0 0, .cplx .f64 0 0, .cplx .f64 0 0, .cplx .f64 0 0, .cplx .f64 0 0, .cplx .f64 0 0, .cplx .f64 0 0, .str [], .nilptr, .int .i64 0, .int .i64 0, .nilptr, .nilsl, .nilsl]

/-- a place for a thread -/
def st0z : List AV := st0

/-- what may change of a machine -/
structure MQ where
  pr : AV
  sb : AV
  pc : Int
  p : Int
  regs : AV
  opens : AV
  stk : AV
  kind : Int
  spans : AV
  taken : Int

/-- a machine, as it lies -/
def mc : MQ → List AV
  | ⟨pr, sb, pc, p, regs, opens, stk, kind, spans, taken⟩ => [pr, sb, .int .i64 0, .int .i64 (At0.o : Nat), .int .i64 (At0.a : Nat), .nilsl, .int .i64 0, .int .i64 0, .int .i64 0, .int .i64 0, .int .i64 0, .bool false, .int .i64 pc, .int .i64 p, .int .i64 (At0.a : Nat), .int .i64 0, .cplx .f64 0 0, .cplx .f64 0 0, .cplx .f64 0 0, .cplx .f64 0 0, .cplx .f64 0 0, .cplx .f64 0 0, .cplx .f64 0 0, .cplx .f64 0 0, .cplx .f64 0 0, .cplx .f64 0 0, .cplx .f64 0 0, .cplx .f64 0 0, .cplx .f64 0 0, .cplx .f64 0 0, .cplx .f64 0 0, .cplx .f64 0 0, .cplx .f64 0 0, .cplx .f64 0 0, .cplx .f64 0 0, .cplx .f64 0 0, .cplx .f64 0 0, .cplx .f64 0 0, .cplx .f64 0 0, .cplx .f64 0 0, .cplx .f64 0 0, .cplx .f64 0 0, .cplx .f64 0 0, .cplx .f64 0 0, .cplx .f64 0 0, .cplx .f64 0 0, .cplx .f64 0 0, .cplx .f64 0 0, .cplx .f64 0 0, .cplx .f64 0 0, .cplx .f64 0 0, .cplx .f64 0 0, .cplx .f64 0 0, .cplx .f64 0 0, .cplx .f64 0 0, .cplx .f64 0 0, .cplx .f64 0 0, .cplx .f64 0 0, .cplx .f64 0 0, .cplx .f64 0 0, .cplx .f64 0 0, .cplx .f64 0 0, .cplx .f64 0 0, .cplx .f64 0 0, .cplx .f64 0 0, .cplx .f64 0 0, .cplx .f64 0 0, .cplx .f64 0 0, .cplx .f64 0 0, .cplx .f64 0 0, .cplx .f64 0 0, .cplx .f64 0 0, .cplx .f64 0 0, .cplx .f64 0 0, .cplx .f64 0 0, .cplx .f64 0 0, .cplx .f64 0 0, .str [], .nilptr, .int .i64 (-1), .int .i64 (-1), .nilptr, regs, opens,
  stk, .int .i64 kind, spans, .str [], .int .i64 0, .int .i64 0, .int .i64 0, .int .i64 taken, .bool false, .int .i64 1000000, .int .i64 1000000, .int .i64 1000000]

theorem mc_st (q : MQ) : ((mc q).drop 12).take 72 = st q.pc q.p q.regs q.opens := rfl
theorem part_st (q : MQ) : partOf (mc q) 12 (some 72) = some (.agg (st q.pc q.p q.regs q.opens)) := rfl
theorem w_pc (q : MQ) (z : Int) : writeAt (mc q) 12 [.int .i64 z] = some (mc { q with pc := z }) := rfl
theorem w_p (q : MQ) (z : Int) : writeAt (mc q) 13 [.int .i64 z] = some (mc { q with p := z }) := rfl
theorem w_stk (q : MQ) (v : AV) : writeAt (mc q) 84 [v] = some (mc { q with stk := v }) := rfl
theorem w_kind (q : MQ) (z : Int) : writeAt (mc q) 85 [.int .i64 z] = some (mc { q with kind := z }) := rfl
theorem w_spans (q : MQ) (v : AV) : writeAt (mc q) 86 [v] = some (mc { q with spans := v }) := rfl
theorem w_taken (q : MQ) (z : Int) : writeAt (mc q) 91 [.int .i64 z] = some (mc { q with taken := z }) := rfl
theorem w_st (q : MQ) (pc p : Int) (regs opens : AV) : writeAt (mc q) 12 (st pc p regs opens) = some (mc { q with pc := pc, p := p, regs := regs, opens := opens }) := rfl

/-- an instruction -/
structure In where
  op : Int
  a : Int
  b : Int
  c : Int
  r : Int
  lz : Bool

def In.cs : In → List AV
  | ⟨op, a, b, c, r, lz⟩ => [.int .i64 op, .int .i64 a, .int .i64 b, .int .i64 c, .int .i64 r, .bool lz, .str []]
def In.av (i : In) : AV := .agg i.cs

/-- what is known of the program that is run: no groups, no options -/
structure PrOk (h : List AObj) (ip : Nat) (cs : List AV) : Prop where
  get : getCells h ip 0 = some cs
  groups : cs[16]? = some (.int .i64 0)
  opts : cs[18]? = some (.int .i64 0)

theorem groups_spec (m : Nat) (b : Bar) (s : Sg) (ip : Nat) (cs : List AV) (h : PrOk s.heap ip cs) : callF T (m + 1) b 71 [.ptr ip 0 0] s = some (.ret (.int .i64 0), s) := by
  obtain ⟨hg, h1, h2⟩ := h
  (apply f_of rfl rfl; (repeat (first | exact Shape.nil | (apply Shape.cons; conv => lhs; whnf))))
  refine qqV ?_
  refine qqV ?_
  refine lV ?_
  refine c_skip ?_
  refine qqV ?_
  exact c_ret rfl

theorem options_spec (m : Nat) (b : Bar) (s : Sg) (ip : Nat) (cs : List AV) (h : PrOk s.heap ip cs) : callF T (m + 1) b 68 [.ptr ip 0 0] s = some (.ret (.int .i64 0), s) := by
  obtain ⟨hg, h1, h2⟩ := h
  (apply f_of rfl rfl; (repeat (first | exact Shape.nil | (apply Shape.cons; conv => lhs; whnf))))
  refine qqV ?_
  refine qqV ?_
  refine lV ?_
  refine c_skip ?_
  refine qqV ?_
  exact c_ret rfl

end Go.Vmm

namespace Go.Vmm
open Go Go.Am Go.Proofs
set_option linter.unusedSectionVars false
variable [At0]

def ints (l : List Int) : List AV := l.map (.int .i64)
theorem ints_len (l : List Int) : (ints l).length = l.length := by simp [ints]
theorem chunk_ints : ∀ l : List Int, chunk l.length none (ints l) = some (ints l)
  | [] => rfl
  | a :: r => by
    have ih := chunk_ints r
    simp only [List.length_cons, ints, List.map_cons, chunk] at ih ⊢
    rw [ih]; rfl
theorem flat_ints : ∀ l : List Int, flatAll (ints l) = ints l
  | [] => rfl
  | a :: r => by
    have ih := flat_ints r
    simp only [ints, List.map_cons, flatAll] at ih ⊢
    rw [ih]; rfl
theorem size_ints : ∀ l : List Int, (allSize 1 (ints l) && allOneAll (ints l)) = true
  | [] => rfl
  | a :: r => by
    have ih := size_ints r
    simp only [ints, List.map_cons, allSize, allOneAll, Bool.and_eq_true] at ih ⊢
    exact ⟨⟨rfl, ih.1⟩, rfl, ih.2⟩
theorem old_ints (b : Nat) : ∀ l : List Int, AV.oldAll b (ints l) = true
  | [] => rfl
  | a :: r => by
    have ih := old_ints b r
    simp only [ints, List.map_cons, AV.oldAll] at ih ⊢
    rw [ih]; rfl

/-- an append to a row of nothing -/
theorem o_app_vec0 {call : CallFn} {b : Bar} {g : Option (Nat × Bool)} {r : List AOper} {loc : Env} {fr : Fr} {s : Sg} {Q : Ex → Env → Fr → Sg → Prop} {x y : AOpd} {t bytes : Nat} {u : AV} {ys : List AV} {own : Bool} (hg : wantedA loc fr.pers g = some true) (hx : x.ev loc fr.pers = some (.vec [] (.exact own))) (hy : y.ev loc fr.pers = some u) (he : elemsOf s.heap none u = some ys) (hs : (allSize 1 ys && allOneAll ys) = true) (hne : ys ≠ []) (hl : Nat.ble (ys.length * bytes) limit = true)
    (hr : OkO call b r ((t, .ms s.heap.length 0 0 ys.length ys.length 1) :: loc) fr (s.push (.cells (flatAll ys) 0)) Q) : OkO call b (⟨some t, .e (.append true none bytes x y), g⟩ :: r) loc fr s Q := by
  refine o_e hg ?_ hr
  simp only [evE, hx, hy, Option.bind_some, he, Option.getD_none, hs, if_true]
  cases ys with
  | nil => exact absurd rfl hne
  | cons a r =>
    simp only [List.length_cons] at hl
    simp [evAppend, allSize, hl]

/-- a row of numbers in the abstract heap -/
abbrev rv (i n : Nat) : AV := .ms i 0 0 n n 1
structure IsRow (h : List AObj) (i : Nat) (l : List Int) : Prop where
  ne : l ≠ []
  len : l.length < 2 ^ 20
  get : getCells h i 0 = some (ints l)

theorem IsRow.push {s : Sg} {i : Nat} {l : List Int} (h : IsRow s.heap i l) (o : AObj) : IsRow (s.push o).heap i l := ⟨h.1, h.2, getCells_push _ h.3⟩
theorem IsRow.put {s : Sg} {i j : Nat} {l : List Int} (h : IsRow s.heap i l) (o : AObj) (hj : i ≠ j) : IsRow (s.put j o).heap i l := ⟨h.1, h.2, getCells_put_ne hj h.3⟩
theorem IsRow.keep {s : Sg} {i k : Nat} {l : List Int} (h : IsRow s.heap i l) : IsRow (s.keep k).heap i l := ⟨h.1, h.2, getCells_keep h.3⟩
theorem IsRow.new {s : Sg} {l : List Int} (h1 : l ≠ []) (h2 : l.length < 2 ^ 20) : IsRow (s.push (.cells (ints l) 0)).heap s.heap.length l := ⟨h1, h2, getCells_new _ _ _⟩

theorem ev_tmp {t : Nat} {v w : AV} {loc pers : Env} (h : Env.look loc pers t = v) (hv : v.def? = some w) : (AOpd.tmp t).ev loc pers = some w := by rw [AOpd.ev, h, hv]

theorem clone_spec (m : Nat) (b : Bar) (s : Sg) (i : Nat) (l : List Int) (h : IsRow s.heap i l) :
    callF T (m + 1) b 223 [rv i l.length] s = some (.ret (rv s.heap.length l.length), s.push (.cells (ints l) 0)) := by
  obtain ⟨hne, hl, hg⟩ := h
  (apply f_of rfl rfl; (repeat (first | exact Shape.nil | (apply Shape.cons; conv => lhs; whnf))))
  refine qqV ?_
  refine qqV ?_
  refine lV ?_
  refine c_skip ?_
  refine qV ?_
  have he : elemsOf s.heap none (rv i l.length) = some (ints l) := by
    simp only [elemsOf, Option.getD_none, Nat.beq_refl, if_true, hg, Option.bind_some, List.drop_zero]
    exact chunk_ints l
  refine o_app_vec0 (ys := ints l) rfl rfl rfl he (size_ints l) (by simp [ints, hne]) ?_ ?_
  · apply ble_of
    rw [ints_len]
    show _ ≤ 2 ^ 46
    omega
  rw [flat_ints, ints_len]
  refine sV ?_
  refine eV ?_
  exact c_ret rfl

theorem same_st (pc p : Int) (i j n k : Nat) : sameAll (st pc p (rv i n) (rv j k)) (st pc p (rv i n) (rv j k)) = true := by
  simp only [st, sameAll, AV.same, beq_self_eq_true, Nat.beq_refl, Bool.and_self]

theorem sameObj_of {h1 h2 : List AObj} {i g : Nat} {cs : List AV} (e1 : getCells h1 i g = some cs) (e2 : getCells h2 i g = some cs) (h : sameAll cs cs = true) : sameObj h1[i]? h2[i]? = true := by
  rw [getCells_some e1, getCells_some e2]
  simp only [sameObj, Nat.beq_refl, h, Bool.and_self]

theorem st_all (pc p : Int) (u v : AV) : partOf (st pc p u v) 0 (some 72) = some (.agg (st pc p u v)) := rfl

/-- both of a thread's rows, cloned -/
theorem own_spec (m : Nat) (b : Bar) (s : Sg) (pc p : Int) (i j : Nat) (l k : List Int) (hw : b.w ≤ s.heap.length) (hes : b.es = []) (hu : IsRow s.heap i l) (hv : IsRow s.heap j k) :
    ∃ o1 o2, callF T (m + 2) b 173 [.agg (st pc p (rv i l.length) (rv j k.length))] s = some (.ret (.agg (st pc p (rv (s.heap.length + 2) l.length) (rv (s.heap.length + 3) k.length))),
      (((s.push (.cells o1 0)).push (.cells o2 0)).push (.cells (ints l) 0)).push (.cells (ints k) 0)) := by
  refine ⟨st pc p (rv (s.heap.length + 2) l.length) (rv (s.heap.length + 3) k.length), st pc p (rv (s.heap.length + 2) l.length) (rv (s.heap.length + 3) k.length), ?_⟩
  apply OkF.ret
  (apply f_wp rfl rfl; (repeat (first | exact Shape.nil | (apply Shape.cons; conv => lhs; whnf))))
  refine qV ?_
  refine o_box (v := .agg (st pc p (rv i l.length) (rv j k.length))) (l := st pc p (rv i l.length) (rv j k.length)) rfl rfl rfl ?_
  refine sV ?_
  refine o_alloc rfl ?_
  refine sV ?_
  refine eV ?_
  have hB : getCells ((s.push (.cells (st pc p (rv i l.length) (rv j k.length)) 0)).push (.cells st0z 0)).heap s.heap.length 0 = some (st pc p (rv i l.length) (rv j k.length)) := getCells_push _ (getCells_new _ _ _)
  have hu1 : IsRow ((s.push (.cells (st pc p (rv i l.length) (rv j k.length)) 0)).push (.cells st0z 0)).heap i l := (hu.push _).push _
  have hv1 : IsRow ((s.push (.cells (st pc p (rv i l.length) (rv j k.length)) 0)).push (.cells st0z 0)).heap j k := (hv.push _).push _
  have hL : ((s.push (.cells (st pc p (rv i l.length) (rv j k.length)) 0)).push (.cells st0z 0)).heap.length = s.heap.length + 2 := by rw [Sg.push_len, Sg.push_len]
  change OkC _ _ _ _ _ ((s.push (.cells (st pc p (rv i l.length) (rv j k.length)) 0)).push (.cells st0z 0)) _
  generalize hs2 : (s.push (.cells (st pc p (rv i l.length) (rv j k.length)) 0)).push (.cells st0z 0) = s2 at hB hu1 hv1 hL ⊢
  have hB2 := getCells_push (.cells (ints l) 0) hB
  have hv2 := hv1.push (.cells (ints l) 0)
  have hB3 := getCells_push (.cells (ints k) 0) hB2
  refine c_seq ?_
  refine c_still (i := s.heap.length) (H1 := s2.heap) (H2 := (s2.push (.cells (ints l) 0)).heap) ?_ ?_ (sameObj_of hB hB2 (same_st ..)) ?_
  · rw [s2.keep_zero]
    refine sV ?_
    exact o_nil rfl
  · rw [s2.keep_zero]
    refine sV ?_
    refine o_call rfl rfl (clone_spec m _ s2 i l hu1) ?_
    exact o_nil rfl
  rw [s2.keep_zero]
  refine sV ?_
  refine o_call rfl rfl (clone_spec m _ s2 i l hu1) ?_
  refine sV ?_
  refine o_call rfl rfl (clone_spec m _ _ j k hv2) ?_
  refine sV ?_
  have hlt := getCells_lt hB
  have hL3 : ((s2.push (.cells (ints l) 0)).push (.cells (ints k) 0)).heap.length = s.heap.length + 4 := by rw [Sg.push_len, Sg.push_len]; omega
  have hl4 : (s2.push (.cells (ints l) 0)).heap.length = s.heap.length + 3 := by rw [Sg.push_len]; omega
  rw [hL, hl4]
  refine o_st rfl rfl rfl rfl hB3 rfl (lets_nil (blt_no hw) hes) (cs' := st pc p (rv (s.heap.length + 2) l.length) (rv j k.length)) rfl ?_
  have hB4 := getCells_put (cs' := st pc p (rv (s.heap.length + 2) l.length) (rv j k.length)) (g' := 0) hB3
  refine sV ?_
  refine o_st rfl rfl rfl rfl hB4 rfl (lets_nil (blt_no hw) hes) (cs' := st pc p (rv (s.heap.length + 2) l.length) (rv (s.heap.length + 3) k.length)) rfl ?_
  rw [Sg.put_put]
  have hB5 := getCells_put (cs' := st pc p (rv (s.heap.length + 2) l.length) (rv (s.heap.length + 3) k.length)) (g' := 0) hB3
  refine still_end rfl (by (repeat (first | exact OutS.nil | exact GetS.hit | exact PutS.hit | apply GetS.miss rfl | apply PutS.miss rfl | apply OutS.cons | apply OutS.skip rfl))) ?_
  refine qV ?_
  have hT : getCells (((s2.push (.cells (ints l) 0)).push (.cells (ints k) 0)).put s.heap.length (.cells (st pc p (rv (s.heap.length + 2) l.length) (rv (s.heap.length + 3) k.length)) 0)).heap (s.heap.length + 1) 0 = some st0z := by
    refine getCells_put_ne (by omega) (getCells_push _ (getCells_push _ ?_))
    rw [← hs2]
    have := getCells_new (s.push (.cells (st pc p (rv i l.length) (rv j k.length)) 0)) st0z 0
    rw [Sg.push_len] at this
    exact this
  refine o_st (i := s.heap.length + 1) (g' := 0) (off := 0) (l := st pc p (rv (s.heap.length + 2) l.length) (rv (s.heap.length + 3) k.length)) rfl ?_ rfl rfl hT rfl (lets_nil (blt_no (by show b.w ≤ _; omega)) hes) (cs' := st pc p (rv (s.heap.length + 2) l.length) (rv (s.heap.length + 3) k.length)) rfl ?_
  · rw [← Sg.push_len s (.cells (st pc p (rv i l.length) (rv j k.length)) 0)]
    rfl
  refine eV ?_
  refine c_ret ?_
  have hT2 := getCells_put (cs' := st pc p (rv (s.heap.length + 2) l.length) (rv (s.heap.length + 3) k.length)) (g' := 0) hT
  refine fin_ret (.inl rfl) (read_cell (i := s.heap.length + 1) (g := 0) (off := 0) ?_ hT2 (st_all ..) read_nil) rfl ⟨rfl, ?_⟩
  · rw [← Sg.push_len s (.cells (st pc p (rv i l.length) (rv j k.length)) 0)]
    rfl
  have hq : ∀ n, n < s.heap.length + 2 → n < s2.heap.length := fun n hn => by omega
  rw [put_push (by (try simp only [Sg.push_len, Sg.put_len]); omega), put_push (by (try simp only [Sg.push_len, Sg.put_len]); omega), put_push (by (try simp only [Sg.push_len, Sg.put_len]); omega), put_push (by (try simp only [Sg.push_len, Sg.put_len]); omega), ← hs2]
  congr 2
  rw [put_push (by rw [Sg.push_len]; omega), push_put]
  have := push_put (s := s.push (.cells (st pc p (rv (s.heap.length + 2) l.length) (rv (s.heap.length + 3) k.length)) 0)) (o := .cells st0z 0) (o' := .cells (st pc p (rv (s.heap.length + 2) l.length) (rv (s.heap.length + 3) k.length)) 0)
  rw [Sg.push_len] at this
  exact this

end Go.Vmm

namespace Go.Vmm
open Go Go.Am Go.Proofs
set_option linter.unusedSectionVars false
variable [At0]

theorem IsRow.grow {s s' : Sg} {i : Nat} {l : List Int} (h : IsRow s.heap i l) (hg : Grow s s') : IsRow s'.heap i l := ⟨h.1, h.2, hg.get h.3⟩

/-- both of a thread's rows, cloned; what else comes to be is of no account -/
theorem own_grow (m : Nat) (b : Bar) (s : Sg) (pc p : Int) (i j : Nat) (l k : List Int) (hw : b.w ≤ s.heap.length) (hes : b.es = []) (hu : IsRow s.heap i l) (hv : IsRow s.heap j k) :
    ∃ s' i' j', callF T (m + 2) b 173 [.agg (st pc p (rv i l.length) (rv j k.length))] s = some (.ret (.agg (st pc p (rv i' l.length) (rv j' k.length))), s') ∧ Grow s s' ∧ s.heap.length ≤ i' ∧ IsRow s'.heap i' l ∧ s.heap.length ≤ j' ∧ IsRow s'.heap j' k ∧ i' ≠ j' := by
  obtain ⟨o1, o2, h⟩ := own_spec m b s pc p i j l k hw hes hu hv
  refine ⟨_, _, _, h, (((Grow.refl s).push _).push _).push _ |>.push _, by omega, ?_, by omega, ?_, by omega⟩
  · have := (IsRow.new (s := (s.push (.cells o1 0)).push (.cells o2 0)) hu.1 hu.2).push (.cells (ints k) 0)
    simp only [Sg.push_len] at this
    exact this
  · have := IsRow.new (s := ((s.push (.cells o1 0)).push (.cells o2 0)).push (.cells (ints l) 0)) hv.1 hv.2
    simp only [Sg.push_len] at this
    exact this

/-- the thread, to be gone on with elsewhere -/
theorem at_spec (m : Nat) (b : Bar) (s : Sg) (im : Nat) (q : MQ) (i j : Nat) (l k : List Int) (pc : Int) (hw : b.w ≤ s.heap.length) (hes : b.es = []) (hm : getCells s.heap im 0 = some (mc q)) (hr : q.regs = rv i l.length) (ho : q.opens = rv j k.length) (hu : IsRow s.heap i l) (hv : IsRow s.heap j k) :
    OkF (callF T (m + 3) b 177 [.ptr im 0 0, .int .i64 pc] s) fun o s' => ∃ i' j', o = .ret (.agg (st pc q.p (rv i' l.length) (rv j' k.length))) ∧ Grow s s' ∧ s.heap.length ≤ i' ∧ IsRow s'.heap i' l ∧ s.heap.length ≤ j' ∧ IsRow s'.heap j' k ∧ i' ≠ j' := by
  (apply f_wp rfl rfl; (repeat (first | exact Shape.nil | (apply Shape.cons; conv => lhs; whnf))))
  refine qV ?_
  refine o_alloc rfl ?_
  refine sV ?_
  refine eV ?_
  have hT := getCells_new s st0 0
  have hm1 := getCells_push (.cells st0 0) hm
  have hu1 := hu.push (.cells st0 0)
  have hv1 := hv.push (.cells st0 0)
  have hL := Sg.push_len s (.cells st0 0)
  have hG := (Grow.refl s).push (.cells st0 0)
  change OkC _ _ _ _ _ (s.push (.cells st0 0)) _
  generalize s.push (.cells st0 0) = s1 at hT hm1 hu1 hv1 hL hG ⊢
  obtain ⟨s2, i', j', hown, hG2, hi, hui, hj, huj, hij⟩ := own_grow m b s1 q.pc q.p i j l k (by omega) hes hu1 hv1
  rw [← hr, ← ho] at hown
  have hL2 := hG2.len
  refine qV ?_
  refine o_call (l := [.agg (st q.pc q.p q.regs q.opens)]) rfl rfl hown ?_
  refine sV ?_
  refine o_alloc rfl ?_
  refine sV ?_
  have h5 := getCells_new s2 st0 0
  refine o_st (l := st q.pc q.p (rv i' l.length) (rv j' k.length)) rfl rfl rfl rfl h5 rfl (lets_nil (blt_no (by show b.w ≤ _; omega)) hes) (cs' := st q.pc q.p (rv i' l.length) (rv j' k.length)) rfl ?_
  rw [push_put]
  refine eV ?_
  have h6 := getCells_new s2 (st q.pc q.p (rv i' l.length) (rv j' k.length)) 0
  refine qV ?_
  refine o_st rfl rfl rfl rfl h6 rfl (lets_nil (blt_no (by show b.w ≤ _; omega)) hes) (cs' := st pc q.p (rv i' l.length) (rv j' k.length)) rfl ?_
  rw [push_put]
  refine eV ?_
  have h7 := getCells_new s2 (st pc q.p (rv i' l.length) (rv j' k.length)) 0
  have hT2 := getCells_push (.cells (st pc q.p (rv i' l.length) (rv j' k.length)) 0) (hG2.get hT)
  refine qV ?_
  refine o_st (l := st pc q.p (rv i' l.length) (rv j' k.length)) rfl rfl rfl rfl hT2 rfl (lets_nil (blt_no (by show b.w ≤ _; omega)) hes) (cs' := st pc q.p (rv i' l.length) (rv j' k.length)) rfl ?_
  refine eV ?_
  refine c_ret ?_
  refine fin_ret (.inl rfl) (read_cell rfl (getCells_put hT2) (st_all ..) read_nil) rfl ⟨i', j', rfl, ?_, by omega, ?_, by omega, ?_, hij⟩
  · exact (hG.trans (hG2.push _)).put_new (Nat.le_refl _) _
  · exact (hui.push _).put _ (by omega)
  · exact (huj.push _).put _ (by omega)

end Go.Vmm

namespace Go.Vmm
open Go Go.Am Go.Proofs
set_option linter.unusedSectionVars false
variable [At0]

/-- the choices that there are, as they lie -/
structure StkRow (h : List AObj) (im : Nat) (l : List (List AV)) (j g cp : Nat) : Prop where
  lo : im < j
  cap : l.length ≤ cp
  pos : 0 < cp
  ex : ∃ cs, getCells h j g = some cs ∧ cs.length = cp * 75 ∧ cs.take (l.length * 75) = l.flatten

/-- objects that are as they were -/
structure Kept (s s' : Sg) (P : Nat → Prop) : Prop where
  len : s.heap.length ≤ s'.heap.length
  same : ∀ x, x < s.heap.length → ¬ P x → s'.heap[x]? = s.heap[x]?

def StkAt (h : List AObj) (im : Nat) (l : List (List AV)) (v : AV) : Prop :=
  (l = [] ∧ v = .nilsl) ∨ ∃ j g cp, v = .ms j g 0 l.length cp 75 ∧ StkRow h im l j g cp

/-- a new choice's cells -/
structure ChOk (c : List AV) : Prop where
  st : (AV.agg c).stored = some c
  len : c.length = 75

theorem ChOk.el {c : List AV} (h : ChOk c) : (AV.agg c).storedEl = some (.agg c) := by simp only [AV.storedEl, h.st, Option.map_some]
theorem part_all {c : List AV} {n : Nat} (h : c.length = n) : partOf c 0 (some n) = some (.agg c) := by
  subst h
  simp only [partOf, Nat.zero_add]
  rw [if_pos (ble_of (Nat.le_refl _))]
  simp

theorem o_bsl1 {call : CallFn} {b : Bar} {g : Option (Nat × Bool)} {r : List AOper} {loc : Env} {fr : Fr} {s : Sg} {Q : Ex → Env → Fr → Sg → Prop} {sz t : Nat} {z : AV} {cs : List AV} {x : AOpd} (hg : wantedA loc fr.pers g = some true) (hx : x.ev loc fr.pers = some (.agg cs)) (hs : (AV.agg cs).stored = some cs) (hl : cs.length = sz)
    (hr : OkO call b r ((t, .vec [.agg cs] (.exact true)) :: loc) fr s Q) : OkO call b (⟨some t, .v (.buildSl sz z 1 [(0, x)]), g⟩ :: r) loc fr s Q := by
  subst hl
  refine o_w hg ?_ hr
  simp only [evV, fillEls, hx, Option.bind_some, AV.storedEl, hs, Option.map_some, AV.flat, Nat.beq_refl, if_true, List.replicate, setEl]

theorem flat_one (c : List AV) : flatAll [.agg c] = c := by simp [flatAll, AV.flat]
theorem allOne_of {c : List AV} (h : (AV.agg c).stored = some c) : allOne c = true := by
  change (if allOne (keptAll c) = true then some (keptAll c) else none) = some c at h
  by_cases h1 : allOne (keptAll c) = true
  · simp only [h1, if_true] at h
    rw [Option.some.inj h] at h1
    exact h1
  · simp [h1] at h
theorem sz_one {c : List AV} (h : ChOk c) : (allSize 75 [.agg c] && allOneAll [.agg c]) = true := by
  simp only [allSize, allOneAll, AV.flat, h.len, allOne_of h.st]
  rfl


/-- the first choice -/
theorem push_nil (m : Nat) (b : Bar) (s : Sg) (im ip : Nat) (q : MQ) (pcs c : List AV) (hw : b.w ≤ im) (hes : b.es = []) (hm : getCells s.heap im 0 = some (mc q)) (hq : q.stk = .nilsl) (hpr : q.pr = .ptr ip 0 0) (hp : PrOk s.heap ip pcs) (hc : ChOk c) (hco : AV.oldAll s.heap.length c = true) :
    OkF (callF T (m + 2) b 176 [.ptr im 0 0, .agg c] s) fun o s' => o = .ret (.tup []) ∧ ∃ j, s.heap.length ≤ j ∧ getCells s'.heap im 0 = some (mc { q with stk := .ms j 0 0 1 1 75 }) ∧ StkRow s'.heap im [c] j 0 1 ∧ Kept s s' (fun x => x = im) := by
  obtain ⟨pr, sb, pc, p, regs, opens, stk, kind, spans, taken⟩ := q
  dsimp only at hq hpr
  subst hq hpr
  have hi := getCells_lt hm
  (apply f_wp rfl rfl; (repeat (first | exact Shape.nil | (apply Shape.cons; conv => lhs; whnf))))
  refine qV ?_
  refine o_box (v := .agg c) (l := c) rfl rfl hc.1 ?_
  refine eV ?_
  have hm1 := getCells_push (.cells c 0) hm
  have hp1 : PrOk (s.push (.cells c 0)).heap ip pcs := ⟨getCells_push _ hp.1, hp.2, hp.3⟩
  have hC := getCells_new s c 0
  have hL := Sg.push_len s (.cells c 0)
  have hK : Kept s (s.push (.cells c 0)) (fun _ => False) := ⟨Nat.le_of_lt (by omega), fun x hx _ => Sg.push_get _ _ hx⟩
  generalize s.push (.cells c 0) = s1 at hm1 hp1 hC hL hK ⊢
  refine c_seq ?_
  refine dqqV ?_
  refine lV ?_
  refine c_skip ?_
  refine c_seq ?_
  refine dqV ?_
  refine o_call rfl rfl (groups_spec m _ s1 ip pcs hp1) ?_
  refine sV ?_
  refine dV ?_
  refine lV ?_
  refine c_skip ?_
  have hmk := getCells_keep (k := 1) hm1
  have hCk := getCells_keep (k := 1) hC
  have hpa := part_all hc.2
  refine c_drawnk ?_
  refine sV ?_
  refine o_bsl1 rfl rfl hc.1 hc.2 ?_
  refine o_fill rfl (evF_nil (ys := [.agg c]) rfl rfl rfl rfl (sz_one hc) (by simp) (ble_of (by show 1 * 1128 ≤ 2 ^ 46; omega)) keep_last ?_ (by show b.w ≤ s1.heap.length; omega) (by show allGe _ b.es = true; rw [hes]; rfl)) ?_
  · rw [flat_one, keep_len]
    exact oldAll_le (by omega) _ hco
  rw [flat_one]
  show OkO _ _ _ _ _ ((s1.keep 1).put s1.heap.length _) _
  rw [keep_put]
  have hm2 := getCells_push (.cells c 0) hm1
  refine sV ?_
  refine o_st rfl rfl rfl rfl hm2 rfl (lets_nil (blt_no hw) hes) (w_stk ..) ?_
  refine dV ?_
  refine fin_ret (.inr rfl) read_nil rfl ⟨rfl, s1.heap.length, by omega, getCells_put hm2, ⟨by omega, Nat.le_refl _, Nat.one_pos, c, getCells_put_ne (by omega) (getCells_new s1 c 0), by rw [hc.2], ?_⟩, ?_⟩
  · simp only [List.length_cons, List.length_nil, List.flatten_cons, List.flatten_nil, List.append_nil]
    rw [← hc.2]
    exact List.take_of_length_le (by omega)
  · refine ⟨by rw [Sg.put_len, Sg.push_len]; omega, fun x hx hne => ?_⟩
    rw [Sg.put_get _ _ _ hne, Sg.push_get _ _ (by omega)]
    exact hK.same x hx (fun h => h)

theorem take_flat {c : List AV} {l : List (List AV)} {cs : List AV} {n : Nat} (hc : c.length = 75) (hn : cs.length = n * 75) (h : cs.take (n * 75) = l.flatten) (hl : l.length = n) : (cs ++ c).take ((l ++ [c]).length * 75) = (l ++ [c]).flatten := by
  rw [List.flatten_append, ← h, List.take_of_length_le (by simp [hn, hc, hl]; omega), List.take_of_length_le (by omega)]
  simp

theorem write_room {c cs : List AV} {n : Nat} (h : n + c.length ≤ cs.length) : writeAt cs n c = some (cs.take n ++ (c ++ cs.drop (n + c.length))) := by
  have h1 : cs = cs.take n ++ ((cs.drop n).take c.length ++ cs.drop (n + c.length)) := by
    conv => lhs; rw [← List.take_append_drop n cs, ← List.take_append_drop c.length (cs.drop n)]
    rw [List.drop_drop]
  have h2 := writeAt_in (cs.take n) ((cs.drop n).take c.length) (cs.drop (n + c.length)) c (by simp; omega)
  rw [← h1, List.length_take, Nat.min_eq_left (by omega)] at h2
  exact h2


/-- one more choice -/
theorem push_row (m : Nat) (b : Bar) (s : Sg) (im ip : Nat) (q : MQ) (pcs c : List AV) (l : List (List AV)) (j g cp : Nat) (hw : b.w ≤ im) (hes : b.es = []) (hm : getCells s.heap im 0 = some (mc q)) (hq : q.stk = .ms j g 0 l.length cp 75) (hst : StkRow s.heap im l j g cp) (hn : l.length < 100000) (hpr : q.pr = .ptr ip 0 0) (hp : PrOk s.heap ip pcs) (hc : ChOk c) :
    OkF (callF T (m + 2) b 176 [.ptr im 0 0, .agg c] s) fun o s' => o = .ret (.tup []) ∧ ∃ g' cp', getCells s'.heap im 0 = some (mc { q with stk := .ms j g' 0 (l ++ [c]).length cp' 75 }) ∧ StkRow s'.heap im (l ++ [c]) j g' cp' ∧ Kept s s' (fun x => x = im ∨ x = j) := by
  obtain ⟨pr, sb, pc, p, regs, opens, stk, kind, spans, taken⟩ := q
  dsimp only at hq hpr
  subst hq hpr
  have hi := getCells_lt hm
  obtain ⟨hlo, hcap, hpos, cs, hcs, hcl, hct⟩ := hst
  have hj := getCells_lt hcs
  (apply f_wp rfl rfl; (repeat (first | exact Shape.nil | (apply Shape.cons; conv => lhs; whnf))))
  refine qV ?_
  refine o_box (v := .agg c) (l := c) rfl rfl hc.1 ?_
  refine eV ?_
  have hm1 := getCells_push (.cells c 0) hm
  have hp1 : PrOk (s.push (.cells c 0)).heap ip pcs := ⟨getCells_push _ hp.1, hp.2, hp.3⟩
  have hC := getCells_new s c 0
  have hL := Sg.push_len s (.cells c 0)
  have hK : Kept s (s.push (.cells c 0)) (fun _ => False) := ⟨Nat.le_of_lt (by omega), fun x hx _ => Sg.push_get _ _ hx⟩
  have hcs1 := getCells_push (.cells c 0) hcs
  generalize s.push (.cells c 0) = s1 at hm1 hp1 hC hL hK hcs1 ⊢
  refine c_seq ?_
  refine dqqV ?_
  refine lV ?_
  refine c_skip ?_
  refine c_seq ?_
  refine dqV ?_
  refine o_call rfl rfl (groups_spec m _ s1 ip pcs hp1) ?_
  refine sV ?_
  refine dV ?_
  refine lV ?_
  refine c_skip ?_
  have hmk := getCells_keep (k := 1) hm1
  have hCk := getCells_keep (k := 1) hC
  have hsk := getCells_keep (k := 1) hcs1
  have hpa := part_all hc.2
  refine c_drawnk ?_
  refine sV ?_
  refine o_bsl1 rfl rfl hc.1 hc.2 ?_
  by_cases hf : l.length = cp
  · refine o_fill rfl (evF_ms (ys := [.agg c]) rfl rfl rfl rfl (sz_one hc) (ble_of (by show (l.length + 1) * 1128 ≤ 2 ^ 46; omega)) rfl (lets_nil (blt_no (by show b.w ≤ j; omega)) hes) hsk (by rw [hcl, hf]; exact Nat.beq_refl _)) ?_
    rw [flat_one, put_keep (by omega)]
    have hm2 := getCells_keep (k := 1) (getCells_put_ne (i := j) (o := .cells (cs ++ c) (g + 1)) (by omega) hm1)
    have hs2 := getCells_keep (k := 1) (getCells_put (cs' := cs ++ c) (g' := g + 1) hcs1)
    refine sV ?_
    refine o_st rfl rfl rfl rfl hm2 rfl (lets_nil (blt_no hw) hes) (w_stk ..) ?_
    refine dV ?_
    have hla : (l ++ [c]).length = l.length + 1 := by simp
    refine fin_ret (.inr rfl) read_nil rfl ⟨rfl, g + 1, l.length + 1, ?_, ⟨hlo, by omega, by omega, cs ++ c, getCells_put_ne (by omega) hs2, by rw [List.length_append, hcl, hc.2, hf]; omega, ?_⟩, ?_⟩
    · rw [hla]
      exact getCells_put hm2
    · exact take_flat hc.2 (by rw [hcl, ← hf]) hct rfl
    · refine ⟨by rw [Sg.put_len, keep_len, Sg.put_len]; omega, fun x hx hne => ?_⟩
      rw [Sg.put_get _ _ _ (by omega), keep_get (by rw [Sg.put_len]; omega), Sg.put_get _ _ _ (by omega)]
      exact hK.same x hx (fun h => h)
  · have hlt : l.length < cp := by omega
    have hc2 : c.length = 75 := hc.2
    have hln : l.length * 75 + c.length ≤ cs.length := by rw [hcl, hc.2]; omega
    have hwr := write_room hln
    refine o_fill rfl (evF_room (ys := [.agg c]) rfl rfl rfl rfl (sz_one hc) (ble_of (by show (l.length + 1) * 1128 ≤ 2 ^ 46; omega)) rfl (lets_nil (blt_no (by show b.w ≤ j; omega)) hes) hsk (beq_no (by rw [hcl]; omega)) (ble_of (by show l.length + 1 ≤ cp; omega)) (by rw [flat_one, Nat.zero_add]; exact hwr)) ?_
    rw [put_keep (by omega)]
    have hm2 := getCells_keep (k := 1) (getCells_put_ne (i := j) (o := .cells (cs.take (l.length * 75) ++ (c ++ cs.drop (l.length * 75 + c.length))) g) (by omega) hm1)
    have hs2 := getCells_keep (k := 1) (getCells_put (cs' := cs.take (l.length * 75) ++ (c ++ cs.drop (l.length * 75 + c.length))) (g' := g) hcs1)
    refine sV ?_
    refine o_st rfl rfl rfl rfl hm2 rfl (lets_nil (blt_no hw) hes) (w_stk ..) ?_
    refine dV ?_
    have hla : (l ++ [c]).length = l.length + 1 := by simp
    refine fin_ret (.inr rfl) read_nil rfl ⟨rfl, g, cp, ?_, ⟨hlo, by omega, by omega, cs.take (l.length * 75) ++ (c ++ cs.drop (l.length * 75 + c.length)), getCells_put_ne (by omega) hs2, ?_, ?_⟩, ?_⟩
    · rw [hla]
      exact getCells_put hm2
    · simp only [List.length_append, List.length_take, List.length_drop]
      omega
    · rw [hla, List.flatten_append, ← hct, ← List.append_assoc, List.take_append_of_le_length (by simp only [List.length_append, List.length_take]; omega), List.take_of_length_le (by simp only [List.length_append, List.length_take]; omega)]
      simp
    · refine ⟨by rw [Sg.put_len, keep_len, Sg.put_len]; omega, fun x hx hne => ?_⟩
      rw [Sg.put_get _ _ _ (by omega), keep_get (by rw [Sg.put_len]; omega), Sg.put_get _ _ _ (by omega)]
      exact hK.same x hx (fun h => h)

end Go.Vmm

namespace Go.Vmm
open Go Go.Am Go.Proofs
set_option linter.unusedSectionVars false
variable [At0]

/-- a choice -/
inductive Ch where
  | tr (pc p : Int) (i j : Nat) (l k : List Int)
  | bar

def Ch.cs : Ch → List AV
  | .tr pc p i j l k => [.int .i64 0, .int .i64 pc, .int .i64 p, .int .i64 (At0.a : Nat), .int .i64 0, .cplx .f64 0 0, .cplx .f64 0 0, .cplx .f64 0 0, .cplx .f64 0 0, .cplx .f64 0 0, .cplx .f64 0 0, .cplx .f64 0 0, .cplx .f64 0 0, .cplx .f64 0 0, .cplx .f64 0 0, .cplx .f64 0 0, .cplx .f64 0 0, .cplx .f64 0 0, .cplx .f64 0 0, .cplx .f64 0 0, .cplx .f64 0 0, .cplx .f64 0 0, .cplx .f64 0 0, .cplx .f64 0 0, .cplx .f64 0 0, .cplx .f64 0 0, .cplx .f64 0 0, .cplx .f64 0 0, .cplx .f64 0 0, .cplx .f64 0 0, .cplx .f64 0 0, .cplx .f64 0 0, .cplx .f64 0 0, .cplx .f64 0 0, .cplx .f64 0 0, .cplx .f64 0 0, .cplx .f64 0 0, .cplx .f64 0 0, .cplx .f64 0 0, .cplx .f64 0 0, .cplx .f64 0 0, .cplx .f64 0 0, .cplx .f64 0 0, .cplx .f64 0 0, .cplx .f64 0 0, .cplx .f64 0 0, .cplx .f64 0 0, .cplx .f64 0 0, .cplx .f64 0 0, .cplx .f64 0 0, .cplx .f64 0 0, .cplx .f64 0 0, .cplx .f64 0 0, .cplx .f64 0 0, .cplx .f64 0 0, .cplx .f64 0 0, .cplx .f64 0 0, .cplx .f64 0 0, .cplx .f64 0 0, .cplx .f64 0 0, .cplx .f64 0 0, .cplx .f64 0 0, .cplx .f64 0 0, .cplx .f64 0 0, .cplx .f64 0 0, .cplx .f64 0 0, .str [], .nilptr, .int .i64 (-1), .int .i64 (-1), .nilptr, rv i l.length, rv j k.length, .int .i64 0, .int .i64 0]
  | .bar => [.int .i64 2, .int .i64 0, .int .i64 0, .int .i64 0, .int .i64 0, .cplx .f64 0 0, .cplx .f64 0 0, .cplx .f64 0 0, .cplx .f64 0 0, .cplx .f64 0 0, .cplx .f64 0 0, .cplx .f64 0 0, .cplx .f64 0 0, .cplx .f64 0 0, .cplx .f64 0 0, .cplx .f64 0 0, .cplx .f64 0 0, .cplx .f64 0 0, .cplx .f64 0 0, .cplx .f64 0 0, .cplx .f64 0 0, .cplx .f64 0 0, .cplx .f64 0 0, .cplx .f64 0 0, .cplx .f64 0 0, .cplx .f64 0 0, .cplx .f64 0 0, .cplx .f64 0 0, .cplx .f64 0 0, .cplx .f64 0 0, .cplx .f64 0 0, .cplx .f64 0 0, .cplx .f64 0 0, .cplx .f64 0 0, .cplx .f64 0 0, .cplx .f64 0 0, .cplx .f64 0 0, .cplx .f64 0 0, .cplx .f64 0 0, .cplx .f64 0 0, .cplx .f64 0 0, .cplx .f64 0 0, .cplx .f64 0 0, .cplx .f64 0 0, .cplx .f64 0 0, .cplx .f64 0 0, .cplx .f64 0 0, .cplx .f64 0 0, .cplx .f64 0 0, .cplx .f64 0 0, .cplx .f64 0 0, .cplx .f64 0 0, .cplx .f64 0 0, .cplx .f64 0 0, .cplx .f64 0 0, .cplx .f64 0 0, .cplx .f64 0 0, .cplx .f64 0 0, .cplx .f64 0 0, .cplx .f64 0 0, .cplx .f64 0 0, .cplx .f64 0 0, .cplx .f64 0 0, .cplx .f64 0 0, .cplx .f64 0 0, .cplx .f64 0 0, .str [], .nilptr, .int .i64 0, .int .i64 0, .nilptr, .nilsl, .nilsl, .int .i64 0, .int .i64 0]

theorem Ch.ok : ∀ c : Ch, ChOk c.cs
  | .tr .. => ⟨rfl, rfl⟩
  | .bar => ⟨rfl, rfl⟩

/-- the rows of a choice -/
def Ch.ids : Ch → List Nat
  | .tr _ _ i j _ _ => [i, j]
  | .bar => []

def Ch.at (h : List AObj) : Ch → Prop
  | .tr _ _ i j l k => IsRow h i l ∧ IsRow h j k
  | .bar => True

def idsOf (stk : List Ch) : List Nat := stk.flatMap Ch.ids

theorem IsRow.kept {s s' : Sg} {i : Nat} {l : List Int} {P : Nat → Prop} (h : IsRow s.heap i l) (hk : Kept s s' P) (hi : ¬ P i) : IsRow s'.heap i l := ⟨h.1, h.2, getCells_at h.3 (hk.same i (getCells_lt h.3) hi)⟩
theorem Ch.at.kept {s s' : Sg} {P : Nat → Prop} (hk : Kept s s' P) : ∀ {c : Ch}, c.at s.heap → (∀ x ∈ c.ids, ¬ P x) → c.at s'.heap
  | .tr .., h, hp => ⟨h.1.kept hk (hp _ (by simp [Ch.ids])), h.2.kept hk (hp _ (by simp [Ch.ids]))⟩
  | .bar, _, _ => trivial

theorem Ch.old {h : List AObj} : ∀ {c : Ch}, c.at h → AV.oldAll h.length c.cs = true
  | .tr pc p i j l k, ⟨h1, h2⟩ => by
    have a := getCells_lt h1.3
    have b := getCells_lt h2.3
    have ha : Nat.blt i h.length = true := Nat.ble_eq_true_of_le a
    have hb : Nat.blt j h.length = true := Nat.ble_eq_true_of_le b
    simp only [Ch.cs, AV.oldAll, AV.old, ha, hb, Bool.and_self]
  | .bar, _ => by simp only [Ch.cs, AV.oldAll, AV.old, Bool.and_self]

/-- a program that is run: its cells, its instructions, its sets; other objects, that stay as they are -/
structure PG where
  cs : List AV
  ins : List In
  pool : List AV
  ext : List (Nat × List AV)

/-- where its instructions and sets lie -/
structure Pg (h : List AObj) (im : Nat) (g : PG) : Prop where
  code : ∃ j v, g.cs[0]? = some (.ms j v 0 g.ins.length g.ins.length 7) ∧ j < im ∧ getCells h j v = some (g.ins.map In.cs).flatten
  pool : ∃ j v, g.cs[1]? = some (.ms j v 0 g.pool.length g.pool.length 1) ∧ j < im ∧ getCells h j v = some g.pool

theorem Pg.kept {s s' : Sg} {im : Nat} {g : PG} {P : Nat → Prop} (h : Pg s.heap im g) (hk : Kept s s' P) (hp : ∀ x, x < im → ¬ P x) : Pg s'.heap im g := by
  obtain ⟨⟨j, v, h1, h2, h3⟩, ⟨j', v', h4, h5, h6⟩⟩ := h
  exact ⟨⟨j, v, h1, h2, getCells_at h3 (hk.same _ (getCells_lt h3) (hp _ h2))⟩, ⟨j', v', h4, h5, getCells_at h6 (hk.same _ (getCells_lt h6) (hp _ h5))⟩⟩

/-- a machine at its work -/
structure VM (s : Sg) (im ip : Nat) (pcs : PG) (q : MQ) (ri oi : Nat) (l k : List Int) (stk : List Ch) : Prop where
  hm : getCells s.heap im 0 = some (mc q)
  pr : q.pr = .ptr ip 0 0
  po : PrOk s.heap ip pcs.cs
  pg : Pg s.heap im pcs
  lo : ip < im
  rg : q.regs = rv ri l.length
  op : q.opens = rv oi k.length
  hr : IsRow s.heap ri l
  ho : IsRow s.heap oi k
  st : StkAt s.heap im (stk.map Ch.cs) q.stk
  ch : ∀ c ∈ stk, c.at s.heap
  nd : (ri :: oi :: idsOf stk).Nodup
  ids : ∀ x ∈ ri :: oi :: idsOf stk, im < x ∧ heapRef q.stk ≠ some x
  ex : ∀ p ∈ pcs.ext, getCells s.heap p.1 0 = some p.2 ∧ p.1 ≠ im ∧ p.1 ∉ ri :: oi :: idsOf stk ∧ heapRef q.stk ≠ some p.1

theorem StkAt.kept {s s' : Sg} {im : Nat} {l : List (List AV)} {v : AV} {P : Nat → Prop} (h : StkAt s.heap im l v) (hk : Kept s s' P) (hp : ∀ x, im < x → heapRef v = some x → ¬ P x) : StkAt s'.heap im l v := by
  rcases h with h | ⟨j, g, cp, rfl, h1, h2, h3, cs, h4, h5⟩
  · exact .inl h
  · exact .inr ⟨j, g, cp, rfl, h1, h2, h3, cs, getCells_at h4 (hk.same j (getCells_lt h4) (hp j h1 rfl)), h5⟩

theorem mem_ids {stk : List Ch} {c : Ch} (hc : c ∈ stk) {x : Nat} (hx : x ∈ c.ids) : x ∈ idsOf stk := List.mem_flatMap.mpr ⟨c, hc, hx⟩

/-- what is written into the machine itself -/
theorem VM.move {s s' : Sg} {im ip : Nat} {pcs : PG} {q q' : MQ} {ri oi : Nat} {l k : List Int} {stk : List Ch} (h : VM s im ip pcs q ri oi l k stk) (hk : Kept s s' (fun x => x = im)) (hm : getCells s'.heap im 0 = some (mc q')) (h1 : q'.pr = q.pr) (h2 : q'.regs = q.regs) (h3 : q'.opens = q.opens) (h4 : q'.stk = q.stk) : VM s' im ip pcs q' ri oi l k stk where
  hm := hm
  pr := h1.trans h.pr
  po := ⟨getCells_at h.po.1 (hk.same _ (getCells_lt h.po.1) (by have := h.lo; omega)), h.po.2, h.po.3⟩
  pg := h.pg.kept hk fun x hx => by omega
  lo := h.lo
  rg := h2.trans h.rg
  op := h3.trans h.op
  hr := h.hr.kept hk (by have := (h.ids ri (by simp)).1; omega)
  ho := h.ho.kept hk (by have := (h.ids oi (by simp)).1; omega)
  st := by
    rw [h4]
    exact h.st.kept hk fun x hx _ => by omega
  ch c hc := (h.ch c hc).kept hk fun x hx => by
    have := (h.ids x (List.mem_cons_of_mem _ (List.mem_cons_of_mem _ (mem_ids hc hx)))).1
    omega
  nd := h.nd
  ids := by
    rw [h4]
    exact h.ids
  ex p hp := by
    obtain ⟨a, b, c, d⟩ := h.ex p hp
    exact ⟨getCells_at a (hk.same _ (getCells_lt a) b), b, c, by rw [h4]; exact d⟩

/-- what comes to be, alone -/
theorem Kept.none {s s' : Sg} {P : Nat → Prop} (h : Kept s s' fun _ => False) : Kept s s' P := ⟨h.len, fun x hx _ => h.same x hx fun e => e⟩
theorem _root_.Go.Am.Grow.kept {s s' : Sg} {P : Nat → Prop} (h : Grow s s') : Kept s s' P := ⟨h.len, fun _ hx _ => h.at hx⟩
theorem Kept.put {s : Sg} {i : Nat} {o : AObj} : Kept s (s.put i o) (fun x => x = i) := ⟨by rw [Sg.put_len]; exact Nat.le_refl _, fun x _ hn => Sg.put_get _ _ _ hn⟩
theorem Kept.trans {s s' s'' : Sg} {P : Nat → Prop} (h : Kept s s' P) (h' : Kept s' s'' P) : Kept s s'' P := ⟨Nat.le_trans h.len h'.len, fun x hx hp => (h'.same x (Nat.lt_of_lt_of_le hx h.len) hp).trans (h.same x hx hp)⟩
theorem Kept.mono {s s' : Sg} {P P' : Nat → Prop} (h : Kept s s' P) (hp : ∀ x, P x → P' x) : Kept s s' P' := ⟨h.len, fun x hx hn => h.same x hx fun e => hn (hp x e)⟩

theorem VM.grow {s s' : Sg} {im ip : Nat} {pcs : PG} {q : MQ} {ri oi : Nat} {l k : List Int} {stk : List Ch} (h : VM s im ip pcs q ri oi l k stk) (hk : Grow s s') : VM s' im ip pcs q ri oi l k stk := h.move hk.kept (hk.get h.hm) rfl rfl rfl rfl

/-- what is written into the thread's row -/
theorem VM.reg {s s' : Sg} {im ip : Nat} {pcs : PG} {q : MQ} {ri oi : Nat} {l l' k : List Int} {stk : List Ch} (h : VM s im ip pcs q ri oi l k stk) (hk : Kept s s' (fun x => x = ri)) (hr : getCells s'.heap ri 0 = some (ints l')) (hl : l'.length = l.length) : VM s' im ip pcs q ri oi l' k stk where
  hm := getCells_at h.hm (hk.same _ (getCells_lt h.hm) (by have := (h.ids ri (by simp)).1; omega))
  pr := h.pr
  po := ⟨getCells_at h.po.1 (hk.same _ (getCells_lt h.po.1) (by have := h.lo; have := (h.ids ri (by simp)).1; omega)), h.po.2, h.po.3⟩
  pg := h.pg.kept hk fun x hx => by have := (h.ids ri (by simp)).1; omega
  lo := h.lo
  rg := by rw [h.rg, hl]
  op := h.op
  hr := ⟨fun e => h.hr.1 (List.length_eq_zero_iff.mp (by rw [← hl, e]; rfl)), by rw [hl]; exact h.hr.2, hr⟩
  ho := h.ho.kept hk (by have := h.nd; simp at this; omega)
  st := h.st.kept hk fun x hx e e' => (h.ids ri (by simp)).2 (by rw [e, e'])
  ch c hc := (h.ch c hc).kept hk fun x hx e => by
    have h1 := h.nd
    rw [List.nodup_cons] at h1
    exact h1.1 (e ▸ List.mem_cons_of_mem _ (mem_ids hc hx))
  nd := h.nd
  ids := h.ids
  ex p hp := by
    obtain ⟨a, b, c, d⟩ := h.ex p hp
    exact ⟨getCells_at a (hk.same _ (getCells_lt a) (fun e => c (by rw [e]; exact List.mem_cons_self))), b, c, d⟩

/-- a choice more -/
theorem push_spec (m : Nat) (b : Bar) (s : Sg) (im ip : Nat) (q : MQ) (pcs : PG) (ri oi : Nat) (l k : List Int) (stk : List Ch) (c : Ch) (hw : b.w ≤ im) (hes : b.es = []) (h : VM s im ip pcs q ri oi l k stk) (hn : stk.length < 100000) (hc : c.at s.heap) (hci : ∀ x ∈ c.ids, im < x ∧ heapRef q.stk ≠ some x) (hnd : (ri :: oi :: (idsOf stk ++ c.ids)).Nodup) (hcx : ∀ p ∈ pcs.ext, p.1 ∉ c.ids) :
    OkF (callF T (m + 2) b 176 [.ptr im 0 0, .agg c.cs] s) fun o s' => o = .ret (.tup []) ∧ Kept s s' (fun x => x = im ∨ heapRef q.stk = some x) ∧ ∃ v, VM s' im ip pcs { q with stk := v } ri oi l k (stk ++ [c]) := by
  have key : ∀ s' v, getCells s'.heap im 0 = some (mc { q with stk := v }) → StkAt s'.heap im ((stk ++ [c]).map Ch.cs) v → Kept s s' (fun x => x = im ∨ heapRef q.stk = some x) → (heapRef v = heapRef q.stk ∨ ∃ y, heapRef v = some y ∧ s.heap.length ≤ y) → VM s' im ip pcs { q with stk := v } ri oi l k (stk ++ [c]) := by
    intro s' v h1 h2 h3 h4
    have hids : ∀ x ∈ ri :: oi :: (idsOf stk ++ c.ids), im < x ∧ heapRef q.stk ≠ some x := by
      intro x hx
      rcases List.mem_cons.mp hx with rfl | hx
      · exact h.ids _ (by simp)
      rcases List.mem_cons.mp hx with rfl | hx
      · exact h.ids _ (by simp)
      rcases List.mem_append.mp hx with hx | hx
      · exact h.ids _ (List.mem_cons_of_mem _ (List.mem_cons_of_mem _ hx))
      · exact hci x hx
    have hnp : ∀ x, im < x ∧ heapRef q.stk ≠ some x → ¬ (x = im ∨ heapRef q.stk = some x) := fun x hx e => by
      rcases e with e | e
      · omega
      · exact hx.2 e
    have hch : ∀ c' ∈ stk ++ [c], c'.at s.heap := fun c' hc' => by
      rcases List.mem_append.mp hc' with h5 | h5
      · exact h.ch c' h5
      · rw [List.mem_singleton.mp h5]; exact hc
    have hidl : ∀ x ∈ ri :: oi :: (idsOf stk ++ c.ids), x < s.heap.length := by
      intro x hx
      rcases List.mem_cons.mp hx with rfl | hx
      · exact getCells_lt h.hr.3
      rcases List.mem_cons.mp hx with rfl | hx
      · exact getCells_lt h.ho.3
      have : x ∈ idsOf (stk ++ [c]) := by simpa [idsOf] using hx
      obtain ⟨c', hc', hx'⟩ := List.mem_flatMap.mp this
      have hat := hch c' hc'
      cases c' with
      | tr pc p i j l k =>
        rcases List.mem_cons.mp hx' with rfl | hx'
        · exact getCells_lt hat.1.3
        · rw [List.mem_singleton.mp hx']; exact getCells_lt hat.2.3
      | bar => cases hx'
    have hio : idsOf (stk ++ [c]) = idsOf stk ++ c.ids := by simp [idsOf]
    have hlow : ∀ x, x < im → ¬ (x = im ∨ heapRef q.stk = some x) := fun x hx => by
      rintro (e | e)
      · omega
      · rcases h.st with ⟨_, e2⟩ | ⟨j, g, cp, e2, e3⟩
        · rw [e2] at e; cases e
        · rw [e2] at e
          cases e
          have := e3.lo
          omega
    refine ⟨h1, h.pr, ⟨getCells_at h.po.1 (h3.same _ (getCells_lt h.po.1) (hlow _ h.lo)), h.po.2, h.po.3⟩, h.pg.kept h3 hlow, h.lo, h.rg, h.op, h.hr.kept h3 (hnp _ (hids _ (by simp))), h.ho.kept h3 (hnp _ (hids _ (by simp))), h2, fun c' hc' => (hch c' hc').kept h3 fun x hx => hnp _ (hids x ?_), by rw [hio]; exact hnd, ?_, ?_⟩
    · have := mem_ids hc' hx
      rw [hio] at this
      exact List.mem_cons_of_mem _ (List.mem_cons_of_mem _ this)
    · rw [hio]
      intro x hx
      refine ⟨(hids x hx).1, fun e => ?_⟩
      rcases h4 with h4 | ⟨y, h4, h5⟩
      · exact (hids x hx).2 (by rw [← h4]; exact e)
      · rw [h4] at e
        cases e
        have := hidl x hx
        omega
    · rw [hio]
      intro p hp
      obtain ⟨a, b, c, d⟩ := h.ex p hp
      refine ⟨getCells_at a (h3.same _ (getCells_lt a) (fun e => by rcases e with e | e; · exact b e
                                                                    · exact d e)), b, fun hm => ?_, fun e => ?_⟩
      · rcases List.mem_cons.mp hm with hm | hm
        · exact c (by rw [hm]; exact List.mem_cons_self)
        rcases List.mem_cons.mp hm with hm | hm
        · exact c (by rw [hm]; simp)
        rcases List.mem_append.mp hm with hm | hm
        · exact c (List.mem_cons_of_mem _ (List.mem_cons_of_mem _ hm))
        · exact hcx p hp hm
      · rcases h4 with h4 | ⟨y, h4, h5⟩
        · exact d (by rw [← h4]; exact e)
        · rw [h4] at e
          cases e
          have := getCells_lt a
          omega
  rcases h.st with ⟨h1, h2⟩ | ⟨j, g, cp, h1, h2⟩
  · have hs : stk = [] := List.map_eq_nil_iff.mp h1
    subst hs
    refine (push_nil m b s im ip q pcs.cs c.cs hw hes h.hm h2 h.pr h.po c.ok (Ch.old hc)).mono ?_
    rintro o s' ⟨rfl, j, hj, h3, h4, h5⟩
    have hk := h5.mono (P' := fun x => x = im ∨ heapRef q.stk = some x) fun x e => .inl e
    exact ⟨rfl, hk, _, key s' _ h3 (.inr ⟨j, 0, 1, rfl, h4⟩) hk (.inr ⟨j, rfl, hj⟩)⟩
  · refine (push_row m b s im ip q pcs.cs c.cs (stk.map Ch.cs) j g cp hw hes h.hm h1 h2 (by simpa using hn) h.pr h.po c.ok).mono ?_
    rintro o s' ⟨rfl, g', cp', h3, h4, h5⟩
    have hk := h5.mono (P' := fun x => x = im ∨ heapRef q.stk = some x) fun x e => by
      rcases e with e | e
      · exact .inl e
      · exact .inr (by rw [h1, e]; rfl)
    exact ⟨rfl, hk, _, key s' _ h3 (.inr ⟨j, g', cp', by simp, by simpa using h4⟩) hk (.inl (by rw [h1]; rfl))⟩

end Go.Vmm

namespace Go.Vmm
open Go Go.Am Go.Proofs
set_option linter.unusedSectionVars false
variable [At0]

theorem part_ints {l : List Int} {j : Nat} {n : Int} (h : l[j]? = some n) : partOf (ints l) (0 + j * 1) none = some (.int .i64 n) := by
  simp only [partOf, Nat.zero_add, Nat.mul_one, ints, List.getElem?_map, h, Option.map_some]

theorem write_ints {l : List Int} {j : Nat} {n : Int} (h : j < l.length) : writeAt (ints l) (0 + j * 1) [.int .i64 n] = some (ints (l.set j n)) := by
  rw [Nat.zero_add, Nat.mul_one]
  induction l generalizing j with
  | nil => exact absurd h (by simp)
  | cons a r ih =>
    cases j with
    | zero => 
      simp only [ints, List.map_cons, writeAt, List.set_cons_zero]
      cases r <;> rfl
    | succ j =>
      have := ih (j := j) (by simpa using h)
      simp only [ints, List.map_cons, writeAt, List.set_cons_succ] at this ⊢
      rw [this]; rfl

theorem VM.ids_lt {s : Sg} {im ip : Nat} {pcs : PG} {q : MQ} {ri oi : Nat} {l k : List Int} {stk : List Ch} (h : VM s im ip pcs q ri oi l k stk) : ∀ x ∈ ri :: oi :: idsOf stk, x < s.heap.length := by
  intro x hx
  rcases List.mem_cons.mp hx with rfl | hx
  · exact getCells_lt h.hr.3
  rcases List.mem_cons.mp hx with rfl | hx
  · exact getCells_lt h.ho.3
  obtain ⟨c', hc', hx'⟩ := List.mem_flatMap.mp hx
  have hat := h.ch c' hc'
  cases c' with
  | tr pc p i j l k =>
    rcases List.mem_cons.mp hx' with rfl | hx'
    · exact getCells_lt hat.1.3
    · rw [List.mem_singleton.mp hx']; exact getCells_lt hat.2.3
  | bar => cases hx'

theorem VM.ref_lt {s : Sg} {im ip : Nat} {pcs : PG} {q : MQ} {ri oi : Nat} {l k : List Int} {stk : List Ch} (h : VM s im ip pcs q ri oi l k stk) {y : Nat} (hy : heapRef q.stk = some y) : y < s.heap.length := by
  rcases h.st with ⟨_, e2⟩ | ⟨j, g, cp, e2, e3⟩
  · rw [e2] at hy; cases hy
  · rw [e2] at hy
    cases hy
    obtain ⟨cs, h1, _⟩ := e3.ex
    exact getCells_lt h1

/-- a choice of new rows -/
theorem VM.fresh {s : Sg} {im ip : Nat} {pcs : PG} {q : MQ} {ri oi : Nat} {l k : List Int} {stk : List Ch} (h : VM s im ip pcs q ri oi l k stk) {i j : Nat} (hi : s.heap.length ≤ i) (hj : s.heap.length ≤ j) (hij : i ≠ j) :
    (∀ x ∈ [i, j], im < x ∧ heapRef q.stk ≠ some x) ∧ (ri :: oi :: (idsOf stk ++ [i, j])).Nodup ∧ ∀ p ∈ pcs.ext, p.1 ∉ [i, j] := by
  have hm := getCells_lt h.hm
  refine ⟨fun x hx => ?_, ?_, fun p hp hx => ?_⟩
  · have hx' : s.heap.length ≤ x := by
      rcases List.mem_cons.mp hx with rfl | hx
      · exact hi
      · rw [List.mem_singleton.mp hx]; exact hj
    exact ⟨by omega, fun e => by have := h.ref_lt e; omega⟩
  · show ((ri :: oi :: idsOf stk) ++ [i, j]).Nodup
    refine List.nodup_append.mpr ⟨h.nd, by simp [hij], fun a ha b hb e => ?_⟩
    have h1 := h.ids_lt a ha
    rcases List.mem_cons.mp hb with rfl | hb
    · omega
    · rw [List.mem_singleton.mp hb] at e; omega
  · have := getCells_lt (h.ex p hp).1
    rcases List.mem_cons.mp hx with e | hx
    · omega
    · have := List.mem_singleton.mp hx; omega

/-- a repetition that takes one more, if it can, else goes on -/
theorem rep_greedy (m : Nat) (b : Bar) (s : Sg) (im ip : Nat) (q : MQ) (pcs : PG) (ri oi : Nat) (l k : List Int) (stk : List Ch) (a b' c : Int) (R : Nat) (n was : Int) (hw : b.w ≤ im) (hes : b.es = []) (h : VM s im ip pcs q ri oi l k stk) (hn : stk.length < 100000) (hn0 : 0 ≤ n) (hn1 : n < 100000) (hR : R < 1000) (h1 : l[R]? = some n) (h2 : l[R + 1]? = some was) (ha : a ≤ n) (hb : n ≠ b') (hp : n ≤ 0 ∨ was ≠ q.p) :
    OkF (callF T (m + 4) b 179 [.ptr im 0 0, (⟨22, a, b', c, R, false⟩ : In).av] s) fun o s' => o = .ret (.tup []) ∧ s.heap.length ≤ s'.heap.length ∧ ∃ v i' j', VM s' im ip pcs { q with stk := v } ri oi ((l.set R (n + 1)).set (R + 1) q.p) k (stk ++ [.tr c q.p i' j' l k]) := by
  have hi := getCells_lt h.hm
  have hl1 := lt_of_getElem? h1
  have hl2 := lt_of_getElem? h2
  (apply f_wp rfl rfl; (repeat (first | exact Shape.nil | (apply Shape.cons; conv => lhs; whnf))))
  refine qV ?_
  refine o_box (v := (⟨22, a, b', c, R, false⟩ : In).av) (l := (⟨22, a, b', c, R, false⟩ : In).cs) rfl rfl rfl ?_
  refine eV ?_
  have hB := getCells_new s (⟨22, a, b', c, R, false⟩ : In).cs 0
  have hG := (Grow.refl s).push (.cells (⟨22, a, b', c, R, false⟩ : In).cs 0)
  have hV := h.grow hG
  have hL := Sg.push_len s (.cells (⟨22, a, b', c, R, false⟩ : In).cs 0)
  generalize s.push (.cells (⟨22, a, b', c, R, false⟩ : In).cs 0) = s1 at hB hG hV hL ⊢
  have hm1 := hV.hm
  have hri := (h.ids ri (by simp)).1
  have hrl := getCells_lt h.hr.3
  have hbx : ¬ (s.heap.length = im ∨ heapRef q.stk = some s.heap.length) := fun e => by
    rcases e with e | e
    · omega
    · have := h.ref_lt e; omega
  have hr1 := hV.hr.3
  obtain ⟨pr, sb, pc, p, regs, opens, sv, kind, spans, taken⟩ := q
  obtain rfl : regs = rv ri l.length := h.rg
  have hp1 := part_ints h1
  have hp2 := part_ints h2
  refine qqV ?_
  refine c_seq ?_
  refine dqV ?_
  refine o_ixms (j := R) rfl rfl rfl rfl hl1 hr1 rfl ?_
  refine sV ?_
  refine o_ixms (j := R + 1) (z := (R : Int) + 1) rfl rfl rfl (by omega) hl2 hr1 rfl ?_
  refine sV ?_
  refine dV ?_
  have hwas : n ≤ 0 ∨ (n > 0 ∧ was ≠ p) := by
    rcases Int.lt_or_le 0 n with h5 | h5
    · exact .inr ⟨h5, by rcases hp with h6 | h6; · omega
                         · exact h6⟩
    · exact .inl h5
  rcases hwas with hz | ⟨hz, hp⟩
  · refine qqV ?_
    refine lV ?_
    refine c_skip ?_
    refine qqV ?_
    refine c_seq ?_
    refine qqV ?_
    refine iV ?_
    refine qV ?_
    refine o_callw (l := [.ptr im 0 0, .int .i64 c]) rfl rfl ((at_spec m _ s1 im _ ri oi l k c (by show b.w ≤ _; omega) hes hm1 rfl hV.op hV.hr hV.ho).mono ?_)
    rintro _ s2 ⟨i', j', rfl, hG2, hi', hI, hj', hJ, hij⟩
    change OkO _ _ _ _ _ _ _
    have hV2 := hV.grow hG2
    have hL2 := hG2.len
    have hfr := hV.fresh hi' hj' hij
    refine o_w (v := .agg (Ch.tr c p i' j' l k).cs) rfl rfl ?_
    refine o_callw (l := [.ptr im 0 0, .agg (Ch.tr c p i' j' l k).cs]) rfl rfl ((push_spec (m + 1) _ s2 im ip _ pcs ri oi l k stk (.tr c p i' j' l k) hw hes hV2 hn ⟨hI, hJ⟩ hfr.1 hfr.2.1 hfr.2.2).mono ?_)
    rintro _ s3 ⟨rfl, hK3, v, hV3⟩
    refine eV ?_
    have hB3 : getCells s3.heap s.heap.length 0 = some (⟨22, a, b', c, R, false⟩ : In).cs := getCells_at (hG2.get hB) (hK3.same _ (by omega) hbx)
    have hL3 := hK3.len
    have hm3 := hV3.hm
    have hr3 := hV3.hr.3
    refine c_seq ?_
    refine qqV ?_
    refine lV ?_
    refine c_skip ?_
    refine dqV ?_
    refine o_ixms (j := R) rfl rfl rfl rfl hl1 hr3 rfl ?_
    refine o_st rfl rfl rfl rfl hr3 rfl (lets_nil (blt_no (by show b.w ≤ ri; omega)) hes) (write_ints hl1) ?_
    have hr4 := getCells_put (cs' := ints (l.set R (n + 1))) (g' := 0) hr3
    have hB4 := getCells_put_ne (i := ri) (o := .cells (ints (l.set R (n + 1))) 0) (by omega) hB3
    have hm4 := getCells_put_ne (i := ri) (o := .cells (ints (l.set R (n + 1))) 0) (by omega) hm3
    refine sV ?_
    refine o_ixms (j := R + 1) (z := (R : Int) + 1) rfl rfl rfl (by omega) hl2 hr4 rfl ?_
    refine o_st rfl rfl rfl rfl hr4 rfl (lets_nil (blt_no (by show b.w ≤ ri; omega)) hes) (write_ints (by rw [List.length_set]; exact hl2)) ?_
    rw [Sg.put_put]
    refine d_end (by show (!(Nat.beq s.heap.length ri) && true) = true; rw [beq_no (by omega)]; rfl) (by (repeat (first | exact OutS.nil | exact GetS.hit | exact PutS.hit | apply GetS.miss rfl | apply PutS.miss rfl | apply OutS.cons | apply OutS.skip rfl))) ?_
    refine fin_ret (.inr rfl) read_nil rfl ⟨rfl, by rw [Sg.put_len]; omega, v, i', j', hV3.reg Kept.put (getCells_put hr3) (by simp)⟩
  · refine qqV ?_
    refine lV ?_
    refine c_skip ?_
    refine qqV ?_
    refine c_seq ?_
    refine qqV ?_
    refine iV ?_
    refine qV ?_
    refine o_callw (l := [.ptr im 0 0, .int .i64 c]) rfl rfl ((at_spec m _ s1 im _ ri oi l k c (by show b.w ≤ _; omega) hes hm1 rfl hV.op hV.hr hV.ho).mono ?_)
    rintro _ s2 ⟨i', j', rfl, hG2, hi', hI, hj', hJ, hij⟩
    change OkO _ _ _ _ _ _ _
    have hV2 := hV.grow hG2
    have hL2 := hG2.len
    have hfr := hV.fresh hi' hj' hij
    refine o_w (v := .agg (Ch.tr c p i' j' l k).cs) rfl rfl ?_
    refine o_callw (l := [.ptr im 0 0, .agg (Ch.tr c p i' j' l k).cs]) rfl rfl ((push_spec (m + 1) _ s2 im ip _ pcs ri oi l k stk (.tr c p i' j' l k) hw hes hV2 hn ⟨hI, hJ⟩ hfr.1 hfr.2.1 hfr.2.2).mono ?_)
    rintro _ s3 ⟨rfl, hK3, v, hV3⟩
    refine eV ?_
    have hB3 : getCells s3.heap s.heap.length 0 = some (⟨22, a, b', c, R, false⟩ : In).cs := getCells_at (hG2.get hB) (hK3.same _ (by omega) hbx)
    have hL3 := hK3.len
    have hm3 := hV3.hm
    have hr3 := hV3.hr.3
    refine c_seq ?_
    refine qqV ?_
    refine lV ?_
    refine c_skip ?_
    refine dqV ?_
    refine o_ixms (j := R) rfl rfl rfl rfl hl1 hr3 rfl ?_
    refine o_st rfl rfl rfl rfl hr3 rfl (lets_nil (blt_no (by show b.w ≤ ri; omega)) hes) (write_ints hl1) ?_
    have hr4 := getCells_put (cs' := ints (l.set R (n + 1))) (g' := 0) hr3
    have hB4 := getCells_put_ne (i := ri) (o := .cells (ints (l.set R (n + 1))) 0) (by omega) hB3
    have hm4 := getCells_put_ne (i := ri) (o := .cells (ints (l.set R (n + 1))) 0) (by omega) hm3
    refine sV ?_
    refine o_ixms (j := R + 1) (z := (R : Int) + 1) rfl rfl rfl (by omega) hl2 hr4 rfl ?_
    refine o_st rfl rfl rfl rfl hr4 rfl (lets_nil (blt_no (by show b.w ≤ ri; omega)) hes) (write_ints (by rw [List.length_set]; exact hl2)) ?_
    rw [Sg.put_put]
    refine d_end (by show (!(Nat.beq s.heap.length ri) && true) = true; rw [beq_no (by omega)]; rfl) (by (repeat (first | exact OutS.nil | exact GetS.hit | exact PutS.hit | apply GetS.miss rfl | apply PutS.miss rfl | apply OutS.cons | apply OutS.skip rfl))) ?_
    refine fin_ret (.inr rfl) read_nil rfl ⟨rfl, by rw [Sg.put_len]; omega, v, i', j', hV3.reg Kept.put (getCells_put hr3) (by simp)⟩

end Go.Vmm

namespace Go.Vmm
open Go Go.Am Go.Proofs
set_option linter.unusedSectionVars false
variable [At0]

/-- a repetition that has to take one more -/
theorem rep_must (m : Nat) (b : Bar) (s : Sg) (im ip : Nat) (q : MQ) (pcs : PG) (ri oi : Nat) (l k : List Int) (stk : List Ch) (a b' c : Int) (R : Nat) (n was : Int) (hw : b.w ≤ im) (hes : b.es = []) (h : VM s im ip pcs q ri oi l k stk) (hn0 : 0 ≤ n) (hn1 : n < 100000) (hR : R < 1000) (h1 : l[R]? = some n) (h2 : l[R + 1]? = some was) (ha : n < a) :
    OkF (callF T (m + 4) b 179 [.ptr im 0 0, (⟨22, a, b', c, R, false⟩ : In).av] s) fun o s' => o = .ret (.tup []) ∧ s.heap.length ≤ s'.heap.length ∧ VM s' im ip pcs q ri oi ((l.set R (n + 1)).set (R + 1) q.p) k stk := by
  have hi := getCells_lt h.hm
  have hl1 := lt_of_getElem? h1
  have hl2 := lt_of_getElem? h2
  (apply f_wp rfl rfl; (repeat (first | exact Shape.nil | (apply Shape.cons; conv => lhs; whnf))))
  refine qV ?_
  refine o_box (v := (⟨22, a, b', c, R, false⟩ : In).av) (l := (⟨22, a, b', c, R, false⟩ : In).cs) rfl rfl rfl ?_
  refine eV ?_
  have hB := getCells_new s (⟨22, a, b', c, R, false⟩ : In).cs 0
  have hG := (Grow.refl s).push (.cells (⟨22, a, b', c, R, false⟩ : In).cs 0)
  have hV := h.grow hG
  have hL := Sg.push_len s (.cells (⟨22, a, b', c, R, false⟩ : In).cs 0)
  generalize s.push (.cells (⟨22, a, b', c, R, false⟩ : In).cs 0) = s1 at hB hG hV hL ⊢
  have hm1 := hV.hm
  have hri := (h.ids ri (by simp)).1
  have hrl := getCells_lt h.hr.3
  have hr1 := hV.hr.3
  obtain ⟨pr, sb, pc, p, regs, opens, sv, kind, spans, taken⟩ := q
  obtain rfl : regs = rv ri l.length := h.rg
  have hp1 := part_ints h1
  have hp2 := part_ints h2
  refine qqV ?_
  refine c_seq ?_
  refine dqV ?_
  refine o_ixms (j := R) rfl rfl rfl rfl hl1 hr1 rfl ?_
  refine sV ?_
  refine o_ixms (j := R + 1) (z := (R : Int) + 1) rfl rfl rfl (by omega) hl2 hr1 rfl ?_
  refine sV ?_
  refine dV ?_
  refine qqV ?_
  refine lV ?_
  refine c_skip ?_
  refine qqV ?_
  refine c_seq ?_
  refine qqV ?_
  refine lV ?_
  refine c_skip ?_
  refine c_seq ?_
  refine qqV ?_
  refine lV ?_
  refine c_skip ?_
  refine dqV ?_
  refine o_ixms (j := R) rfl rfl rfl rfl hl1 hr1 rfl ?_
  refine o_st rfl rfl rfl rfl hr1 rfl (lets_nil (blt_no (by show b.w ≤ ri; omega)) hes) (write_ints hl1) ?_
  have hr4 := getCells_put (cs' := ints (l.set R (n + 1))) (g' := 0) hr1
  have hB4 := getCells_put_ne (i := ri) (o := .cells (ints (l.set R (n + 1))) 0) (by omega) hB
  have hm4 := getCells_put_ne (i := ri) (o := .cells (ints (l.set R (n + 1))) 0) (by omega) hm1
  refine sV ?_
  refine o_ixms (j := R + 1) (z := (R : Int) + 1) rfl rfl rfl (by omega) hl2 hr4 rfl ?_
  refine o_st rfl rfl rfl rfl hr4 rfl (lets_nil (blt_no (by show b.w ≤ ri; omega)) hes) (write_ints (by rw [List.length_set]; exact hl2)) ?_
  rw [Sg.put_put]
  refine d_end (by show (!(Nat.beq s.heap.length ri) && true) = true; rw [beq_no (by omega)]; rfl) (by (repeat (first | exact OutS.nil | exact GetS.hit | exact PutS.hit | apply GetS.miss rfl | apply PutS.miss rfl | apply OutS.cons | apply OutS.skip rfl))) ?_
  exact fin_ret (.inr rfl) read_nil rfl ⟨rfl, by rw [Sg.put_len]; omega, hV.reg Kept.put (getCells_put hr1) (by simp)⟩

end Go.Vmm

namespace Go.Vmm
open Go Go.Am Go.Proofs
set_option linter.unusedSectionVars false
variable [At0]

/-- fewer choices -/
theorem VM.cut {s : Sg} {im ip : Nat} {pcs : PG} {q : MQ} {ri oi : Nat} {l k : List Int} {stk : List Ch} (h : VM s im ip pcs q ri oi l k stk) {j g cp n : Nat} (hq : q.stk = .ms j g 0 stk.length cp 75) (hn : n ≤ stk.length) : VM (s.put im (.cells (mc { q with stk := .ms j g 0 n cp 75 }) 0)) im ip pcs { q with stk := .ms j g 0 n cp 75 } ri oi l k (stk.take n) := by
  have hk : Kept s (s.put im (.cells (mc { q with stk := .ms j g 0 n cp 75 }) 0)) (fun x => x = im) := Kept.put
  have hsub : ∀ x ∈ ri :: oi :: idsOf (stk.take n), x ∈ ri :: oi :: idsOf stk := by
    intro x hx
    rcases List.mem_cons.mp hx with rfl | hx
    · simp
    rcases List.mem_cons.mp hx with rfl | hx
    · simp
    obtain ⟨c, hc, hx⟩ := List.mem_flatMap.mp hx
    exact List.mem_cons_of_mem _ (List.mem_cons_of_mem _ (mem_ids (List.mem_of_mem_take hc) hx))
  refine ⟨getCells_put h.hm, h.pr, ⟨getCells_at h.po.1 (hk.same _ (getCells_lt h.po.1) (by have := h.lo; omega)), h.po.2, h.po.3⟩, h.pg.kept hk (fun x hx => by omega), h.lo, h.rg, h.op, h.hr.kept hk (by have := (h.ids ri (by simp)).1; omega), h.ho.kept hk (by have := (h.ids oi (by simp)).1; omega), ?_, ?_, ?_, ?_, ?_⟩
  · rcases h.st with ⟨h1, h2⟩ | ⟨j', g', cp', h1, h2, h3, h4, cs, h5, h6, h7⟩
    · rw [h2] at hq; cases hq
    · rw [hq] at h1
      simp only [AV.ms.injEq] at h1
      obtain ⟨rfl, rfl, -, -, rfl, -⟩ := h1
      refine .inr ⟨j, g, cp, by simp [Nat.min_eq_left hn], h2, by simp at h3 ⊢; omega, h4, cs, getCells_put_ne (by omega) h5, h6, ?_⟩
      simp only [List.length_map, List.length_take, Nat.min_eq_left hn] at h7 ⊢
      have hle : n * 75 ≤ stk.length * 75 := Nat.mul_le_mul_right _ hn
      have : cs.take (n * 75) = (cs.take (stk.length * 75)).take (n * 75) := by rw [List.take_take, Nat.min_eq_left hle]
      rw [this, h7]
      have hsplit : (stk.map Ch.cs).flatten = ((stk.take n).map Ch.cs).flatten ++ ((stk.drop n).map Ch.cs).flatten := by rw [← List.flatten_append, ← List.map_append, List.take_append_drop]
      have hfl : ∀ l : List Ch, ((l.map Ch.cs).flatten).length = l.length * 75 := by
        intro l
        induction l with
        | nil => rfl
        | cons a r ih => simp only [List.map_cons, List.flatten_cons, List.length_append, ih, a.ok.2, List.length_cons]; omega
      rw [hsplit, List.take_append_of_le_length (by rw [hfl, List.length_take, Nat.min_eq_left hn]; exact Nat.le_refl _), List.take_of_length_le (by rw [hfl, List.length_take, Nat.min_eq_left hn]; exact Nat.le_refl _)]
  · exact fun c hc => (h.ch c (List.mem_of_mem_take hc)).kept hk fun x hx => by
      have := (h.ids x (List.mem_cons_of_mem _ (List.mem_cons_of_mem _ (mem_ids (List.mem_of_mem_take hc) hx)))).1
      omega
  · refine h.nd.sublist (List.Sublist.cons_cons _ (List.Sublist.cons_cons _ ?_))
    have : idsOf stk = idsOf (stk.take n) ++ idsOf (stk.drop n) := by rw [idsOf, idsOf, idsOf, ← List.flatMap_append, List.take_append_drop]
    rw [this]
    exact List.sublist_append_left _ _
  · intro x hx
    have := h.ids x (hsub x hx)
    rw [hq] at this
    exact this
  · intro p hp
    obtain ⟨a, b, c, d⟩ := h.ex p hp
    rw [hq] at d
    exact ⟨getCells_at a (hk.same _ (getCells_lt a) b), b, fun hm => c (hsub _ hm), d⟩


/-- a jump -/
theorem plain_jump (m : Nat) (b : Bar) (s : Sg) (im ip : Nat) (q : MQ) (pcs : PG) (ri oi : Nat) (l k : List Int) (stk : List Ch) (i : In) (a b' c r : Int) (lz : Bool) (hin : i = ⟨20, a, b', c, r, lz⟩) (hw : b.w ≤ im) (hes : b.es = []) (h : VM s im ip pcs q ri oi l k stk) :
    OkF (callF T (m + 5) b 121 [.ptr im 0 0, i.av] s) fun o s' => o = .ret (.tup []) ∧ s.heap.length ≤ s'.heap.length ∧ VM s' im ip pcs { q with pc := a } ri oi l k stk := by
  subst hin
  have hi := getCells_lt h.hm
  (apply f_wp rfl rfl; (repeat (first | exact Shape.nil | (apply Shape.cons; conv => lhs; whnf))))
  refine qV ?_
  refine o_box rfl rfl rfl ?_
  refine eV ?_
  have hB := getCells_new s (⟨20, a, b', c, r, lz⟩ : In).cs 0
  have hG := (Grow.refl s).push (.cells (⟨20, a, b', c, r, lz⟩ : In).cs 0)
  have hV := h.grow hG
  have hL := Sg.push_len s (.cells (⟨20, a, b', c, r, lz⟩ : In).cs 0)
  change OkC _ _ _ _ _ (s.push (.cells (⟨20, a, b', c, r, lz⟩ : In).cs 0)) _
  generalize s.push (.cells (⟨20, a, b', c, r, lz⟩ : In).cs 0) = s1 at hB hG hV hL ⊢
  have hm1 := hV.hm
  have hr1 := hV.hr.3
  have hri := (h.ids ri (by simp)).1
  have hrl := getCells_lt h.hr.3
  obtain ⟨pr, sb, pc, p, regs, opens, sv, kind, spans, taken⟩ := q
  obtain rfl : regs = rv ri l.length := h.rg
  refine qqV ?_
  refine qqV ?_
  refine bV ?_
  refine qqV ?_
  refine lV ?_
  refine qqV ?_
  refine lV ?_
  refine qqV ?_
  refine lV ?_
  refine qqV ?_
  refine lV ?_
  refine qqV ?_
  refine lV ?_
  refine qqV ?_
  refine lV ?_
  refine qqV ?_
  refine lV ?_
  refine qqV ?_
  refine lV ?_
  refine qqV ?_
  refine lV ?_
  refine qqV ?_
  refine lV ?_
  refine qqV ?_
  refine lV ?_
  refine qqV ?_
  refine iV ?_
  refine qV ?_
  refine o_st rfl rfl rfl rfl hm1 rfl (lets_nil (blt_no (by show b.w ≤ im; omega)) hes) (w_pc ..) ?_
  refine eV ?_
  refine fin_ret (.inr rfl) read_nil rfl ⟨rfl, by rw [Sg.put_len]; omega, hV.move Kept.put (getCells_put hm1) rfl rfl rfl rfl⟩

/-- a repetition's beginning -/
theorem plain_init (m : Nat) (b : Bar) (s : Sg) (im ip : Nat) (q : MQ) (pcs : PG) (ri oi : Nat) (l k : List Int) (stk : List Ch) (i : In) (a b' c : Int) (R : Nat) (lz : Bool) (hin : i = ⟨21, a, b', c, R, lz⟩) (hR : R < 1000) (hl2 : R + 1 < l.length) (hw : b.w ≤ im) (hes : b.es = []) (h : VM s im ip pcs q ri oi l k stk) :
    OkF (callF T (m + 5) b 121 [.ptr im 0 0, i.av] s) fun o s' => o = .ret (.tup []) ∧ s.heap.length ≤ s'.heap.length ∧ VM s' im ip pcs q ri oi ((l.set R 0).set (R + 1) (-1)) k stk := by
  subst hin
  have hi := getCells_lt h.hm
  (apply f_wp rfl rfl; (repeat (first | exact Shape.nil | (apply Shape.cons; conv => lhs; whnf))))
  refine qV ?_
  refine o_box rfl rfl rfl ?_
  refine eV ?_
  have hB := getCells_new s (⟨21, a, b', c, R, lz⟩ : In).cs 0
  have hG := (Grow.refl s).push (.cells (⟨21, a, b', c, R, lz⟩ : In).cs 0)
  have hV := h.grow hG
  have hL := Sg.push_len s (.cells (⟨21, a, b', c, R, lz⟩ : In).cs 0)
  change OkC _ _ _ _ _ (s.push (.cells (⟨21, a, b', c, R, lz⟩ : In).cs 0)) _
  generalize s.push (.cells (⟨21, a, b', c, R, lz⟩ : In).cs 0) = s1 at hB hG hV hL ⊢
  have hm1 := hV.hm
  have hr1 := hV.hr.3
  have hri := (h.ids ri (by simp)).1
  have hrl := getCells_lt h.hr.3
  obtain ⟨pr, sb, pc, p, regs, opens, sv, kind, spans, taken⟩ := q
  obtain rfl : regs = rv ri l.length := h.rg
  refine qqV ?_
  refine qqV ?_
  refine bV ?_
  refine qqV ?_
  refine lV ?_
  refine qqV ?_
  refine lV ?_
  refine qqV ?_
  refine lV ?_
  refine qqV ?_
  refine lV ?_
  refine qqV ?_
  refine lV ?_
  refine qqV ?_
  refine lV ?_
  refine qqV ?_
  refine lV ?_
  refine qqV ?_
  refine lV ?_
  refine qqV ?_
  refine lV ?_
  refine qqV ?_
  refine lV ?_
  refine qqV ?_
  refine lV ?_
  refine qqV ?_
  refine lV ?_
  refine qqV ?_
  refine iV ?_
  refine dqV ?_
  refine o_ixms (j := R) rfl rfl rfl rfl (by omega) hr1 rfl ?_
  refine o_st rfl rfl rfl rfl hr1 rfl (lets_nil (blt_no (by show b.w ≤ ri; omega)) hes) (write_ints (by omega)) ?_
  have hr4 := getCells_put (cs' := ints (l.set R 0)) (g' := 0) hr1
  refine sV ?_
  refine o_ixms (j := R + 1) (z := (R : Int) + 1) rfl rfl rfl (by omega) hl2 hr4 rfl ?_
  refine o_st rfl rfl rfl rfl hr4 rfl (lets_nil (blt_no (by show b.w ≤ ri; omega)) hes) (write_ints (by rw [List.length_set]; exact hl2)) ?_
  rw [Sg.put_put]
  refine d_end (by show (!(Nat.beq s.heap.length ri) && true) = true; rw [beq_no (by omega)]; rfl) (by (repeat (first | exact OutS.nil | exact GetS.hit | exact PutS.hit | apply GetS.miss rfl | apply PutS.miss rfl | apply OutS.cons | apply OutS.skip rfl))) ?_
  refine fin_ret (.inr rfl) read_nil rfl ⟨rfl, by rw [Sg.put_len]; omega, hV.reg Kept.put (getCells_put hr1) (by simp)⟩

/-- a repetition, by what it does -/
theorem plain_rep (m : Nat) (b : Bar) (s : Sg) (im ip : Nat) (q : MQ) (pcs : PG) (ri oi : Nat) (l k : List Int) (stk : List Ch) (i : In) (a b' c r : Int) (lz : Bool) (hin : i = ⟨22, a, b', c, r, lz⟩) (h : VM s im ip pcs q ri oi l k stk) {P : Sg → Prop}
    (hc : ∀ s1, Grow s s1 → VM s1 im ip pcs q ri oi l k stk → OkF (callF T (m + 4) b 179 [.ptr im 0 0, i.av] s1) fun o s' => o = .ret (.tup []) ∧ P s') :
    OkF (callF T (m + 5) b 121 [.ptr im 0 0, i.av] s) fun o s' => o = .ret (.tup []) ∧ P s' := by
  subst hin
  have hcc := hc
  have hi := getCells_lt h.hm
  (apply f_wp rfl rfl; (repeat (first | exact Shape.nil | (apply Shape.cons; conv => lhs; whnf))))
  refine qV ?_
  refine o_box rfl rfl rfl ?_
  refine eV ?_
  have hB := getCells_new s (⟨22, a, b', c, r, lz⟩ : In).cs 0
  have hG := (Grow.refl s).push (.cells (⟨22, a, b', c, r, lz⟩ : In).cs 0)
  have hV := h.grow hG
  have hL := Sg.push_len s (.cells (⟨22, a, b', c, r, lz⟩ : In).cs 0)
  change OkC _ _ _ _ _ (s.push (.cells (⟨22, a, b', c, r, lz⟩ : In).cs 0)) _
  generalize s.push (.cells (⟨22, a, b', c, r, lz⟩ : In).cs 0) = s1 at hB hG hV hL ⊢
  have hm1 := hV.hm
  have hr1 := hV.hr.3
  have hri := (h.ids ri (by simp)).1
  have hrl := getCells_lt h.hr.3
  obtain ⟨pr, sb, pc, p, regs, opens, sv, kind, spans, taken⟩ := q
  obtain rfl : regs = rv ri l.length := h.rg
  refine qqV ?_
  refine qqV ?_
  refine bV ?_
  refine qqV ?_
  refine lV ?_
  refine qqV ?_
  refine lV ?_
  refine qqV ?_
  refine lV ?_
  refine qqV ?_
  refine lV ?_
  refine qqV ?_
  refine lV ?_
  refine qqV ?_
  refine lV ?_
  refine qqV ?_
  refine lV ?_
  refine qqV ?_
  refine lV ?_
  refine qqV ?_
  refine lV ?_
  refine qqV ?_
  refine lV ?_
  refine qqV ?_
  refine lV ?_
  refine qqV ?_
  refine lV ?_
  refine qqV ?_
  refine lV ?_
  refine qqV ?_
  refine iV ?_
  refine qV ?_
  refine o_callw (l := [.ptr im 0 0, (⟨22, a, b', c, r, lz⟩ : In).av]) rfl rfl ((hcc s1 hG hV).mono ?_)
  rintro _ s2 ⟨rfl, hP⟩
  refine eV ?_
  exact fin_ret (.inr rfl) read_nil rfl ⟨rfl, hP⟩

end Go.Vmm

namespace Go.Vmm
open Go Go.Am Go.Proofs

theorem bc_get {l : List UInt8} {j : Nat} {c : UInt8} (h : l[j]? = some c) : (Am.byteCells l)[j]? = some (.int .u8 c.toNat) := by rw [Am.byteCells_get, h]; rfl

/-- a number that becomes another kind's -/
theorem o_cv {call : CallFn} {b : Bar} {g : Option (Nat × Bool)} {r : List AOper} {loc : Env} {fr : Fr} {s : Sg} {Q : Ex → Env → Fr → Sg → Prop} {x : AOpd} {t : Nat} {k k' : IntKind} {a c : Int} (hg : wantedA loc fr.pers g = some true) (hx : x.ev loc fr.pers = some (.int k' a)) (h : k.wrap a = c) (hr : OkO call b r ((t, .int k c) :: loc) fr s Q) : OkO call b (⟨some t, .v (.conv (.intInt k) x), g⟩ :: r) loc fr s Q := by
  refine o_w hg ?_ hr
  simp only [evV, hx, Option.bind_some, evConvH, evConv, h]

/-- utf.Next, of bytes -/
theorem next_spec (m : Nat) (b : Bar) (t : List UInt8) (i : Nat) (c : UInt8) (s : Sg) (ht : t.length < 2 ^ 40) (hc : t[i]? = some c) :
    callF T (m + 1) b 26 [.vec (Am.byteCells t) .shut, .int .i64 i, .bool false] s = some (.ret (.tup [.int .i64 c.toNat, .int .i64 (i + 1)]), s) := by
  have hi := lt_of_getElem? hc
  have hbl := Am.byteCells_length t
  have hc8 : c.toNat < 256 := c.toNat_lt
  (apply f_of rfl rfl; (repeat (first | exact Shape.nil | (apply Shape.cons; conv => lhs; whnf))))
  refine qqV ?_
  refine qqV ?_
  refine lV ?_
  refine c_skip ?_
  refine qqV ?_
  refine lV ?_
  refine c_skip ?_
  refine qV ?_
  refine o_ixvec (j := i) rfl rfl rfl rfl (bc_get hc) rfl ?_
  refine sV ?_
  refine o_cv rfl rfl (wrap_i64 (by omega) (by omega)) ?_
  refine sV ?_
  refine eV ?_
  exact c_ret rfl

/-- .. at the end -/
theorem next_end (m : Nat) (b : Bar) (t : List UInt8) (i : Nat) (s : Sg) (hi : i = t.length) :
    callF T (m + 1) b 26 [.vec (Am.byteCells t) .shut, .int .i64 i, .bool false] s = some (.ret (.tup [.int .i64 (-1), .int .i64 i]), s) := by
  have hbl := Am.byteCells_length t
  (apply f_of rfl rfl; (repeat (first | exact Shape.nil | (apply Shape.cons; conv => lhs; whnf))))
  refine qqV ?_
  refine qqV ?_
  refine iV ?_
  refine qqV ?_
  exact c_ret rfl

/-- where a range begins, and ends -/
theorem lo_spec (m : Nat) (b : Bar) (x y : Nat) (n : Int) (s : Sg) (h : evConv (.fltInt .i64) (.flt .f64 x) = some (.int .i64 n)) :
    callF T (m + 1) b 67 [.cplx .f64 x y] s = some (.ret (.int .i64 n), s) := by
  (apply f_of rfl rfl; (repeat (first | exact Shape.nil | (apply Shape.cons; conv => lhs; whnf))))
  refine qqV ?_
  refine qV ?_
  refine o_w (v := .int .i64 n) rfl h ?_
  refine sV ?_
  refine eV ?_
  exact c_ret rfl

theorem hi_spec (m : Nat) (b : Bar) (x y : Nat) (n : Int) (s : Sg) (h : evConv (.fltInt .i64) (.flt .f64 y) = some (.int .i64 n)) :
    callF T (m + 1) b 66 [.cplx .f64 x y] s = some (.ret (.int .i64 n), s) := by
  (apply f_of rfl rfl; (repeat (first | exact Shape.nil | (apply Shape.cons; conv => lhs; whnf))))
  refine qqV ?_
  refine qV ?_
  refine o_w (v := .int .i64 n) rfl h ?_
  refine sV ?_
  refine eV ?_
  exact c_ret rfl

end Go.Vmm

namespace Go.Vmm
open Go Go.Am Go.Proofs

end Go.Vmm

namespace Go.Vmm
open Go Go.Am Go.Proofs

/-- a range, as numbers -/
structure Rg (x y : Nat) (lo hi : Int) : Prop where
  lo : evConv (.fltInt .i64) (.flt .f64 x) = some (.int .i64 lo)
  hi : evConv (.fltInt .i64) (.flt .f64 y) = some (.int .i64 hi)

/-- a set of two ranges -/
def set2 (x y x' y' : Nat) : AV := .vec [.cplx .f64 x y, .cplx .f64 x' y'] .shut

theorem hasi_spec (m : Nat) (b : Bar) (x y x' y' : Nat) (l h l' h' c : Int) (A B : Nat) (i : Nat) (hi : i < 2) (t : Bool) (s : Sg) (r1 : Rg x y l h) (r2 : Rg x' y' l' h') (hA : getCells s.heap A 0 = some [set2 x y x' y']) (hB : getCells s.heap B 0 = some [.int .i64 c]) (ht : t = decide ((if i = 0 then h else h') ≥ c)) :
    callF T (m + 2) b 65 [.int .i64 i, .ptr A 0 0, .ptr B 0 0] s = some (.ret (.bool t), s) := by
  match i, hi with
  | 0, _ =>
    (apply f_of rfl rfl; (repeat (first | exact Shape.nil | (apply Shape.cons; conv => lhs; whnf))))
    refine qqV ?_
    refine c_seq ?_
    refine dqV ?_
    refine o_ixvec (j := 0) rfl rfl rfl rfl (v := .cplx .f64 x y) rfl rfl ?_
    refine sV ?_
    refine o_call (l := [.cplx .f64 x y]) rfl rfl (hi_spec m _ x y h s r1.hi) ?_
    refine sV ?_
    refine dV ?_
    subst ht
    exact c_ret rfl
  | 1, _ =>
    (apply f_of rfl rfl; (repeat (first | exact Shape.nil | (apply Shape.cons; conv => lhs; whnf))))
    refine qqV ?_
    refine c_seq ?_
    refine dqV ?_
    refine o_ixvec (j := 1) rfl rfl rfl rfl (v := .cplx .f64 x' y') rfl rfl ?_
    refine sV ?_
    refine o_call (l := [.cplx .f64 x' y']) rfl rfl (hi_spec m _ x' y' h' s r2.hi) ?_
    refine sV ?_
    refine dV ?_
    subst ht
    exact c_ret rfl

/-- sort.Search of two -/
theorem search2_spec (m : Nat) (b : Bar) (x y x' y' : Nat) (l h l' h' c : Int) (A B : Nat) (s : Sg) (r1 : Rg x y l h) (r2 : Rg x' y' l' h') (hhh : h < h') (hA : getCells s.heap A 0 = some [set2 x y x' y']) (hB : getCells s.heap B 0 = some [.int .i64 c]) :
    callF T (m + 5) b 64 [.int .i64 2, .func 65 [] [.ptr A 0 0, .ptr B 0 0]] s = some (.ret (.int .i64 (if h ≥ c then 0 else if h' ≥ c then 1 else 2)), s) := by
  by_cases h2 : h' ≥ c
  · by_cases h1 : h ≥ c
    · rw [if_pos h1]
      (apply f_of rfl rfl; (repeat (first | exact Shape.nil | (apply Shape.cons; conv => lhs; whnf))))
      refine qqV ?_
      refine qqV ?_
      refine c_seq ?_
      refine c_block ?_
      refine c_loop ?_
      refine l_round ?_
      refine qqV ?_
      refine iV ?_
      refine c_skip ?_
      refine bV ?_
      refine qV ?_
      refine o_cv (c := 2) rfl rfl rfl ?_
      refine sV ?_
      refine o_w (v := .int .u64 1) rfl rfl ?_
      refine o_cv (c := 1) rfl rfl rfl ?_
      refine sV ?_
      refine eV ?_
      refine qV ?_
      refine o_callv rfl rfl rfl rfl (hasi_spec (m + 2) _ x y x' y' l h l' h' c A B 1 (by omega) true s r1 r2 hA hB (by simp [h2])) ?_
      refine sV ?_
      refine eV ?_
      refine lV ?_
      refine qqV ?_
      refine l_round ?_
      refine qqV ?_
      refine iV ?_
      refine c_skip ?_
      refine bV ?_
      refine qV ?_
      refine o_cv (c := 1) rfl rfl rfl ?_
      refine sV ?_
      refine o_w (v := .int .u64 0) rfl rfl ?_
      refine o_cv (c := 0) rfl rfl rfl ?_
      refine sV ?_
      refine eV ?_
      refine qV ?_
      refine o_callv rfl rfl rfl rfl (hasi_spec (m + 2) _ x y x' y' l h l' h' c A B 0 (by omega) true s r1 r2 hA hB (by simp [h1])) ?_
      refine sV ?_
      refine eV ?_
      refine lV ?_
      refine qqV ?_
      refine l_round ?_
      refine qqV ?_
      refine lV ?_
      refine c_exit ?_
      refine qqV ?_
      exact c_ret rfl
    · rw [if_neg h1, if_pos h2]
      (apply f_of rfl rfl; (repeat (first | exact Shape.nil | (apply Shape.cons; conv => lhs; whnf))))
      refine qqV ?_
      refine qqV ?_
      refine c_seq ?_
      refine c_block ?_
      refine c_loop ?_
      refine l_round ?_
      refine qqV ?_
      refine iV ?_
      refine c_skip ?_
      refine bV ?_
      refine qV ?_
      refine o_cv (c := 2) rfl rfl rfl ?_
      refine sV ?_
      refine o_w (v := .int .u64 1) rfl rfl ?_
      refine o_cv (c := 1) rfl rfl rfl ?_
      refine sV ?_
      refine eV ?_
      refine qV ?_
      refine o_callv rfl rfl rfl rfl (hasi_spec (m + 2) _ x y x' y' l h l' h' c A B 1 (by omega) true s r1 r2 hA hB (by simp [h2])) ?_
      refine sV ?_
      refine eV ?_
      refine lV ?_
      refine qqV ?_
      refine l_round ?_
      refine qqV ?_
      refine iV ?_
      refine c_skip ?_
      refine bV ?_
      refine qV ?_
      refine o_cv (c := 1) rfl rfl rfl ?_
      refine sV ?_
      refine o_w (v := .int .u64 0) rfl rfl ?_
      refine o_cv (c := 0) rfl rfl rfl ?_
      refine sV ?_
      refine eV ?_
      refine qV ?_
      refine o_callv rfl rfl rfl rfl (hasi_spec (m + 2) _ x y x' y' l h l' h' c A B 0 (by omega) false s r1 r2 hA hB (by simp [h1])) ?_
      refine sV ?_
      refine eV ?_
      refine iV ?_
      refine qqV ?_
      refine l_round ?_
      refine qqV ?_
      refine lV ?_
      refine c_exit ?_
      refine qqV ?_
      exact c_ret rfl
  · rw [if_neg (by omega), if_neg h2]
    (apply f_of rfl rfl; (repeat (first | exact Shape.nil | (apply Shape.cons; conv => lhs; whnf))))
    refine qqV ?_
    refine qqV ?_
    refine c_seq ?_
    refine c_block ?_
    refine c_loop ?_
    refine l_round ?_
    refine qqV ?_
    refine iV ?_
    refine c_skip ?_
    refine bV ?_
    refine qV ?_
    refine o_cv (c := 2) rfl rfl rfl ?_
    refine sV ?_
    refine o_w (v := .int .u64 1) rfl rfl ?_
    refine o_cv (c := 1) rfl rfl rfl ?_
    refine sV ?_
    refine eV ?_
    refine qV ?_
    refine o_callv rfl rfl rfl rfl (hasi_spec (m + 2) _ x y x' y' l h l' h' c A B 1 (by omega) false s r1 r2 hA hB (by simp [h2])) ?_
    refine sV ?_
    refine eV ?_
    refine iV ?_
    refine qqV ?_
    refine l_round ?_
    refine qqV ?_
    refine lV ?_
    refine c_exit ?_
    refine qqV ?_
    exact c_ret rfl

/-- is it in one of two ranges? -/
def in2 (l h l' h' : Int) (c : Int) : Bool := decide (l ≤ c ∧ c ≤ h ∨ l' ≤ c ∧ c ≤ h')

theorem has2_spec (x y x' y' : Nat) (l h l' h' : Int) (r1 : Rg x y l h) (r2 : Rg x' y' l' h') (hhh : h < l') (hlh : l' ≤ h') (m : Nat) (b : Bar) (c : Int) (s : Sg) :
    callF T (m + 6) b 27 [.agg [set2 x y x' y'], .int .i64 c] s = some (.ret (.bool (in2 l h l' h' c)), s) := by
  have hhh' : h < h' := by omega
  apply OkF.ret
  by_cases h2 : h' ≥ c
  · by_cases h1 : h ≥ c
    · have e : in2 l h l' h' c = decide (l ≤ c) := by
        unfold in2
        congr 1
        exact propext ⟨fun k => by omega, fun k => by omega⟩
      rw [e]
      (apply f_wp rfl rfl; (repeat (first | exact Shape.nil | (apply Shape.cons; conv => lhs; whnf))))
      refine qV ?_
      refine o_box (v := .agg [set2 x y x' y']) (l := [set2 x y x' y']) rfl rfl rfl ?_
      refine o_box (v := .int .i64 c) (l := [.int .i64 c]) rfl rfl rfl ?_
      refine sV ?_
      refine eV ?_
      have hA := getCells_push (.cells [.int .i64 c] 0) (getCells_new s [set2 x y x' y'] 0)
      have hB := getCells_new (s.push (.cells [set2 x y x' y'] 0)) [.int .i64 c] 0
      generalize (s.push (.cells [set2 x y x' y'] 0)).push (.cells [.int .i64 c] 0) = s1 at hA hB ⊢
      generalize (s.push (.cells [set2 x y x' y'] 0)).heap.length = B at hB ⊢
      refine qV ?_
      refine o_call (l := [.int .i64 2, .func 65 [] [.ptr s.heap.length 0 0, .ptr B 0 0]]) rfl rfl (search2_spec m _ x y x' y' l h l' h' c s.heap.length B s1 r1 r2 hhh' hA hB) ?_
      rw [if_pos h1]
      refine sV ?_
      refine eV ?_
      refine c_seq ?_
      refine dqV ?_
      refine o_ixvec (j := 0) rfl rfl rfl rfl (v := .cplx .f64 x y) rfl rfl ?_
      refine sV ?_
      refine o_call (l := [.cplx .f64 x y]) rfl rfl (lo_spec (m + 4) _ x y l s1 r1.lo) ?_
      refine sV ?_
      refine dV ?_
      refine c_ret ?_
      exact fin_ret (.inl rfl) (read_tmp rfl read_nil) rfl ⟨rfl, rfl⟩
    · have e : in2 l h l' h' c = decide (l' ≤ c) := by
        unfold in2
        congr 1
        exact propext ⟨fun k => by omega, fun k => by omega⟩
      rw [e]
      (apply f_wp rfl rfl; (repeat (first | exact Shape.nil | (apply Shape.cons; conv => lhs; whnf))))
      refine qV ?_
      refine o_box (v := .agg [set2 x y x' y']) (l := [set2 x y x' y']) rfl rfl rfl ?_
      refine o_box (v := .int .i64 c) (l := [.int .i64 c]) rfl rfl rfl ?_
      refine sV ?_
      refine eV ?_
      have hA := getCells_push (.cells [.int .i64 c] 0) (getCells_new s [set2 x y x' y'] 0)
      have hB := getCells_new (s.push (.cells [set2 x y x' y'] 0)) [.int .i64 c] 0
      generalize (s.push (.cells [set2 x y x' y'] 0)).push (.cells [.int .i64 c] 0) = s1 at hA hB ⊢
      generalize (s.push (.cells [set2 x y x' y'] 0)).heap.length = B at hB ⊢
      refine qV ?_
      refine o_call (l := [.int .i64 2, .func 65 [] [.ptr s.heap.length 0 0, .ptr B 0 0]]) rfl rfl (search2_spec m _ x y x' y' l h l' h' c s.heap.length B s1 r1 r2 hhh' hA hB) ?_
      rw [if_neg h1, if_pos h2]
      refine sV ?_
      refine eV ?_
      refine c_seq ?_
      refine dqV ?_
      refine o_ixvec (j := 1) rfl rfl rfl rfl (v := .cplx .f64 x' y') rfl rfl ?_
      refine sV ?_
      refine o_call (l := [.cplx .f64 x' y']) rfl rfl (lo_spec (m + 4) _ x' y' l' s1 r2.lo) ?_
      refine sV ?_
      refine dV ?_
      refine c_ret ?_
      exact fin_ret (.inl rfl) (read_tmp rfl read_nil) rfl ⟨rfl, rfl⟩
  · have e : in2 l h l' h' c = false := by
      unfold in2
      exact decide_eq_false (by omega)
    rw [e]
    (apply f_wp rfl rfl; (repeat (first | exact Shape.nil | (apply Shape.cons; conv => lhs; whnf))))
    refine qV ?_
    refine o_box (v := .agg [set2 x y x' y']) (l := [set2 x y x' y']) rfl rfl rfl ?_
    refine o_box (v := .int .i64 c) (l := [.int .i64 c]) rfl rfl rfl ?_
    refine sV ?_
    refine eV ?_
    have hA := getCells_push (.cells [.int .i64 c] 0) (getCells_new s [set2 x y x' y'] 0)
    have hB := getCells_new (s.push (.cells [set2 x y x' y'] 0)) [.int .i64 c] 0
    generalize (s.push (.cells [set2 x y x' y'] 0)).push (.cells [.int .i64 c] 0) = s1 at hA hB ⊢
    generalize (s.push (.cells [set2 x y x' y'] 0)).heap.length = B at hB ⊢
    refine qV ?_
    refine o_call (l := [.int .i64 2, .func 65 [] [.ptr s.heap.length 0 0, .ptr B 0 0]]) rfl rfl (search2_spec m _ x y x' y' l h l' h' c s.heap.length B s1 r1 r2 hhh' hA hB) ?_
    rw [if_neg (by omega), if_neg h2]
    refine sV ?_
    refine eV ?_
    refine c_seq ?_
    refine dqV ?_
    refine dV ?_
    refine c_ret ?_
    exact fin_ret (.inl rfl) (read_tmp rfl read_nil) rfl ⟨rfl, rfl⟩

end Go.Vmm
