/-
  Of MatchLeft: what the functions that the law reaches come to.
-/
import Derived.Test.YtndindldlkdigabGreatDoorMltD
import Derived.Test.YtndindldlkdigabGreatDoorMlhA
import Derived.Test.YtndindldlkdigabGreatDoorMlhE
import Derived.Test.YtndindldlkdigabGreatDoorCards
import Derived.Test.YtndindldlkdigabGreatDoorTie
import Derived.WalkKit
import Derived.ProofKit
import Derived.OpenShut
import Derived.Deep.DeepHandedRow
import Derived.Lay
import Derived.Test.YtndindldlkdigabGreatDoorMachD

namespace Go.Vmm
open Go Go.Am Go.Proofs

/-- what follows the first that isn't so -/
theorem first_ex (t : List UInt8) (z : Int → Bool) : ∀ d o, o + d = t.length → ∃ fr, o ≤ fr ∧ fr ≤ t.length ∧ (∀ j, o ≤ j → j < fr → ∃ c, t[j]? = some c ∧ z c.toNat = false) ∧ (fr = t.length ∨ ∃ c, t[fr]? = some c ∧ z c.toNat = true) := by
  intro d
  induction d with
  | zero => intro o ho; exact ⟨o, Nat.le_refl _, by omega, fun j h1 h2 => by omega, .inl (by omega)⟩
  | succ d ih =>
    intro o ho
    have hlt : o < t.length := by omega
    have hc := List.getElem?_eq_getElem hlt
    by_cases hz : z (t[o]).toNat = true
    · exact ⟨o, Nat.le_refl _, by omega, fun j h1 h2 => by omega, .inr ⟨_, hc, hz⟩⟩
    · obtain ⟨fr, h1, h2, h3, h4⟩ := ih (o + 1) (by omega)
      refine ⟨fr, by omega, h2, fun j hj1 hj2 => ?_, h4⟩
      by_cases hj : j = o
      · subst hj; exact ⟨_, hc, Bool.eq_false_iff.mpr hz⟩
      · exact h3 j (by omega) hj2

def cellsOf : AObj → List AV | .cells cs _ => cs | _ => []
def hd1 : List AObj := hqd0 ++ [.cells qdcore 0]
def mcs76 : List AV := cellsOf qd_76
def cs50 : List AV := cellsOf qd_50
abbrev setD : AV := set2 4636596553866280960 4636737291354636288 4638144666238189568 4638144666238189568
def pgD : PG := { cs := cs50, ins := plusIns, pool := [setD], ext := [] }

theorem rg1 : Rg 4636596553866280960 4636737291354636288 98 100 := ⟨by kernel_rfl, by kernel_rfl⟩
theorem rg2 : Rg 4638144666238189568 4638144666238189568 120 120 := ⟨by kernel_rfl, by kernel_rfl⟩
theorem hasD : HasOk setD zin := fun m b c s => has2_spec _ _ _ _ 98 100 120 120 rg1 rg2 (by decide) (by decide) m b c s
theorem mokD : MOk hd1 76 50 77 78 setD := ⟨⟨mcs76, by kernel_rfl, by kernel_rfl, by kernel_rfl, by kernel_rfl, by kernel_rfl⟩, by kernel_rfl, by kernel_rfl⟩
theorem proD : PrOk hd1 50 cs50 := ⟨by kernel_rfl, by kernel_rfl, by kernel_rfl⟩
theorem lenD : hd1.length = 80 := by kernel_rfl
theorem oldD : allOld 80 hd1 = true := by kernel_rfl
theorem regD : cs50[3]? = some (.int .i64 2) := by kernel_rfl
theorem pgOkD : Pg hd1 80 pgD := ⟨⟨54, 5, by kernel_rfl, by decide, by kernel_rfl⟩, ⟨69, 0, by kernel_rfl, by decide, by kernel_rfl⟩⟩
theorem mptr : qdm = .ptr 76 0 0 := rfl

theorem matchD (b : Bar) (t : List UInt8) (o fr : Nat) (res : List AV) (ht : t.length < 1000) (hof : o ≤ fr) (hfr : fr ≤ t.length) (hno : ∀ j, o ≤ j → j < fr → ∃ c, t[j]? = some c ∧ zin c.toNat = false) (hc : Comes t zin fr res) :
    callF T 6000 b 6 [.ptr 76 0 0, .vec (Am.byteCells t) .shut, .int .i64 0, .int .i64 o, .nilsl, .agg [.int .i64 0, .int .i64 0, .int .i64 0]] ⟨hd1, [], [], glT⟩ = some (.ret (.tup [.agg res, .int .i64 0, .int .i64 0]), ⟨hd1, [], [], glT⟩) := by
  refine callF_mono T 5002 6000 (by decide) _ _ _ _ _ (OkF.ret (match_spec b ⟨hd1, [], [], glT⟩ 76 50 77 78 setD zin pgD t o fr res ht mokD hasD (by decide) ?_ proD ?_ regD rfl ⟨setD, rfl, hasD⟩ ?_ hof hfr hno hc))
  · show 50 < hd1.length; rw [lenD]; decide
  · show Pg hd1 hd1.length pgD; rw [lenD]; exact pgOkD
  · show allOld hd1.length hd1 = true; rw [lenD]; exact oldD

theorem law (b : Bar) (t : List UInt8) (o : Int) : callF T 6001 b 3 [.vec (Am.byteCells t) .shut, .int .i64 o] ⟨[], [], [], glT⟩ = some (.ret (.bool true), ⟨[], [], [], glT⟩) := by
  have hbl := Am.byteCells_length t
  have haw : callF T 6000 bz 4 [] ⟨[], [], [], glT⟩ = some (.ret (.bool true), ⟨[], [], [], glT⟩) := callF_mono T 598 6000 (by decide) _ _ _ _ _ (awake bz)
  have hmd : callF T 6000 bz 5 [.vec (bs [91, 98, 45, 100, 120, 93, 43]) (.exact false), .int .i64 0] ⟨[], [], [], glT⟩ = some (.ret (.tup [.agg qdcore, qdm, .bool true]), ⟨hqd0, [], [], glT⟩) := callF_mono T 597 6000 (by decide) _ _ _ _ _ mdqd
  by_cases h200 : (t.length : Int) > 200
  · apply OkF.ret
    (apply f_wp rfl rfl; (repeat (first | exact Shape.nil | (apply Shape.cons; conv => lhs; whnf))))
    refine qqV ?_
    refine qV ?_
    refine o_call rfl rfl haw ?_
    refine sV ?_
    refine eV ?_
    refine qqV ?_
    refine lV ?_
    refine c_skip ?_
    refine qqV ?_
    refine iV ?_
    refine qqV ?_
    refine c_ret ?_
    exact fin_ret (.inl rfl) (read_tmp rfl read_nil) (leave_pure rfl rfl) ⟨rfl, rfl⟩
  by_cases h0 : o < 0
  · apply OkF.ret
    (apply f_wp rfl rfl; (repeat (first | exact Shape.nil | (apply Shape.cons; conv => lhs; whnf))))
    refine qqV ?_
    refine qV ?_
    refine o_call rfl rfl haw ?_
    refine sV ?_
    refine eV ?_
    refine qqV ?_
    refine lV ?_
    refine c_skip ?_
    refine qqV ?_
    refine iV ?_
    refine qqV ?_
    refine c_ret ?_
    exact fin_ret (.inl rfl) (read_tmp rfl read_nil) (leave_pure rfl rfl) ⟨rfl, rfl⟩
  by_cases hgt : o > (t.length : Int)
  · apply OkF.ret
    (apply f_wp rfl rfl; (repeat (first | exact Shape.nil | (apply Shape.cons; conv => lhs; whnf))))
    refine qqV ?_
    refine qV ?_
    refine o_call rfl rfl haw ?_
    refine sV ?_
    refine eV ?_
    refine qqV ?_
    refine lV ?_
    refine c_skip ?_
    refine qqV ?_
    refine iV ?_
    refine qqV ?_
    refine c_ret ?_
    exact fin_ret (.inl rfl) (read_tmp rfl read_nil) (leave_pure rfl rfl) ⟨rfl, rfl⟩
  obtain ⟨n, rfl⟩ : ∃ n : Nat, o = (n : Int) := ⟨o.toNat, by omega⟩
  have ht : t.length < 1000 := by omega
  obtain ⟨fr, hof, hfr, hno, hcf⟩ := first_ex t zin (t.length - n) n (by omega)
  obtain ⟨k, hk1, hk2, hk3, hk4⟩ := first_ex t (fun c => !zin c) (t.length - fr) fr (by omega)
  have hmn : Many t fr k zin := by
    refine ⟨ht, hk1, fun j h1 h2 => ?_, ?_⟩
    · obtain ⟨c, hc, hz⟩ := hk3 j h1 h2
      exact ⟨c, hc, by simpa using hz⟩
    · rcases hk4 with h | ⟨c, hc, hz⟩
      · exact .inl h
      · exact .inr ⟨c, hc, by simpa using hz⟩
  obtain ⟨res, hres, hcase⟩ : ∃ res, Comes t zin fr res ∧ (fr = t.length ∧ res = fnd0 ∨ fr < t.length ∧ res = fnd fr k) := by
    rcases hcf with h | ⟨c, hc, hz⟩
    · exact ⟨fnd0, .inl ⟨h, rfl⟩, .inl ⟨h, rfl⟩⟩
    · have hlt := lt_of_getElem? hc
      have hfk : fr < k := by
        rcases Nat.lt_or_ge fr k with h | h
        · exact h
        · exfalso
          obtain rfl : k = fr := by omega
          rcases hk4 with h4 | ⟨c', hc', hz'⟩
          · omega
          · rw [hc] at hc'
            cases hc'
            rw [hz] at hz'
            simp at hz'
      exact ⟨fnd fr k, .inr ⟨k, hmn, hfk, rfl⟩, .inr ⟨hlt, rfl⟩⟩
  have hmt := matchD bz t n fr res ht hof hfr hno hres
  have hst : (AV.agg res).stored = some res := by rcases hcase with ⟨_, rfl⟩ | ⟨_, rfl⟩ <;> rfl
  have hrl : res.length = 3 := by rcases hcase with ⟨_, rfl⟩ | ⟨_, rfl⟩ <;> rfl
  have hwr : writeAt fnd0 0 res = some res := by rcases hcase with ⟨_, rfl⟩ | ⟨_, rfl⟩ <;> rfl
  apply OkF.ret
  (apply f_wp rfl rfl; (repeat (first | exact Shape.nil | (apply Shape.cons; conv => lhs; whnf))))
  refine qqV ?_
  refine qV ?_
  refine o_call rfl rfl haw ?_
  refine sV ?_
  refine eV ?_
  refine qqV ?_
  refine lV ?_
  refine c_skip ?_
  refine qqV ?_
  refine lV ?_
  refine c_skip ?_
  refine qV ?_
  refine o_call (l := [.vec (bs [91, 98, 45, 100, 120, 93, 43]) (.exact false), .int .i64 0]) rfl rfl hmd ?_
  refine sV ?_
  refine o_alloc rfl ?_
  refine o_st (l := qdcore) rfl rfl rfl rfl (getCells_new _ _ 0) rfl (lets_nil (blt_no (Nat.zero_le _)) rfl) (cs' := qdcore) rfl ?_
  rw [push_put]
  refine sV ?_
  refine eV ?_
  change OkC _ _ bz _ _ ⟨hd1, [], [], glT⟩ _
  refine qqV ?_
  refine lV ?_
  refine c_skip ?_
  refine qV ?_
  refine o_call (l := [.ptr 76 0 0, .vec (Am.byteCells t) .shut, .int .i64 0, .int .i64 n, .nilsl, .agg [.int .i64 0, .int .i64 0, .int .i64 0]]) rfl rfl hmt ?_
  refine sV ?_
  refine o_alloc rfl ?_
  refine o_st (l := res) rfl rfl rfl hst (getCells_new _ fnd0 0) (by rw [hrl]; rfl) (lets_nil (blt_no (Nat.zero_le _)) rfl) (cs' := res) hwr ?_
  rw [push_put]
  refine sV ?_
  refine eV ?_
  have hF := getCells_new (⟨hd1, [], [], glT⟩ : Sg) res 0
  change OkC _ _ bz _ ⟨[(0, .vec (Am.byteCells t) .shut), (1, .int .i64 n), (4, .bool false), (5, .bool true), (16, .bool false), (29, .bool false), (8, .bool true), (38, .bool false), (7, qdm), (12, .undef), (60, .undef), (13, .undef), (74, .undef), (80, .undef), (10, .int .i64 0), (9, .ptr (⟨hd1, [], [], glT⟩ : Sg).heap.length 0 0), (11, .int .i64 0)], [], .off⟩ ((⟨hd1, [], [], glT⟩ : Sg).push (.cells res 0)) _
  generalize (⟨hd1, [], [], glT⟩ : Sg).push (.cells res 0) = s5 at hF ⊢
  generalize (⟨hd1, [], [], glT⟩ : Sg).heap.length = P at hF ⊢
  clear hmt hmd haw hst hrl hwr hres
  refine qqV ?_
  refine c_seq ?_
  refine c_block ?_
  refine c_loop ?_
  refine OkL.more (k := (fr - n) + 1) (by omega) (from_loop _ s5 t n fr P qdm _ ht hno hfr hcf _ (fun u => ?_) (fr - n) n (by omega) (Nat.le_refl _) _)
  refine qqV ?_
  refine c_seq ?_
  refine c_block ?_
  refine c_loop ?_
  refine OkL.more (k := (k - fr) + 1) (by omega) (to_loop _ s5 t n fr k P qdm _ hmn _ (fun u' => ?_) (k - fr) fr (by omega) (Nat.le_refl _) _)
  rcases hcase with ⟨hfl, rfl⟩ | ⟨hfl, rfl⟩
  · refine qqV ?_
    refine iV ?_
    refine qqV ?_
    refine c_ret ?_
    exact fin_ret (.inl rfl) (read_tmp rfl read_nil) (leave_pure rfl rfl) ⟨rfl, rfl⟩
  · refine qqV ?_
    refine lV ?_
    refine c_skip ?_
    refine qV ?_
    refine o_ixvec (j := 0) (v := .agg [.int .i64 fr, .int .i64 k]) rfl rfl rfl rfl rfl rfl ?_
    (first | ((first | apply o_move rfl rfl | apply o_easy1 rfl rfl rfl | apply o_ld rfl rfl (by assumption) (by first | rfl | assumption)); conv => lhs; whnf) | apply o_no rfl | refine o_b rfl rfl rfl (by constructor; omega) ?_ | refine o_f rfl rfl rfl (by constructor; omega) ?_ | refine o_s rfl rfl rfl (by constructor; first | omega | assumption) ?_ | refine o_t rfl rfl rfl (by constructor; assumption) ?_ | (apply o_easy rfl rfl rfl; conv => lhs; whnf) | apply o_non rfl)
    (first | ((first | apply o_move rfl rfl | apply o_easy1 rfl rfl rfl | apply o_ld rfl rfl (by assumption) (by first | rfl | assumption)); conv => lhs; whnf) | apply o_no rfl | refine o_b rfl rfl rfl (by constructor; omega) ?_ | refine o_f rfl rfl rfl (by constructor; omega) ?_ | refine o_s rfl rfl rfl (by constructor; first | omega | assumption) ?_ | refine o_t rfl rfl rfl (by constructor; assumption) ?_ | (apply o_easy rfl rfl rfl; conv => lhs; whnf) | apply o_non rfl)
    (first | ((first | apply o_move rfl rfl | apply o_easy1 rfl rfl rfl | apply o_ld rfl rfl (by assumption) (by first | rfl | assumption)); conv => lhs; whnf) | apply o_no rfl | refine o_b rfl rfl rfl (by constructor; omega) ?_ | refine o_f rfl rfl rfl (by constructor; omega) ?_ | refine o_s rfl rfl rfl (by constructor; first | omega | assumption) ?_ | refine o_t rfl rfl rfl (by constructor; assumption) ?_ | (apply o_easy rfl rfl rfl; conv => lhs; whnf) | apply o_non rfl)
    (first | ((first | apply o_move rfl rfl | apply o_easy1 rfl rfl rfl | apply o_ld rfl rfl (by assumption) (by first | rfl | assumption)); conv => lhs; whnf) | apply o_no rfl | refine o_b rfl rfl rfl (by constructor; omega) ?_ | refine o_f rfl rfl rfl (by constructor; omega) ?_ | refine o_s rfl rfl rfl (by constructor; first | omega | assumption) ?_ | refine o_t rfl rfl rfl (by constructor; assumption) ?_ | (apply o_easy rfl rfl rfl; conv => lhs; whnf) | apply o_non rfl)
    refine o_w (v := .bool true) rfl ?_ ?_
    · show (eqCells [0, 0] [.int .i64 fr, .int .i64 k] [.int .i64 fr, .int .i64 k]).map (fun e => AV.bool (negIf false e)) = some (.bool true)
      simp [eqCells, negIf]
    refine sV ?_
    refine eV ?_
    refine c_ret ?_
    exact fin_ret (.inl rfl) (read_tmp rfl read_nil) (leave_pure rfl rfl) ⟨rfl, rfl⟩

end Go.Vmm

/-
  A class of letters is found where the first of them stands: MatchLeft answers true, whatever the bytes and the number; its card.
-/
namespace Go.Proofs.YtndindldlkdigabGreatDoor
open Go.ChangeShapes Go.WideShapes Go.ChangeAt Go.RowKit

theorem own : ownKnob Tryz.prog.godebug = none := by kernel_rfl
theorem laidOut : laidOutB Tryz.prog = true := by kernel_rfl
theorem rowed : mapsRowed Tryz.prog = true := by kernel_rfl
theorem full : ∀ t e, t < Tryz.prog.types.size → Tryz.prog.underlying t = some (.slice e) → 0 < Tryz.prog.cellsOf e := slices_full_of Tryz.prog (by kernel_rfl)
theorem cells5 : Tryz.prog.cellsOf 5 = 1 := by kernel_rfl

def pows : List Int := [1, 10, 100, 1000, 10000, 100000, 1000000, 10000000, 100000000, 1000000000, 10000000000, 100000000000, 1000000000000, 10000000000000, 100000000000000, 1000000000000000, 10000000000000000, 100000000000000000, 1000000000000000000, 10000000000000000000]

theorem gl_ok {W : World} (h : laidMetH Tryz.prog Rows.matchLeftRow.laid W) : ∀ p ∈ Vmm.glT, Am.GlOk (Am.Gh.start W) W p := by
  have h' : laidMet Tryz.prog Rows.matchLeftRow.laid W := h
  obtain ⟨ps, hl, _, _⟩ := h'
  obtain ⟨g1, t1, c1, f1, p1, q1, _, _, _, _, hl, _⟩ := hl
  obtain ⟨g2, t2, c2, f2, p2, q2, _, _, _, _, hl, _⟩ := hl
  obtain ⟨g3, t3, c3, f3, p3, q3, hg, ht, hv, hd, _, _⟩ := hl
  obtain rfl : g3 = 0 := Option.some.inj (hg.symm.trans (show Tryz.prog.globalNamed "internal/strconv.uint64pow10" = some 0 by kernel_rfl))
  obtain rfl : t3 = 329 := Option.some.inj (ht.symm.trans (show (Tryz.prog.globals[0]?).map (·.type) = some 329 by kernel_rfl))
  have hcs : c3.toList = pows.map (Value.int .u64) := Am.trod_ints (t := 329) (e := 271) (n := 20) (k := .u64) (ns := pows) (by kernel_rfl) (by kernel_rfl) (by kernel_rfl) (by kernel_rfl) hd
  have hc3 : c3 = (pows.map (Value.int .u64)).toArray := by rw [← hcs, Array.toArray_toList]
  simp only [World.var?, hg, Option.bind_some] at hv
  intro p hp
  obtain rfl : p = (0, Vmm.pow10) := by simpa [Vmm.glT] using hp
  cases hw : W.heap[0]? with
  | none => rw [hw] at hv; cases hv
  | some o =>
    rw [hw] at hv
    cases o with
    | cells cs t fr =>
      cases hv
      rw [hc3] at hw
      exact Am.gl_ints hw
    | _ => cases hv

set_option maxRecDepth 100000 in
theorem contract (H : Type) (enc : TypeId × Value → H) (W : World) (base : Nat) (args : Array Value) (ds gs : List (DataW H)) (before : List MemPlace)
    (hval : ∀ (j : Nat) t v, Tryz.f3.params[j]? = some t → args[j]? = some v → Value.okWide Tryz.prog W .any base t v)
    (hW : DataW.Whole enc Tryz.prog Tryz.f3.params.toList Rows.matchLeftSpec.vars false W args.toList ds gs before) (hL : laidMetH Tryz.prog Rows.matchLeftRow.laid W) :
    Calls Tryz.prog 3 args W fun e W' => ∃ v, e = .returned v ∧ Rows.matchLeftSpec.post enc Tryz.prog Tryz.f3 false true false false W args v W' := by
  have hW' := hW
  obtain ⟨p, q, hA0, hV, rfl, hfz, hnd⟩ := hW
  have hA : DataW.TrodAll enc Tryz.prog W 0 (fun _ => true) true Tryz.f3.params.toList args.toList ds p := hA0
  have hts : ∀ t ∈ Tryz.f3.params.toList, t < Tryz.prog.types.size := of_decide_eq_true (by kernel_rfl)
  rw [Tryz.params3] at hA hval
  obtain ⟨v0, vs0, d0, ds0, p0, q0, hargs, rfl, rfl, h0, r0⟩ := trodAll_cons hA
  obtain ⟨v1, vs1, d1, ds1, p1, q1, hargs1, rfl, rfl, h1, r1⟩ := trodAll_cons r0
  obtain ⟨rfl, rfl, rfl⟩ := trodAll_nil r1
  subst hargs1
  obtain rfl : args = #[v0, v1] := by cases args; simp_all
  have hgs : gs = [] ∧ q = [] := trodVars_none hV
  obtain ⟨rfl, rfl⟩ := hgs
  obtain ⟨t, hv0, _⟩ := Am.lay_bytes Tryz.underlying22 Tryz.underlying5 cells5 (hval 0 22 v0 rfl rfl) h0
  obtain ⟨n, hv1, _⟩ := Am.lay_int Tryz.underlying3 (hval 1 3 v1 rfl rfl) h1
  have hc := Am.law_trueT Vmm.tab_ok (gl := Vmm.glT) (Vmm.law _ t n) (gl_ok hL) (Am.vrs_cons hv0 (Am.vrs_cons hv1 Am.vrs_nil)) Tryz.func3 rfl (by decide +kernel)
  exact hc.mono fun e W' he => ⟨_, he.1, Am.law_post laidOut rowed full hts rfl rfl Tryz.underlying4 hW' rfl rfl rfl he.2⟩

theorem laid_met (os : Os) : laidMet Tryz.prog Rows.matchLeftRow.laid ((World.laidAll Tryz.prog os Rows.matchLeftRow.laid).forCall (fun _ _ => 0) ⟨#[], #[.slice none 0 0, .int .i64 0], []⟩).memory :=
  laidMet_laidAll _ (by kernel_rfl) (by kernel_rfl)
theorem reads (os : Os) {H : Type} (enc : TypeId × Value → H) : ∃ places, DataW.whole enc Tryz.prog ((World.laidAll Tryz.prog os Rows.matchLeftRow.laid).forCall (fun _ _ => 0) ⟨#[], #[.slice none 0 0, .int .i64 0], []⟩).memory Tryz.f3.params.toList Rows.matchLeftSpec.vars false #[Value.slice none 0 0, Value.int .i64 0].toList 8 = some ([.nil, .lit (.int .i64 0)], [], places) :=
  ⟨[], by kernel_rfl⟩

set_option maxRecDepth 100000 in
theorem lifted (os : Os) (started : os.Started) (H : Type) (enc : TypeId × Value → H) (F : Stop.Interp) :
    ReturnsInHanded {} Tryz.checked os 3 .any ((OpenSpec.ofChange Rows.matchLeftSpec).preRow enc Tryz.prog Tryz.f3 Rows.matchLeftRow.domain false Rows.matchLeftRow.laid) (((OpenSpec.ofChange Rows.matchLeftSpec).at F).post enc Tryz.prog Tryz.f3 false true false false) := by
  obtain ⟨places, hx⟩ := reads os enc
  refine returnsInHanded_of_row (C := Tryz.checked) (s := OpenSpec.ofChange Rows.matchLeftSpec) own started (by kernel_rfl) Tryz.func3
    (witness_row_at (enc := enc) (C := Tryz.checked) false (World.laidAll Tryz.prog os Rows.matchLeftRow.laid) #[.slice none 0 0, .int .i64 0] (World.laidAll_os _ _ _) (by kernel_rfl) (by kernel_rfl) (by kernel_rfl)
      (OpenSpec.preRow_of_cond 8 hx (by kernel_rfl) (fun k hk => by cases hk) (by kernel_rfl) (laid_met os))) ?_
  intro W base args ds gs before hval hW _ _ _ hL _ _
  exact contract H enc W base args ds gs before hval hW hL

theorem said : Rows.MatchLeftSaid :=
  OpenClaim.holds_of_cond 3 Tryz.f3 rfl rfl rfl rfl rfl rfl rfl ⟨rfl, rfl, rfl, rfl, rfl⟩ rfl rfl rfl rfl rfl (by kernel_rfl) Tryz.func3 (by kernel_rfl)
    (of_decide_eq_true (by kernel_rfl)) (by unfold Func.isWrapper; first | (rw [if_pos (by decide +kernel)]; kernel_rfl) | (rw [if_neg (by decide +kernel)]; exact ⟨rfl, rfl⟩))
    (fun os started H enc _ F => by rw [OpenClaim.pre_eq_preRow]; exact lifted os started H enc F)

theorem plain (f : FuncId) (fn : Func) (hf : Tryz.pinned.checked.prog.funcNamed "lurcher/lurcherlaw19.MatchLeft" = some f) (hfn : Tryz.pinned.checked.prog.funcs[f]? = some fn) :
    true = Tryz.pinned.checked.prog.looks [] ∧ ∀ (j : Nat) t, fn.params[j]? = some t → Tryz.pinned.checked.prog.wantsStandIn t = false := by
  obtain rfl : f = 3 := Option.some.inj ((show Tryz.prog.funcNamed "lurcher/lurcherlaw19.MatchLeft" = some 3 by kernel_rfl).symm.trans hf) |>.symm
  obtain rfl : fn = Tryz.f3 := (Option.some.inj (Tryz.func3.symm.trans hfn)).symm
  refine ⟨by kernel_rfl, fun j t ht => ?_⟩
  rw [Tryz.params3] at ht
  have h : t = 22 ∨ t = 3 := by have := Array.mem_of_getElem? ht; simpa using this
  rcases h with rfl | rfl
  · exact (show Tryz.prog.wantsStandIn 22 = false by kernel_rfl)
  · exact (show Tryz.prog.wantsStandIn 3 = false by kernel_rfl)

theorem matchLeft : Rows.MatchLeftCardSaid :=
  Claim7.holds_tied_plain_at .later [] _ _ _ _ said (fun _ h => by cases h) (by kernel_rfl) (fun _ h => by cases h) matchLeft_row_tie rfl ⟨rfl, rfl⟩ (by kernel_rfl) rfl plain (by kernel_rfl)

#print axioms matchLeft
end Go.Proofs.YtndindldlkdigabGreatDoor
