/-
  Quote writes any text as the reference does: the law on the abstract machine; the call.
-/
import Derived.Test.YtpaebiddgpjlnabGreatDoorSqhD
import Derived.Test.YtpaebiddgpjlnabGreatDoorSqhC
import Derived.Test.YtpaebiddgpjlnabGreatDoorSqhB
import Derived.Test.YtpaebiddgpjlnabGreatDoorSqtE
import Derived.Test.YtpaebiddgpjlnabGreatDoorCards
import Derived.Test.YtpaebiddgpjlnabGreatDoorTie
import Derived.WalkKit
import Derived.ProofKit
import Derived.OpenShut
import Derived.Deep.DeepHandedRow
import Derived.Lay
import Derived.Test.YtpaebiddgpjlnabGreatDoorMachD
import Derived.Test.YtpaebiddgpjlnabGreatDoorMachF

namespace Go.Vmm
open Go Go.Am Go.Proofs

theorem hqal : hqa0.length = 124 := by kernel_rfl
theorem hqbl : hqb0.length = 178 := by kernel_rfl

/-- the seat's awake() -/
theorem awake (b : Bar) : callF T 598 b 4 [] ⟨[], [], [], glT⟩ = some (.ret (.bool true), ⟨[], [], [], glT⟩) := by
  apply OkF.ret
  (apply f_wp rfl rfl; (repeat (first | exact Shape.nil | (apply Shape.cons; conv => lhs; whnf))))
  refine qqV ?_
  refine qV ?_
  refine o_call (l := [.vec (bs [40, 97, 41, 124, 98]) (.exact false), .int .i64 0]) rfl rfl mdqa ?_
  refine sV ?_
  refine o_alloc rfl ?_
  refine o_st (l := qacore) rfl rfl rfl rfl (getCells_new _ _ 0) rfl (lets_nil (blt_no (Nat.zero_le _)) rfl) (cs' := qacore) rfl ?_
  rw [push_put]
  refine sV ?_
  refine eV ?_
  change OkC _ _ bz _ _ ⟨baqb, [1, 1], [], glT⟩ _
  refine qV ?_
  refine o_call (l := [.vec (bs [44]) (.exact false), .int .i64 0]) rfl rfl mdqb ?_
  refine sV ?_
  refine o_alloc rfl ?_
  refine o_st (l := qbcore) rfl rfl rfl rfl (getCells_new _ _ 0) rfl (lets_nil (blt_no (Nat.zero_le _)) rfl) (cs' := qbcore) rfl ?_
  rw [push_put]
  refine sV ?_
  refine eV ?_
  change OkC _ _ bz _ _ ⟨hq, [1, 1], [], glT⟩ _
  refine qqV ?_
  refine lV ?_
  refine c_skip ?_
  refine qV ?_
  refine o_call (l := [qam, .vec (bs [120, 97, 98, 121]) (.exact false), .vec (bs [60, 36, 123, 49, 58, 45, 36, 48, 125, 62]) (.exact false), .int .i64 0, .bool true]) rfl rfl (runSu _) ?_
  refine sV ?_
  refine eV ?_
  refine qV ?_
  refine o_call (l := [qbm, .vec (bs [97, 44, 98, 44, 44, 99]) (.exact false), .int .i64 0, .int .i64 0]) rfl rfl (runSp _) ?_
  refine sV ?_
  refine eV ?_
  have hru := runQu bz
  generalize (⟨hq, [1, 1], [], glT⟩ : Sg) = s4 at hru ⊢
  repeat refine c_seq ?_
  refine c_region ?_
  (first | ((first | apply o_move rfl rfl | apply o_easy1 rfl rfl rfl | apply o_ld rfl rfl (by assumption) (by first | rfl | assumption)); conv => lhs; whnf) | apply o_no rfl | refine o_b rfl rfl rfl (by constructor; omega) ?_ | refine o_f rfl rfl rfl (by constructor; omega) ?_ | refine o_s rfl rfl rfl (by constructor; first | omega | assumption) ?_ | refine o_t rfl rfl rfl (by constructor; assumption) ?_ | (apply o_easy rfl rfl rfl; conv => lhs; whnf) | apply o_non rfl)
  refine o_bs (l := [120, 60, 97, 62, 60, 98, 62, 121]) rfl rfl rfl ?_
  refine o_w (v := .bool true) rfl (by rfl) ?_
  iterate 14 (first | ((first | apply o_move rfl rfl | apply o_easy1 rfl rfl rfl | apply o_ld rfl rfl (by assumption) (by first | rfl | assumption)); conv => lhs; whnf) | apply o_no rfl | refine o_b rfl rfl rfl (by constructor; omega) ?_ | refine o_f rfl rfl rfl (by constructor; omega) ?_ | refine o_s rfl rfl rfl (by constructor; first | omega | assumption) ?_ | refine o_t rfl rfl rfl (by constructor; assumption) ?_ | (apply o_easy rfl rfl rfl; conv => lhs; whnf) | apply o_non rfl)
  refine o_w (v := .int .i64 4) rfl (by rfl) ?_
  refine sV ?_
  refine o_ixvec (j := 3) rfl rfl rfl rfl rfl rfl ?_
  refine o_w (v := .str [99]) rfl (by rfl) ?_
  refine o_w (v := .bool true) rfl (by rfl) ?_
  refine sV ?_
  refine o_call (l := [.vec (bs [97, 46, 98]) (.exact false), .bool false]) rfl rfl hru ?_
  refine o_w (v := .bool true) rfl (by rfl) ?_
  refine sV ?_
  refine eV ?_
  refine c_ret ?_
  exact fin_ret (.inl rfl) (read_tmp rfl read_nil) (leave_pure rfl rfl) ⟨rfl, by simp⟩

theorem law (b : Bar) (t : List UInt8) (utf : Bool) : callF T 3002 b 3 [.vec (Am.byteCells t) .shut, .bool utf] ⟨[], [], [], glT⟩ = some (.ret (.bool true), ⟨[], [], [], glT⟩) := by
  have hbl := Am.byteCells_length t
  have haw : callF T 3001 bz 4 [] ⟨[], [], [], glT⟩ = some (.ret (.bool true), ⟨[], [], [], glT⟩) := callF_mono T 598 3001 (by omega) _ _ _ _ _ (awake bz)
  have hq1 := fun (h : t.length ≤ 2000) => quote_spec 3000 bz t .shut utf ⟨[], [], [], glT⟩ rfl (by omega) (by omega) (by omega)
  have hq2 := fun (h : t.length ≤ 2000) => quote_ref 3000 bz t .shut utf ⟨[], [], [], glT⟩ (by omega) (by omega) (by omega)
  apply OkF.ret
  (apply f_wp rfl rfl; (repeat (first | exact Shape.nil | (apply Shape.cons; conv => lhs; whnf))))
  refine qqV ?_
  refine qV ?_
  refine o_call rfl rfl haw ?_
  refine sV ?_
  refine eV ?_
  refine qqV ?_
  refine lV ?_
  refine c_skip ?_
  by_cases h : 2000 < t.length
  · refine qqV ?_
    refine c_ret ?_
    exact fin_ret (.inl rfl) (read_tmp rfl read_nil) (leave_pure rfl rfl) ⟨rfl, rfl⟩
  · refine qV ?_
    refine o_call rfl rfl (hq1 (by omega)) ?_
    refine sV ?_
    refine o_call rfl rfl (hq2 (by omega)) ?_
    refine o_w (v := .bool true) rfl ?_ ?_
    · show strBin .eql (quo utf (3000 - 1) (ints t)) (quo utf (3000 - 1) (ints t)) = _
      generalize quo utf (3000 - 1) (ints t) = l
      simp [strBin]
    refine sV ?_
    refine eV ?_
    refine c_ret ?_
    exact fin_ret (.inl rfl) (read_tmp rfl read_nil) (leave_pure rfl rfl) ⟨rfl, rfl⟩

end Go.Vmm

/-
  Quote writes any text as the reference does: SubstQuotes answers true, whatever the bytes; its card.
-/
namespace Go.Proofs.YtpaebiddgpjlnabGreatDoor
open Go.ChangeShapes Go.WideShapes Go.ChangeAt Go.RowKit

theorem own : ownKnob Tryz.prog.godebug = none := by kernel_rfl
theorem laidOut : laidOutB Tryz.prog = true := by kernel_rfl
theorem rowed : mapsRowed Tryz.prog = true := by kernel_rfl
theorem full : ∀ t e, t < Tryz.prog.types.size → Tryz.prog.underlying t = some (.slice e) → 0 < Tryz.prog.cellsOf e := slices_full_of Tryz.prog (by kernel_rfl)
theorem cells5 : Tryz.prog.cellsOf 5 = 1 := by kernel_rfl

def pows : List Int := [1, 10, 100, 1000, 10000, 100000, 1000000, 10000000, 100000000, 1000000000, 10000000000, 100000000000, 1000000000000, 10000000000000, 100000000000000, 1000000000000000, 10000000000000000, 100000000000000000, 1000000000000000000, 10000000000000000000]

def debs : List Int := [0, 1, 56, 2, 57, 49, 28, 3, 61, 58, 42, 50, 38, 29, 17, 4, 62, 47, 59, 36, 45, 43, 51, 22, 53, 39, 33, 30, 24, 18, 12, 5, 63, 55, 48, 27, 60, 41, 37, 16, 46, 35, 44, 21, 52, 32, 23, 11, 54, 26, 40, 15, 34, 20, 31, 10, 25, 14, 19, 9, 13, 8, 7, 6]

theorem gl_ok {W : World} (h : laidMetH Tryz.prog Rows.substQuotesRow.laid W) : ∀ p ∈ Vmm.glT, Am.GlOk (Am.Gh.start W) W p := by
  have h' : laidMet Tryz.prog Rows.substQuotesRow.laid W := h
  obtain ⟨ps, hl, _, _⟩ := h'
  obtain ⟨g1, t1, c1, f1, p1, q1, _, _, _, _, hl, _⟩ := hl
  obtain ⟨g2, t2, c2, f2, p2, q2, hg2, ht2, hv2, hd2, hl, _⟩ := hl
  obtain ⟨g3, t3, c3, f3, p3, q3, hg, ht, hv, hd, _, _⟩ := hl
  obtain rfl : g3 = 0 := Option.some.inj (hg.symm.trans (show Tryz.prog.globalNamed "internal/strconv.uint64pow10" = some 0 by kernel_rfl))
  obtain rfl : g2 = 2 := Option.some.inj (hg2.symm.trans (show Tryz.prog.globalNamed "math/bits.deBruijn64tab" = some 2 by kernel_rfl))
  obtain rfl : t3 = 197 := Option.some.inj (ht.symm.trans (show (Tryz.prog.globals[0]?).map (·.type) = some 197 by kernel_rfl))
  obtain rfl : t2 = 291 := Option.some.inj (ht2.symm.trans (show (Tryz.prog.globals[2]?).map (·.type) = some 291 by kernel_rfl))
  have hcs : c3.toList = pows.map (Value.int .u64) := Am.trod_ints (t := 197) (e := 116) (n := 20) (k := .u64) (ns := pows) (by kernel_rfl) (by kernel_rfl) (by kernel_rfl) (by kernel_rfl) hd
  have hcs2 : c2.toList = debs.map (Value.int .u8) := Am.trod_ints (t := 291) (e := 5) (n := 64) (k := .u8) (ns := debs) (by kernel_rfl) (by kernel_rfl) (by kernel_rfl) (by kernel_rfl) hd2
  have hc3 : c3 = (pows.map (Value.int .u64)).toArray := by rw [← hcs, Array.toArray_toList]
  have hc2 : c2 = (debs.map (Value.int .u8)).toArray := by rw [← hcs2, Array.toArray_toList]
  simp only [World.var?, hg, Option.bind_some] at hv
  simp only [World.var?, hg2, Option.bind_some] at hv2
  have h0 : Am.GlOk (Am.Gh.start W) W (0, Vmm.pow10) := by
    cases hw : W.heap[0]? with
    | none => rw [hw] at hv; cases hv
    | some o =>
      rw [hw] at hv
      cases o with
      | cells cs t fr =>
        cases hv
        rw [hc3] at hw
        exact Am.gl_ints hw
      | _ => cases hv
  have h2 : Am.GlOk (Am.Gh.start W) W (2, Vmm.deb64) := by
    cases hw : W.heap[2]? with
    | none => rw [hw] at hv2; cases hv2
    | some o =>
      rw [hw] at hv2
      cases o with
      | cells cs t fr =>
        cases hv2
        rw [hc2] at hw
        exact Am.gl_ints hw
      | _ => cases hv2
  intro p hp
  rcases List.mem_cons.1 hp with rfl | hp
  · exact h0
  · rcases List.mem_cons.1 hp with rfl | hp
    · exact h2
    · cases hp

theorem bool4 : Am.Sh.bool.is Tryz.prog 4 = true := by kernel_rfl
theorem has_bool {x : Am.AV} (h : Am.Sh.bool.Has x) : ∃ u, x = .bool u := by cases h; exact ⟨_, rfl⟩

set_option maxRecDepth 100000 in
theorem contract (H : Type) (enc : TypeId × Value → H) (W : World) (base : Nat) (args : Array Value) (ds gs : List (DataW H)) (before : List MemPlace)
    (hval : ∀ (j : Nat) t v, Tryz.f3.params[j]? = some t → args[j]? = some v → Value.okWide Tryz.prog W .any base t v)
    (hW : DataW.Whole enc Tryz.prog Tryz.f3.params.toList Rows.substQuotesSpec.vars false W args.toList ds gs before)
    (hR : (DataW.weightsEach Tryz.prog (Tryz.f3.params.toList ++ (OpenSpec.ofChange Rows.substQuotesSpec).bare.plain.varTypes Tryz.prog) (ds ++ gs)).all (· ≤ reachBytes) = true) (hL : laidMetH Tryz.prog Rows.substQuotesRow.laid W) :
    Calls Tryz.prog 3 args W fun e W' => ∃ v, e = .returned v ∧ Rows.substQuotesSpec.post enc Tryz.prog Tryz.f3 false true false false W args v W' := by
  have hW' := hW
  obtain ⟨p, q, hA0, hV, rfl, hfz, hnd⟩ := hW
  have hA : DataW.TrodAll enc Tryz.prog W 0 (fun _ => true) true Tryz.f3.params.toList args.toList ds p := hA0
  have hts : ∀ t ∈ Tryz.f3.params.toList, t < Tryz.prog.types.size := of_decide_eq_true (by kernel_rfl)
  rw [Tryz.params3] at hA hval hR
  obtain ⟨v0, vs0, d0, ds0, p0, q0, hargs, rfl, rfl, h0, r0⟩ := trodAll_cons hA
  obtain ⟨v1, vs1, d1, ds1, p1, q1, hargs1, rfl, rfl, h1, r1⟩ := trodAll_cons r0
  obtain ⟨rfl, rfl, rfl⟩ := trodAll_nil r1
  subst hargs1
  obtain rfl : args = #[v0, v1] := by cases args; simp_all
  have hgs : gs = [] ∧ q = [] := trodVars_none hV
  obtain ⟨rfl, rfl⟩ := hgs
  obtain ⟨t, hv0, _⟩ := Am.lay_bytes Tryz.underlying22 Tryz.underlying5 cells5 (hval 0 22 v0 rfl rfl) h0
  obtain ⟨u, hv1, hu⟩ := Am.lay_sh bool4 rfl (hval 1 4 v1 rfl rfl) h1
  obtain ⟨utf, rfl⟩ := has_bool hu
  have hc := Am.law_trueT Vmm.tab_ok (gl := Vmm.glT) (Vmm.law _ t utf) (gl_ok hL) (Am.vrs_cons hv0 (Am.vrs_cons hv1 Am.vrs_nil)) Tryz.func3 rfl (by decide +kernel)
  exact hc.mono fun e W' he => ⟨_, he.1, Am.law_post laidOut rowed full hts rfl rfl Tryz.underlying4 hW' rfl rfl rfl he.2⟩

theorem laid_met (os : Os) : laidMet Tryz.prog Rows.substQuotesRow.laid ((World.laidAll Tryz.prog os Rows.substQuotesRow.laid).forCall (fun _ _ => 0) ⟨#[], #[.slice none 0 0, .bool false], []⟩).memory :=
  laidMet_laidAll _ (by kernel_rfl) (by kernel_rfl)
theorem reads (os : Os) {H : Type} (enc : TypeId × Value → H) : ∃ places, DataW.whole enc Tryz.prog ((World.laidAll Tryz.prog os Rows.substQuotesRow.laid).forCall (fun _ _ => 0) ⟨#[], #[.slice none 0 0, .bool false], []⟩).memory Tryz.f3.params.toList Rows.substQuotesSpec.vars false #[Value.slice none 0 0, Value.bool false].toList 8 = some ([.nil, .lit (.bool false)], [], places) :=
  ⟨[], by kernel_rfl⟩

set_option maxRecDepth 100000 in
theorem lifted (os : Os) (started : os.Started) (H : Type) (enc : TypeId × Value → H) (F : Stop.Interp) :
    ReturnsInHanded {} Tryz.checked os 3 .any ((OpenSpec.ofChange Rows.substQuotesSpec).preRow enc Tryz.prog Tryz.f3 Rows.substQuotesRow.domain false Rows.substQuotesRow.laid) (((OpenSpec.ofChange Rows.substQuotesSpec).at F).post enc Tryz.prog Tryz.f3 false true false false) := by
  obtain ⟨places, hx⟩ := reads os enc
  refine returnsInHanded_of_row (C := Tryz.checked) (s := OpenSpec.ofChange Rows.substQuotesSpec) own started (by kernel_rfl) Tryz.func3
    (witness_row_at (enc := enc) (C := Tryz.checked) false (World.laidAll Tryz.prog os Rows.substQuotesRow.laid) #[.slice none 0 0, .bool false] (World.laidAll_os _ _ _) (by kernel_rfl) (by kernel_rfl) (by kernel_rfl)
      (OpenSpec.preRow_of_cond 8 hx (by kernel_rfl) (fun k hk => by cases hk) (by kernel_rfl) (laid_met os))) ?_
  intro W base args ds gs before hval hW _ _ hR hL _ _
  exact contract H enc W base args ds gs before hval hW hR hL

end Go.Proofs.YtpaebiddgpjlnabGreatDoor
