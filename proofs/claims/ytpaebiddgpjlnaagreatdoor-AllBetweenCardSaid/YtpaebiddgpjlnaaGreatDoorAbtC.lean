/-
  What lies between any matches is what the document says: the law on the abstract machine; the call.
-/
import Derived.Test.YtpaebiddgpjlnaaGreatDoorAbhC
import Derived.Test.YtpaebiddgpjlnaaGreatDoorAbtB
import Derived.Test.YtpaebiddgpjlnaaGreatDoorCards
import Derived.Test.YtpaebiddgpjlnaaGreatDoorTie
import Derived.WalkKit
import Derived.ProofKit
import Derived.OpenShut
import Derived.Deep.DeepHandedRow
import Derived.Lay
import Derived.Test.YtpaebiddgpjlnaaGreatDoorMachD
import Derived.Test.YtpaebiddgpjlnaaGreatDoorMachF

namespace Go.Vmm
open Go Go.Am Go.Proofs

theorem hql : hqa0.length = 76 := by kernel_rfl
theorem runBw (b : Bar) : callF T 597 b 6 [.vec (bs [97, 98, 99]) (.exact false), .vec [.agg [.int .i64 1, .vec [.agg [.int .i64 1, .int .i64 2]] (.exact true), .str []]] (.exact true)] ⟨hq, [], [], glT⟩ = some (.ret (.vec [.agg [.int .i64 0, .int .i64 1], .agg [.int .i64 2, .int .i64 3]] .shut), ⟨hq, [], [], glT⟩) := by kernel_rfl

/-- the seat's awake() -/
theorem awake (b : Bar) : callF T 598 b 4 [] ⟨[], [], [], glT⟩ = some (.ret (.bool true), ⟨[], [], [], glT⟩) := by
  apply OkF.ret
  (apply f_wp rfl rfl; (repeat (first | exact Shape.nil | (apply Shape.cons; conv => lhs; whnf))))
  refine qqV ?_
  refine qV ?_
  refine o_call (l := [.vec (bs [97, 42]) (.exact false), .int .i64 0]) rfl rfl mdqa ?_
  refine sV ?_
  refine o_alloc rfl ?_
  refine o_st (l := qacore) rfl rfl rfl rfl (getCells_new _ _ 0) rfl (lets_nil (blt_no (Nat.zero_le _)) rfl) (cs' := qacore) rfl ?_
  rw [push_put]
  refine sV ?_
  refine eV ?_
  change OkC _ _ bz _ _ ⟨hq, [], [], glT⟩ _
  refine qqV ?_
  refine lV ?_
  refine c_skip ?_
  refine qV ?_
  refine o_call (l := [qam, .vec (bs [97, 97, 98]) (.exact false), .int .i64 0, .int .i64 0, .nilsl, zlim]) rfl rfl (runAl _) ?_
  refine sV ?_
  refine eV ?_
  refine qV ?_
  refine o_call (l := [qam, .vec (bs [97, 97, 98]) (.exact false), .int .i64 0]) rfl rfl (runCn _) ?_
  refine sV ?_
  refine eV ?_
  refine qV ?_
  refine o_call rfl rfl (runBw _) ?_
  refine sV ?_
  refine eV ?_
  have hgl : (⟨hq, [], [], glT⟩ : Sg).gl = glT := rfl
  generalize (⟨hq, [], [], glT⟩ : Sg) = s4 at hgl ⊢
  refine qV ?_
  refine o_ixvec (j := 1) rfl rfl rfl rfl rfl rfl ?_
  refine sV ?_
  refine o_ixvec (j := 0) rfl rfl rfl rfl rfl rfl ?_
  refine sV ?_
  refine o_ixvec (j := 2) rfl rfl rfl rfl rfl rfl ?_
  refine sV ?_
  refine o_ixvec (j := 0) rfl rfl rfl rfl rfl rfl ?_
  refine sV ?_
  refine o_ixvec (j := 1) rfl rfl rfl rfl rfl rfl ?_
  refine sV ?_
  refine eV ?_
  refine c_ret ?_
  exact fin_ret (.inl rfl) (read_tmp rfl read_nil) (leave_pure rfl rfl) ⟨rfl, by simp⟩

theorem law (b : Bar) (t : List AV) (l : List Fd) (hlen : (l.length + 2) * 16 ≤ limit) : callF T (l.length + 602) b 3 [.vec t .shut, .vec (l.map fdV) .shut] ⟨[], [], [], glT⟩ = some (.ret (.bool true), ⟨[], [], [], glT⟩) := by
  have hbl := btw_len t.length l 0
  have hl2 : l.length < 2 ^ 49 := by simp only [limit] at hlen; omega
  have haw : callF T (l.length + 601) bz 4 [] ⟨[], [], [], glT⟩ = some (.ret (.bool true), ⟨[], [], [], glT⟩) := callF_mono T 598 (l.length + 601) (by omega) _ _ _ _ _ (awake bz)
  apply OkF.ret
  (apply f_wp rfl rfl; (repeat (first | exact Shape.nil | (apply Shape.cons; conv => lhs; whnf))))
  refine qqV ?_
  refine qV ?_
  refine o_call rfl rfl haw ?_
  refine sV ?_
  refine eV ?_
  refine qqV ?_
  refine lV ?_
  refine c_skip ?_
  refine qV ?_
  refine o_call rfl rfl (between_spec (l.length + 600) _ t l _ (by omega) (by omega)) ?_
  refine sV ?_
  refine o_call rfl rfl (between_ref (l.length + 600) _ t.length l _ (by omega) (by omega)) ?_
  refine sV ?_
  refine o_call rfl rfl (spans_spec (l.length + 600) _ (btw t.length 0 l) _ (by omega) (by omega)) ?_
  refine sV ?_
  refine eV ?_
  refine c_ret ?_
  exact fin_ret (.inl rfl) (read_tmp rfl read_nil) (leave_pure rfl rfl) ⟨rfl, rfl⟩

end Go.Vmm

/-
  What lies between any matches is the document's: AllBetween answers true, whatever the bytes and the matches; its card.
-/
namespace Go.Proofs.YtpaebiddgpjlnaaGreatDoor
open Go.ChangeShapes Go.WideShapes Go.ChangeAt Go.RowKit

theorem own : ownKnob Tryz.prog.godebug = none := by kernel_rfl
theorem laidOut : laidOutB Tryz.prog = true := by kernel_rfl
theorem rowed : mapsRowed Tryz.prog = true := by kernel_rfl
theorem full : ∀ t e, t < Tryz.prog.types.size → Tryz.prog.underlying t = some (.slice e) → 0 < Tryz.prog.cellsOf e := slices_full_of Tryz.prog (by kernel_rfl)
theorem cells5 : Tryz.prog.cellsOf 5 = 1 := by kernel_rfl

def pows : List Int := [1, 10, 100, 1000, 10000, 100000, 1000000, 10000000, 100000000, 1000000000, 10000000000, 100000000000, 1000000000000, 10000000000000, 100000000000000, 1000000000000000, 10000000000000000, 100000000000000000, 1000000000000000000, 10000000000000000000]

theorem gl_ok {W : World} (h : laidMetH Tryz.prog Rows.allBetweenRow.laid W) : ∀ p ∈ Vmm.glT, Am.GlOk (Am.Gh.start W) W p := by
  have h' : laidMet Tryz.prog Rows.allBetweenRow.laid W := h
  obtain ⟨ps, hl, _, _⟩ := h'
  obtain ⟨g1, t1, c1, f1, p1, q1, _, _, _, _, hl, _⟩ := hl
  obtain ⟨g2, t2, c2, f2, p2, q2, _, _, _, _, hl, _⟩ := hl
  obtain ⟨g3, t3, c3, f3, p3, q3, hg, ht, hv, hd, _, _⟩ := hl
  obtain rfl : g3 = 0 := Option.some.inj (hg.symm.trans (show Tryz.prog.globalNamed "internal/strconv.uint64pow10" = some 0 by kernel_rfl))
  obtain rfl : t3 = 333 := Option.some.inj (ht.symm.trans (show (Tryz.prog.globals[0]?).map (·.type) = some 333 by kernel_rfl))
  have hcs : c3.toList = pows.map (Value.int .u64) := Am.trod_ints (t := 333) (e := 261) (n := 20) (k := .u64) (ns := pows) (by kernel_rfl) (by kernel_rfl) (by kernel_rfl) (by kernel_rfl) hd
  have hc3 : c3 = (pows.map (Value.int .u64)).toArray := by rw [← hcs, Array.toArray_toList]
  simp only [World.var?, hg, Option.bind_some] at hv
  intro p hp
  obtain rfl : p = (0, Vmm.pow10) := by simpa [Vmm.glT] using hp
  cases hw : W.heap[0]? with
  | none => rw [hw] at hv; cases hv
  | some o =>
    rw [hw] at hv
    cases o with
    | cells cs t fr =>
      cases hv
      rw [hc3] at hw
      exact Am.gl_ints hw
    | _ => cases hv

/-- how matches lie among the arguments -/
def fdSh : Am.Sh := .sl (.st [.int .i64, .sl (.st [.int .i64, .int .i64]), .str])
theorem fdSh_ok : fdSh.is Tryz.prog 23 = true := by kernel_rfl
theorem u23 : Tryz.prog.underlying 23 = some (.slice 50) := by kernel_rfl
theorem bytes50 : Tryz.prog.bytesOf 50 = 48 := by kernel_rfl

theorem has_int {k : IntKind} {x : Am.AV} (h : Am.Sh.Has (.int k) x) : ∃ n, x = .int k n := by cases h; exact ⟨_, rfl⟩
theorem has_str {x : Am.AV} (h : Am.Sh.Has .str x) : ∃ s, x = .str s := by cases h; exact ⟨_, rfl⟩

theorem has_list {α : Type} {f : α → Am.AV} : ∀ {es : List Am.AV}, (∀ x ∈ es, ∃ a, x = f a) → ∃ l : List α, es = l.map f
  | [], _ => ⟨[], rfl⟩
  | x :: r, h => by
    obtain ⟨a, rfl⟩ := h x List.mem_cons_self
    obtain ⟨l, rfl⟩ := has_list (es := r) fun y hy => h y (List.mem_cons_of_mem _ hy)
    exact ⟨a :: l, rfl⟩

theorem has_sp {x : Am.AV} (h : Am.Sh.Has (.st [.int .i64, .int .i64]) x) : ∃ p, x = Vmm.spV p := by
  cases h with
  | st _ cs hl hc =>
    match cs, hl with
    | [a, c], _ =>
      obtain ⟨n, rfl⟩ := has_int (hc 0 _ _ rfl rfl)
      obtain ⟨m, rfl⟩ := has_int (hc 1 _ _ rfl rfl)
      exact ⟨(n, m), rfl⟩

theorem has_fd {x : Am.AV} (h : Am.Sh.Has (.st [.int .i64, .sl (.st [.int .i64, .int .i64]), .str]) x) : ∃ f, x = Vmm.fdV f := by
  cases h with
  | st _ cs hl hc =>
    match cs, hl with
    | [a, c, d], _ =>
      obtain ⟨n, rfl⟩ := has_int (hc 0 _ _ rfl rfl)
      obtain ⟨m, rfl⟩ := has_str (hc 2 _ _ rfl rfl)
      have h1 := hc 1 _ _ rfl rfl
      cases h1 with
      | sl _ es he _ =>
        obtain ⟨l, rfl⟩ := has_list fun x hx => has_sp (he x hx)
        exact ⟨⟨n, l, m⟩, rfl⟩

theorem has_fds {x : Am.AV} (h : fdSh.Has x) : ∃ l : List Vmm.Fd, x = .vec (l.map Vmm.fdV) .shut := by
  cases h with
  | sl _ es he _ =>
    obtain ⟨l, rfl⟩ := has_list fun x hx => has_fd (he x hx)
    exact ⟨l, rfl⟩

set_option maxRecDepth 100000 in
theorem contract (H : Type) (enc : TypeId × Value → H) (W : World) (base : Nat) (args : Array Value) (ds gs : List (DataW H)) (before : List MemPlace)
    (hval : ∀ (j : Nat) t v, Tryz.f3.params[j]? = some t → args[j]? = some v → Value.okWide Tryz.prog W .any base t v)
    (hW : DataW.Whole enc Tryz.prog Tryz.f3.params.toList Rows.allBetweenSpec.vars false W args.toList ds gs before)
    (hR : (DataW.weightsEach Tryz.prog (Tryz.f3.params.toList ++ (OpenSpec.ofChange Rows.allBetweenSpec).bare.plain.varTypes Tryz.prog) (ds ++ gs)).all (· ≤ reachBytes) = true) (hL : laidMetH Tryz.prog Rows.allBetweenRow.laid W) :
    Calls Tryz.prog 3 args W fun e W' => ∃ v, e = .returned v ∧ Rows.allBetweenSpec.post enc Tryz.prog Tryz.f3 false true false false W args v W' := by
  have hW' := hW
  obtain ⟨p, q, hA0, hV, rfl, hfz, hnd⟩ := hW
  have hA : DataW.TrodAll enc Tryz.prog W 0 (fun _ => true) true Tryz.f3.params.toList args.toList ds p := hA0
  have hts : ∀ t ∈ Tryz.f3.params.toList, t < Tryz.prog.types.size := of_decide_eq_true (by kernel_rfl)
  rw [Tryz.params3] at hA hval hR
  obtain ⟨v0, vs0, d0, ds0, p0, q0, hargs, rfl, rfl, h0, r0⟩ := trodAll_cons hA
  obtain ⟨v1, vs1, d1, ds1, p1, q1, hargs1, rfl, rfl, h1, r1⟩ := trodAll_cons r0
  obtain ⟨rfl, rfl, rfl⟩ := trodAll_nil r1
  subst hargs1
  obtain rfl : args = #[v0, v1] := by cases args; simp_all
  have hgs : gs = [] ∧ q = [] := trodVars_none hV
  obtain ⟨rfl, rfl⟩ := hgs
  obtain ⟨t, hv0, _⟩ := Am.lay_bytes Tryz.underlying22 Tryz.underlying5 cells5 (hval 0 22 v0 rfl rfl) h0
  obtain ⟨u, hv1, hu⟩ := Am.lay_sh fdSh_ok rfl (hval 1 23 v1 rfl rfl) h1
  obtain ⟨l, rfl⟩ := has_fds hu
  have hlen : l.length ≤ 2932031007402 := by
    rcases Am.slice_len (e := 0) u23 hv1 h1 with h | ⟨elems, spare, rfl, h⟩
    · rw [List.map_eq_nil_iff] at h
      rw [h]
      exact Nat.zero_le _
    · rw [List.length_map] at h
      rw [List.all_eq_true] at hR
      have hm := hR ((elems.length + spare.length) * 48) (by
        rw [← bytes50]
        have e : DataW.weights Tryz.prog 23 (DataW.slice elems spare : DataW H) = (elems.length + spare.length) * Tryz.prog.bytesOf 50 :: (DataW.weightsAll Tryz.prog 50 elems ++ DataW.weightsAll Tryz.prog 50 spare) := by
          simp only [DataW.weights, u23]
        show _ ∈ DataW.weights Tryz.prog 22 d0 ++ (DataW.weights Tryz.prog 23 (DataW.slice elems spare) ++ _)
        rw [e]
        exact List.mem_append_right _ (List.mem_append_left _ List.mem_cons_self))
      have hm' : (elems.length + spare.length) * 48 ≤ 140737488351232 := of_decide_eq_true hm
      omega
  have hc := Am.law_trueT Vmm.tab_ok (gl := Vmm.glT) (Vmm.law _ (Am.byteCells t) l (by simp only [Am.limit]; omega)) (gl_ok hL) (Am.vrs_cons hv0 (Am.vrs_cons hv1 Am.vrs_nil)) Tryz.func3 rfl (by decide +kernel)
  exact hc.mono fun e W' he => ⟨_, he.1, Am.law_post laidOut rowed full hts rfl rfl Tryz.underlying4 hW' rfl rfl rfl he.2⟩

theorem laid_met (os : Os) : laidMet Tryz.prog Rows.allBetweenRow.laid ((World.laidAll Tryz.prog os Rows.allBetweenRow.laid).forCall (fun _ _ => 0) ⟨#[], #[.slice none 0 0, .slice none 0 0], []⟩).memory :=
  laidMet_laidAll _ (by kernel_rfl) (by kernel_rfl)
theorem reads (os : Os) {H : Type} (enc : TypeId × Value → H) : ∃ places, DataW.whole enc Tryz.prog ((World.laidAll Tryz.prog os Rows.allBetweenRow.laid).forCall (fun _ _ => 0) ⟨#[], #[.slice none 0 0, .slice none 0 0], []⟩).memory Tryz.f3.params.toList Rows.allBetweenSpec.vars false #[Value.slice none 0 0, Value.slice none 0 0].toList 8 = some ([.nil, .nil], [], places) :=
  ⟨[], by kernel_rfl⟩

set_option maxRecDepth 100000 in
theorem lifted (os : Os) (started : os.Started) (H : Type) (enc : TypeId × Value → H) (F : Stop.Interp) :
    ReturnsInHanded {} Tryz.checked os 3 .any ((OpenSpec.ofChange Rows.allBetweenSpec).preRow enc Tryz.prog Tryz.f3 Rows.allBetweenRow.domain false Rows.allBetweenRow.laid) (((OpenSpec.ofChange Rows.allBetweenSpec).at F).post enc Tryz.prog Tryz.f3 false true false false) := by
  obtain ⟨places, hx⟩ := reads os enc
  refine returnsInHanded_of_row (C := Tryz.checked) (s := OpenSpec.ofChange Rows.allBetweenSpec) own started (by kernel_rfl) Tryz.func3
    (witness_row_at (enc := enc) (C := Tryz.checked) false (World.laidAll Tryz.prog os Rows.allBetweenRow.laid) #[.slice none 0 0, .slice none 0 0] (World.laidAll_os _ _ _) (by kernel_rfl) (by kernel_rfl) (by kernel_rfl)
      (OpenSpec.preRow_of_cond 8 hx (by kernel_rfl) (fun k hk => by cases hk) (by kernel_rfl) (laid_met os))) ?_
  intro W base args ds gs before hval hW _ _ hR hL _ _
  exact contract H enc W base args ds gs before hval hW hR hL

end Go.Proofs.YtpaebiddgpjlnaaGreatDoor
