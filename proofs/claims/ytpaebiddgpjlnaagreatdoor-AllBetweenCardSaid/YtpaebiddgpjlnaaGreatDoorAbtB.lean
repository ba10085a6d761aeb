/-
  What lies between matches, by a model; what the program and the reference come to.
-/
import Derived.Test.YtpaebiddgpjlnaaGreatDoorAbtA

namespace Go.Vmm
open Go Go.Am Go.Proofs

-- ---------------------------------------------------------------- what is gathered, element by element

/-- how elements that are gathered lie -/
def RepL (t0 : Nat) (s : Sg) (v : AV) (l : List AV) : Prop :=
  (l = [] ∧ v = .nilsl) ∨ ∃ i n, v = .vec l (.tok i n) ∧ s.toks[i]? = some n ∧ t0 ≤ i

theorem RepL.defd {t0 : Nat} {s : Sg} {v : AV} {l : List AV} (hr : RepL t0 s v l) : v.def? = some v := by
  rcases hr with ⟨_, rfl⟩ | ⟨i, n, rfl, _⟩ <;> rfl

theorem RepL.same {t0 : Nat} {s s' : Sg} {v : AV} {l : List AV} (hr : RepL t0 s v l) (h : s'.toks = s.toks) : RepL t0 s' v l := by
  rcases hr with h1 | ⟨i, n, h1, h2, h3⟩
  · exact .inl h1
  · exact .inr ⟨i, n, h1, by rw [h]; exact h2, h3⟩

/-- an append of one -/
theorem o_appL {call : CallFn} {b : Bar} {g : Option (Nat × Bool)} {r : List AOper} {loc : Env} {fr : Fr} {s : Sg} {Q : Ex → Env → Fr → Sg → Prop} {x y : AOpd} {t t0 bytes : Nat} {ag : Option Nat} {v e : AV} {tl : Tail} {l : List AV} (hg : wantedA loc fr.pers g = some true) (hx : x.ev loc fr.pers = some v) (hv : RepL t0 s v l) (hbt : b.t ≤ t0) (ht0 : t0 ≤ s.toks.length) (hy : y.ev loc fr.pers = some (.vec [e] tl)) (hs : (allSize (ag.getD 1) [e] && allOneAll [e]) = true) (hsl : allSize (ag.getD 1) l = true) (hl : (l.length + 1) * bytes ≤ limit)
    (hr : ∀ v' s', RepL t0 s' v' (l ++ [e]) → s'.heap = s.heap → s.toks.length ≤ s'.toks.length → OkO call b r ((t, v') :: loc) fr s' Q) : OkO call b (⟨some t, .e (.append false ag bytes x y), g⟩ :: r) loc fr s Q := by
  have hlb : Nat.ble ((l.length + [e].length) * bytes) limit = true := Nat.ble_eq_true_of_le hl
  rcases hv with ⟨rfl, rfl⟩ | ⟨i, n, rfl, hn, hi⟩
  · refine o_app_first hg hx hy rfl hs (by simp) (by simpa using hlb) (hr _ _ (.inr ⟨s.toks.length, 0, rfl, by simp, ht0⟩) rfl (by simp))
  · refine o_app_tok hg hx hy rfl hs hsl (by simp) hlb (blt_no (by omega)) hn (hr _ _ (.inr ⟨i, n + 1, rfl, ?_, hi⟩) rfl (by simp [length_setAt]))
    have := lt_of_getElem? hn
    simp [getElem?_setAt, this]

-- ---------------------------------------------------------------- matches and stretches

/-- a match, by its kind, its spans, its mark -/
structure Fd where
  k : Int
  sp : List (Int × Int)
  m : List UInt8

def spV (p : Int × Int) : AV := .agg [.int .i64 p.1, .int .i64 p.2]
def fdC (f : Fd) : List AV := [.int .i64 f.k, .vec (f.sp.map spV) .shut, .str f.m]
def fdV (f : Fd) : AV := .agg (fdC f)

/-- the span that counts -/
def tk (n at_ : Int) (f : Fd) : Option (Int × Int) :=
  if f.k = 1 then (match f.sp with
    | [] => none
    | p :: _ => if at_ ≤ p.1 ∧ p.1 ≤ p.2 ∧ p.2 ≤ n then some p else none) else none

/-- what lies between -/
def btw (n : Int) : Int → List Fd → List (Int × Int)
  | at_, [] => [(at_, n)]
  | at_, f :: r => match tk n at_ f with
    | some p => (at_, p.1) :: btw n p.2 r
    | none => btw n at_ r

theorem spV_size : ∀ l : List (Int × Int), allSize 2 (l.map spV) = true
  | [] => rfl
  | p :: r => by simp only [List.map_cons, allSize, spV_size r, Bool.and_true]; rfl

theorem spV_one : ∀ l : List (Int × Int), allOneAll (l.map spV) = true
  | [] => rfl
  | p :: r => by simp only [List.map_cons, allOneAll, spV_one r, Bool.and_true]; rfl

theorem spV_old (b : Nat) : ∀ l : List (Int × Int), AV.oldAll b (l.map spV) = true
  | [] => rfl
  | p :: r => by simp only [List.map_cons, AV.oldAll, spV_old b r, Bool.and_true]; rfl

theorem lay_vec {h : List AObj} {b : Nat} {es : List AV} {tl : Tail} {a : ARes} (ho : AV.oldAll b es = true) : lay h b [.vec es tl] [a] = some [.vec es .shut] := by
  have h1 : (AV.vec es tl).weak.old b = true := by simp only [AV.weak, AV.old, ho, Bool.and_self]
  have h2 := layOne_old (h := h) (k := a.el) h1 (fun i g off len cp sz e => by cases e)
  have h3 : layRes h b a (.vec es tl) = some (.vec es .shut) := by
    unfold layRes
    rw [if_neg (by simp [AV.isNilsl])]
    exact h2
  simp only [lay, h3, Option.bind_some]

/-- the loop 0 of function 6 -/
def lp6_0 : ACode := .seq (.region [Bn 13 .lss 12 11] [13]) (.seq (.cond (.tmp 13) (.skip) (.exit 0)) (.seq (.block 1 (.seq (.region [Vv 14 (.indexAddrS (some 3) (.tmp 10) (.tmp 12)), La 15 3 14, ⟨some 8, .e (.alloc [(.int .i64 0), .nilsl, (.str [])]), none⟩, St 3 8 15] [8]) (.seq (.seq (.region [Fa 16 0 8, Ld 17 16, Bc 18 .neq 17 1, Mv 19 18, Gf 20 19 (.fieldAddr 1 none (.tmp 8)), Gf 21 19 (.load none (.tmp 20)), Gf 22 19 (.len 1 (.tmp 21)), Gf 23 19 (.bin .eql (.tmp 22) (Ci 0)), Vv 24 (.pick (.tmp 19) (.const (.bool true)) (.tmp 23))] [24]) (.cond (.tmp 24) (.exit 1) (.skip))) (.seq (.region [Fa 25 1 8, Ld 26 25, Vv 27 (.indexAddrS (some 2) (.tmp 26) (Ci 0)), La 28 2 27, ⟨some 9, .e (.alloc [(.int .i64 0), (.int .i64 0)]), none⟩, St 2 9 28] [9]) (.seq (.region [Fa 29 0 9, Ld 30 29, Mv 31 6, Bn 32 .geq 30 31, Mv 33 32, Gt 34 33 (.fieldAddr 1 none (.tmp 9)), Gt 35 33 (.load none (.tmp 34)), Gt 36 33 (.fieldAddr 0 none (.tmp 9)), Gt 37 33 (.load none (.tmp 36)), Gt 38 33 (.bin .geq (.tmp 35) (.tmp 37)), Vv 39 (.pick (.tmp 33) (.tmp 38) (.const (.bool false))), Mv 40 39, Gt 41 40 (.fieldAddr 1 none (.tmp 9)), Gt 42 40 (.load none (.tmp 41)), Gt 43 40 (.move (.tmp 0)), Gt 44 40 (.len 1 (.tmp 43)), Gt 45 40 (.bin .leq (.tmp 42) (.tmp 44)), Vv 46 (.pick (.tmp 40) (.tmp 45) (.const (.bool false)))] [46]) (.cond (.tmp 46) (.seq (.region [Mv 47 5, Mv 48 6, Fa 49 0 9, Ld 50 49, Vv 51 (.build [(.int .i64 0), (.int .i64 0)] [(0, 1, (.tmp 48)), (1, 1, (.tmp 50))]), Vv 52 (.buildSl 2 (.agg [(.int .i64 0), (.int .i64 0)]) 1 [(0, (.tmp 51))]), ⟨some 53, .e (.append false (some 2) 16 (.tmp 47) (.tmp 52)), none⟩, Mv 5 53] [5]) (.region [Fa 54 1 9, Ld 55 54, Mv 6 55] [6])) (.skip))))))) (.region [Bc 56 .add 12 1, Mv 12 56] [12])))
/-- the loop 0 of function 7 -/
def lp7_0 : ACode := .seq (.seq (.region [Mv 9 7, Mv 10 1, Vv 11 (.len 1 (.tmp 10)), Bn 12 .lss 9 11] [12]) (.cond (.tmp 12) (.skip) (.exit 0))) (.seq (.block 1 (.seq (.seq (.region [Mv 15 1, Mv 16 7, Vv 17 (.indexAddrS (some 3) (.tmp 15) (.tmp 16)), Fa 18 0 17, Ld 19 18, Bc 20 .neq 19 1, Mv 21 20, Gf 22 21 (.move (.tmp 1)), Gf 23 21 (.move (.tmp 7)), Gf 24 21 (.indexAddrS (some 3) (.tmp 22) (.tmp 23)), Gf 25 21 (.fieldAddr 1 none (.tmp 24)), Gf 26 21 (.load none (.tmp 25)), Gf 27 21 (.len 1 (.tmp 26)), Gf 28 21 (.bin .eql (.tmp 27) (Ci 0)), Vv 29 (.pick (.tmp 21) (.const (.bool true)) (.tmp 28))] [29]) (.cond (.tmp 29) (.exit 1) (.skip))) (.seq (.region [Mv 30 1, Mv 31 7, Vv 32 (.indexAddrS (some 3) (.tmp 30) (.tmp 31)), Fa 33 1 32, Ld 34 33, Vv 35 (.indexAddrS (some 2) (.tmp 34) (Ci 0)), La 36 2 35, ⟨some 8, .e (.alloc [(.int .i64 0), (.int .i64 0)]), none⟩, St 2 8 36] [8]) (.seq (.seq (.region [Fa 37 0 8, Ld 38 37, Mv 39 6, Bn 40 .lss 38 39, Mv 41 40, Gf 42 41 (.fieldAddr 1 none (.tmp 8)), Gf 43 41 (.load none (.tmp 42)), Gf 44 41 (.fieldAddr 0 none (.tmp 8)), Gf 45 41 (.load none (.tmp 44)), Gf 46 41 (.bin .lss (.tmp 43) (.tmp 45)), Vv 47 (.pick (.tmp 41) (.const (.bool true)) (.tmp 46)), Mv 48 47, Gf 49 48 (.fieldAddr 1 none (.tmp 8)), Gf 50 48 (.load none (.tmp 49)), Gf 51 48 (.move (.tmp 0)), Gf 52 48 (.bin .gtr (.tmp 50) (.tmp 51)), Vv 53 (.pick (.tmp 48) (.const (.bool true)) (.tmp 52))] [53]) (.cond (.tmp 53) (.exit 1) (.skip))) (.seq (.region [Mv 54 5, Mv 55 6, Fa 56 0 8, Ld 57 56, Vv 58 (.build [(.int .i64 0), (.int .i64 0)] [(0, 1, (.tmp 55)), (1, 1, (.tmp 57))]), Vv 59 (.buildSl 2 (.agg [(.int .i64 0), (.int .i64 0)]) 1 [(0, (.tmp 58))]), ⟨some 60, .e (.append false (some 2) 16 (.tmp 54) (.tmp 59)), none⟩, Mv 5 60] [5]) (.region [Fa 61 1 8, Ld 62 61, Mv 6 62] [6])))))) (.region [Mv 13 7, Bc 14 .add 13 1, Mv 7 14] [7]))

theorem btw_len (n : Int) : ∀ (l : List Fd) (at_ : Int), (btw n at_ l).length ≤ l.length + 1
  | [], _ => by simp [btw]
  | f :: r, at_ => by
    simp only [btw]
    split
    · have := btw_len n r; simp only [List.length_cons]; have := this ‹Int × Int›.2; omega
    · have := btw_len n r at_; simp only [List.length_cons]; omega

end Go.Vmm

namespace Go.Vmm
open Go Go.Am Go.Proofs

abbrev bfr (t : List AV) (l : List Fd) (i : Nat) (at_ : Int) (out u13 u8 u24 u9 u46 : AV) : Fr :=
  ⟨[(0, .vec t .shut), (1, .vec (l.map fdV) .shut), (4, .nilsl), (12, .int .i64 i), (11, .int .i64 l.length), (13, u13), (10, .vec (l.map fdV) .shut), (8, u8), (24, u24), (9, u9), (6, .int .i64 at_), (46, u46), (5, out)], [], .off⟩

theorem fd_get {l : List Fd} {i : Nat} {f : Fd} (h : l[i]? = some f) : (l.map fdV)[i]? = some (fdV f) := by simp [h]

theorem bt_loop (M : Nat) (b : Bar) (t : List AV) (l : List Fd) (t0 : Nat) (total : List (Int × Int)) (hbt : b.t ≤ t0) (hbe : b.es = []) (hlen : l.length < 2 ^ 50) (htot : total.length * 16 ≤ limit) {Q : Ex → Fr → Sg → Prop}
    (hend : ∀ (s : Sg) (at_ : Int) (acc : List (Int × Int)) (out u13 u8 u24 u9 u46 : AV), RepL t0 s out (acc.map spV) → t0 ≤ s.toks.length → b.w ≤ s.heap.length → acc ++ [(at_, (t.length : Int))] = total → Q (.exit 0) (bfr t l l.length at_ out u13 u8 u24 u9 u46) s) :
    ∀ (d i L : Nat) (s : Sg) (at_ : Int) (acc : List (Int × Int)) (out u13 u8 u24 u9 u46 : AV), i + d = l.length → d + 1 ≤ L → RepL t0 s out (acc.map spV) → t0 ≤ s.toks.length → b.w ≤ s.heap.length → acc ++ btw t.length at_ (l.drop i) = total →
      OkL L (fun fr s => ACode.run (loopN M) (callF T M) b lp6_0 fr s) (bfr t l i at_ out u13 u8 u24 u9 u46) s Q := by
  intro d
  induction d with
  | zero =>
    intro i L s at_ acc out u13 u8 u24 u9 u46 hi hL hr ht0 hw hac
    obtain ⟨L, rfl⟩ : ∃ L', L = L' + 1 := ⟨L - 1, by omega⟩
    obtain rfl : i = l.length := by omega
    rw [List.drop_length] at hac
    refine l_round ?_
    refine qqV ?_
    refine lV ?_
    exact c_exit (hend s at_ acc out _ u8 u24 u9 u46 hr ht0 hw hac)
  | succ d ih =>
    intro i L s at_ acc out u13 u8 u24 u9 u46 hi hL hr ht0 hw hac
    obtain ⟨L, rfl⟩ : ∃ L', L = L' + 1 := ⟨L - 1, by omega⟩
    have hil : i < l.length := by omega
    have hf := List.getElem?_eq_getElem hil
    generalize l[i] = f at hf
    have hdrop : l.drop i = f :: l.drop (i + 1) := by
      rw [List.drop_eq_getElem_cons hil]
      rw [List.getElem?_eq_getElem hil] at hf
      cases hf
      rfl
    rw [hdrop] at hac
    have hlm : (l.map fdV).length = l.length := by simp
    refine l_round ?_
    refine qqV ?_
    refine iV ?_
    refine c_skip ?_
    refine c_seq ?_
    refine bV ?_
    refine qV ?_
    refine o_ixvec (j := i) rfl rfl rfl rfl (fd_get hf) rfl ?_
    refine sV ?_
    refine o_alloc rfl ?_
    refine o_st (l := fdC f) rfl rfl rfl rfl (getCells_new _ _ 0) rfl (lets_nil (blt_no hw) hbe) (cs' := fdC f) rfl ?_
    rw [push_put]
    refine eV ?_
    have hnext : ∀ (s' : Sg) (at' : Int) (acc' : List (Int × Int)) (out' v8 v24 v9 v46 : AV), RepL t0 s' out' (acc'.map spV) → t0 ≤ s'.toks.length → b.w ≤ s'.heap.length → acc' ++ btw t.length at' (l.drop (i + 1)) = total →
        OkC (loopN M) (callF T M) b (.region [Bc 56 .add 12 1, Mv 12 56] [12]) (bfr t l i at' out' (.bool true) v8 v24 v9 v46) s' (rndQ L (fun fr s => ACode.run (loopN M) (callF T M) b lp6_0 fr s) Q) := fun s' at' acc' out' v8 v24 v9 v46 h1 h2 h3 h4 => by
      refine qqV ?_
      exact ih (i + 1) L s' at' acc' out' _ v8 v24 v9 v46 (by omega) (by omega) h1 h2 h3 h4
    have hc0 : getCells (s.push (.cells (fdC f) 0)).heap s.heap.length 0 = some (fdC f) := getCells_new _ _ 0
    have hr1 : RepL t0 (s.push (.cells (fdC f) 0)) out (acc.map spV) := hr.same rfl
    have hw1 : b.w ≤ (s.push (.cells (fdC f) 0)).heap.length := by simp only [Sg.push, List.length_append]; omega
    have ht1 : t0 ≤ (s.push (.cells (fdC f) 0)).toks.length := ht0
    generalize (s.push (.cells (fdC f) 0)) = s1 at hc0 hr1 hw1 ht1 ⊢
    generalize s.heap.length = p8 at hc0 ⊢
    obtain ⟨k, sp, m⟩ := f
    by_cases hk : k = 1
    · subst hk
      cases sp with
      | nil =>
        have htk : tk t.length at_ ⟨1, [], m⟩ = none := rfl
        simp only [btw, htk] at hac
        refine qqV ?_
        refine iV ?_
        refine c_exit ?_
        exact hnext s1 at_ acc out _ _ _ _ hr1 ht1 hw1 hac
      | cons p rest =>
        obtain ⟨p1, p2⟩ := p
        refine qqV ?_
        refine lV ?_
        refine c_skip ?_
        refine qV ?_
        refine o_ixvec (j := 0) (v := spV (p1, p2)) rfl rfl rfl rfl rfl rfl ?_
        refine sV ?_
        refine o_alloc rfl ?_
        refine o_st (l := [.int .i64 p1, .int .i64 p2]) rfl rfl rfl rfl (getCells_new _ _ 0) rfl (lets_nil (blt_no hw1) hbe) (cs' := [.int .i64 p1, .int .i64 p2]) rfl ?_
        rw [push_put]
        refine eV ?_
        have hc1 : getCells (s1.push (.cells [.int .i64 p1, .int .i64 p2] 0)).heap s1.heap.length 0 = some [.int .i64 p1, .int .i64 p2] := getCells_new _ _ 0
        have hr2 : RepL t0 (s1.push (.cells [.int .i64 p1, .int .i64 p2] 0)) out (acc.map spV) := hr1.same rfl
        have hw2 : b.w ≤ (s1.push (.cells [.int .i64 p1, .int .i64 p2] 0)).heap.length := by simp only [Sg.push, List.length_append]; omega
        have ht2 : t0 ≤ (s1.push (.cells [.int .i64 p1, .int .i64 p2] 0)).toks.length := ht1
        generalize (s1.push (.cells [.int .i64 p1, .int .i64 p2] 0)) = s2 at hc1 hr2 hw2 ht2 ⊢
        generalize s1.heap.length = p9 at hc1 ⊢
        by_cases h1 : at_ ≤ p1
        · by_cases h2 : p1 ≤ p2
          · by_cases h3 : p2 ≤ (t.length : Int)
            · have htk : tk t.length at_ ⟨1, (p1, p2) :: rest, m⟩ = some (p1, p2) := by simp [tk, h1, h2, h3]
              simp only [btw, htk] at hac
              refine qqV ?_
              refine iV ?_
              have hal : acc.length + 1 ≤ total.length := by rw [← hac]; simp
              refine c_seq ?_
              refine c_region ?_
              refine o_move rfl hr2.defd rfl ?_
              refine sV ?_
              refine o_appL (t0 := t0) (e := spV (at_, p1)) (l := acc.map spV) rfl hr2.defd hr2 hbt ht2 rfl rfl (spV_size _) (by rw [List.length_map]; omega) fun v' s3 h1' h2' h3' => ?_
              have hmv : v'.def? = some v' := h1'.defd
              refine o_move rfl hmv rfl ?_
              refine eV ?_
              have hc3 : getCells s3.heap p9 0 = some [.int .i64 p1, .int .i64 p2] := by rw [h2']; exact hc1
              refine qqV ?_
              exact hnext s3 p2 (acc ++ [(at_, p1)]) v' _ _ _ _ (by rw [List.map_append]; exact h1') (by omega) (by rw [h2']; exact hw2) (by rw [List.append_assoc]; exact hac)
            · have htk : tk t.length at_ ⟨1, (p1, p2) :: rest, m⟩ = none := by simp [tk, h3]
              simp only [btw, htk] at hac
              refine qqV ?_
              refine lV ?_
              refine c_skip ?_
              exact hnext s2 at_ acc out _ _ _ _ hr2 ht2 hw2 hac
          · have htk : tk t.length at_ ⟨1, (p1, p2) :: rest, m⟩ = none := by simp [tk, h2]
            simp only [btw, htk] at hac
            refine qqV ?_
            refine lV ?_
            refine c_skip ?_
            exact hnext s2 at_ acc out _ _ _ _ hr2 ht2 hw2 hac
        · have htk : tk t.length at_ ⟨1, (p1, p2) :: rest, m⟩ = none := by simp [tk, h1]
          simp only [btw, htk] at hac
          refine qqV ?_
          refine lV ?_
          refine c_skip ?_
          exact hnext s2 at_ acc out _ _ _ _ hr2 ht2 hw2 hac
    · have htk : tk t.length at_ ⟨k, sp, m⟩ = none := by simp [tk, hk]
      simp only [btw, htk] at hac
      refine qqV ?_
      refine iV ?_
      refine c_exit ?_
      exact hnext s1 at_ acc out _ _ _ _ hr1 ht1 hw1 hac

end Go.Vmm

namespace Go.Vmm
open Go Go.Am Go.Proofs

abbrev rfr (n : Int) (l : List Fd) (i : Nat) (at_ : Int) (out u12 u29 u8 u53 : AV) : Fr :=
  ⟨[(0, .int .i64 n), (1, .vec (l.map fdV) .shut), (4, .nilsl), (7, .int .i64 i), (12, u12), (29, u29), (8, u8), (6, .int .i64 at_), (53, u53), (5, out)], [], .off⟩

theorem rt_loop (M : Nat) (b : Bar) (n : Int) (l : List Fd) (t0 : Nat) (total : List (Int × Int)) (hbt : b.t ≤ t0) (hbe : b.es = []) (hlen : l.length < 2 ^ 50) (htot : total.length * 16 ≤ limit) {Q : Ex → Fr → Sg → Prop}
    (hend : ∀ (s : Sg) (at_ : Int) (acc : List (Int × Int)) (out u12 u29 u8 u53 : AV), RepL t0 s out (acc.map spV) → t0 ≤ s.toks.length → acc ++ [(at_, n)] = total → Q (.exit 0) (rfr n l l.length at_ out u12 u29 u8 u53) s) :
    ∀ (d i L : Nat) (s : Sg) (at_ : Int) (acc : List (Int × Int)) (out u12 u29 u8 u53 : AV), i + d = l.length → d + 1 ≤ L → RepL t0 s out (acc.map spV) → t0 ≤ s.toks.length → b.w ≤ s.heap.length → acc ++ btw n at_ (l.drop i) = total →
      OkL L (fun fr s => ACode.run (loopN M) (callF T M) b lp7_0 fr s) (rfr n l i at_ out u12 u29 u8 u53) s Q := by
  have hlm : (l.map fdV).length = l.length := by simp
  intro d
  induction d with
  | zero =>
    intro i L s at_ acc out u12 u29 u8 u53 hi hL hr ht0 hw hac
    obtain ⟨L, rfl⟩ : ∃ L', L = L' + 1 := ⟨L - 1, by omega⟩
    obtain rfl : i = l.length := by omega
    rw [List.drop_length] at hac
    refine l_round ?_
    refine qqV ?_
    refine lV ?_
    exact c_exit (hend s at_ acc out _ u29 u8 u53 hr ht0 hac)
  | succ d ih =>
    intro i L s at_ acc out u12 u29 u8 u53 hi hL hr ht0 hw hac
    obtain ⟨L, rfl⟩ : ∃ L', L = L' + 1 := ⟨L - 1, by omega⟩
    have hil : i < l.length := by omega
    have hf := List.getElem?_eq_getElem hil
    generalize l[i] = f at hf
    have hdrop : l.drop i = f :: l.drop (i + 1) := by
      rw [List.drop_eq_getElem_cons hil]
      rw [List.getElem?_eq_getElem hil] at hf
      cases hf
      rfl
    rw [hdrop] at hac
    have hnext : ∀ (s' : Sg) (at' : Int) (acc' : List (Int × Int)) (out' v29 v8 v53 : AV), RepL t0 s' out' (acc'.map spV) → t0 ≤ s'.toks.length → b.w ≤ s'.heap.length → acc' ++ btw n at' (l.drop (i + 1)) = total →
        OkC (loopN M) (callF T M) b (.region [Mv 13 7, Bc 14 .add 13 1, Mv 7 14] [7]) (rfr n l i at' out' (.bool true) v29 v8 v53) s' (rndQ L (fun fr s => ACode.run (loopN M) (callF T M) b lp7_0 fr s) Q) := fun s' at' acc' out' v29 v8 v53 h1 h2 h3 h4 => by
      refine qqV ?_
      exact ih (i + 1) L s' at' acc' out' _ v29 v8 v53 (by omega) (by omega) h1 h2 h3 h4
    obtain ⟨k, sp, m⟩ := f
    refine l_round ?_
    refine qqV ?_
    refine iV ?_
    refine c_skip ?_
    refine c_seq ?_
    refine bV ?_
    by_cases hk : k = 1
    · subst hk
      cases sp with
      | nil =>
        have htk : tk n at_ ⟨1, [], m⟩ = none := rfl
        simp only [btw, htk] at hac
        refine qV ?_
        refine o_ixvec (j := i) rfl rfl rfl rfl (fd_get hf) rfl ?_
        refine sV ?_
        refine o_ixvec (j := i) rfl rfl rfl rfl (fd_get hf) rfl ?_
        refine sV ?_
        refine eV ?_
        refine iV ?_
        refine c_exit ?_
        exact hnext s at_ acc out _ _ _ hr ht0 hw hac
      | cons p rest =>
        obtain ⟨p1, p2⟩ := p
        refine qV ?_
        refine o_ixvec (j := i) rfl rfl rfl rfl (fd_get hf) rfl ?_
        refine sV ?_
        refine o_ixvec (j := i) rfl rfl rfl rfl (fd_get hf) rfl ?_
        refine sV ?_
        refine eV ?_
        refine lV ?_
        refine c_skip ?_
        refine qV ?_
        refine o_ixvec (j := i) rfl rfl rfl rfl (fd_get hf) rfl ?_
        refine sV ?_
        refine o_ixvec (j := 0) (v := spV (p1, p2)) rfl rfl rfl rfl rfl rfl ?_
        refine sV ?_
        refine o_alloc rfl ?_
        refine o_st (l := [.int .i64 p1, .int .i64 p2]) rfl rfl rfl rfl (getCells_new _ _ 0) rfl (lets_nil (blt_no hw) hbe) (cs' := [.int .i64 p1, .int .i64 p2]) rfl ?_
        rw [push_put]
        refine eV ?_
        have hc1 : getCells (s.push (.cells [.int .i64 p1, .int .i64 p2] 0)).heap s.heap.length 0 = some [.int .i64 p1, .int .i64 p2] := getCells_new _ _ 0
        have hr2 : RepL t0 (s.push (.cells [.int .i64 p1, .int .i64 p2] 0)) out (acc.map spV) := hr.same rfl
        have hw2 : b.w ≤ (s.push (.cells [.int .i64 p1, .int .i64 p2] 0)).heap.length := by simp only [Sg.push, List.length_append]; omega
        have ht2 : t0 ≤ (s.push (.cells [.int .i64 p1, .int .i64 p2] 0)).toks.length := ht0
        generalize (s.push (.cells [.int .i64 p1, .int .i64 p2] 0)) = s2 at hc1 hr2 hw2 ht2 ⊢
        generalize s.heap.length = p9 at hc1 ⊢
        by_cases h1 : at_ ≤ p1
        · by_cases h2 : p1 ≤ p2
          · by_cases h3 : p2 ≤ n
            · have htk : tk n at_ ⟨1, (p1, p2) :: rest, m⟩ = some (p1, p2) := by simp [tk, h1, h2, h3]
              simp only [btw, htk] at hac
              refine qqV ?_
              refine lV ?_
              refine c_skip ?_
              have hal : acc.length + 1 ≤ total.length := by rw [← hac]; simp
              refine c_seq ?_
              refine c_region ?_
              refine o_move rfl hr2.defd rfl ?_
              refine sV ?_
              refine o_appL (t0 := t0) (e := spV (at_, p1)) (l := acc.map spV) rfl hr2.defd hr2 hbt ht2 rfl rfl (spV_size _) (by rw [List.length_map]; omega) fun v' s3 h1' h2' h3' => ?_
              have hmv : v'.def? = some v' := h1'.defd
              refine o_move rfl hmv rfl ?_
              refine eV ?_
              have hc3 : getCells s3.heap p9 0 = some [.int .i64 p1, .int .i64 p2] := by rw [h2']; exact hc1
              refine qqV ?_
              exact hnext s3 p2 (acc ++ [(at_, p1)]) v' _ _ _ (by rw [List.map_append]; exact h1') (by omega) (by rw [h2']; exact hw2) (by rw [List.append_assoc]; exact hac)
            · have htk : tk n at_ ⟨1, (p1, p2) :: rest, m⟩ = none := by simp [tk, h3]
              simp only [btw, htk] at hac
              refine qqV ?_
              refine iV ?_
              refine c_exit ?_
              exact hnext s2 at_ acc out _ _ _ hr2 ht2 hw2 hac
          · have htk : tk n at_ ⟨1, (p1, p2) :: rest, m⟩ = none := by simp [tk, h2]
            simp only [btw, htk] at hac
            refine qqV ?_
            refine iV ?_
            refine c_exit ?_
            exact hnext s2 at_ acc out _ _ _ hr2 ht2 hw2 hac
        · have htk : tk n at_ ⟨1, (p1, p2) :: rest, m⟩ = none := by simp [tk, h1]
          simp only [btw, htk] at hac
          refine qqV ?_
          refine iV ?_
          refine c_exit ?_
          exact hnext s2 at_ acc out _ _ _ hr2 ht2 hw2 hac
    · have htk : tk n at_ ⟨k, sp, m⟩ = none := by simp [tk, hk]
      simp only [btw, htk] at hac
      refine qV ?_
      refine o_ixvec (j := i) rfl rfl rfl rfl (fd_get hf) rfl ?_
      refine sV ?_
      refine eV ?_
      refine iV ?_
      refine c_exit ?_
      exact hnext s at_ acc out _ _ _ hr ht0 hw hac

theorem between_ref (M : Nat) (b : Bar) (n : Int) (l : List Fd) (s : Sg) (hM : l.length < M) (hlen : (l.length + 1) * 16 ≤ limit) :
    callF T (M + 1) b 7 [.int .i64 n, .vec (l.map fdV) .shut] s = some (.ret (.vec ((btw n 0 l).map spV) .shut), s) := by
  have hbl := btw_len n l 0
  have hl2 : l.length < 2 ^ 50 := by simp only [limit] at hlen; omega
  apply OkF.ret
  (apply f_wp rfl rfl; (repeat (first | exact Shape.nil | (apply Shape.cons; conv => lhs; whnf))))
  refine qqV ?_
  refine qqV ?_
  refine qqV ?_
  refine qqV ?_
  refine bV ?_
  refine c_loop ?_
  refine rt_loop M _ n l s.toks.length (btw n 0 l) (Nat.le_refl _) rfl hl2 (by omega) (fun s1 at_ acc out u12 u29 u8 u53 h1 h2 h3 => ?_) l.length 0 M s 0 [] .nilsl _ _ _ _ (by omega) (by omega) (.inl ⟨rfl, rfl⟩) (Nat.le_refl _) (Nat.le_refl _) rfl
  have hal : acc.length + 1 ≤ (btw n 0 l).length := by rw [← h3]; simp
  refine c_seq ?_
  refine c_region ?_
  refine o_move rfl h1.defd rfl ?_
  refine sV ?_
  refine o_appL (t0 := s.toks.length) (e := spV (at_, n)) (l := acc.map spV) rfl h1.defd h1 (Nat.le_refl _) h2 rfl rfl (spV_size _) (by rw [List.length_map]; omega) fun v' s3 h1' h2' h3' => ?_
  have hmv : v'.def? = some v' := h1'.defd
  refine o_move rfl hmv rfl ?_
  refine eV ?_
  refine c_ret ?_
  have hv : ∃ i k, v' = .vec ((btw n 0 l).map spV) (.tok i k) := by
    rcases h1' with ⟨e, _⟩ | ⟨i, k, e, _⟩
    · simp at e
    · refine ⟨i, k, ?_⟩
      rw [e, ← h3, List.map_append]
      rfl
  obtain ⟨i, k, rfl⟩ := hv
  exact fin_ret (.inl rfl) (read_tmp rfl read_nil) (leave_pure (lay_vec (spV_old _ _)) (by simp only [AV.oldAll, AV.old, spV_old, Bool.and_self])) ⟨rfl, rfl⟩

end Go.Vmm

namespace Go.Vmm
open Go Go.Am Go.Proofs

/-- the loop 0 of function 5 -/
def lp5_0 : ACode := .seq (.seq (.region [Mv 11 5, Mv 12 0, Vv 13 (.len 1 (.tmp 12)), Bn 14 .lss 11 13] [14]) (.cond (.tmp 14) (.skip) (.exit 0))) (.seq (.block 1 (.seq (.drawn [Mv 17 0, Mv 18 5, Vv 19 (.indexAddrS (some 2) (.tmp 17) (.tmp 18)), La 20 2 19, Mv 21 1, Mv 22 5, Vv 23 (.indexAddrS (some 2) (.tmp 21) (.tmp 22)), La 24 2 23, Vv 25 (.eqAgg true [0, 0] (.tmp 20) (.tmp 24))] [25] [] false 0) (.cond (.tmp 25) (.seq (.region [Vv 4 (.move (.const (.bool false)))] [4]) (.ret)) (.skip)))) (.region [Mv 15 5, Bc 16 .add 15 1, Mv 5 16] [5]))

theorem between_spec (M : Nat) (b : Bar) (t : List AV) (l : List Fd) (s : Sg) (hM : l.length < M) (hlen : (l.length + 1) * 16 ≤ limit) :
    callF T (M + 1) b 6 [.vec t .shut, .vec (l.map fdV) .shut] s = some (.ret (.vec ((btw t.length 0 l).map spV) .shut), s) := by
  have hbl := btw_len t.length l 0
  have hlm : (l.map fdV).length = l.length := by simp
  have hl2 : l.length < 2 ^ 50 := by simp only [limit] at hlen; omega
  apply OkF.ret
  (apply f_wp rfl rfl; (repeat (first | exact Shape.nil | (apply Shape.cons; conv => lhs; whnf))))
  refine qqV ?_
  refine qqV ?_
  refine qqV ?_
  refine qV ?_
  rw [hlm]
  refine sV ?_
  refine eV ?_
  refine bV ?_
  refine c_loop ?_
  refine bt_loop M _ t l s.toks.length (btw t.length 0 l) (Nat.le_refl _) rfl hl2 (by omega) (fun s1 at_ acc out u13 u8 u24 u9 u46 h1 h2 hw h3 => ?_) l.length 0 M s 0 [] .nilsl _ _ _ _ _ (by omega) (by omega) (.inl ⟨rfl, rfl⟩) (Nat.le_refl _) (Nat.le_refl _) rfl
  have hal : acc.length + 1 ≤ (btw t.length 0 l).length := by rw [← h3]; simp
  refine c_seq ?_
  refine c_region ?_
  refine o_move rfl h1.defd rfl ?_
  refine sV ?_
  refine o_appL (t0 := s.toks.length) (e := spV (at_, t.length)) (l := acc.map spV) rfl h1.defd h1 (Nat.le_refl _) h2 rfl rfl (spV_size _) (by rw [List.length_map]; omega) fun v' s3 h1' h2' h3' => ?_
  have hmv : v'.def? = some v' := h1'.defd
  refine o_move rfl hmv rfl ?_
  refine eV ?_
  refine c_ret ?_
  have hv : ∃ i k, v' = .vec ((btw t.length 0 l).map spV) (.tok i k) := by
    rcases h1' with ⟨e, _⟩ | ⟨i, k, e, _⟩
    · simp at e
    · refine ⟨i, k, ?_⟩
      rw [e, ← h3, List.map_append]
      rfl
  obtain ⟨i, k, rfl⟩ := hv
  exact fin_ret (.inl rfl) (read_tmp rfl read_nil) (leave_pure (lay_vec (spV_old _ _)) (by simp only [AV.oldAll, AV.old, spV_old, Bool.and_self])) ⟨rfl, rfl⟩

-- ---------------------------------------------------------------- rows of spans

abbrev sfr (l : List (Int × Int)) (i : Nat) (u14 u25 : AV) : Fr :=
  ⟨[(0, .vec (l.map spV) .shut), (1, .vec (l.map spV) .shut), (4, .bool false), (10, .bool false), (5, .int .i64 i), (14, u14), (25, u25)], [], .off⟩

theorem sp_get {l : List (Int × Int)} {i : Nat} {p : Int × Int} (h : l[i]? = some p) : (l.map spV)[i]? = some (spV p) := by simp [h]

theorem sp_loop (M : Nat) (b : Bar) (l : List (Int × Int)) (s : Sg) (hl : l.length < 2 ^ 50) {Q : Ex → Fr → Sg → Prop} (hend : ∀ u14 u25, Q (.exit 0) (sfr l l.length u14 u25) s) :
    ∀ (d i L : Nat) (u14 u25 : AV), i + d = l.length → d + 1 ≤ L → OkL L (fun fr s => ACode.run (loopN M) (callF T M) b lp5_0 fr s) (sfr l i u14 u25) s Q := by
  have hlm : (l.map spV).length = l.length := by simp
  intro d
  induction d with
  | zero =>
    intro i L u14 u25 hi hL
    obtain ⟨L, rfl⟩ : ∃ L', L = L' + 1 := ⟨L - 1, by omega⟩
    obtain rfl : i = l.length := by omega
    refine l_round ?_
    refine qqV ?_
    refine lV ?_
    exact c_exit (hend _ _)
  | succ d ih =>
    intro i L u14 u25 hi hL
    obtain ⟨L, rfl⟩ : ∃ L', L = L' + 1 := ⟨L - 1, by omega⟩
    have hil : i < l.length := by omega
    have hf := List.getElem?_eq_getElem hil
    generalize l[i] = p at hf
    refine l_round ?_
    refine qqV ?_
    refine iV ?_
    refine c_skip ?_
    refine c_seq ?_
    refine bV ?_
    refine dqV ?_
    refine o_ixvec (j := i) rfl rfl rfl rfl (sp_get hf) rfl ?_
    refine sV ?_
    refine o_ixvec (j := i) rfl rfl rfl rfl (sp_get hf) rfl ?_
    refine sV ?_
    rw [show (AV.bool (negIf true ((fun e => p.fst == p.fst && e) ((fun e => p.snd == p.snd && e) true)))) = AV.bool false by simp [negIf]]
    refine dV ?_
    refine lV ?_
    refine c_skip ?_
    refine qqV ?_
    exact ih (i + 1) L _ _ (by omega) (by omega)

theorem spans_spec (M : Nat) (b : Bar) (l : List (Int × Int)) (s : Sg) (hM : l.length < M) (hl : l.length < 2 ^ 50) :
    callF T (M + 1) b 5 [.vec (l.map spV) .shut, .vec (l.map spV) .shut] s = some (.ret (.bool true), s) := by
  have hlm : (l.map spV).length = l.length := by simp
  apply OkF.ret
  (apply f_wp rfl rfl; (repeat (first | exact Shape.nil | (apply Shape.cons; conv => lhs; whnf))))
  refine qqV ?_
  refine qqV ?_
  refine lV ?_
  refine c_skip ?_
  refine qqV ?_
  refine bV ?_
  refine c_loop ?_
  refine sp_loop M _ l s hl (fun u14 u25 => ?_) l.length 0 M _ _ (by omega) (by omega)
  refine qqV ?_
  refine c_ret ?_
  exact fin_ret (.inl rfl) (read_tmp rfl read_nil) (leave_pure rfl rfl) ⟨rfl, rfl⟩

end Go.Vmm
