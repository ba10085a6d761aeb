/-
  A text, quoted: the program's and the reference's, by one model.
-/
import Derived.Test.YtpaebiddgpjlnabGreatDoorSqtD

namespace Go.Vmm
open Go Go.Am Go.Proofs

/-- the loop 0 of function 5 -/
def lp5_0 : ACode := .seq (.seq (.region [Mv 8 6, Mv 9 0, Vv 10 (.len 1 (.tmp 9)), Bn 11 .lss 8 10] [11]) (.cond (.tmp 11) (.skip) (.exit 0))) (.block 1 (.seq (.region [Mc 7 0] [7]) (.seq (.region [Mv 13 0, Mv 14 6, Mv 15 1, Cl 16 10 [Tm 13, Tm 14, Tm 15], Mv 12 16, Vv 17 (.extract (.tmp 12) 0), Vv 18 (.extract (.tmp 12) 1), Mv 7 17, Mv 6 18] [7, 6]) (.seq (.region [Mv 19 7, Bc 20 .eql 19 95, Mv 21 20, Gf 22 21 (.move (.tmp 7)), Gf 23 21 (.bin .geq (.tmp 22) (Ci 48)), Gf 24 21 (.move (.tmp 23)), Gt 25 24 (.move (.tmp 7)), Gt 26 24 (.bin .leq (.tmp 25) (Ci 57)), Gf 27 21 (.pick (.tmp 24) (.tmp 26) (.const (.bool false))), Vv 28 (.pick (.tmp 21) (.const (.bool true)) (.tmp 27)), Mv 29 28, Gf 30 29 (.move (.tmp 7)), Gf 31 29 (.bin .lss (.tmp 30) (Ci 128)), Gf 32 29 (.move (.tmp 31)), Gt 33 32 (.move (.tmp 7)), Gt 34 32 (.bin .or (.tmp 33) (Ci 32)), Gt 35 32 (.bin .geq (.tmp 34) (Ci 97)), Gf 36 29 (.pick (.tmp 32) (.tmp 35) (.const (.bool false))), Gf 37 29 (.move (.tmp 36)), Gt 38 37 (.move (.tmp 7)), Gt 39 37 (.bin .or (.tmp 38) (Ci 32)), Gt 40 37 (.bin .leq (.tmp 39) (Ci 122)), Gf 41 29 (.pick (.tmp 37) (.tmp 40) (.const (.bool false))), Vv 42 (.pick (.tmp 29) (.const (.bool true)) (.tmp 41))] [42]) (.cond (.tmp 42) (.region [Mv 43 5, Mv 44 7, Vv 45 (.conv (.intInt .i32) (.tmp 44)), Vv 46 (.conv .intStr (.tmp 45)), Bn 47 .add 43 46, Mv 5 47] [5]) (.region [Mv 48 5, Mv 49 7, Cl 50 11 [Tm 49, (Ci 16)], Vv 51 (.bin .add (.const (.str [92, 120, 123])) (.tmp 50)), Vv 52 (.bin .add (.tmp 51) (.const (.str [125]))), Bn 53 .add 48 52, Mv 5 53] [5]))))))
/-- the loop 0 of function 6 -/
def lp6_0 : ACode := .seq (.seq (.region [Mv 9 6, Mv 10 0, Vv 11 (.len 1 (.tmp 10)), Bn 12 .lss 9 11] [12]) (.cond (.tmp 12) (.skip) (.exit 0))) (.block 1 (.seq (.region [Mv 14 0, Mv 15 6, Mv 16 1, Cl 17 12 [Tm 14, Tm 15, Tm 16], Mv 13 17, Vv 18 (.extract (.tmp 13) 0), Vv 19 (.extract (.tmp 13) 1), Mv 7 18, Mv 8 19] [7, 8]) (.seq (.seq (.region (Mv 20 7 :: Bc 21 .geq 20 97 :: Mv 22 21 :: Gt 23 22 (.move (.tmp 7)) :: Gt 24 22 (.bin .leq (.tmp 23) (Ci 122)) :: Vv 25 (.pick (.tmp 22) (.tmp 24) (.const (.bool false))) :: Mv 26 25 :: Gf 27 26 (.move (.tmp 7)) :: Gf 28 26 (.bin .geq (.tmp 27) (Ci 65)) :: Gf 29 26 (.move (.tmp 28)) :: Gt 30 29 (.move (.tmp 7)) :: Gt 31 29 (.bin .leq (.tmp 30) (Ci 90)) :: Gf 32 26 (.pick (.tmp 29) (.tmp 31) (.const (.bool false))) :: Vv 33 (.pick (.tmp 26) (.const (.bool true)) (.tmp 32)) :: Mv 34 33 :: Gf 35 34 (.move (.tmp 7)) :: Gf 36 34 (.bin .geq (.tmp 35) (Ci 48)) :: Gf 37 34 (.move (.tmp 36)) :: Gt 38 37 (.move (.tmp 7)) :: Gt 39 37 (.bin .leq (.tmp 38) (Ci 57)) :: Gf 40 34 (.pick (.tmp 37) (.tmp 39) (.const (.bool false))) :: Vv 41 (.pick (.tmp 34) (.const (.bool true)) (.tmp 40)) :: Mv 42 41 :: Gf 43 42 (.move (.tmp 7)) :: Gf 44 42 (.bin .eql (.tmp 43) (Ci 95)) :: Vv 45 (.pick (.tmp 42) (.const (.bool true)) (.tmp 44)) :: []) [45]) (.cond (.tmp 45) (.region [Mv 46 5, Mv 47 0, Mv 48 6, Mv 49 8, Vv 50 (.slice 1 (.tmp 47) (some (.tmp 48)) (some (.tmp 49)) none), Vv 51 (.conv .bytesStr (.tmp 50)), Bn 52 .add 46 51, Mv 5 52] [5]) (.region [Mv 53 5, Mv 54 7, Cl 55 13 [Tm 54], Vv 56 (.bin .add (.const (.str [92, 120, 123])) (.tmp 55)), Vv 57 (.bin .add (.tmp 56) (.const (.str [125]))), Bn 58 .add 53 57, Mv 5 58] [5]))) (.region [Mv 59 8, Mv 6 59] [6]))))

def Letter (c : Int) : Prop := c = 95 ∨ (48 ≤ c ∧ c ≤ 57) ∨ (65 ≤ c ∧ c ≤ 90) ∨ (97 ≤ c ∧ c ≤ 122)
instance (c : Int) : Decidable (Letter c) := by unfold Letter; infer_instance

/-- what a character is written as -/
def piece (c : Int) : List UInt8 := if Letter c then [UInt8.ofNat c.toNat] else [92, 120, 123] ++ hexL 6 c.toNat ++ [125]

theorem piece_len (c : Int) : (piece c).length ≤ 10 := by
  unfold piece
  split
  · simp
  · have := hexL_len 6 c.toNat
    simp only [List.length_append, List.length_cons, List.length_nil]
    omega

/-- a text, quoted -/
def quo (utf : Bool) : Nat → List Int → List UInt8
  | 0, _ => []
  | d + 1, r => if r = [] then [] else piece (nxP utf r).1 ++ quo utf d (r.drop (nxP utf r).2.toNat)

theorem quo_nil (utf : Bool) : ∀ d, quo utf d [] = []
  | 0 => rfl
  | _ + 1 => if_pos rfl

theorem dec_low (r : List Int) (hb : ∀ n ∈ r, 0 ≤ n ∧ n < 256) (h0 : 0 < (dec r).2) (h1 : (dec r).1 < 128) : (dec r).2 = 1 ∧ (dec r).1 = r.headD 0 := by
  match r with
  | [] => simp [dec] at h0
  | a :: r =>
    have ha := hb a (by simp)
    revert h0 h1
    simp only [dec]
    split
    · intro _ _; exact ⟨rfl, rfl⟩
    split
    · intro h; simp at h
    split
    · split
      · split
        · intro _ h1; simp only [] at h1; omega
        · intro h; simp at h
      · intro h; simp at h
    split
    · split
      · split
        · intro _ h1; simp only [] at h1; omega
        · intro h; simp at h
      · intro h; simp at h
    split
    · split
      · split
        · intro _ h1; simp only [] at h1; omega
        · intro h; simp at h
      · intro h; simp at h
    · intro h; simp at h

theorem nx_range (utf : Bool) (r : List Int) (hb : ∀ n ∈ r, 0 ≤ n ∧ n < 256) (hne : r ≠ []) : 0 ≤ (nxP utf r).1 ∧ (nxP utf r).1 ≤ 1114111 ∧ 1 ≤ (nxP utf r).2 ∧ (nxP utf r).2 ≤ r.length ∧ ((nxP utf r).1 < 128 → (nxP utf r).2 = 1 ∧ (nxP utf r).1 = r.headD 0) := by
  have hk := dec_range r hb
  have hl : 1 ≤ r.length := List.length_pos_iff.2 hne
  have hh : 0 ≤ r.headD 0 ∧ r.headD 0 < 256 := by
    match r, hne with
    | a :: _, _ => exact hb a (by simp)
  unfold nxP
  split
  · rename_i h
    exact ⟨hk.1, hk.2.1, h.2, hk.2.2.2.2, fun h1 => dec_low r hb h.2 h1⟩
  · exact ⟨hh.1, by dsimp only; omega, by dsimp only; omega, by dsimp only; omega, fun _ => ⟨rfl, rfl⟩⟩

def orv (c : Int) : Int := if c / 32 % 2 = 1 then c else c + 32

theorem or_cut : ∀ n : Fin 128, IntKind.i64.wrap (((BitVec.ofInt 64 ((n.val : Nat) : Int) ||| BitVec.ofInt 64 32).toNat : Nat) : Int) = orv ((n.val : Nat) : Int) := by decide

theorem ev_or32 {c : Int} (h0 : 0 ≤ c) (h1 : c < 128) : evBin .or (.int .i64 c) (.int .i64 32) = some (.int .i64 (orv c)) := by
  have := or_cut ⟨c.toNat, by omega⟩
  have e : ((c.toNat : Nat) : Int) = c := by omega
  dsimp only at this
  rw [e] at this
  simp only [evBin, if_true, intBin]
  exact congrArg (fun z => some (AV.int .i64 z)) this

theorem enc_cut : ∀ n : Fin 128, (Utf8.encode ((n.val : Nat) : Int)).data.toList = [UInt8.ofNat n.val] := by decide

theorem enc_low {c : Int} (h0 : 0 ≤ c) (h1 : c < 128) : evConv .intStr (.int .i32 c) = some (.str [UInt8.ofNat c.toNat]) := by
  have := enc_cut ⟨c.toNat, by omega⟩
  have e : ((c.toNat : Nat) : Int) = c := by omega
  dsimp only at this
  rw [e] at this
  simp only [evConv, this]

theorem wrap_i32 {n : Int} (h0 : 0 ≤ n) (h1 : n < 2 ^ 31) : IntKind.i32.wrap n = n := by
  simp only [IntKind.wrap, IntKind.signed, IntKind.bits]
  simp
  omega

end Go.Vmm

namespace Go.Vmm
open Go Go.Am Go.Proofs

abbrev qf5 (t : List UInt8) (tl : Tail) (utf : Bool) (i : Nat) (acc : List UInt8) (x11 x7 x42 : AV) : Fr :=
  ⟨[(0, .vec (Am.byteCells t) tl), (1, .bool utf), (4, .str []), (6, .int .i64 i), (11, x11), (7, x7), (42, x42), (5, .str acc)], [], .off⟩

theorem next_at (M : Nat) (b : Bar) (t : List UInt8) (tl : Tail) (at_ : Nat) (utf : Bool) (s : Sg) (hM : 15 ≤ M) (hat : at_ < t.length) (htl : t.length < 2 ^ 40) :
    callF T M b 10 [.vec (Am.byteCells t) tl, .int .i64 at_, .bool utf] s = some (.ret (.tup [.int .i64 (nxP utf ((ints t).drop at_)).1, .int .i64 (at_ + (nxP utf ((ints t).drop at_)).2)]), s) := by
  obtain ⟨m, rfl⟩ : ∃ m, M = m + 1 := ⟨M - 1, by omega⟩
  exact next_prog m b t tl at_ utf s (by omega) hat htl

theorem format_at (M : Nat) (b : Bar) (u : Nat) (s : Sg) (hs : s.gl = glT) (hM : 15 ≤ M) (hu : u < 16777216) : callF T M b 11 [.int .i64 (u : Int), .int .i64 16] s = some (.ret (.str (hexL 6 u)), s) := by
  obtain ⟨m, rfl⟩ : ∃ m, M = m + 14 := ⟨M - 14, by omega⟩
  exact format_spec m b u s hs hu

theorem quote_loop (M : Nat) (b : Bar) (t : List UInt8) (tl : Tail) (utf : Bool) (s : Sg) (hs : s.gl = glT) (hM : 15 ≤ M) (htl : t.length < 2 ^ 20) (hbw : b.w ≤ s.heap.length) (hbe : b.es = []) (total : List UInt8) {Q : Ex → Fr → Sg → Prop}
    (hend : ∀ i x11 x7 x42, Q (.exit 0) (qf5 t tl utf i total x11 x7 x42) s) :
    ∀ (d i : Nat) (acc : List UInt8) (x11 x7 x42 : AV), i ≤ t.length → t.length ≤ i + d → d < 2 ^ 20 → acc.length + 10 * d < 2 ^ 30 → acc ++ quo utf d ((ints t).drop i) = total →
      OkL (d + 1) (fun fr s => ACode.run (loopN M) (callF T M) b lp5_0 fr s) (qf5 t tl utf i acc x11 x7 x42) s Q := by
  intro d
  have hbl := Am.byteCells_length t
  induction d with
  | zero =>
    intro i acc x11 x7 x42 hi hd _ ha ht
    have e : quo utf 0 ((ints t).drop i) = [] := rfl
    rw [e, List.append_nil] at ht
    subst ht
    refine l_round ?_
    refine qqV ?_
    refine lV ?_
    exact c_exit (hend _ _ _ _)
  | succ d ih =>
    intro i acc x11 x7 x42 hi hd hd2 ha ht
    by_cases hlt : i < t.length
    · have hrb : ∀ n ∈ (ints t).drop i, 0 ≤ n ∧ n < 256 := fun n hn => ints_range t n (List.mem_of_mem_drop hn)
      have hrl : ((ints t).drop i).length = t.length - i := by rw [List.length_drop, ints_len]
      have hne : (ints t).drop i ≠ [] := fun h => by rw [h] at hrl; simp at hrl; omega
      have hk := nx_range utf ((ints t).drop i) hrb hne
      have hnx := next_at M b t tl i utf s hM hlt (by omega)
      have eq : quo utf (d + 1) ((ints t).drop i) = piece (nxP utf ((ints t).drop i)).1 ++ quo utf d (((ints t).drop i).drop (nxP utf ((ints t).drop i)).2.toNat) := if_neg hne
      rw [eq] at ht
      rw [hrl] at hk
      generalize nxP utf ((ints t).drop i) = q at *
      obtain ⟨c, k⟩ := q
      dsimp only at *
      obtain ⟨k, rfl⟩ : ∃ n : Nat, k = (n : Int) := ⟨k.toNat, by omega⟩
      rw [Int.toNat_natCast, List.drop_drop, ← List.append_assoc] at ht
      have hpl := piece_len c
      have ho : ∀ x11 x7 x42, OkL (d + 1) (fun fr s => ACode.run (loopN M) (callF T M) b lp5_0 fr s) (qf5 t tl utf (i + k) (acc ++ piece c) x11 x7 x42) s Q := fun x11 x7 x42 => ih (i + k) (acc ++ piece c) x11 x7 x42 (by omega) (by omega) (by omega) (by rw [List.length_append]; omega) ht
      have hc0 : (c.toNat : Int) = c := by omega
      have hfm := format_at M b c.toNat s hs hM (by omega)
      rw [hc0] at hfm
      have hyes : Letter c → OkL (d + 1) (fun fr s => ACode.run (loopN M) (callF T M) b lp5_0 fr s) (qf5 t tl utf (i + k) (acc ++ [UInt8.ofNat c.toNat]) (.bool true) (.int .i64 c) (.bool true)) s Q := fun h => by
        have e : piece c = [UInt8.ofNat c.toNat] := if_pos h
        rw [← e]
        exact ho _ _ _
      have hno : ¬ Letter c → OkL (d + 1) (fun fr s => ACode.run (loopN M) (callF T M) b lp5_0 fr s) (qf5 t tl utf (i + k) (acc ++ ([92, 120, 123] ++ hexL 6 c.toNat ++ [125])) (.bool true) (.int .i64 c) (.bool false)) s Q := fun h => by
        have e : piece c = [92, 120, 123] ++ hexL 6 c.toNat ++ [125] := if_neg h
        rw [← e]
        exact ho _ _ _
      have hhl := hexL_len 6 c.toNat
      refine l_round ?_
      refine qqV ?_
      refine iV ?_
      refine c_skip ?_
      refine bV ?_
      refine qqV ?_
      refine qV ?_
      refine o_call rfl rfl hnx ?_
      refine sV ?_
      refine eV ?_
      by_cases c1 : c = 95
      · refine qV ?_
        refine sV ?_
        refine eV ?_
        refine iV ?_
        refine qV ?_
        refine o_cv c rfl rfl (wrap_i32 (by omega) (by omega)) ?_
        refine o_w (v := .str [UInt8.ofNat c.toNat]) rfl (enc_low (by omega) (by omega)) ?_
        refine o_sadd rfl rfl rfl (by simp; omega) ?_
        refine sV ?_
        refine eV ?_
        exact hyes (by unfold Letter; omega)
      by_cases c2 : c < 48
      · refine qV ?_
        refine o_bin (orv c) rfl rfl rfl (ev_or32 (by omega) (by omega)) ?_
        have hv : orv c < 97 := by unfold orv; split <;> omega
        generalize orv c = v at hv ⊢
        refine sV ?_
        refine eV ?_
        refine lV ?_
        refine qV ?_
        refine o_call rfl rfl hfm ?_
        refine o_sadd rfl rfl rfl (by simp; omega) ?_
        refine o_sadd rfl rfl rfl (by simp; omega) ?_
        refine o_sadd rfl rfl rfl (by simp; omega) ?_
        refine sV ?_
        refine eV ?_
        exact hno (by unfold Letter; omega)
      by_cases c3 : c ≤ 57
      · refine qV ?_
        refine sV ?_
        refine eV ?_
        refine iV ?_
        refine qV ?_
        refine o_cv c rfl rfl (wrap_i32 (by omega) (by omega)) ?_
        refine o_w (v := .str [UInt8.ofNat c.toNat]) rfl (enc_low (by omega) (by omega)) ?_
        refine o_sadd rfl rfl rfl (by simp; omega) ?_
        refine sV ?_
        refine eV ?_
        exact hyes (by unfold Letter; omega)
      by_cases c4 : 128 ≤ c
      · refine qV ?_
        refine sV ?_
        refine eV ?_
        refine lV ?_
        refine qV ?_
        refine o_call rfl rfl hfm ?_
        refine o_sadd rfl rfl rfl (by simp; omega) ?_
        refine o_sadd rfl rfl rfl (by simp; omega) ?_
        refine o_sadd rfl rfl rfl (by simp; omega) ?_
        refine sV ?_
        refine eV ?_
        exact hno (by unfold Letter; omega)
      by_cases c5 : c < 65
      · refine qV ?_
        refine o_bin (orv c) rfl rfl rfl (ev_or32 (by omega) (by omega)) ?_
        have hv : orv c < 97 := by unfold orv; split <;> omega
        generalize orv c = v at hv ⊢
        refine sV ?_
        refine eV ?_
        refine lV ?_
        refine qV ?_
        refine o_call rfl rfl hfm ?_
        refine o_sadd rfl rfl rfl (by simp; omega) ?_
        refine o_sadd rfl rfl rfl (by simp; omega) ?_
        refine o_sadd rfl rfl rfl (by simp; omega) ?_
        refine sV ?_
        refine eV ?_
        exact hno (by unfold Letter; omega)
      by_cases c6 : c ≤ 90
      · have he := ev_or32 (c := c) (by omega) (by omega)
        have hv : 97 ≤ orv c ∧ orv c ≤ 122 := by unfold orv; split <;> omega
        generalize orv c = v at hv he
        refine qV ?_
        refine o_bin v rfl rfl rfl he ?_
        refine sV ?_
        refine o_bin v rfl rfl rfl he ?_
        refine sV ?_
        refine eV ?_
        refine iV ?_
        refine qV ?_
        refine o_cv c rfl rfl (wrap_i32 (by omega) (by omega)) ?_
        refine o_w (v := .str [UInt8.ofNat c.toNat]) rfl (enc_low (by omega) (by omega)) ?_
        refine o_sadd rfl rfl rfl (by simp; omega) ?_
        refine sV ?_
        refine eV ?_
        exact hyes (by unfold Letter; omega)
      by_cases c7 : c = 96
      · have he := ev_or32 (c := c) (by omega) (by omega)
        have hv : orv c < 97 := by unfold orv; split <;> omega
        generalize orv c = v at hv he
        refine qV ?_
        refine o_bin v rfl rfl rfl he ?_
        refine sV ?_
        refine eV ?_
        refine lV ?_
        refine qV ?_
        refine o_call rfl rfl hfm ?_
        refine o_sadd rfl rfl rfl (by simp; omega) ?_
        refine o_sadd rfl rfl rfl (by simp; omega) ?_
        refine o_sadd rfl rfl rfl (by simp; omega) ?_
        refine sV ?_
        refine eV ?_
        exact hno (by unfold Letter; omega)
      by_cases c8 : c < 96
      · have he := ev_or32 (c := c) (by omega) (by omega)
        have hv : 122 < orv c := by unfold orv; split <;> omega
        generalize orv c = v at hv he
        refine qV ?_
        refine o_bin v rfl rfl rfl he ?_
        refine sV ?_
        refine o_bin v rfl rfl rfl he ?_
        refine sV ?_
        refine eV ?_
        refine lV ?_
        refine qV ?_
        refine o_call rfl rfl hfm ?_
        refine o_sadd rfl rfl rfl (by simp; omega) ?_
        refine o_sadd rfl rfl rfl (by simp; omega) ?_
        refine o_sadd rfl rfl rfl (by simp; omega) ?_
        refine sV ?_
        refine eV ?_
        exact hno (by unfold Letter; omega)
      by_cases c9 : c ≤ 122
      · have he := ev_or32 (c := c) (by omega) (by omega)
        have hv : 97 ≤ orv c ∧ orv c ≤ 122 := by unfold orv; split <;> omega
        generalize orv c = v at hv he
        refine qV ?_
        refine o_bin v rfl rfl rfl he ?_
        refine sV ?_
        refine o_bin v rfl rfl rfl he ?_
        refine sV ?_
        refine eV ?_
        refine iV ?_
        refine qV ?_
        refine o_cv c rfl rfl (wrap_i32 (by omega) (by omega)) ?_
        refine o_w (v := .str [UInt8.ofNat c.toNat]) rfl (enc_low (by omega) (by omega)) ?_
        refine o_sadd rfl rfl rfl (by simp; omega) ?_
        refine sV ?_
        refine eV ?_
        exact hyes (by unfold Letter; omega)
      have he := ev_or32 (c := c) (by omega) (by omega)
      have hv : 122 < orv c := by unfold orv; split <;> omega
      generalize orv c = v at hv he
      refine qV ?_
      refine o_bin v rfl rfl rfl he ?_
      refine sV ?_
      refine o_bin v rfl rfl rfl he ?_
      refine sV ?_
      refine eV ?_
      refine lV ?_
      refine qV ?_
      refine o_call rfl rfl hfm ?_
      refine o_sadd rfl rfl rfl (by simp; omega) ?_
      refine o_sadd rfl rfl rfl (by simp; omega) ?_
      refine o_sadd rfl rfl rfl (by simp; omega) ?_
      refine sV ?_
      refine eV ?_
      exact hno (by unfold Letter; omega)
    · have e : quo utf (d + 1) ((ints t).drop i) = [] := by
        rw [show (ints t).drop i = [] from List.drop_eq_nil_of_le (by rw [ints_len]; omega), quo_nil]
      rw [e, List.append_nil] at ht
      subst ht
      refine l_round ?_
      refine qqV ?_
      refine lV ?_
      exact c_exit (hend _ _ _ _)

end Go.Vmm

namespace Go.Vmm
open Go Go.Am Go.Proofs

abbrev qf6 (t : List UInt8) (tl : Tail) (utf : Bool) (i : Nat) (acc : List UInt8) (x12 x7 x45 x8 : AV) : Fr :=
  ⟨[(0, .vec (Am.byteCells t) tl), (1, .bool utf), (4, .str []), (6, .int .i64 i), (12, x12), (7, x7), (45, x45), (5, .str acc), (8, x8)], [], .off⟩

theorem ref_at (M : Nat) (b : Bar) (t : List UInt8) (tl : Tail) (at_ : Nat) (utf : Bool) (s : Sg) (hM : 15 ≤ M) (hat : at_ < t.length) (htl : t.length < 2 ^ 40) :
    callF T M b 12 [.vec (Am.byteCells t) tl, .int .i64 at_, .bool utf] s = some (.ret (.tup [.int .i64 (nxP utf ((ints t).drop at_)).1, .int .i64 (at_ + (nxP utf ((ints t).drop at_)).2)]), s) := by
  have hrb : ∀ n ∈ (ints t).drop at_, 0 ≤ n ∧ n < 256 := fun n hn => ints_range t n (List.mem_of_mem_drop hn)
  have hrl : ((ints t).drop at_).length = t.length - at_ := by rw [List.length_drop, ints_len]
  have hne : (ints t).drop at_ ≠ [] := fun h => by rw [h] at hrl; simp at hrl; omega
  obtain ⟨m, rfl⟩ : ∃ m, M = m + 4 := ⟨M - 4, by omega⟩
  rw [← nx_same utf _ hrb hne]
  exact next_ref m b t tl at_ utf s (by omega) hat htl

theorem hex_at (M : Nat) (b : Bar) (u : Nat) (s : Sg) (hM : 15 ≤ M) (hu : u < 16777216) : callF T M b 13 [.int .i64 (u : Int)] s = some (.ret (.str (hexL 6 u)), s) := by
  obtain ⟨m, rfl⟩ : ∃ m, M = m + 6 := ⟨M - 6, by omega⟩
  exact hex_spec m b s 6 u (by omega) hu (by omega)

theorem byte_at {t : List UInt8} {i : Nat} {x : UInt8} (hx : t[i]? = some x) : ((Am.byteCells t).drop i).take (i + 1 - i) = Am.byteCells [x] := by
  have hl := lt_of_getElem? hx
  unfold Am.byteCells
  rw [← List.map_drop, List.drop_eq_getElem_cons hl, show i + 1 - i = 1 by omega]
  rw [List.getElem?_eq_getElem hl] at hx
  rw [Option.some.inj hx]
  rfl

theorem size_bytes : ∀ l : List UInt8, allSize 1 ((Am.byteCells l).take 1) = true
  | [] => rfl
  | _ :: _ => rfl

theorem ref_loop (M : Nat) (b : Bar) (t : List UInt8) (tl : Tail) (utf : Bool) (s : Sg) (hM : 15 ≤ M) (htl : t.length < 2 ^ 20) (hbw : b.w ≤ s.heap.length) (hbe : b.es = []) (total : List UInt8) {Q : Ex → Fr → Sg → Prop}
    (hend : ∀ i x12 x7 x45 x8, Q (.exit 0) (qf6 t tl utf i total x12 x7 x45 x8) s) :
    ∀ (d i : Nat) (acc : List UInt8) (x12 x7 x45 x8 : AV), i ≤ t.length → t.length ≤ i + d → d < 2 ^ 20 → acc.length + 10 * d < 2 ^ 30 → acc ++ quo utf d ((ints t).drop i) = total →
      OkL (d + 1) (fun fr s => ACode.run (loopN M) (callF T M) b lp6_0 fr s) (qf6 t tl utf i acc x12 x7 x45 x8) s Q := by
  intro d
  have hbl := Am.byteCells_length t
  induction d with
  | zero =>
    intro i acc x12 x7 x45 x8 hi hd _ ha ht
    have e : quo utf 0 ((ints t).drop i) = [] := rfl
    rw [e, List.append_nil] at ht
    subst ht
    refine l_round ?_
    refine qqV ?_
    refine lV ?_
    exact c_exit (hend _ _ _ _ _)
  | succ d ih =>
    intro i acc x12 x7 x45 x8 hi hd hd2 ha ht
    by_cases hlt : i < t.length
    · have hrb : ∀ n ∈ (ints t).drop i, 0 ≤ n ∧ n < 256 := fun n hn => ints_range t n (List.mem_of_mem_drop hn)
      have hrl : ((ints t).drop i).length = t.length - i := by rw [List.length_drop, ints_len]
      have hne : (ints t).drop i ≠ [] := fun h => by rw [h] at hrl; simp at hrl; omega
      have hk := nx_range utf ((ints t).drop i) hrb hne
      have hnx := ref_at M b t tl i utf s hM hlt (by omega)
      have eq : quo utf (d + 1) ((ints t).drop i) = piece (nxP utf ((ints t).drop i)).1 ++ quo utf d (((ints t).drop i).drop (nxP utf ((ints t).drop i)).2.toNat) := if_neg hne
      rw [eq] at ht
      rw [hrl] at hk
      generalize nxP utf ((ints t).drop i) = q at *
      obtain ⟨c, k⟩ := q
      dsimp only at *
      obtain ⟨k, rfl⟩ : ∃ n : Nat, k = (n : Int) := ⟨k.toNat, by omega⟩
      rw [Int.toNat_natCast, List.drop_drop, ← List.append_assoc] at ht
      have hpl := piece_len c
      have ho : ∀ x12 x7 x45 x8, OkL (d + 1) (fun fr s => ACode.run (loopN M) (callF T M) b lp6_0 fr s) (qf6 t tl utf (i + k) (acc ++ piece c) x12 x7 x45 x8) s Q := fun x12 x7 x45 x8 => ih (i + k) (acc ++ piece c) x12 x7 x45 x8 (by omega) (by omega) (by omega) (by rw [List.length_append]; omega) ht
      have hc0 : (c.toNat : Int) = c := by omega
      have hfm := hex_at M b c.toNat s hM (by omega)
      rw [hc0] at hfm
      have hyes : Letter c → OkL (d + 1) (fun fr s => ACode.run (loopN M) (callF T M) b lp6_0 fr s) (qf6 t tl utf (i + k) (acc ++ [UInt8.ofNat c.toNat]) (.bool true) (.int .i64 c) (.bool true) (.int .i64 ((i : Int) + (k : Int)))) s Q := fun h => by
        have e : piece c = [UInt8.ofNat c.toNat] := if_pos h
        rw [← e]
        exact ho _ _ _ _
      have hno : ¬ Letter c → OkL (d + 1) (fun fr s => ACode.run (loopN M) (callF T M) b lp6_0 fr s) (qf6 t tl utf (i + k) (acc ++ ([92, 120, 123] ++ hexL 6 c.toNat ++ [125])) (.bool true) (.int .i64 c) (.bool false) (.int .i64 ((i : Int) + (k : Int)))) s Q := fun h => by
        have e : piece c = [92, 120, 123] ++ hexL 6 c.toNat ++ [125] := if_neg h
        rw [← e]
        exact ho _ _ _ _
      have hhl := hexL_len 6 c.toNat
      refine l_round ?_
      refine qqV ?_
      refine iV ?_
      refine c_skip ?_
      refine bV ?_
      refine qV ?_
      refine o_call rfl rfl hnx ?_
      refine sV ?_
      refine eV ?_
      by_cases c1 : 97 ≤ c
      · by_cases c2 : c ≤ 122
        · refine qqV ?_
          refine iV ?_
          have hk1 := hk.2.2.2.2 (by omega)
          obtain ⟨hk1, hch⟩ := hk1
          obtain ⟨x, hx⟩ : ∃ x, t[i]? = some x := ⟨_, List.getElem?_eq_getElem hlt⟩
          have hcx : c = x.toNat := by rw [hch, drop_cons hx]; rfl
          have hxe : UInt8.ofNat c.toNat = x := by rw [hcx, Int.toNat_natCast]; simp
          have hyes := hyes (by unfold Letter; omega)
          rw [hxe] at hyes
          refine qV ?_
          refine o_slvec (i := i) (j := i + 1) (q := Am.byteCells [x]) rfl rfl rfl rfl rfl (by omega) (by omega) (by rw [hbl]; omega) (size_bytes t) (byte_at hx) (fun tl' => ?_)
          refine o_bs (l := [x]) rfl rfl (bytesOf_cells [x]) ?_
          refine o_sadd rfl rfl rfl (by simp; omega) ?_
          refine sV ?_
          refine eV ?_
          refine qqV ?_
          exact hyes
        · refine qqV ?_
          refine lV ?_
          refine qV ?_
          refine o_call rfl rfl hfm ?_
          refine o_sadd rfl rfl rfl (by simp; omega) ?_
          refine o_sadd rfl rfl rfl (by simp; omega) ?_
          refine o_sadd rfl rfl rfl (by simp; omega) ?_
          refine sV ?_
          refine eV ?_
          refine qqV ?_
          exact hno (by unfold Letter; omega)
      by_cases c3 : 65 ≤ c
      · by_cases c4 : c ≤ 90
        · refine qqV ?_
          refine iV ?_
          have hk1 := hk.2.2.2.2 (by omega)
          obtain ⟨hk1, hch⟩ := hk1
          obtain ⟨x, hx⟩ : ∃ x, t[i]? = some x := ⟨_, List.getElem?_eq_getElem hlt⟩
          have hcx : c = x.toNat := by rw [hch, drop_cons hx]; rfl
          have hxe : UInt8.ofNat c.toNat = x := by rw [hcx, Int.toNat_natCast]; simp
          have hyes := hyes (by unfold Letter; omega)
          rw [hxe] at hyes
          refine qV ?_
          refine o_slvec (i := i) (j := i + 1) (q := Am.byteCells [x]) rfl rfl rfl rfl rfl (by omega) (by omega) (by rw [hbl]; omega) (size_bytes t) (byte_at hx) (fun tl' => ?_)
          refine o_bs (l := [x]) rfl rfl (bytesOf_cells [x]) ?_
          refine o_sadd rfl rfl rfl (by simp; omega) ?_
          refine sV ?_
          refine eV ?_
          refine qqV ?_
          exact hyes
        · by_cases c5 : c = 95
          · refine qqV ?_
            refine iV ?_
            have hk1 := hk.2.2.2.2 (by omega)
            obtain ⟨hk1, hch⟩ := hk1
            obtain ⟨x, hx⟩ : ∃ x, t[i]? = some x := ⟨_, List.getElem?_eq_getElem hlt⟩
            have hcx : c = x.toNat := by rw [hch, drop_cons hx]; rfl
            have hxe : UInt8.ofNat c.toNat = x := by rw [hcx, Int.toNat_natCast]; simp
            have hyes := hyes (by unfold Letter; omega)
            rw [hxe] at hyes
            refine qV ?_
            refine o_slvec (i := i) (j := i + 1) (q := Am.byteCells [x]) rfl rfl rfl rfl rfl (by omega) (by omega) (by rw [hbl]; omega) (size_bytes t) (byte_at hx) (fun tl' => ?_)
            refine o_bs (l := [x]) rfl rfl (bytesOf_cells [x]) ?_
            refine o_sadd rfl rfl rfl (by simp; omega) ?_
            refine sV ?_
            refine eV ?_
            refine qqV ?_
            exact hyes
          · refine qqV ?_
            refine lV ?_
            refine qV ?_
            refine o_call rfl rfl hfm ?_
            refine o_sadd rfl rfl rfl (by simp; omega) ?_
            refine o_sadd rfl rfl rfl (by simp; omega) ?_
            refine o_sadd rfl rfl rfl (by simp; omega) ?_
            refine sV ?_
            refine eV ?_
            refine qqV ?_
            exact hno (by unfold Letter; omega)
      by_cases c6 : 48 ≤ c
      · by_cases c7 : c ≤ 57
        · refine qqV ?_
          refine iV ?_
          have hk1 := hk.2.2.2.2 (by omega)
          obtain ⟨hk1, hch⟩ := hk1
          obtain ⟨x, hx⟩ : ∃ x, t[i]? = some x := ⟨_, List.getElem?_eq_getElem hlt⟩
          have hcx : c = x.toNat := by rw [hch, drop_cons hx]; rfl
          have hxe : UInt8.ofNat c.toNat = x := by rw [hcx, Int.toNat_natCast]; simp
          have hyes := hyes (by unfold Letter; omega)
          rw [hxe] at hyes
          refine qV ?_
          refine o_slvec (i := i) (j := i + 1) (q := Am.byteCells [x]) rfl rfl rfl rfl rfl (by omega) (by omega) (by rw [hbl]; omega) (size_bytes t) (byte_at hx) (fun tl' => ?_)
          refine o_bs (l := [x]) rfl rfl (bytesOf_cells [x]) ?_
          refine o_sadd rfl rfl rfl (by simp; omega) ?_
          refine sV ?_
          refine eV ?_
          refine qqV ?_
          exact hyes
        · refine qqV ?_
          refine lV ?_
          refine qV ?_
          refine o_call rfl rfl hfm ?_
          refine o_sadd rfl rfl rfl (by simp; omega) ?_
          refine o_sadd rfl rfl rfl (by simp; omega) ?_
          refine o_sadd rfl rfl rfl (by simp; omega) ?_
          refine sV ?_
          refine eV ?_
          refine qqV ?_
          exact hno (by unfold Letter; omega)
      · refine qqV ?_
        refine lV ?_
        refine qV ?_
        refine o_call rfl rfl hfm ?_
        refine o_sadd rfl rfl rfl (by simp; omega) ?_
        refine o_sadd rfl rfl rfl (by simp; omega) ?_
        refine o_sadd rfl rfl rfl (by simp; omega) ?_
        refine sV ?_
        refine eV ?_
        refine qqV ?_
        exact hno (by unfold Letter; omega)
    · have e : quo utf (d + 1) ((ints t).drop i) = [] := by
        rw [show (ints t).drop i = [] from List.drop_eq_nil_of_le (by rw [ints_len]; omega), quo_nil]
      rw [e, List.append_nil] at ht
      subst ht
      refine l_round ?_
      refine qqV ?_
      refine lV ?_
      exact c_exit (hend _ _ _ _ _)

end Go.Vmm

namespace Go.Vmm
open Go Go.Am Go.Proofs

theorem quote_spec (M : Nat) (b : Bar) (t : List UInt8) (tl : Tail) (utf : Bool) (s : Sg) (hs : s.gl = glT) (hM : 15 ≤ M) (htM : t.length < M) (hM2 : M < 2 ^ 20) :
    callF T (M + 1) b 5 [.vec (Am.byteCells t) tl, .bool utf] s = some (.ret (.str (quo utf (M - 1) (ints t))), s) := by
  have hl := quote_loop M
  apply OkF.ret
  (apply f_wp rfl rfl; (repeat (first | exact Shape.nil | (apply Shape.cons; conv => lhs; whnf))))
  refine qqV ?_
  refine qqV ?_
  refine qqV ?_
  refine bV ?_
  refine c_loop ?_
  obtain ⟨d, hd⟩ : ∃ d, M = d + 1 := ⟨M - 1, by omega⟩
  have e : M - 1 = d := by omega
  rw [e]
  have h := fun Q h => hl (b.into af5.mode s) t tl utf s hs hM (by omega) (Nat.le_refl _) rfl (quo utf d (ints t)) (Q := Q) h d 0 [] .undef .undef .undef (by omega) (by omega) (by omega) (by simp; omega) (by simp)
  rw [← hd] at h
  refine h _ fun i x11 x7 x42 => ?_
  refine qqV ?_
  refine c_ret ?_
  exact fin_ret (.inl rfl) (read_tmp rfl read_nil) (leave_pure rfl rfl) ⟨rfl, rfl⟩

theorem quote_ref (M : Nat) (b : Bar) (t : List UInt8) (tl : Tail) (utf : Bool) (s : Sg) (hM : 15 ≤ M) (htM : t.length < M) (hM2 : M < 2 ^ 20) :
    callF T (M + 1) b 6 [.vec (Am.byteCells t) tl, .bool utf] s = some (.ret (.str (quo utf (M - 1) (ints t))), s) := by
  have hl := ref_loop M
  apply OkF.ret
  (apply f_wp rfl rfl; (repeat (first | exact Shape.nil | (apply Shape.cons; conv => lhs; whnf))))
  refine qqV ?_
  refine qqV ?_
  refine qqV ?_
  refine bV ?_
  refine c_loop ?_
  obtain ⟨d, hd⟩ : ∃ d, M = d + 1 := ⟨M - 1, by omega⟩
  have e : M - 1 = d := by omega
  rw [e]
  have h := fun Q h => hl (b.into af6.mode s) t tl utf s hM (by omega) (Nat.le_refl _) rfl (quo utf d (ints t)) (Q := Q) h d 0 [] .undef .undef .undef .undef (by omega) (by omega) (by omega) (by simp; omega) (by simp)
  rw [← hd] at h
  refine h _ fun i x11 x7 x42 x8 => ?_
  refine qqV ?_
  refine c_ret ?_
  exact fin_ret (.inl rfl) (read_tmp rfl read_nil) (leave_pure rfl rfl) ⟨rfl, rfl⟩

end Go.Vmm
