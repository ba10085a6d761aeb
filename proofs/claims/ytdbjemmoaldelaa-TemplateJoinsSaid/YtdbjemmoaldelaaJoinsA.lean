/-
  Of two templates, one behind the other, the expansion is that of both, if the second one does not begin with a digit: TemplateJoins answers true, whatever the input, and leaves it as it was.
-/
import Derived.Test.YtdbjemmoaldelaaMachC
import Derived.Test.YtdbjemmoaldelaaTmplC
import Derived.Test.YtdbjemmoaldelaaRows

namespace Go.Tpl
open Go Go.Am Go.Proofs

/-- dollars and backslashes with a backslash ahead of them -/
def quoteM : List UInt8 → List UInt8
  | [] => []
  | c :: r => if c.toNat = 36 ∨ c.toNat = 92 then 92 :: c :: quoteM r else c :: quoteM r

theorem quoteM_app : ∀ a b : List UInt8, quoteM (a ++ b) = quoteM a ++ quoteM b
  | [], b => rfl
  | c :: r, b => by
    simp only [List.cons_append, quoteM, quoteM_app r b]
    split <;> rfl

theorem quoteM_len : ∀ a : List UInt8, (quoteM a).length ≤ 2 * a.length
  | [] => Nat.le_refl _
  | c :: r => by
    have ih := quoteM_len r
    simp only [quoteM]
    split <;> simp <;> omega

def lit1 (x : List UInt8) : List Tp := if x = [] then [] else [.lit x]

theorem addM_lit1 (x : List UInt8) (c : UInt8) : addM (lit1 x) (.lit [c]) = lit1 (x ++ [c]) := by
  simp only [lit1]
  by_cases h : x = []
  · subst h; simp [addM]
  · rw [if_neg h, if_neg (by simp)]
    exact addM_lit [] x [c]

theorem drop_cons {t : List UInt8} {i : Nat} {c : UInt8} {r : List UInt8} (h : t.drop i = c :: r) : t[i]? = some c ∧ t.drop (i + 1) = r := by
  constructor
  · have := List.getElem?_drop (xs := t) (i := i) (j := 0)
    rw [h] at this
    simpa using this.symm
  · rw [← List.drop_drop, h]
    rfl

theorem quote_parts (t : List UInt8) (gr : Int) (d : Nat) : ∀ (rest done : List UInt8) (n i : Nat), rest.length + 1 ≤ n → i ≤ t.length → t.drop i = quoteM rest → partsM t gr n [] d i (lit1 done) = some (.ok (lit1 (done ++ rest), t.length))
  | [], done, n, i, hn, hi, h => by
    obtain ⟨n, rfl⟩ : ∃ n', n = n' + 1 := ⟨n - 1, by omega⟩
    have hle : t.length ≤ i := by simpa [quoteM] using h
    have he : t[i]? = none := by simp [hle]
    have hii : i = t.length := by omega
    subst hii
    simp only [partsM, he, List.append_nil]
  | c :: r, done, n, i, hn, hi, h => by
    obtain ⟨n, rfl⟩ : ∃ n', n = n' + 1 := ⟨n - 1, by omega⟩
    simp only [List.length_cons] at hn
    have e1 : done ++ c :: r = (done ++ [c]) ++ r := by simp
    simp only [quoteM] at h
    by_cases hc : c.toNat = 36 ∨ c.toNat = 92
    · rw [if_pos hc] at h
      obtain ⟨h1, h2⟩ := drop_cons h
      obtain ⟨h3, h4⟩ := drop_cons h2
      have hl := lt_of_getElem? h3
      simp only [partsM, h1, h3, List.not_mem_nil, if_false, addM_lit1]
      rw [if_pos (by rfl), e1]
      exact quote_parts t gr d r (done ++ [c]) n (i + 2) (by omega) (by omega) h4
    · rw [if_neg hc] at h
      obtain ⟨h1, h2⟩ := drop_cons h
      have hl := lt_of_getElem? h1
      simp only [partsM, h1, List.not_mem_nil, if_false, addM_lit1]
      rw [if_neg (by omega), if_neg (by omega), e1]
      exact quote_parts t gr d r (done ++ [c]) n (i + 1) (by omega) (by omega) h2

theorem quote_all (text : List UInt8) (gr : Int) : partsM (quoteM text) gr (text.length + 1) [] 1 0 [] = some (.ok (lit1 text, (quoteM text).length)) := by
  have := quote_parts (quoteM text) gr 1 text [] (text.length + 1) 0 (Nat.le_refl _) (Nat.zero_le _) (by simp)
  simpa [lit1] using this

theorem awake' (m : Nat) (hm : 400 ≤ m) : callF T m bar0 7 [] sg0 = some (.ret (.bool true), sg0) := callF_mono T 400 m hm _ _ _ _ _ awake

end Go.Tpl

namespace Go.Tpl
open Go Go.Am Go.Proofs

/-- the loop 0 of function 3 -/
def lp3_0 : ACode := .seq (.seq (.region [⟨(some 17), .v (.move (.tmp 5)), none⟩, ⟨(some 18), .v (.move (.tmp 0)), none⟩, ⟨(some 19), .v (.len 1 (.tmp 18)), none⟩, ⟨(some 20), .v (.bin .lss (.tmp 17) (.tmp 19)), none⟩] [20]) (.cond (.tmp 20) (.skip) (.exit 0))) (.seq (.block 1 (.seq (.seq (.region [⟨(some 23), .v (.move (.tmp 0)), none⟩, ⟨(some 24), .v (.move (.tmp 5)), none⟩, ⟨(some 25), .v (.indexAddrS none (.tmp 23) (.tmp 24)), none⟩, ⟨(some 26), .v (.load none (.tmp 25)), none⟩, ⟨(some 27), .v (.bin .eql (.tmp 26) (.const (.int .u8 36))), none⟩, ⟨(some 28), .v (.move (.tmp 27)), none⟩, ⟨(some 29), .v (.move (.tmp 0)), (some (28, false))⟩, ⟨(some 30), .v (.move (.tmp 5)), (some (28, false))⟩, ⟨(some 31), .v (.indexAddrS none (.tmp 29) (.tmp 30)), (some (28, false))⟩, ⟨(some 32), .v (.load none (.tmp 31)), (some (28, false))⟩, ⟨(some 33), .v (.bin .eql (.tmp 32) (.const (.int .u8 92))), (some (28, false))⟩, ⟨(some 34), .v (.pick (.tmp 28) (.const (.bool true)) (.tmp 33)), none⟩] [34]) (.cond (.tmp 34) (.region [⟨(some 35), .v (.move (.tmp 4)), none⟩, ⟨(some 36), .v (.buildSl 1 (.int .u8 0) 1 [(0, (.const (.int .u8 92)))]), none⟩, ⟨(some 37), .e (.append false none 1 (.tmp 35) (.tmp 36)), none⟩, ⟨(some 4), .v (.move (.tmp 37)), none⟩] [4]) (.skip))) (.region [⟨(some 38), .v (.move (.tmp 4)), none⟩, ⟨(some 39), .v (.move (.tmp 0)), none⟩, ⟨(some 40), .v (.move (.tmp 5)), none⟩, ⟨(some 41), .v (.indexAddrS none (.tmp 39) (.tmp 40)), none⟩, ⟨(some 42), .v (.load none (.tmp 41)), none⟩, ⟨(some 43), .v (.buildSl 1 (.int .u8 0) 1 [(0, (.tmp 42))]), none⟩, ⟨(some 44), .e (.append false none 1 (.tmp 38) (.tmp 43)), none⟩, ⟨(some 4), .v (.move (.tmp 44)), none⟩] [4]))) (.region [⟨(some 21), .v (.move (.tmp 5)), none⟩, ⟨(some 22), .v (.bin .add (.tmp 21) (.const (.int .i64 1))), none⟩, ⟨(some 5), .v (.move (.tmp 22)), none⟩] [5]))

abbrev fr3 (text : List UInt8) (k : Nat) (x20 x34 v : AV) : Fr :=
  ⟨[(0, .vec (Am.byteCells text) .shut), (2, .bool false), (3, .bool true), (13, .bool false), (16, .bool false), (5, .int .i64 k), (20, x20), (34, x34), (4, v), (6, .undef), (7, .undef), (9, .undef), (10, .undef)], [], .off⟩

theorem bc_get {l : List UInt8} {j : Nat} {c : UInt8} (h : l[j]? = some c) : (Am.byteCells l)[j]? = some (.int .u8 c.toNat) := by rw [Am.byteCells_get, h]; rfl

set_option maxHeartbeats 1000000 in
theorem quote_loop (m : Nat) (b : Bar) (text : List UInt8) (t0 : Nat) (hlen : text.length < 2 ^ 30) (hbt : b.t ≤ t0) {Q : Ex → Fr → Sg → Prop}
    (hq : ∀ x20 x34 v s', RepB t0 s' v (quoteM text) → Q (.exit 0) (fr3 text text.length x20 x34 v) s') :
    ∀ (rest done : List UInt8) (k L : Nat) (x20 x34 v : AV) (s : Sg), text = done ++ rest → k = done.length → rest.length + 1 ≤ L → t0 ≤ s.toks.length → RepB t0 s v (quoteM done) →
    OkL L (fun fr s => ACode.run (loopN m) (callF T m) b lp3_0 fr s) (fr3 text k x20 x34 v) s Q := by
  have hbl := Am.byteCells_length text
  intro rest
  induction rest with
  | nil =>
    intro done k L x20 x34 v s hl hk hL ht0 hv
    obtain ⟨L, rfl⟩ : ∃ L', L = L' + 1 := ⟨L - 1, by omega⟩
    rw [List.append_nil] at hl
    subst hl
    subst hk
    apply l_round
    ((repeat refine c_seq ?_); refine c_region ?_; (repeat (first | ((first | apply o_move rfl rfl | apply o_easy1 rfl rfl rfl | apply o_ld rfl rfl (by assumption) (by first | rfl | assumption)); conv => lhs; whnf) | refine o_no rfl ?_ | refine o_add rfl rfl rfl (by omega) (by omega) ?_ | refine o_sub rfl rfl rfl (by omega) (by omega) ?_ | refine o_mul rfl rfl rfl (by omega) (by omega) ?_ | refine o_sadd rfl rfl rfl (by omega) ?_ | refine o_seql_t rfl rfl rfl (by assumption) ?_ | refine o_seql_f rfl rfl rfl (by assumption) ?_ | refine o_ct rfl rfl rfl (by dsimp only [cmpP]; omega) ?_ | refine o_cf rfl rfl rfl (by dsimp only [cmpN]; omega) ?_ | (apply o_easy rfl rfl rfl; conv => lhs; whnf) | refine o_non rfl ?_)); apply o_end; (repeat (first | exact OutS.nil | exact GetS.hit | exact PutS.hit | apply GetS.miss rfl | apply PutS.miss rfl | apply OutS.cons | apply OutS.skip rfl)))
    ((repeat refine c_seq ?_); refine c_else rfl ?_)
    exact c_exit (hq _ _ _ _ hv)
  | cons c rest ih =>
    intro done k L x20 x34 v s hl hk hL ht0 hv
    obtain ⟨L, rfl⟩ : ∃ L', L = L' + 1 := ⟨L - 1, by omega⟩
    have hkl : k < text.length := by rw [hl, hk]; simp
    have hget : text[k]? = some c := by rw [hl, hk]; simp
    have hql := quoteM_len text
    have hqa : (quoteM text).length = (quoteM done).length + (quoteM [c]).length + (quoteM rest).length := by
      rw [hl, quoteM_app, show c :: rest = [c] ++ rest from rfl, quoteM_app]; simp; omega
    apply l_round
    ((repeat refine c_seq ?_); refine c_region ?_; (repeat (first | ((first | apply o_move rfl rfl | apply o_easy1 rfl rfl rfl | apply o_ld rfl rfl (by assumption) (by first | rfl | assumption)); conv => lhs; whnf) | refine o_no rfl ?_ | refine o_add rfl rfl rfl (by omega) (by omega) ?_ | refine o_sub rfl rfl rfl (by omega) (by omega) ?_ | refine o_mul rfl rfl rfl (by omega) (by omega) ?_ | refine o_sadd rfl rfl rfl (by omega) ?_ | refine o_seql_t rfl rfl rfl (by assumption) ?_ | refine o_seql_f rfl rfl rfl (by assumption) ?_ | refine o_ct rfl rfl rfl (by dsimp only [cmpP]; omega) ?_ | refine o_cf rfl rfl rfl (by dsimp only [cmpN]; omega) ?_ | (apply o_easy rfl rfl rfl; conv => lhs; whnf) | refine o_non rfl ?_)); apply o_end; (repeat (first | exact OutS.nil | exact GetS.hit | exact PutS.hit | apply GetS.miss rfl | apply PutS.miss rfl | apply OutS.cons | apply OutS.skip rfl)))
    ((repeat refine c_seq ?_); refine c_if rfl ?_)
    refine c_skip ?_
    ((repeat refine c_seq ?_); refine c_block ?_)
    by_cases h36 : c.toNat = 36
    · ((repeat refine c_seq ?_); refine c_region ?_; (repeat (first | ((first | apply o_move rfl rfl | apply o_easy1 rfl rfl rfl | apply o_ld rfl rfl (by assumption) (by first | rfl | assumption)); conv => lhs; whnf) | refine o_no rfl ?_ | refine o_add rfl rfl rfl (by omega) (by omega) ?_ | refine o_sub rfl rfl rfl (by omega) (by omega) ?_ | refine o_mul rfl rfl rfl (by omega) (by omega) ?_ | refine o_sadd rfl rfl rfl (by omega) ?_ | refine o_seql_t rfl rfl rfl (by assumption) ?_ | refine o_seql_f rfl rfl rfl (by assumption) ?_ | refine o_ct rfl rfl rfl (by dsimp only [cmpP]; omega) ?_ | refine o_cf rfl rfl rfl (by dsimp only [cmpN]; omega) ?_ | (apply o_easy rfl rfl rfl; conv => lhs; whnf) | refine o_non rfl ?_)))
      refine o_ixvec (j := k) rfl rfl rfl rfl (bc_get hget) rfl ?_
      (repeat (first | ((first | apply o_move rfl rfl | apply o_easy1 rfl rfl rfl | apply o_ld rfl rfl (by assumption) (by first | rfl | assumption)); conv => lhs; whnf) | refine o_no rfl ?_ | refine o_add rfl rfl rfl (by omega) (by omega) ?_ | refine o_sub rfl rfl rfl (by omega) (by omega) ?_ | refine o_mul rfl rfl rfl (by omega) (by omega) ?_ | refine o_sadd rfl rfl rfl (by omega) ?_ | refine o_seql_t rfl rfl rfl (by assumption) ?_ | refine o_seql_f rfl rfl rfl (by assumption) ?_ | refine o_ct rfl rfl rfl (by dsimp only [cmpP]; omega) ?_ | refine o_cf rfl rfl rfl (by dsimp only [cmpN]; omega) ?_ | (apply o_easy rfl rfl rfl; conv => lhs; whnf) | refine o_non rfl ?_))
      (apply o_end; (repeat (first | exact OutS.nil | exact GetS.hit | exact PutS.hit | apply GetS.miss rfl | apply PutS.miss rfl | apply OutS.cons | apply OutS.skip rfl)))
      ((repeat refine c_seq ?_); refine c_if rfl ?_)
      have hqc : quoteM [c] = [92] ++ [c] := by simp [quoteM, *]
      ((repeat refine c_seq ?_); refine c_region ?_; (repeat (first | ((first | apply o_move rfl rfl | apply o_easy1 rfl rfl rfl | apply o_ld rfl rfl (by assumption) (by first | rfl | assumption)); conv => lhs; whnf) | refine o_no rfl ?_ | refine o_add rfl rfl rfl (by omega) (by omega) ?_ | refine o_sub rfl rfl rfl (by omega) (by omega) ?_ | refine o_mul rfl rfl rfl (by omega) (by omega) ?_ | refine o_sadd rfl rfl rfl (by omega) ?_ | refine o_seql_t rfl rfl rfl (by assumption) ?_ | refine o_seql_f rfl rfl rfl (by assumption) ?_ | refine o_ct rfl rfl rfl (by dsimp only [cmpP]; omega) ?_ | refine o_cf rfl rfl rfl (by dsimp only [cmpN]; omega) ?_ | (apply o_easy rfl rfl rfl; conv => lhs; whnf) | refine o_non rfl ?_)))
      refine o_move rfl hv.defd rfl ?_
      (repeat (first | ((first | apply o_move rfl rfl | apply o_easy1 rfl rfl rfl | apply o_ld rfl rfl (by assumption) (by first | rfl | assumption)); conv => lhs; whnf) | refine o_no rfl ?_ | refine o_add rfl rfl rfl (by omega) (by omega) ?_ | refine o_sub rfl rfl rfl (by omega) (by omega) ?_ | refine o_mul rfl rfl rfl (by omega) (by omega) ?_ | refine o_sadd rfl rfl rfl (by omega) ?_ | refine o_seql_t rfl rfl rfl (by assumption) ?_ | refine o_seql_f rfl rfl rfl (by assumption) ?_ | refine o_ct rfl rfl rfl (by dsimp only [cmpP]; omega) ?_ | refine o_cf rfl rfl rfl (by dsimp only [cmpN]; omega) ?_ | (apply o_easy rfl rfl rfl; conv => lhs; whnf) | refine o_non rfl ?_))
      refine o_appB (p := [92]) rfl hv.defd hv hbt ht0 rfl rfl (by simp only [hqc, List.length_append, List.length_singleton] at hqa ⊢; omega) fun v1 s1 hv1 hh1 ht1 => ?_
      refine o_move rfl hv1.defd rfl ?_
      (apply o_end; (repeat (first | exact OutS.nil | exact GetS.hit | exact PutS.hit | apply GetS.miss rfl | apply PutS.miss rfl | apply OutS.cons | apply OutS.skip rfl)))
      ((repeat refine c_seq ?_); refine c_region ?_; (repeat (first | ((first | apply o_move rfl rfl | apply o_easy1 rfl rfl rfl | apply o_ld rfl rfl (by assumption) (by first | rfl | assumption)); conv => lhs; whnf) | refine o_no rfl ?_ | refine o_add rfl rfl rfl (by omega) (by omega) ?_ | refine o_sub rfl rfl rfl (by omega) (by omega) ?_ | refine o_mul rfl rfl rfl (by omega) (by omega) ?_ | refine o_sadd rfl rfl rfl (by omega) ?_ | refine o_seql_t rfl rfl rfl (by assumption) ?_ | refine o_seql_f rfl rfl rfl (by assumption) ?_ | refine o_ct rfl rfl rfl (by dsimp only [cmpP]; omega) ?_ | refine o_cf rfl rfl rfl (by dsimp only [cmpN]; omega) ?_ | (apply o_easy rfl rfl rfl; conv => lhs; whnf) | refine o_non rfl ?_)))
      refine o_move rfl hv1.defd rfl ?_
      (repeat (first | ((first | apply o_move rfl rfl | apply o_easy1 rfl rfl rfl | apply o_ld rfl rfl (by assumption) (by first | rfl | assumption)); conv => lhs; whnf) | refine o_no rfl ?_ | refine o_add rfl rfl rfl (by omega) (by omega) ?_ | refine o_sub rfl rfl rfl (by omega) (by omega) ?_ | refine o_mul rfl rfl rfl (by omega) (by omega) ?_ | refine o_sadd rfl rfl rfl (by omega) ?_ | refine o_seql_t rfl rfl rfl (by assumption) ?_ | refine o_seql_f rfl rfl rfl (by assumption) ?_ | refine o_ct rfl rfl rfl (by dsimp only [cmpP]; omega) ?_ | refine o_cf rfl rfl rfl (by dsimp only [cmpN]; omega) ?_ | (apply o_easy rfl rfl rfl; conv => lhs; whnf) | refine o_non rfl ?_))
      refine o_ixvec (j := k) rfl rfl rfl rfl (bc_get hget) rfl ?_
      (repeat (first | ((first | apply o_move rfl rfl | apply o_easy1 rfl rfl rfl | apply o_ld rfl rfl (by assumption) (by first | rfl | assumption)); conv => lhs; whnf) | refine o_no rfl ?_ | refine o_add rfl rfl rfl (by omega) (by omega) ?_ | refine o_sub rfl rfl rfl (by omega) (by omega) ?_ | refine o_mul rfl rfl rfl (by omega) (by omega) ?_ | refine o_sadd rfl rfl rfl (by omega) ?_ | refine o_seql_t rfl rfl rfl (by assumption) ?_ | refine o_seql_f rfl rfl rfl (by assumption) ?_ | refine o_ct rfl rfl rfl (by dsimp only [cmpP]; omega) ?_ | refine o_cf rfl rfl rfl (by dsimp only [cmpN]; omega) ?_ | (apply o_easy rfl rfl rfl; conv => lhs; whnf) | refine o_non rfl ?_))
      refine o_appB (p := [c]) rfl hv1.defd hv1 hbt (by omega) rfl rfl (by simp only [hqc, List.length_append, List.length_singleton] at hqa ⊢; omega) fun v2 s2 hv2 hh2 ht2 => ?_
      refine o_move rfl hv2.defd rfl ?_
      (apply o_end; (repeat (first | exact OutS.nil | exact GetS.hit | exact PutS.hit | apply GetS.miss rfl | apply PutS.miss rfl | apply OutS.cons | apply OutS.skip rfl)))
      ((repeat refine c_seq ?_); refine c_region ?_; (repeat (first | ((first | apply o_move rfl rfl | apply o_easy1 rfl rfl rfl | apply o_ld rfl rfl (by assumption) (by first | rfl | assumption)); conv => lhs; whnf) | refine o_no rfl ?_ | refine o_add rfl rfl rfl (by omega) (by omega) ?_ | refine o_sub rfl rfl rfl (by omega) (by omega) ?_ | refine o_mul rfl rfl rfl (by omega) (by omega) ?_ | refine o_sadd rfl rfl rfl (by omega) ?_ | refine o_seql_t rfl rfl rfl (by assumption) ?_ | refine o_seql_f rfl rfl rfl (by assumption) ?_ | refine o_ct rfl rfl rfl (by dsimp only [cmpP]; omega) ?_ | refine o_cf rfl rfl rfl (by dsimp only [cmpN]; omega) ?_ | (apply o_easy rfl rfl rfl; conv => lhs; whnf) | refine o_non rfl ?_)); apply o_end; (repeat (first | exact OutS.nil | exact GetS.hit | exact PutS.hit | apply GetS.miss rfl | apply PutS.miss rfl | apply OutS.cons | apply OutS.skip rfl)))
      exact ih (done ++ [c]) (k + 1) L _ _ _ s2 (by rw [hl]; simp) (by simp [hk]) (by simp at hL ⊢; omega) (by omega) (by rw [quoteM_app, hqc, ← List.append_assoc]; exact hv2)
    · by_cases h92 : c.toNat = 92
      · ((repeat refine c_seq ?_); refine c_region ?_; (repeat (first | ((first | apply o_move rfl rfl | apply o_easy1 rfl rfl rfl | apply o_ld rfl rfl (by assumption) (by first | rfl | assumption)); conv => lhs; whnf) | refine o_no rfl ?_ | refine o_add rfl rfl rfl (by omega) (by omega) ?_ | refine o_sub rfl rfl rfl (by omega) (by omega) ?_ | refine o_mul rfl rfl rfl (by omega) (by omega) ?_ | refine o_sadd rfl rfl rfl (by omega) ?_ | refine o_seql_t rfl rfl rfl (by assumption) ?_ | refine o_seql_f rfl rfl rfl (by assumption) ?_ | refine o_ct rfl rfl rfl (by dsimp only [cmpP]; omega) ?_ | refine o_cf rfl rfl rfl (by dsimp only [cmpN]; omega) ?_ | (apply o_easy rfl rfl rfl; conv => lhs; whnf) | refine o_non rfl ?_)))
        refine o_ixvec (j := k) rfl rfl rfl rfl (bc_get hget) rfl ?_
        (repeat (first | ((first | apply o_move rfl rfl | apply o_easy1 rfl rfl rfl | apply o_ld rfl rfl (by assumption) (by first | rfl | assumption)); conv => lhs; whnf) | refine o_no rfl ?_ | refine o_add rfl rfl rfl (by omega) (by omega) ?_ | refine o_sub rfl rfl rfl (by omega) (by omega) ?_ | refine o_mul rfl rfl rfl (by omega) (by omega) ?_ | refine o_sadd rfl rfl rfl (by omega) ?_ | refine o_seql_t rfl rfl rfl (by assumption) ?_ | refine o_seql_f rfl rfl rfl (by assumption) ?_ | refine o_ct rfl rfl rfl (by dsimp only [cmpP]; omega) ?_ | refine o_cf rfl rfl rfl (by dsimp only [cmpN]; omega) ?_ | (apply o_easy rfl rfl rfl; conv => lhs; whnf) | refine o_non rfl ?_))
        refine o_ixvec (j := k) rfl rfl rfl rfl (bc_get hget) rfl ?_
        (repeat (first | ((first | apply o_move rfl rfl | apply o_easy1 rfl rfl rfl | apply o_ld rfl rfl (by assumption) (by first | rfl | assumption)); conv => lhs; whnf) | refine o_no rfl ?_ | refine o_add rfl rfl rfl (by omega) (by omega) ?_ | refine o_sub rfl rfl rfl (by omega) (by omega) ?_ | refine o_mul rfl rfl rfl (by omega) (by omega) ?_ | refine o_sadd rfl rfl rfl (by omega) ?_ | refine o_seql_t rfl rfl rfl (by assumption) ?_ | refine o_seql_f rfl rfl rfl (by assumption) ?_ | refine o_ct rfl rfl rfl (by dsimp only [cmpP]; omega) ?_ | refine o_cf rfl rfl rfl (by dsimp only [cmpN]; omega) ?_ | (apply o_easy rfl rfl rfl; conv => lhs; whnf) | refine o_non rfl ?_))
        (apply o_end; (repeat (first | exact OutS.nil | exact GetS.hit | exact PutS.hit | apply GetS.miss rfl | apply PutS.miss rfl | apply OutS.cons | apply OutS.skip rfl)))
        ((repeat refine c_seq ?_); refine c_if rfl ?_)
        have hqc : quoteM [c] = [92] ++ [c] := by simp [quoteM, *]
        ((repeat refine c_seq ?_); refine c_region ?_; (repeat (first | ((first | apply o_move rfl rfl | apply o_easy1 rfl rfl rfl | apply o_ld rfl rfl (by assumption) (by first | rfl | assumption)); conv => lhs; whnf) | refine o_no rfl ?_ | refine o_add rfl rfl rfl (by omega) (by omega) ?_ | refine o_sub rfl rfl rfl (by omega) (by omega) ?_ | refine o_mul rfl rfl rfl (by omega) (by omega) ?_ | refine o_sadd rfl rfl rfl (by omega) ?_ | refine o_seql_t rfl rfl rfl (by assumption) ?_ | refine o_seql_f rfl rfl rfl (by assumption) ?_ | refine o_ct rfl rfl rfl (by dsimp only [cmpP]; omega) ?_ | refine o_cf rfl rfl rfl (by dsimp only [cmpN]; omega) ?_ | (apply o_easy rfl rfl rfl; conv => lhs; whnf) | refine o_non rfl ?_)))
        refine o_move rfl hv.defd rfl ?_
        (repeat (first | ((first | apply o_move rfl rfl | apply o_easy1 rfl rfl rfl | apply o_ld rfl rfl (by assumption) (by first | rfl | assumption)); conv => lhs; whnf) | refine o_no rfl ?_ | refine o_add rfl rfl rfl (by omega) (by omega) ?_ | refine o_sub rfl rfl rfl (by omega) (by omega) ?_ | refine o_mul rfl rfl rfl (by omega) (by omega) ?_ | refine o_sadd rfl rfl rfl (by omega) ?_ | refine o_seql_t rfl rfl rfl (by assumption) ?_ | refine o_seql_f rfl rfl rfl (by assumption) ?_ | refine o_ct rfl rfl rfl (by dsimp only [cmpP]; omega) ?_ | refine o_cf rfl rfl rfl (by dsimp only [cmpN]; omega) ?_ | (apply o_easy rfl rfl rfl; conv => lhs; whnf) | refine o_non rfl ?_))
        refine o_appB (p := [92]) rfl hv.defd hv hbt ht0 rfl rfl (by simp only [hqc, List.length_append, List.length_singleton] at hqa ⊢; omega) fun v1 s1 hv1 hh1 ht1 => ?_
        refine o_move rfl hv1.defd rfl ?_
        (apply o_end; (repeat (first | exact OutS.nil | exact GetS.hit | exact PutS.hit | apply GetS.miss rfl | apply PutS.miss rfl | apply OutS.cons | apply OutS.skip rfl)))
        ((repeat refine c_seq ?_); refine c_region ?_; (repeat (first | ((first | apply o_move rfl rfl | apply o_easy1 rfl rfl rfl | apply o_ld rfl rfl (by assumption) (by first | rfl | assumption)); conv => lhs; whnf) | refine o_no rfl ?_ | refine o_add rfl rfl rfl (by omega) (by omega) ?_ | refine o_sub rfl rfl rfl (by omega) (by omega) ?_ | refine o_mul rfl rfl rfl (by omega) (by omega) ?_ | refine o_sadd rfl rfl rfl (by omega) ?_ | refine o_seql_t rfl rfl rfl (by assumption) ?_ | refine o_seql_f rfl rfl rfl (by assumption) ?_ | refine o_ct rfl rfl rfl (by dsimp only [cmpP]; omega) ?_ | refine o_cf rfl rfl rfl (by dsimp only [cmpN]; omega) ?_ | (apply o_easy rfl rfl rfl; conv => lhs; whnf) | refine o_non rfl ?_)))
        refine o_move rfl hv1.defd rfl ?_
        (repeat (first | ((first | apply o_move rfl rfl | apply o_easy1 rfl rfl rfl | apply o_ld rfl rfl (by assumption) (by first | rfl | assumption)); conv => lhs; whnf) | refine o_no rfl ?_ | refine o_add rfl rfl rfl (by omega) (by omega) ?_ | refine o_sub rfl rfl rfl (by omega) (by omega) ?_ | refine o_mul rfl rfl rfl (by omega) (by omega) ?_ | refine o_sadd rfl rfl rfl (by omega) ?_ | refine o_seql_t rfl rfl rfl (by assumption) ?_ | refine o_seql_f rfl rfl rfl (by assumption) ?_ | refine o_ct rfl rfl rfl (by dsimp only [cmpP]; omega) ?_ | refine o_cf rfl rfl rfl (by dsimp only [cmpN]; omega) ?_ | (apply o_easy rfl rfl rfl; conv => lhs; whnf) | refine o_non rfl ?_))
        refine o_ixvec (j := k) rfl rfl rfl rfl (bc_get hget) rfl ?_
        (repeat (first | ((first | apply o_move rfl rfl | apply o_easy1 rfl rfl rfl | apply o_ld rfl rfl (by assumption) (by first | rfl | assumption)); conv => lhs; whnf) | refine o_no rfl ?_ | refine o_add rfl rfl rfl (by omega) (by omega) ?_ | refine o_sub rfl rfl rfl (by omega) (by omega) ?_ | refine o_mul rfl rfl rfl (by omega) (by omega) ?_ | refine o_sadd rfl rfl rfl (by omega) ?_ | refine o_seql_t rfl rfl rfl (by assumption) ?_ | refine o_seql_f rfl rfl rfl (by assumption) ?_ | refine o_ct rfl rfl rfl (by dsimp only [cmpP]; omega) ?_ | refine o_cf rfl rfl rfl (by dsimp only [cmpN]; omega) ?_ | (apply o_easy rfl rfl rfl; conv => lhs; whnf) | refine o_non rfl ?_))
        refine o_appB (p := [c]) rfl hv1.defd hv1 hbt (by omega) rfl rfl (by simp only [hqc, List.length_append, List.length_singleton] at hqa ⊢; omega) fun v2 s2 hv2 hh2 ht2 => ?_
        refine o_move rfl hv2.defd rfl ?_
        (apply o_end; (repeat (first | exact OutS.nil | exact GetS.hit | exact PutS.hit | apply GetS.miss rfl | apply PutS.miss rfl | apply OutS.cons | apply OutS.skip rfl)))
        ((repeat refine c_seq ?_); refine c_region ?_; (repeat (first | ((first | apply o_move rfl rfl | apply o_easy1 rfl rfl rfl | apply o_ld rfl rfl (by assumption) (by first | rfl | assumption)); conv => lhs; whnf) | refine o_no rfl ?_ | refine o_add rfl rfl rfl (by omega) (by omega) ?_ | refine o_sub rfl rfl rfl (by omega) (by omega) ?_ | refine o_mul rfl rfl rfl (by omega) (by omega) ?_ | refine o_sadd rfl rfl rfl (by omega) ?_ | refine o_seql_t rfl rfl rfl (by assumption) ?_ | refine o_seql_f rfl rfl rfl (by assumption) ?_ | refine o_ct rfl rfl rfl (by dsimp only [cmpP]; omega) ?_ | refine o_cf rfl rfl rfl (by dsimp only [cmpN]; omega) ?_ | (apply o_easy rfl rfl rfl; conv => lhs; whnf) | refine o_non rfl ?_)); apply o_end; (repeat (first | exact OutS.nil | exact GetS.hit | exact PutS.hit | apply GetS.miss rfl | apply PutS.miss rfl | apply OutS.cons | apply OutS.skip rfl)))
        exact ih (done ++ [c]) (k + 1) L _ _ _ s2 (by rw [hl]; simp) (by simp [hk]) (by simp at hL ⊢; omega) (by omega) (by rw [quoteM_app, hqc, ← List.append_assoc]; exact hv2)
      · ((repeat refine c_seq ?_); refine c_region ?_; (repeat (first | ((first | apply o_move rfl rfl | apply o_easy1 rfl rfl rfl | apply o_ld rfl rfl (by assumption) (by first | rfl | assumption)); conv => lhs; whnf) | refine o_no rfl ?_ | refine o_add rfl rfl rfl (by omega) (by omega) ?_ | refine o_sub rfl rfl rfl (by omega) (by omega) ?_ | refine o_mul rfl rfl rfl (by omega) (by omega) ?_ | refine o_sadd rfl rfl rfl (by omega) ?_ | refine o_seql_t rfl rfl rfl (by assumption) ?_ | refine o_seql_f rfl rfl rfl (by assumption) ?_ | refine o_ct rfl rfl rfl (by dsimp only [cmpP]; omega) ?_ | refine o_cf rfl rfl rfl (by dsimp only [cmpN]; omega) ?_ | (apply o_easy rfl rfl rfl; conv => lhs; whnf) | refine o_non rfl ?_)))
        refine o_ixvec (j := k) rfl rfl rfl rfl (bc_get hget) rfl ?_
        (repeat (first | ((first | apply o_move rfl rfl | apply o_easy1 rfl rfl rfl | apply o_ld rfl rfl (by assumption) (by first | rfl | assumption)); conv => lhs; whnf) | refine o_no rfl ?_ | refine o_add rfl rfl rfl (by omega) (by omega) ?_ | refine o_sub rfl rfl rfl (by omega) (by omega) ?_ | refine o_mul rfl rfl rfl (by omega) (by omega) ?_ | refine o_sadd rfl rfl rfl (by omega) ?_ | refine o_seql_t rfl rfl rfl (by assumption) ?_ | refine o_seql_f rfl rfl rfl (by assumption) ?_ | refine o_ct rfl rfl rfl (by dsimp only [cmpP]; omega) ?_ | refine o_cf rfl rfl rfl (by dsimp only [cmpN]; omega) ?_ | (apply o_easy rfl rfl rfl; conv => lhs; whnf) | refine o_non rfl ?_))
        refine o_ixvec (j := k) rfl rfl rfl rfl (bc_get hget) rfl ?_
        (repeat (first | ((first | apply o_move rfl rfl | apply o_easy1 rfl rfl rfl | apply o_ld rfl rfl (by assumption) (by first | rfl | assumption)); conv => lhs; whnf) | refine o_no rfl ?_ | refine o_add rfl rfl rfl (by omega) (by omega) ?_ | refine o_sub rfl rfl rfl (by omega) (by omega) ?_ | refine o_mul rfl rfl rfl (by omega) (by omega) ?_ | refine o_sadd rfl rfl rfl (by omega) ?_ | refine o_seql_t rfl rfl rfl (by assumption) ?_ | refine o_seql_f rfl rfl rfl (by assumption) ?_ | refine o_ct rfl rfl rfl (by dsimp only [cmpP]; omega) ?_ | refine o_cf rfl rfl rfl (by dsimp only [cmpN]; omega) ?_ | (apply o_easy rfl rfl rfl; conv => lhs; whnf) | refine o_non rfl ?_))
        (apply o_end; (repeat (first | exact OutS.nil | exact GetS.hit | exact PutS.hit | apply GetS.miss rfl | apply PutS.miss rfl | apply OutS.cons | apply OutS.skip rfl)))
        ((repeat refine c_seq ?_); refine c_else rfl ?_)
        refine c_skip ?_
        have hqc : quoteM [c] = [c] := by simp [quoteM, h36, h92]
        ((repeat refine c_seq ?_); refine c_region ?_; (repeat (first | ((first | apply o_move rfl rfl | apply o_easy1 rfl rfl rfl | apply o_ld rfl rfl (by assumption) (by first | rfl | assumption)); conv => lhs; whnf) | refine o_no rfl ?_ | refine o_add rfl rfl rfl (by omega) (by omega) ?_ | refine o_sub rfl rfl rfl (by omega) (by omega) ?_ | refine o_mul rfl rfl rfl (by omega) (by omega) ?_ | refine o_sadd rfl rfl rfl (by omega) ?_ | refine o_seql_t rfl rfl rfl (by assumption) ?_ | refine o_seql_f rfl rfl rfl (by assumption) ?_ | refine o_ct rfl rfl rfl (by dsimp only [cmpP]; omega) ?_ | refine o_cf rfl rfl rfl (by dsimp only [cmpN]; omega) ?_ | (apply o_easy rfl rfl rfl; conv => lhs; whnf) | refine o_non rfl ?_)))
        refine o_move rfl hv.defd rfl ?_
        (repeat (first | ((first | apply o_move rfl rfl | apply o_easy1 rfl rfl rfl | apply o_ld rfl rfl (by assumption) (by first | rfl | assumption)); conv => lhs; whnf) | refine o_no rfl ?_ | refine o_add rfl rfl rfl (by omega) (by omega) ?_ | refine o_sub rfl rfl rfl (by omega) (by omega) ?_ | refine o_mul rfl rfl rfl (by omega) (by omega) ?_ | refine o_sadd rfl rfl rfl (by omega) ?_ | refine o_seql_t rfl rfl rfl (by assumption) ?_ | refine o_seql_f rfl rfl rfl (by assumption) ?_ | refine o_ct rfl rfl rfl (by dsimp only [cmpP]; omega) ?_ | refine o_cf rfl rfl rfl (by dsimp only [cmpN]; omega) ?_ | (apply o_easy rfl rfl rfl; conv => lhs; whnf) | refine o_non rfl ?_))
        refine o_ixvec (j := k) rfl rfl rfl rfl (bc_get hget) rfl ?_
        (repeat (first | ((first | apply o_move rfl rfl | apply o_easy1 rfl rfl rfl | apply o_ld rfl rfl (by assumption) (by first | rfl | assumption)); conv => lhs; whnf) | refine o_no rfl ?_ | refine o_add rfl rfl rfl (by omega) (by omega) ?_ | refine o_sub rfl rfl rfl (by omega) (by omega) ?_ | refine o_mul rfl rfl rfl (by omega) (by omega) ?_ | refine o_sadd rfl rfl rfl (by omega) ?_ | refine o_seql_t rfl rfl rfl (by assumption) ?_ | refine o_seql_f rfl rfl rfl (by assumption) ?_ | refine o_ct rfl rfl rfl (by dsimp only [cmpP]; omega) ?_ | refine o_cf rfl rfl rfl (by dsimp only [cmpN]; omega) ?_ | (apply o_easy rfl rfl rfl; conv => lhs; whnf) | refine o_non rfl ?_))
        refine o_appB (p := [c]) rfl hv.defd hv hbt ht0 rfl rfl (by simp only [hqc, List.length_singleton] at hqa ⊢; omega) fun v1 s1 hv1 hh1 ht1 => ?_
        refine o_move rfl hv1.defd rfl ?_
        (apply o_end; (repeat (first | exact OutS.nil | exact GetS.hit | exact PutS.hit | apply GetS.miss rfl | apply PutS.miss rfl | apply OutS.cons | apply OutS.skip rfl)))
        ((repeat refine c_seq ?_); refine c_region ?_; (repeat (first | ((first | apply o_move rfl rfl | apply o_easy1 rfl rfl rfl | apply o_ld rfl rfl (by assumption) (by first | rfl | assumption)); conv => lhs; whnf) | refine o_no rfl ?_ | refine o_add rfl rfl rfl (by omega) (by omega) ?_ | refine o_sub rfl rfl rfl (by omega) (by omega) ?_ | refine o_mul rfl rfl rfl (by omega) (by omega) ?_ | refine o_sadd rfl rfl rfl (by omega) ?_ | refine o_seql_t rfl rfl rfl (by assumption) ?_ | refine o_seql_f rfl rfl rfl (by assumption) ?_ | refine o_ct rfl rfl rfl (by dsimp only [cmpP]; omega) ?_ | refine o_cf rfl rfl rfl (by dsimp only [cmpN]; omega) ?_ | (apply o_easy rfl rfl rfl; conv => lhs; whnf) | refine o_non rfl ?_)); apply o_end; (repeat (first | exact OutS.nil | exact GetS.hit | exact PutS.hit | apply GetS.miss rfl | apply PutS.miss rfl | apply OutS.cons | apply OutS.skip rfl)))
        exact ih (done ++ [c]) (k + 1) L _ _ _ s1 (by rw [hl]; simp) (by simp [hk]) (by simp at hL ⊢; omega) (by omega) (by rw [quoteM_app, hqc]; exact hv1)


end Go.Tpl

namespace Go.Tpl
open Go Go.Am Go.Proofs

theorem evAll3 {loc pers : Env} {x y z : AOpd} {a c d : AV} (hx : x.ev loc pers = some a) (hy : y.ev loc pers = some c) (hz : z.ev loc pers = some d) : evAll loc pers [x, y, z] = some [a, c, d] := by
  simp only [evAll, hx, hy, hz, Option.bind_some]

theorem RepB.weak {t0 : Nat} {s : Sg} {v : AV} {l : List UInt8} (hr : RepB t0 s v l) : v.weak = .vec (Am.byteCells l) .shut := by
  rcases hr with ⟨rfl, rfl⟩ | ⟨i, n, rfl, _⟩ <;> rfl

theorem o_strB {call : CallFn} {b : Bar} {g : Option (Nat × Bool)} {r : List AOper} {loc : Env} {fr : Fr} {s : Sg} {Q : Ex → Env → Fr → Sg → Prop} {x : AOpd} {t : Nat} {es : List AV} {tl : Tail} (l : List UInt8) (hg : wantedA loc fr.pers g = some true) (hx : x.ev loc fr.pers = some (.vec es tl)) (hl : es = Am.byteCells l) (hr : OkO call b r ((t, .str l) :: loc) fr s Q) : OkO call b (⟨some t, .v (.conv .bytesStr x), g⟩ :: r) loc fr s Q := by
  subst hl
  exact o_bs hg hx (bytesOf_cells l) hr

theorem quotes_true (text : List UInt8) : ∃ n, callF T n bar0 3 [.vec (Am.byteCells text) .shut] sg0 = some (.ret (.bool true), sg0) := by
  have hbl := Am.byteCells_length text
  by_cases hlong : text.length > 2000
  · refine ⟨400 + 1, ?_⟩
    (apply f_of rfl rfl; (repeat (first | exact Shape.nil | (apply Shape.cons; conv => lhs; whnf))))
    ((repeat refine c_seq ?_); refine c_region ?_; (repeat (first | ((first | apply o_move rfl rfl | apply o_easy1 rfl rfl rfl | apply o_ld rfl rfl (by assumption) (by first | rfl | assumption)); conv => lhs; whnf) | refine o_no rfl ?_ | refine o_add rfl rfl rfl (by omega) (by omega) ?_ | refine o_sub rfl rfl rfl (by omega) (by omega) ?_ | refine o_mul rfl rfl rfl (by omega) (by omega) ?_ | refine o_sadd rfl rfl rfl (by omega) ?_ | refine o_seql_t rfl rfl rfl (by assumption) ?_ | refine o_seql_f rfl rfl rfl (by assumption) ?_ | refine o_ct rfl rfl rfl (by dsimp only [cmpP]; omega) ?_ | refine o_cf rfl rfl rfl (by dsimp only [cmpN]; omega) ?_ | (apply o_easy rfl rfl rfl; conv => lhs; whnf) | refine o_non rfl ?_)); apply o_end; (repeat (first | exact OutS.nil | exact GetS.hit | exact PutS.hit | apply GetS.miss rfl | apply PutS.miss rfl | apply OutS.cons | apply OutS.skip rfl)))
    ((repeat refine c_seq ?_); refine c_region ?_; (repeat (first | ((first | apply o_move rfl rfl | apply o_easy1 rfl rfl rfl | apply o_ld rfl rfl (by assumption) (by first | rfl | assumption)); conv => lhs; whnf) | refine o_no rfl ?_ | refine o_add rfl rfl rfl (by omega) (by omega) ?_ | refine o_sub rfl rfl rfl (by omega) (by omega) ?_ | refine o_mul rfl rfl rfl (by omega) (by omega) ?_ | refine o_sadd rfl rfl rfl (by omega) ?_ | refine o_seql_t rfl rfl rfl (by assumption) ?_ | refine o_seql_f rfl rfl rfl (by assumption) ?_ | refine o_ct rfl rfl rfl (by dsimp only [cmpP]; omega) ?_ | refine o_cf rfl rfl rfl (by dsimp only [cmpN]; omega) ?_ | (apply o_easy rfl rfl rfl; conv => lhs; whnf) | refine o_non rfl ?_)))
    refine o_call rfl rfl (awake' 400 (Nat.le_refl _)) ?_
    (repeat (first | ((first | apply o_move rfl rfl | apply o_easy1 rfl rfl rfl | apply o_ld rfl rfl (by assumption) (by first | rfl | assumption)); conv => lhs; whnf) | refine o_no rfl ?_ | refine o_add rfl rfl rfl (by omega) (by omega) ?_ | refine o_sub rfl rfl rfl (by omega) (by omega) ?_ | refine o_mul rfl rfl rfl (by omega) (by omega) ?_ | refine o_sadd rfl rfl rfl (by omega) ?_ | refine o_seql_t rfl rfl rfl (by assumption) ?_ | refine o_seql_f rfl rfl rfl (by assumption) ?_ | refine o_ct rfl rfl rfl (by dsimp only [cmpP]; omega) ?_ | refine o_cf rfl rfl rfl (by dsimp only [cmpN]; omega) ?_ | (apply o_easy rfl rfl rfl; conv => lhs; whnf) | refine o_non rfl ?_))
    (apply o_end; (repeat (first | exact OutS.nil | exact GetS.hit | exact PutS.hit | apply GetS.miss rfl | apply PutS.miss rfl | apply OutS.cons | apply OutS.skip rfl)))
    ((repeat refine c_seq ?_); refine c_region ?_; (repeat (first | ((first | apply o_move rfl rfl | apply o_easy1 rfl rfl rfl | apply o_ld rfl rfl (by assumption) (by first | rfl | assumption)); conv => lhs; whnf) | refine o_no rfl ?_ | refine o_add rfl rfl rfl (by omega) (by omega) ?_ | refine o_sub rfl rfl rfl (by omega) (by omega) ?_ | refine o_mul rfl rfl rfl (by omega) (by omega) ?_ | refine o_sadd rfl rfl rfl (by omega) ?_ | refine o_seql_t rfl rfl rfl (by assumption) ?_ | refine o_seql_f rfl rfl rfl (by assumption) ?_ | refine o_ct rfl rfl rfl (by dsimp only [cmpP]; omega) ?_ | refine o_cf rfl rfl rfl (by dsimp only [cmpN]; omega) ?_ | (apply o_easy rfl rfl rfl; conv => lhs; whnf) | refine o_non rfl ?_)); apply o_end; (repeat (first | exact OutS.nil | exact GetS.hit | exact PutS.hit | apply GetS.miss rfl | apply PutS.miss rfl | apply OutS.cons | apply OutS.skip rfl)))
    ((repeat refine c_seq ?_); refine c_else rfl ?_)
    refine c_skip ?_
    ((repeat refine c_seq ?_); refine c_region ?_; (repeat (first | ((first | apply o_move rfl rfl | apply o_easy1 rfl rfl rfl | apply o_ld rfl rfl (by assumption) (by first | rfl | assumption)); conv => lhs; whnf) | refine o_no rfl ?_ | refine o_add rfl rfl rfl (by omega) (by omega) ?_ | refine o_sub rfl rfl rfl (by omega) (by omega) ?_ | refine o_mul rfl rfl rfl (by omega) (by omega) ?_ | refine o_sadd rfl rfl rfl (by omega) ?_ | refine o_seql_t rfl rfl rfl (by assumption) ?_ | refine o_seql_f rfl rfl rfl (by assumption) ?_ | refine o_ct rfl rfl rfl (by dsimp only [cmpP]; omega) ?_ | refine o_cf rfl rfl rfl (by dsimp only [cmpN]; omega) ?_ | (apply o_easy rfl rfl rfl; conv => lhs; whnf) | refine o_non rfl ?_)); apply o_end; (repeat (first | exact OutS.nil | exact GetS.hit | exact PutS.hit | apply GetS.miss rfl | apply PutS.miss rfl | apply OutS.cons | apply OutS.skip rfl)))
    ((repeat refine c_seq ?_); refine c_if rfl ?_)
    ((repeat refine c_seq ?_); refine c_region ?_; (repeat (first | ((first | apply o_move rfl rfl | apply o_easy1 rfl rfl rfl | apply o_ld rfl rfl (by assumption) (by first | rfl | assumption)); conv => lhs; whnf) | refine o_no rfl ?_ | refine o_add rfl rfl rfl (by omega) (by omega) ?_ | refine o_sub rfl rfl rfl (by omega) (by omega) ?_ | refine o_mul rfl rfl rfl (by omega) (by omega) ?_ | refine o_sadd rfl rfl rfl (by omega) ?_ | refine o_seql_t rfl rfl rfl (by assumption) ?_ | refine o_seql_f rfl rfl rfl (by assumption) ?_ | refine o_ct rfl rfl rfl (by dsimp only [cmpP]; omega) ?_ | refine o_cf rfl rfl rfl (by dsimp only [cmpN]; omega) ?_ | (apply o_easy rfl rfl rfl; conv => lhs; whnf) | refine o_non rfl ?_)); apply o_end; (repeat (first | exact OutS.nil | exact GetS.hit | exact PutS.hit | apply GetS.miss rfl | apply PutS.miss rfl | apply OutS.cons | apply OutS.skip rfl)))
    exact c_ret rfl
  · have hql := quoteM_len text
    obtain ⟨NP, hNP⟩ := parse_spec (quoteM text) 0 (by omega) (text.length + 1) _ (quote_all text 0)
    have hll : (lit1 text).length ≤ 1 := by simp only [lit1]; split <;> simp
    have hfine : fineL (lit1 text) := by simp only [lit1]; split <;> simp [fineL, Tp.fine]
    have hexp : expL [] [] (lit1 text) = text := by
      simp only [lit1]; split
      · rename_i h; simp [h, expL]
      · simp [expL, expT]
    obtain ⟨NE, hNE⟩ := expand_spec [] [] (by simp) (lit1 text) (by omega) hfine
    refine ⟨400 + NP + NE + text.length + 10 + 1, ?_⟩
    generalize hm : 400 + NP + NE + text.length + 10 = m
    (apply f_of rfl rfl; (repeat (first | exact Shape.nil | (apply Shape.cons; conv => lhs; whnf))))
    ((repeat refine c_seq ?_); refine c_region ?_; (repeat (first | ((first | apply o_move rfl rfl | apply o_easy1 rfl rfl rfl | apply o_ld rfl rfl (by assumption) (by first | rfl | assumption)); conv => lhs; whnf) | refine o_no rfl ?_ | refine o_add rfl rfl rfl (by omega) (by omega) ?_ | refine o_sub rfl rfl rfl (by omega) (by omega) ?_ | refine o_mul rfl rfl rfl (by omega) (by omega) ?_ | refine o_sadd rfl rfl rfl (by omega) ?_ | refine o_seql_t rfl rfl rfl (by assumption) ?_ | refine o_seql_f rfl rfl rfl (by assumption) ?_ | refine o_ct rfl rfl rfl (by dsimp only [cmpP]; omega) ?_ | refine o_cf rfl rfl rfl (by dsimp only [cmpN]; omega) ?_ | (apply o_easy rfl rfl rfl; conv => lhs; whnf) | refine o_non rfl ?_)); apply o_end; (repeat (first | exact OutS.nil | exact GetS.hit | exact PutS.hit | apply GetS.miss rfl | apply PutS.miss rfl | apply OutS.cons | apply OutS.skip rfl)))
    ((repeat refine c_seq ?_); refine c_region ?_; (repeat (first | ((first | apply o_move rfl rfl | apply o_easy1 rfl rfl rfl | apply o_ld rfl rfl (by assumption) (by first | rfl | assumption)); conv => lhs; whnf) | refine o_no rfl ?_ | refine o_add rfl rfl rfl (by omega) (by omega) ?_ | refine o_sub rfl rfl rfl (by omega) (by omega) ?_ | refine o_mul rfl rfl rfl (by omega) (by omega) ?_ | refine o_sadd rfl rfl rfl (by omega) ?_ | refine o_seql_t rfl rfl rfl (by assumption) ?_ | refine o_seql_f rfl rfl rfl (by assumption) ?_ | refine o_ct rfl rfl rfl (by dsimp only [cmpP]; omega) ?_ | refine o_cf rfl rfl rfl (by dsimp only [cmpN]; omega) ?_ | (apply o_easy rfl rfl rfl; conv => lhs; whnf) | refine o_non rfl ?_)))
    refine o_call rfl rfl (awake' m (by omega)) ?_
    (repeat (first | ((first | apply o_move rfl rfl | apply o_easy1 rfl rfl rfl | apply o_ld rfl rfl (by assumption) (by first | rfl | assumption)); conv => lhs; whnf) | refine o_no rfl ?_ | refine o_add rfl rfl rfl (by omega) (by omega) ?_ | refine o_sub rfl rfl rfl (by omega) (by omega) ?_ | refine o_mul rfl rfl rfl (by omega) (by omega) ?_ | refine o_sadd rfl rfl rfl (by omega) ?_ | refine o_seql_t rfl rfl rfl (by assumption) ?_ | refine o_seql_f rfl rfl rfl (by assumption) ?_ | refine o_ct rfl rfl rfl (by dsimp only [cmpP]; omega) ?_ | refine o_cf rfl rfl rfl (by dsimp only [cmpN]; omega) ?_ | (apply o_easy rfl rfl rfl; conv => lhs; whnf) | refine o_non rfl ?_))
    (apply o_end; (repeat (first | exact OutS.nil | exact GetS.hit | exact PutS.hit | apply GetS.miss rfl | apply PutS.miss rfl | apply OutS.cons | apply OutS.skip rfl)))
    ((repeat refine c_seq ?_); refine c_region ?_; (repeat (first | ((first | apply o_move rfl rfl | apply o_easy1 rfl rfl rfl | apply o_ld rfl rfl (by assumption) (by first | rfl | assumption)); conv => lhs; whnf) | refine o_no rfl ?_ | refine o_add rfl rfl rfl (by omega) (by omega) ?_ | refine o_sub rfl rfl rfl (by omega) (by omega) ?_ | refine o_mul rfl rfl rfl (by omega) (by omega) ?_ | refine o_sadd rfl rfl rfl (by omega) ?_ | refine o_seql_t rfl rfl rfl (by assumption) ?_ | refine o_seql_f rfl rfl rfl (by assumption) ?_ | refine o_ct rfl rfl rfl (by dsimp only [cmpP]; omega) ?_ | refine o_cf rfl rfl rfl (by dsimp only [cmpN]; omega) ?_ | (apply o_easy rfl rfl rfl; conv => lhs; whnf) | refine o_non rfl ?_)); apply o_end; (repeat (first | exact OutS.nil | exact GetS.hit | exact PutS.hit | apply GetS.miss rfl | apply PutS.miss rfl | apply OutS.cons | apply OutS.skip rfl)))
    ((repeat refine c_seq ?_); refine c_else rfl ?_)
    refine c_skip ?_
    ((repeat refine c_seq ?_); refine c_region ?_; (repeat (first | ((first | apply o_move rfl rfl | apply o_easy1 rfl rfl rfl | apply o_ld rfl rfl (by assumption) (by first | rfl | assumption)); conv => lhs; whnf) | refine o_no rfl ?_ | refine o_add rfl rfl rfl (by omega) (by omega) ?_ | refine o_sub rfl rfl rfl (by omega) (by omega) ?_ | refine o_mul rfl rfl rfl (by omega) (by omega) ?_ | refine o_sadd rfl rfl rfl (by omega) ?_ | refine o_seql_t rfl rfl rfl (by assumption) ?_ | refine o_seql_f rfl rfl rfl (by assumption) ?_ | refine o_ct rfl rfl rfl (by dsimp only [cmpP]; omega) ?_ | refine o_cf rfl rfl rfl (by dsimp only [cmpN]; omega) ?_ | (apply o_easy rfl rfl rfl; conv => lhs; whnf) | refine o_non rfl ?_)); apply o_end; (repeat (first | exact OutS.nil | exact GetS.hit | exact PutS.hit | apply GetS.miss rfl | apply PutS.miss rfl | apply OutS.cons | apply OutS.skip rfl)))
    ((repeat refine c_seq ?_); refine c_else rfl ?_)
    refine c_skip ?_
    ((repeat refine c_seq ?_); refine c_region ?_; (repeat (first | ((first | apply o_move rfl rfl | apply o_easy1 rfl rfl rfl | apply o_ld rfl rfl (by assumption) (by first | rfl | assumption)); conv => lhs; whnf) | refine o_no rfl ?_ | refine o_add rfl rfl rfl (by omega) (by omega) ?_ | refine o_sub rfl rfl rfl (by omega) (by omega) ?_ | refine o_mul rfl rfl rfl (by omega) (by omega) ?_ | refine o_sadd rfl rfl rfl (by omega) ?_ | refine o_seql_t rfl rfl rfl (by assumption) ?_ | refine o_seql_f rfl rfl rfl (by assumption) ?_ | refine o_ct rfl rfl rfl (by dsimp only [cmpP]; omega) ?_ | refine o_cf rfl rfl rfl (by dsimp only [cmpN]; omega) ?_ | (apply o_easy rfl rfl rfl; conv => lhs; whnf) | refine o_non rfl ?_)); apply o_end; (repeat (first | exact OutS.nil | exact GetS.hit | exact PutS.hit | apply GetS.miss rfl | apply PutS.miss rfl | apply OutS.cons | apply OutS.skip rfl)))
    ((repeat refine c_seq ?_); refine c_region ?_; (repeat (first | ((first | apply o_move rfl rfl | apply o_easy1 rfl rfl rfl | apply o_ld rfl rfl (by assumption) (by first | rfl | assumption)); conv => lhs; whnf) | refine o_no rfl ?_ | refine o_add rfl rfl rfl (by omega) (by omega) ?_ | refine o_sub rfl rfl rfl (by omega) (by omega) ?_ | refine o_mul rfl rfl rfl (by omega) (by omega) ?_ | refine o_sadd rfl rfl rfl (by omega) ?_ | refine o_seql_t rfl rfl rfl (by assumption) ?_ | refine o_seql_f rfl rfl rfl (by assumption) ?_ | refine o_ct rfl rfl rfl (by dsimp only [cmpP]; omega) ?_ | refine o_cf rfl rfl rfl (by dsimp only [cmpN]; omega) ?_ | (apply o_easy rfl rfl rfl; conv => lhs; whnf) | refine o_non rfl ?_)); apply o_end; (repeat (first | exact OutS.nil | exact GetS.hit | exact PutS.hit | apply GetS.miss rfl | apply PutS.miss rfl | apply OutS.cons | apply OutS.skip rfl)))
    ((repeat refine c_seq ?_); refine c_block ?_)
    refine c_loop (x := lp3_0) ?_
    refine quote_loop m _ text 0 (by omega) (by show (0:Nat) ≤ 0; omega) ?_ text [] 0 m _ _ _ _ rfl rfl (by omega) (Nat.le_refl _) (.inl ⟨rfl, rfl⟩)
    intro x20 x34 v s' hv
    have hparse := hNP m (by omega) (bar0.into .pure sg0) s' v .nilsl hv.weak rfl
    have hex := hNE (by rw [hexp]; omega) m (by omega) (bar0.into .pure sg0) s' (.vec (avs (lit1 text)) .shut) .nilsl .nilsl rfl rfl rfl
    rw [hexp] at hex
    ((repeat refine c_seq ?_); refine c_region ?_; (repeat (first | ((first | apply o_move rfl rfl | apply o_easy1 rfl rfl rfl | apply o_ld rfl rfl (by assumption) (by first | rfl | assumption)); conv => lhs; whnf) | refine o_no rfl ?_ | refine o_add rfl rfl rfl (by omega) (by omega) ?_ | refine o_sub rfl rfl rfl (by omega) (by omega) ?_ | refine o_mul rfl rfl rfl (by omega) (by omega) ?_ | refine o_sadd rfl rfl rfl (by omega) ?_ | refine o_seql_t rfl rfl rfl (by assumption) ?_ | refine o_seql_f rfl rfl rfl (by assumption) ?_ | refine o_ct rfl rfl rfl (by dsimp only [cmpP]; omega) ?_ | refine o_cf rfl rfl rfl (by dsimp only [cmpN]; omega) ?_ | (apply o_easy rfl rfl rfl; conv => lhs; whnf) | refine o_non rfl ?_)))
    refine o_move rfl hv.defd rfl ?_
    refine o_call rfl (evAll3 hv.defd rfl rfl) hparse ?_
    (repeat (first | ((first | apply o_move rfl rfl | apply o_easy1 rfl rfl rfl | apply o_ld rfl rfl (by assumption) (by first | rfl | assumption)); conv => lhs; whnf) | refine o_no rfl ?_ | refine o_add rfl rfl rfl (by omega) (by omega) ?_ | refine o_sub rfl rfl rfl (by omega) (by omega) ?_ | refine o_mul rfl rfl rfl (by omega) (by omega) ?_ | refine o_sadd rfl rfl rfl (by omega) ?_ | refine o_seql_t rfl rfl rfl (by assumption) ?_ | refine o_seql_f rfl rfl rfl (by assumption) ?_ | refine o_ct rfl rfl rfl (by dsimp only [cmpP]; omega) ?_ | refine o_cf rfl rfl rfl (by dsimp only [cmpN]; omega) ?_ | (apply o_easy rfl rfl rfl; conv => lhs; whnf) | refine o_non rfl ?_))
    (apply o_end; (repeat (first | exact OutS.nil | exact GetS.hit | exact PutS.hit | apply GetS.miss rfl | apply PutS.miss rfl | apply OutS.cons | apply OutS.skip rfl)))
    ((repeat refine c_seq ?_); refine c_region ?_; (repeat (first | ((first | apply o_move rfl rfl | apply o_easy1 rfl rfl rfl | apply o_ld rfl rfl (by assumption) (by first | rfl | assumption)); conv => lhs; whnf) | refine o_no rfl ?_ | refine o_add rfl rfl rfl (by omega) (by omega) ?_ | refine o_sub rfl rfl rfl (by omega) (by omega) ?_ | refine o_mul rfl rfl rfl (by omega) (by omega) ?_ | refine o_sadd rfl rfl rfl (by omega) ?_ | refine o_seql_t rfl rfl rfl (by assumption) ?_ | refine o_seql_f rfl rfl rfl (by assumption) ?_ | refine o_ct rfl rfl rfl (by dsimp only [cmpP]; omega) ?_ | refine o_cf rfl rfl rfl (by dsimp only [cmpN]; omega) ?_ | (apply o_easy rfl rfl rfl; conv => lhs; whnf) | refine o_non rfl ?_)))
    refine o_call rfl rfl hex ?_
    (repeat (first | ((first | apply o_move rfl rfl | apply o_easy1 rfl rfl rfl | apply o_ld rfl rfl (by assumption) (by first | rfl | assumption)); conv => lhs; whnf) | refine o_no rfl ?_ | refine o_add rfl rfl rfl (by omega) (by omega) ?_ | refine o_sub rfl rfl rfl (by omega) (by omega) ?_ | refine o_mul rfl rfl rfl (by omega) (by omega) ?_ | refine o_sadd rfl rfl rfl (by omega) ?_ | refine o_seql_t rfl rfl rfl (by assumption) ?_ | refine o_seql_f rfl rfl rfl (by assumption) ?_ | refine o_ct rfl rfl rfl (by dsimp only [cmpP]; omega) ?_ | refine o_cf rfl rfl rfl (by dsimp only [cmpN]; omega) ?_ | (apply o_easy rfl rfl rfl; conv => lhs; whnf) | refine o_non rfl ?_))
    (apply o_end; (repeat (first | exact OutS.nil | exact GetS.hit | exact PutS.hit | apply GetS.miss rfl | apply PutS.miss rfl | apply OutS.cons | apply OutS.skip rfl)))
    by_cases he : text = []
    · subst he
      ((repeat refine c_seq ?_); refine c_region ?_; (repeat (first | ((first | apply o_move rfl rfl | apply o_easy1 rfl rfl rfl | apply o_ld rfl rfl (by assumption) (by first | rfl | assumption)); conv => lhs; whnf) | refine o_no rfl ?_ | refine o_add rfl rfl rfl (by omega) (by omega) ?_ | refine o_sub rfl rfl rfl (by omega) (by omega) ?_ | refine o_mul rfl rfl rfl (by omega) (by omega) ?_ | refine o_sadd rfl rfl rfl (by omega) ?_ | refine o_seql_t rfl rfl rfl (by assumption) ?_ | refine o_seql_f rfl rfl rfl (by assumption) ?_ | refine o_ct rfl rfl rfl (by dsimp only [cmpP]; omega) ?_ | refine o_cf rfl rfl rfl (by dsimp only [cmpN]; omega) ?_ | (apply o_easy rfl rfl rfl; conv => lhs; whnf) | refine o_non rfl ?_)); apply o_end; (repeat (first | exact OutS.nil | exact GetS.hit | exact PutS.hit | apply GetS.miss rfl | apply PutS.miss rfl | apply OutS.cons | apply OutS.skip rfl)))
      ((repeat refine c_seq ?_); refine c_region ?_; (repeat (first | ((first | apply o_move rfl rfl | apply o_easy1 rfl rfl rfl | apply o_ld rfl rfl (by assumption) (by first | rfl | assumption)); conv => lhs; whnf) | refine o_no rfl ?_ | refine o_add rfl rfl rfl (by omega) (by omega) ?_ | refine o_sub rfl rfl rfl (by omega) (by omega) ?_ | refine o_mul rfl rfl rfl (by omega) (by omega) ?_ | refine o_sadd rfl rfl rfl (by omega) ?_ | refine o_seql_t rfl rfl rfl (by assumption) ?_ | refine o_seql_f rfl rfl rfl (by assumption) ?_ | refine o_ct rfl rfl rfl (by dsimp only [cmpP]; omega) ?_ | refine o_cf rfl rfl rfl (by dsimp only [cmpN]; omega) ?_ | (apply o_easy rfl rfl rfl; conv => lhs; whnf) | refine o_non rfl ?_)); apply o_end; (repeat (first | exact OutS.nil | exact GetS.hit | exact PutS.hit | apply GetS.miss rfl | apply PutS.miss rfl | apply OutS.cons | apply OutS.skip rfl)))
      exact c_ret rfl
    · have hl1 : lit1 text = [.lit text] := if_neg he
      have hpos : 0 < text.length := by cases text; exact absurd rfl he; simp
      rw [hl1]
      ((repeat refine c_seq ?_); refine c_region ?_; (repeat (first | ((first | apply o_move rfl rfl | apply o_easy1 rfl rfl rfl | apply o_ld rfl rfl (by assumption) (by first | rfl | assumption)); conv => lhs; whnf) | refine o_no rfl ?_ | refine o_add rfl rfl rfl (by omega) (by omega) ?_ | refine o_sub rfl rfl rfl (by omega) (by omega) ?_ | refine o_mul rfl rfl rfl (by omega) (by omega) ?_ | refine o_sadd rfl rfl rfl (by omega) ?_ | refine o_seql_t rfl rfl rfl (by assumption) ?_ | refine o_seql_f rfl rfl rfl (by assumption) ?_ | refine o_ct rfl rfl rfl (by dsimp only [cmpP]; omega) ?_ | refine o_cf rfl rfl rfl (by dsimp only [cmpN]; omega) ?_ | (apply o_easy rfl rfl rfl; conv => lhs; whnf) | refine o_non rfl ?_)))
      refine o_ixvec (j := 0) rfl rfl rfl rfl rfl rfl ?_
      (repeat (first | ((first | apply o_move rfl rfl | apply o_easy1 rfl rfl rfl | apply o_ld rfl rfl (by assumption) (by first | rfl | assumption)); conv => lhs; whnf) | refine o_no rfl ?_ | refine o_add rfl rfl rfl (by omega) (by omega) ?_ | refine o_sub rfl rfl rfl (by omega) (by omega) ?_ | refine o_mul rfl rfl rfl (by omega) (by omega) ?_ | refine o_sadd rfl rfl rfl (by omega) ?_ | refine o_seql_t rfl rfl rfl (by assumption) ?_ | refine o_seql_f rfl rfl rfl (by assumption) ?_ | refine o_ct rfl rfl rfl (by dsimp only [cmpP]; omega) ?_ | refine o_cf rfl rfl rfl (by dsimp only [cmpN]; omega) ?_ | (apply o_easy rfl rfl rfl; conv => lhs; whnf) | refine o_non rfl ?_))
      (apply o_end; (repeat (first | exact OutS.nil | exact GetS.hit | exact PutS.hit | apply GetS.miss rfl | apply PutS.miss rfl | apply OutS.cons | apply OutS.skip rfl)))
      ((repeat refine c_seq ?_); refine c_region ?_; (repeat (first | ((first | apply o_move rfl rfl | apply o_easy1 rfl rfl rfl | apply o_ld rfl rfl (by assumption) (by first | rfl | assumption)); conv => lhs; whnf) | refine o_no rfl ?_ | refine o_add rfl rfl rfl (by omega) (by omega) ?_ | refine o_sub rfl rfl rfl (by omega) (by omega) ?_ | refine o_mul rfl rfl rfl (by omega) (by omega) ?_ | refine o_sadd rfl rfl rfl (by omega) ?_ | refine o_seql_t rfl rfl rfl (by assumption) ?_ | refine o_seql_f rfl rfl rfl (by assumption) ?_ | refine o_ct rfl rfl rfl (by dsimp only [cmpP]; omega) ?_ | refine o_cf rfl rfl rfl (by dsimp only [cmpN]; omega) ?_ | (apply o_easy rfl rfl rfl; conv => lhs; whnf) | refine o_non rfl ?_)))
      refine o_strB text rfl rfl rfl ?_
      (repeat (first | ((first | apply o_move rfl rfl | apply o_easy1 rfl rfl rfl | apply o_ld rfl rfl (by assumption) (by first | rfl | assumption)); conv => lhs; whnf) | refine o_no rfl ?_ | refine o_add rfl rfl rfl (by omega) (by omega) ?_ | refine o_sub rfl rfl rfl (by omega) (by omega) ?_ | refine o_mul rfl rfl rfl (by omega) (by omega) ?_ | refine o_sadd rfl rfl rfl (by omega) ?_ | refine o_seql_t rfl rfl rfl (by assumption) ?_ | refine o_seql_f rfl rfl rfl (by assumption) ?_ | refine o_ct rfl rfl rfl (by dsimp only [cmpP]; omega) ?_ | refine o_cf rfl rfl rfl (by dsimp only [cmpN]; omega) ?_ | (apply o_easy rfl rfl rfl; conv => lhs; whnf) | refine o_non rfl ?_))
      refine o_strB text rfl rfl rfl ?_
      refine o_seql_t rfl rfl rfl rfl ?_
      (repeat (first | ((first | apply o_move rfl rfl | apply o_easy1 rfl rfl rfl | apply o_ld rfl rfl (by assumption) (by first | rfl | assumption)); conv => lhs; whnf) | refine o_no rfl ?_ | refine o_add rfl rfl rfl (by omega) (by omega) ?_ | refine o_sub rfl rfl rfl (by omega) (by omega) ?_ | refine o_mul rfl rfl rfl (by omega) (by omega) ?_ | refine o_sadd rfl rfl rfl (by omega) ?_ | refine o_seql_t rfl rfl rfl (by assumption) ?_ | refine o_seql_f rfl rfl rfl (by assumption) ?_ | refine o_ct rfl rfl rfl (by dsimp only [cmpP]; omega) ?_ | refine o_cf rfl rfl rfl (by dsimp only [cmpN]; omega) ?_ | (apply o_easy rfl rfl rfl; conv => lhs; whnf) | refine o_non rfl ?_))
      (apply o_end; (repeat (first | exact OutS.nil | exact GetS.hit | exact PutS.hit | apply GetS.miss rfl | apply PutS.miss rfl | apply OutS.cons | apply OutS.skip rfl)))
      exact c_ret rfl

end Go.Tpl

namespace Go.Tpl
open Go Go.Am Go.Proofs

-- ---------------------------------------------------------------- how great a template is

mutual
def Tp.wt : Tp → Nat
  | .lit t => t.length + 1
  | .group _ => 1
  | .els _ no => 1 + wtL no
  | .ifs _ yes no => 1 + (wtL yes + wtL no)
def wtL : List Tp → Nat
  | [] => 0
  | p :: r => p.wt + wtL r
end

theorem wtL_app : ∀ a b : List Tp, wtL (a ++ b) = wtL a + wtL b
  | [], b => by simp [wtL]
  | p :: r, b => by simp only [List.cons_append, wtL, wtL_app r b]; omega

theorem wt_pos (p : Tp) : 1 ≤ p.wt := by cases p <;> simp only [Tp.wt] <;> omega

theorem len_wt : ∀ l : List Tp, l.length ≤ wtL l
  | [] => Nat.le_refl _
  | p :: r => by
    have := len_wt r
    have := wt_pos p
    simp only [List.length_cons, wtL]
    omega

theorem wtL_add (l : List Tp) (p : Tp) : wtL (addM l p) ≤ wtL l + p.wt := by
  rcases last_cases l with rfl | ⟨l0, q, rfl⟩
  · rw [addM_nil]; simp [wtL]
  · cases hb : q.isLit && p.isLit with
    | false => rw [addM_other hb, wtL_app _ [p]]; simp [wtL]
    | true =>
      cases q with
      | lit t =>
        cases p with
        | lit u =>
          rw [addM_lit, wtL_app, wtL_app]
          simp only [wtL, Tp.wt, List.length_append]
          omega
        | _ => simp [Tp.isLit] at hb
      | _ => simp [Tp.isLit] at hb

mutual
theorem fine_wt : ∀ p : Tp, p.wt < 2 ^ 40 → p.fine
  | .lit _, _ => by simp [Tp.fine]
  | .group _, _ => by simp [Tp.fine]
  | .els _ no, h => by
    simp only [Tp.wt] at h
    have := len_wt no
    exact ⟨by omega, fineL_wt no (by omega)⟩
  | .ifs _ yes no, h => by
    simp only [Tp.wt] at h
    have := len_wt no
    have := len_wt yes
    exact ⟨⟨by omega, fineL_wt yes (by omega)⟩, ⟨by omega, fineL_wt no (by omega)⟩⟩
theorem fineL_wt : ∀ l : List Tp, wtL l < 2 ^ 40 → fineL l
  | [], _ => by simp [fineL]
  | p :: r, h => by
    simp only [wtL] at h
    exact ⟨fine_wt p (by omega), fineL_wt r (by omega)⟩
end

theorem grp_len {subj : List UInt8} {spans : List (Int × Int)} {n : Int} {x : List UInt8} (h : grp subj spans n = some x) : x.length ≤ subj.length := by
  simp only [grp] at h
  split at h
  · split at h
    · split at h
      · cases h
        simp only [List.length_take, List.length_drop]
        omega
      · cases h
    · cases h
  · cases h

mutual
theorem expT_len (subj : List UInt8) (spans : List (Int × Int)) : ∀ p : Tp, (expT subj spans p).length ≤ (subj.length + 1) * p.wt
  | .lit t => by
    simp only [expT, Tp.wt]
    have : 1 * (t.length + 1) ≤ (subj.length + 1) * (t.length + 1) := Nat.mul_le_mul_right _ (by omega)
    omega
  | .group n => by
    simp only [expT, Tp.wt]
    cases h : grp subj spans n with
    | none => simp
    | some x => have := grp_len h; simp; omega
  | .els n no => by
    have ih := expL_len subj spans no
    simp only [expT, Tp.wt, Nat.mul_add]
    cases h : grp subj spans n with
    | none => simp only; omega
    | some x => have := grp_len h; simp only; omega
  | .ifs n yes no => by
    have ih := expL_len subj spans no
    have ih2 := expL_len subj spans yes
    simp only [expT, Tp.wt, Nat.mul_add]
    cases h : grp subj spans n with
    | none => simp only; omega
    | some x => simp only; omega
theorem expL_len (subj : List UInt8) (spans : List (Int × Int)) : ∀ l : List Tp, (expL subj spans l).length ≤ (subj.length + 1) * wtL l
  | [] => by simp [expL]
  | p :: r => by
    have h1 := expT_len subj spans p
    have h2 := expL_len subj spans r
    simp only [expL, wtL, List.length_append, Nat.mul_add]
    omega
end

theorem expL_add (subj : List UInt8) (spans : List (Int × Int)) (l : List Tp) (p : Tp) : expL subj spans (addM l p) = expL subj spans l ++ expT subj spans p := by
  rcases last_cases l with rfl | ⟨l0, q, rfl⟩
  · rw [addM_nil]; simp [expL]
  · cases hb : q.isLit && p.isLit with
    | false => rw [addM_other hb, expL_app]; simp [expL]
    | true =>
      cases q with
      | lit t =>
        cases p with
        | lit u =>
          rw [addM_lit, expL_app, expL_app]
          simp [expL, expT]
        | _ => simp [Tp.isLit] at hb
      | _ => simp [Tp.isLit] at hb

-- ---------------------------------------------------------------- what a run comes to: within the text, no greater than it

theorem stands_lt {t : List UInt8} {i : Nat} {p : List UInt8} (hp : p ≠ []) (h : stands t i p = true) : i + p.length ≤ t.length := by
  simp only [stands, Bool.and_eq_true, decide_eq_true_eq, List.length_drop] at h
  have : 0 < p.length := List.length_pos_iff.mpr hp
  omega

theorem model_wt (t : List UInt8) (gr : Int) : ∀ n, (∀ ends d i out l j, partsM t gr n ends d i out = some (.ok (l, j)) → i ≤ t.length → j ≤ t.length ∧ wtL l + 2 * i ≤ wtL out + 2 * j) ∧
    (∀ a d i p j, dollarM t gr n a d i = some (.ok (p, j)) → i ≤ t.length → i < j ∧ j ≤ t.length ∧ p.wt + 2 * i ≤ 2 * j + 2) := by
  intro n
  induction n with
  | zero =>
    constructor
    · intro ends d i out l j h; simp [partsM] at h
    · intro a d i p j h; simp [dollarM] at h
  | succ n ih =>
    obtain ⟨ihp, ihd⟩ := ih
    constructor
    · intro ends d i out l j h hi
      simp only [partsM] at h
      split at h
      · cases h; exact ⟨hi, Nat.le_refl _⟩
      · rename_i c hc
        have hlt := lt_of_getElem? hc
        split at h
        · cases h; exact ⟨hi, Nat.le_refl _⟩
        · split at h
          · split at h
            · cases h
            · rename_i e he
              have hlt2 := lt_of_getElem? he
              have h1 := ihp _ _ _ _ _ _ h (by omega)
              have h2 := wtL_add out (.lit [e])
              simp only [Tp.wt, List.length_singleton] at h2
              exact ⟨h1.1, by omega⟩
          · split at h
            · split at h
              · cases h
              · cases h
              · rename_i p k hk
                have h0 := ihd _ _ _ _ _ hk (by omega)
                have h1 := ihp _ _ _ _ _ _ h (by omega)
                have h2 := wtL_add out p
                exact ⟨h1.1, by omega⟩
            · have h1 := ihp _ _ _ _ _ _ h (by omega)
              have h2 := wtL_add out (.lit [c])
              simp only [Tp.wt, List.length_singleton] at h2
              exact ⟨h1.1, by omega⟩
    · intro a d i p j h hi
      simp only [dollarM] at h
      have g2 := numM_ge t 2 i 0
      have g3 := numM_ge t 3 (i + 1) 0
      have l2 := numM_le t 2 i 0 hi
      split at h
      · rename_i hs
        have := stands_lt (by simp) hs
        simp only [List.length_singleton] at this
        cases h; exact ⟨by omega, by omega, by simp only [Tp.wt, List.length_singleton]; omega⟩
      · split at h
        · split at h
          · cases h; exact ⟨by omega, by omega, by simp only [Tp.wt]; omega⟩
          · cases h
        · rename_i hs
          have hs : stands t i [123] = true := by simpa using hs
          have h123 := stands_lt (by simp) hs
          simp only [List.length_singleton] at h123
          have l3 := numM_le t 3 (i + 1) 0 (by omega)
          split at h
          · cases h
          · split at h
            · rename_i hs2
              have h2 := stands_lt (by simp) hs2
              simp only [List.length_cons, List.length_nil] at h2
              split at h
              · split at h
                · cases h
                · cases h
                · rename_i no k hk
                  obtain ⟨rfl, rfl, hs3⟩ := closeM_ok h
                  have h3 := stands_lt (by simp) hs3
                  simp only [List.length_singleton] at h3
                  have h4 := ihp _ _ _ _ _ _ hk (by omega)
                  simp only [wtL] at h4
                  have h5 := (model_ge t gr n).1 _ _ _ _ _ _ hk
                  exact ⟨by omega, by omega, by simp only [Tp.wt]; omega⟩
              · cases h
            · split at h
              · rename_i hs2
                have h2 := stands_lt (by simp) hs2
                simp only [List.length_cons, List.length_nil] at h2
                split at h
                · split at h
                  · cases h
                  · cases h
                  · rename_i yes k hk
                    have h4 := ihp _ _ _ _ _ _ hk (by omega)
                    have h5 := (model_ge t gr n).1 _ _ _ _ _ _ hk
                    simp only [wtL] at h4
                    split at h
                    · rename_i hs4
                      have h6 := stands_lt (by simp) hs4
                      simp only [List.length_singleton] at h6
                      split at h
                      · cases h
                      · cases h
                      · rename_i no k2 hk2
                        obtain ⟨rfl, rfl, hs3⟩ := closeM_ok h
                        have h3 := stands_lt (by simp) hs3
                        simp only [List.length_singleton] at h3
                        have h7 := ihp _ _ _ _ _ _ hk2 (by omega)
                        have h8 := (model_ge t gr n).1 _ _ _ _ _ _ hk2
                        simp only [wtL] at h7
                        exact ⟨by omega, by omega, by simp only [Tp.wt]; omega⟩
                    · cases h
                · cases h
              · obtain ⟨rfl, rfl, hs3⟩ := closeM_ok h
                have h3 := stands_lt (by simp) hs3
                simp only [List.length_singleton] at h3
                exact ⟨by omega, by omega, by simp only [Tp.wt]; omega⟩

end Go.Tpl

namespace Go.Tpl
open Go Go.Am Go.Proofs

-- ---------------------------------------------------------------- more fuel, the same; enough fuel, an answer

theorem model_succ (t : List UInt8) (gr : Int) : ∀ n, (∀ ends d i out r, partsM t gr n ends d i out = some r → partsM t gr (n + 1) ends d i out = some r) ∧ (∀ a d i r, dollarM t gr n a d i = some r → dollarM t gr (n + 1) a d i = some r) := by
  intro n
  induction n with
  | zero =>
    constructor
    · intro ends d i out r h; simp [partsM] at h
    · intro a d i r h; simp [dollarM] at h
  | succ n ih =>
    obtain ⟨ihp, ihd⟩ := ih
    constructor
    · intro ends d i out r h
      rw [partsM] at h ⊢
      cases hc : t[i]? with
      | none => simp only [hc] at h ⊢; exact h
      | some c =>
        simp only [hc] at h ⊢
        by_cases h1 : c ∈ ends
        · rw [if_pos h1] at h ⊢; exact h
        · rw [if_neg h1] at h ⊢
          by_cases h2 : c.toNat = 92
          · rw [if_pos h2] at h ⊢
            cases he : t[i + 1]? with
            | none => simp only [he] at h ⊢; exact h
            | some e => simp only [he] at h ⊢; exact ihp _ _ _ _ _ h
          · rw [if_neg h2] at h ⊢
            by_cases h3 : c.toNat = 36
            · rw [if_pos h3] at h ⊢
              cases hd : dollarM t gr n i d (i + 1) with
              | none => simp [hd] at h
              | some x =>
                rw [ihd _ _ _ _ hd]
                cases x with
                | error a => simp only [hd] at h ⊢; exact h
                | ok y =>
                  obtain ⟨p, j⟩ := y
                  simp only [hd] at h ⊢
                  exact ihp _ _ _ _ _ h
            · rw [if_neg h3] at h ⊢; exact ihp _ _ _ _ _ h
    · intro a d i r h
      rw [dollarM] at h ⊢
      by_cases h1 : stands t i [36] = true
      · rw [if_pos h1] at h ⊢; exact h
      rw [if_neg h1] at h ⊢
      by_cases h2 : stands t i [123] = false
      · rw [if_pos h2] at h ⊢; exact h
      rw [if_neg h2] at h ⊢
      by_cases h3 : ¬ (i + 1 < (numM t 3 (i + 1) 0).2 ∧ ((numM t 3 (i + 1) 0).1 : Int) ≤ gr)
      · rw [if_pos h3] at h ⊢; exact h
      rw [if_neg h3] at h ⊢
      by_cases h4 : stands t (numM t 3 (i + 1) 0).2 [58, 45] = true
      · rw [if_pos h4] at h ⊢
        by_cases h5 : d < 10
        · rw [if_pos h5] at h ⊢
          cases hp : partsM t gr n [125] (d + 1) ((numM t 3 (i + 1) 0).2 + 2) [] with
          | none => simp [hp] at h
          | some x =>
            rw [ihp _ _ _ _ _ hp]
            simp only [hp] at h ⊢
            exact h
        · rw [if_neg h5] at h ⊢; exact h
      rw [if_neg h4] at h ⊢
      by_cases h6 : stands t (numM t 3 (i + 1) 0).2 [58, 43] = true
      · rw [if_pos h6] at h ⊢
        by_cases h5 : d < 10
        · rw [if_pos h5] at h ⊢
          cases hp : partsM t gr n [58, 125] (d + 1) ((numM t 3 (i + 1) 0).2 + 2) [] with
          | none => simp [hp] at h
          | some x =>
            rw [ihp _ _ _ _ _ hp]
            cases x with
            | error a => simp only [hp] at h ⊢; exact h
            | ok y =>
              obtain ⟨yes, k⟩ := y
              simp only [hp] at h ⊢
              by_cases h7 : stands t k [58] = true
              · rw [if_pos h7] at h ⊢
                cases hp2 : partsM t gr n [125] (d + 1) (k + 1) [] with
                | none => simp [hp2] at h
                | some z =>
                  rw [ihp _ _ _ _ _ hp2]
                  simp only [hp2] at h ⊢
                  exact h
              · rw [if_neg h7] at h ⊢; exact h
        · rw [if_neg h5] at h ⊢; exact h
      rw [if_neg h6] at h ⊢
      exact h

theorem parts_mono {t : List UInt8} {gr : Int} {n n' : Nat} (hn : n ≤ n') {ends : List UInt8} {d i : Nat} {out : List Tp} {r : PRes} (h : partsM t gr n ends d i out = some r) : partsM t gr n' ends d i out = some r := by
  induction hn with
  | refl => exact h
  | step _ ih => exact (model_succ t gr _).1 _ _ _ _ _ ih

theorem dollar_mono {t : List UInt8} {gr : Int} {n n' : Nat} (hn : n ≤ n') {a d i : Nat} {r : DRes} (h : dollarM t gr n a d i = some r) : dollarM t gr n' a d i = some r := by
  induction hn with
  | refl => exact h
  | step _ ih => exact (model_succ t gr _).2 _ _ _ _ ih

theorem close_some (t : List UInt8) (a : Nat) (p : Tp) (k : Nat) : ∃ r, closeM t a p k = some r := by
  simp only [closeM]
  split <;> exact ⟨_, rfl⟩

theorem model_total (t : List UInt8) (gr : Int) : ∀ k, (∀ ends d i out, i ≤ t.length → t.length - i < k → ∃ n r, partsM t gr n ends d i out = some r) ∧ (∀ a d i, i ≤ t.length → t.length - i < k → ∃ n r, dollarM t gr n a d i = some r) := by
  intro k
  induction k with
  | zero => exact ⟨fun _ _ _ _ _ h => by omega, fun _ _ _ _ h => by omega⟩
  | succ k ih =>
    obtain ⟨ihp, ihd⟩ := ih
    have hD : ∀ a d i, i ≤ t.length → t.length - i < k + 1 → ∃ n r, dollarM t gr n a d i = some r := by
      intro a d i hi hk
      have g3 := numM_ge t 3 (i + 1) 0
      by_cases h1 : stands t i [36] = true
      · exact ⟨1, _, by rw [dollarM, if_pos h1]⟩
      by_cases h2 : stands t i [123] = false
      · by_cases h3 : i < (numM t 2 i 0).2 ∧ ((numM t 2 i 0).1 : Int) ≤ gr
        · exact ⟨1, _, by rw [dollarM, if_neg h1, if_pos h2, if_pos h3]⟩
        · exact ⟨1, _, by rw [dollarM, if_neg h1, if_pos h2, if_neg h3]⟩
      have h2' : stands t i [123] = true := by simpa using h2
      have l1 := stands_lt (by simp) h2'
      simp only [List.length_singleton] at l1
      have l3 := numM_le t 3 (i + 1) 0 (by omega)
      by_cases h3 : ¬ (i + 1 < (numM t 3 (i + 1) 0).2 ∧ ((numM t 3 (i + 1) 0).1 : Int) ≤ gr)
      · exact ⟨1, _, by rw [dollarM, if_neg h1, if_neg h2, if_pos h3]⟩
      by_cases h4 : stands t (numM t 3 (i + 1) 0).2 [58, 45] = true
      · have l4 := stands_lt (by simp) h4
        simp only [List.length_cons, List.length_nil] at l4
        by_cases h5 : d < 10
        · obtain ⟨n, r, hr⟩ := ihp [125] (d + 1) ((numM t 3 (i + 1) 0).2 + 2) [] (by omega) (by omega)
          cases r with
          | error a => exact ⟨n + 1, _, by rw [dollarM, if_neg h1, if_neg h2, if_neg h3, if_pos h4, if_pos h5, hr]⟩
          | ok x => exact ⟨n + 1, _, by rw [dollarM, if_neg h1, if_neg h2, if_neg h3, if_pos h4, if_pos h5, hr]; exact (close_some ..).choose_spec⟩
        · exact ⟨1, _, by rw [dollarM, if_neg h1, if_neg h2, if_neg h3, if_pos h4, if_neg h5]⟩
      by_cases h6 : stands t (numM t 3 (i + 1) 0).2 [58, 43] = true
      · have l4 := stands_lt (by simp) h6
        simp only [List.length_cons, List.length_nil] at l4
        by_cases h5 : d < 10
        · obtain ⟨n, r, hr⟩ := ihp [58, 125] (d + 1) ((numM t 3 (i + 1) 0).2 + 2) [] (by omega) (by omega)
          cases r with
          | error a => exact ⟨n + 1, _, by rw [dollarM, if_neg h1, if_neg h2, if_neg h3, if_neg h4, if_pos h6, if_pos h5, hr]⟩
          | ok x =>
            obtain ⟨yes, j⟩ := x
            have hj := (model_ge t gr n).1 _ _ _ _ _ _ hr
            by_cases h7 : stands t j [58] = true
            · have l5 := stands_lt (by simp) h7
              simp only [List.length_singleton] at l5
              obtain ⟨n2, r2, hr2⟩ := ihp [125] (d + 1) (j + 1) [] (by omega) (by omega)
              have m1 := parts_mono (show n ≤ n + n2 by omega) hr
              have m2 := parts_mono (show n2 ≤ n + n2 by omega) hr2
              cases r2 with
              | error a => exact ⟨n + n2 + 1, _, by rw [dollarM, if_neg h1, if_neg h2, if_neg h3, if_neg h4, if_pos h6, if_pos h5, m1]; simp only; rw [if_pos h7, m2]⟩
              | ok x => exact ⟨n + n2 + 1, _, by rw [dollarM, if_neg h1, if_neg h2, if_neg h3, if_neg h4, if_pos h6, if_pos h5, m1]; simp only; rw [if_pos h7, m2]; exact (close_some ..).choose_spec⟩
            · exact ⟨n + 1, _, by rw [dollarM, if_neg h1, if_neg h2, if_neg h3, if_neg h4, if_pos h6, if_pos h5, hr]; simp only; rw [if_neg h7]⟩
        · exact ⟨1, _, by rw [dollarM, if_neg h1, if_neg h2, if_neg h3, if_neg h4, if_pos h6, if_neg h5]⟩
      exact ⟨1, _, by rw [dollarM, if_neg h1, if_neg h2, if_neg h3, if_neg h4, if_neg h6]; exact (close_some ..).choose_spec⟩
    refine ⟨?_, hD⟩
    intro ends d i out hi hk
    cases hc : t[i]? with
    | none => exact ⟨1, _, by rw [partsM, hc]⟩
    | some c =>
      have hlt := lt_of_getElem? hc
      by_cases h1 : c ∈ ends
      · exact ⟨1, _, by rw [partsM, hc]; simp only; rw [if_pos h1]⟩
      by_cases h2 : c.toNat = 92
      · cases he : t[i + 1]? with
        | none => exact ⟨1, _, by rw [partsM, hc]; simp only; rw [if_neg h1, if_pos h2, he]⟩
        | some e =>
          have hlt2 := lt_of_getElem? he
          obtain ⟨n, r, hr⟩ := ihp ends d (i + 2) (addM out (.lit [e])) (by omega) (by omega)
          exact ⟨n + 1, r, by rw [partsM, hc]; simp only; rw [if_neg h1, if_pos h2, he]; exact hr⟩
      by_cases h3 : c.toNat = 36
      · obtain ⟨n, r, hr⟩ := ihd i d (i + 1) (by omega) (by omega)
        cases r with
        | error a => exact ⟨n + 1, _, by rw [partsM, hc]; simp only; rw [if_neg h1, if_neg h2, if_pos h3, hr]⟩
        | ok x =>
          obtain ⟨p, j⟩ := x
          have hj := (model_wt t gr n).2 _ _ _ _ _ hr (by omega)
          obtain ⟨n2, r2, hr2⟩ := ihp ends d j (addM out p) (by omega) (by omega)
          have m1 := dollar_mono (show n ≤ n + n2 by omega) hr
          have m2 := parts_mono (show n2 ≤ n + n2 by omega) hr2
          exact ⟨n + n2 + 1, r2, by rw [partsM, hc]; simp only; rw [if_neg h1, if_neg h2, if_pos h3, m1]; exact m2⟩
      · obtain ⟨n, r, hr⟩ := ihp ends d (i + 1) (addM out (.lit [c])) (by omega) (by omega)
        exact ⟨n + 1, r, by rw [partsM, hc]; simp only; rw [if_neg h1, if_neg h2, if_neg h3]; exact hr⟩

/-- each text is a template, or is not -/
theorem parse_total (t : List UInt8) (gr : Int) : ∃ n r, partsM t gr n [] 1 0 [] = some r := (model_total t gr (t.length + 1)).1 _ _ _ _ (Nat.zero_le _) (by omega)

end Go.Tpl

namespace Go.Tpl
open Go Go.Am Go.Proofs

-- ---------------------------------------------------------------- of two texts, one behind the other

theorem get_left {a b : List UInt8} {i : Nat} (h : i < a.length) : (a ++ b)[i]? = a[i]? := List.getElem?_append_left h
theorem get_right (a b : List UInt8) (i : Nat) : (a ++ b)[a.length + i]? = b[i]? := by
  rw [List.getElem?_append_right (by omega)]
  congr 1
  omega

theorem stands_left {a b p : List UInt8} {i : Nat} (h : i + p.length ≤ a.length) : stands (a ++ b) i p = stands a i p := by
  have h1 : (a ++ b).drop i = a.drop i ++ b := List.drop_append_of_le_length (by omega)
  have h2 : (a.drop i ++ b).take p.length = (a.drop i).take p.length := List.take_append_of_le_length (by simp; omega)
  simp only [stands, h1, h2, List.length_append, List.length_drop]
  rw [decide_eq_true (show p.length ≤ a.length - i + b.length by omega), decide_eq_true (show p.length ≤ a.length - i by omega)]

theorem stands_right (a b p : List UInt8) (i : Nat) : stands (a ++ b) (a.length + i) p = stands b i p := by
  have h1 : (a ++ b).drop (a.length + i) = b.drop i := by rw [← List.drop_drop]; simp
  simp only [stands, h1]

theorem stands_app {a b p : List UInt8} {i : Nat} (hp : p ≠ []) (h : stands a i p = true) : stands (a ++ b) i p = true := by
  rw [stands_left (stands_lt hp h)]; exact h

theorem take_head {t r : List UInt8} {i n : Nat} {c : UInt8} (h : (t.drop i).take n = c :: r) : t[i]? = some c := by
  have h2 := congrArg (fun l => l[0]?) h
  simp only [List.getElem?_take, List.getElem?_drop, List.getElem?_cons_zero, Nat.add_zero] at h2
  split at h2
  · exact h2
  · cases h2

theorem stands_one {t : List UInt8} {i : Nat} {c : UInt8} : stands t i [c] = true ↔ t[i]? = some c := by
  constructor
  · intro h
    simp only [stands, Bool.and_eq_true, beq_iff_eq] at h
    exact take_head h.2
  · intro h
    have hl := lt_of_getElem? h
    rw [List.getElem?_eq_getElem hl] at h
    have h := Option.some.inj h
    have e : (t.drop i).take [c].length = [c] := by
      rw [List.drop_eq_getElem_cons hl, List.length_singleton, List.take_succ_cons, List.take_zero, h]
    unfold stands
    rw [e, beq_self_eq_true, Bool.and_true, decide_eq_true_eq, List.length_drop, List.length_singleton]
    omega

theorem stands_two {t : List UInt8} {i : Nat} {c e : UInt8} (h : stands t i [c, e] = true) : t[i]? = some c := by
  simp only [stands, Bool.and_eq_true, beq_iff_eq] at h
  exact take_head h.2

def noDig (b : List UInt8) : Prop := ∀ c, b[0]? = some c → isDig c = false

theorem numM_left {a b : List UInt8} (hb : noDig b) : ∀ (k i n : Nat), i ≤ a.length → numM (a ++ b) k i n = numM a k i n
  | 0, i, n, _ => rfl
  | k + 1, i, n, hi => by
    simp only [numM]
    by_cases h : i < a.length
    · rw [get_left h]
      cases hc : a[i]? with
      | none => rfl
      | some c =>
        simp only
        split
        · exact numM_left hb k (i + 1) _ (by omega)
        · rfl
    · have hie : i = a.length + 0 := by omega
      have h1 : a[i]? = none := by simp; omega
      rw [h1, hie, get_right]
      cases hc : b[0]? with
      | none => rfl
      | some c =>
        simp only [hb c hc, Bool.false_eq_true, if_false]

theorem numM_right (a b : List UInt8) : ∀ (k i n : Nat), numM (a ++ b) k (a.length + i) n = ((numM b k i n).1, a.length + (numM b k i n).2)
  | 0, i, n => rfl
  | k + 1, i, n => by
    simp only [numM, get_right]
    cases hc : b[i]? with
    | none => rfl
    | some c =>
      simp only
      split
      · exact numM_right a b k (i + 1) _
      · rfl

/-- what ends within the first text is so with any text behind it -/
theorem model_left {a b : List UInt8} (gr : Int) (hb : noDig b) : ∀ n, (∀ ends d i out l j, partsM a gr n ends d i out = some (.ok (l, j)) → j < a.length → partsM (a ++ b) gr n ends d i out = some (.ok (l, j))) ∧
    (∀ x d i p j, dollarM a gr n x d i = some (.ok (p, j)) → i ≤ a.length → dollarM (a ++ b) gr n x d i = some (.ok (p, j))) := by
  intro n
  induction n with
  | zero =>
    constructor
    · intro ends d i out l j h; simp [partsM] at h
    · intro a d i p j h; simp [dollarM] at h
  | succ n ih =>
    obtain ⟨ihp, ihd⟩ := ih
    constructor
    · intro ends d i out l j h hj
      have hij := (model_ge a gr (n + 1)).1 _ _ _ _ _ _ h
      rw [partsM] at h ⊢
      rw [get_left (show i < a.length by omega)]
      cases hc : a[i]? with
      | none => simp only [hc] at h ⊢; exact h
      | some c =>
        simp only [hc] at h ⊢
        by_cases h1 : c ∈ ends
        · rw [if_pos h1] at h ⊢; exact h
        rw [if_neg h1] at h ⊢
        by_cases h2 : c.toNat = 92
        · rw [if_pos h2] at h ⊢
          cases he : a[i + 1]? with
          | none => simp [he] at h
          | some e =>
            rw [get_left (lt_of_getElem? he)]
            simp only [he] at h ⊢
            exact ihp _ _ _ _ _ _ h hj
        rw [if_neg h2] at h ⊢
        by_cases h3 : c.toNat = 36
        · rw [if_pos h3] at h ⊢
          cases hd : dollarM a gr n i d (i + 1) with
          | none => simp [hd] at h
          | some x =>
            cases x with
            | error e => simp [hd] at h
            | ok y =>
              obtain ⟨p, k⟩ := y
              rw [ihd _ _ _ _ _ hd (by omega)]
              simp only [hd] at h ⊢
              exact ihp _ _ _ _ _ _ h hj
        · rw [if_neg h3] at h ⊢; exact ihp _ _ _ _ _ _ h hj
    · intro x d i p j h hi
      have hw := (model_wt a gr (n + 1)).2 _ _ _ _ _ h hi
      rw [dollarM] at h ⊢
      have hil : i < a.length := by omega
      have e1 : stands (a ++ b) i [36] = stands a i [36] := stands_left (by simp; omega)
      have e2 : stands (a ++ b) i [123] = stands a i [123] := stands_left (by simp; omega)
      rw [e1, e2]
      by_cases h1 : stands a i [36] = true
      · rw [if_pos h1] at h ⊢; exact h
      rw [if_neg h1] at h ⊢
      rw [numM_left hb 2 i 0 hi, numM_left hb 3 (i + 1) 0 (by omega)]
      by_cases h2 : stands a i [123] = false
      · rw [if_pos h2] at h ⊢; exact h
      rw [if_neg h2] at h ⊢
      by_cases h3 : ¬ (i + 1 < (numM a 3 (i + 1) 0).2 ∧ ((numM a 3 (i + 1) 0).1 : Int) ≤ gr)
      · rw [if_pos h3] at h; cases h
      rw [if_neg h3] at h ⊢
      by_cases h4 : stands a (numM a 3 (i + 1) 0).2 [58, 45] = true
      · rw [if_pos (stands_app (by simp) h4)]
        rw [if_pos h4] at h
        by_cases h5 : d < 10
        · rw [if_pos h5] at h ⊢
          cases hp : partsM a gr n [125] (d + 1) ((numM a 3 (i + 1) 0).2 + 2) [] with
          | none => simp [hp] at h
          | some y =>
            cases y with
            | error e => simp [hp] at h
            | ok z =>
              obtain ⟨no, k⟩ := z
              simp only [hp] at h
              obtain ⟨rfl, rfl, hs⟩ := closeM_ok h
              have hk := stands_lt (by simp) hs
              simp only [List.length_singleton] at hk
              rw [ihp _ _ _ _ _ _ hp (by omega)]
              simp only [closeM, stands_app (b := b) (by simp) hs, if_true]
        · rw [if_neg h5] at h; cases h
      have hno : stands (a ++ b) (numM a 3 (i + 1) 0).2 [58, 45] ≠ true := by
        intro hs
        by_cases hl : (numM a 3 (i + 1) 0).2 + 2 ≤ a.length
        · rw [stands_left (by simpa using hl)] at hs; exact h4 hs
        · have hlt := numM_le a 3 (i + 1) 0 (by omega)
          rw [if_neg h4] at h
          have h6 : ¬ stands a (numM a 3 (i + 1) 0).2 [58, 43] = true := fun e => by
            have := stands_lt (by simp) e
            simp only [List.length_cons, List.length_nil] at this
            omega
          rw [if_neg h6] at h
          obtain ⟨_, _, hc⟩ := closeM_ok h
          have hk := stands_lt (by simp) hc
          simp only [List.length_singleton] at hk
          have g1 := stands_one.mp hc
          have g2 := stands_two hs
          rw [get_left (by omega), g1] at g2
          cases g2
      rw [if_neg hno]
      rw [if_neg h4] at h
      by_cases h6 : stands a (numM a 3 (i + 1) 0).2 [58, 43] = true
      · rw [if_pos (stands_app (by simp) h6)]
        rw [if_pos h6] at h
        by_cases h5 : d < 10
        · rw [if_pos h5] at h ⊢
          cases hp : partsM a gr n [58, 125] (d + 1) ((numM a 3 (i + 1) 0).2 + 2) [] with
          | none => simp [hp] at h
          | some y =>
            cases y with
            | error e => simp [hp] at h
            | ok z =>
              obtain ⟨yes, k⟩ := z
              simp only [hp] at h
              by_cases h7 : stands a k [58] = true
              · rw [if_pos h7] at h
                have hk := stands_lt (by simp) h7
                simp only [List.length_singleton] at hk
                rw [ihp _ _ _ _ _ _ hp (by omega)]
                simp only [stands_app (b := b) (by simp) h7, if_true]
                cases hp2 : partsM a gr n [125] (d + 1) (k + 1) [] with
                | none => simp [hp2] at h
                | some y2 =>
                  cases y2 with
                  | error e => simp [hp2] at h
                  | ok z2 =>
                    obtain ⟨no, k2⟩ := z2
                    simp only [hp2] at h
                    obtain ⟨rfl, rfl, hs⟩ := closeM_ok h
                    have hk2 := stands_lt (by simp) hs
                    simp only [List.length_singleton] at hk2
                    rw [ihp _ _ _ _ _ _ hp2 (by omega)]
                    simp only [closeM, stands_app (b := b) (by simp) hs, if_true]
              · rw [if_neg h7] at h; cases h
        · rw [if_neg h5] at h; cases h
      rw [if_neg h6] at h
      obtain ⟨rfl, rfl, hs⟩ := closeM_ok h
      have hk := stands_lt (by simp) hs
      simp only [List.length_singleton] at hk
      have hno2 : stands (a ++ b) (numM a 3 (i + 1) 0).2 [58, 43] ≠ true := by
        intro e
        have g1 := stands_one.mp hs
        have g2 := stands_two e
        rw [get_left (by omega), g1] at g2
        cases g2
      rw [if_neg hno2]
      simp only [closeM, stands_app (b := b) (by simp) hs, if_true]

end Go.Tpl

namespace Go.Tpl
open Go Go.Am Go.Proofs

/-- an answer further on -/
def shP (k : Nat) : PRes → PRes
  | .ok (l, j) => .ok (l, k + j)
  | .error a => .error (k + a)
def shD (k : Nat) : DRes → DRes
  | .ok (p, j) => .ok (p, k + j)
  | .error a => .error (k + a)

theorem closeM_right (a b : List UInt8) (x k : Nat) (p : Tp) : closeM (a ++ b) (a.length + x) p (a.length + k) = (closeM b x p k).map (shD a.length) := by
  simp only [closeM, stands_right]
  split <;> rfl

theorem model_right (a b : List UInt8) (gr : Int) : ∀ n, (∀ ends d i out, partsM (a ++ b) gr n ends d (a.length + i) out = (partsM b gr n ends d i out).map (shP a.length)) ∧
    (∀ x d i, dollarM (a ++ b) gr n (a.length + x) d (a.length + i) = (dollarM b gr n x d i).map (shD a.length)) := by
  intro n
  induction n with
  | zero => exact ⟨fun ends d i out => by simp [partsM], fun x d i => by simp [dollarM]⟩
  | succ n ih =>
    obtain ⟨ihp, ihd⟩ := ih
    constructor
    · intro ends d i out
      rw [partsM, partsM, get_right]
      cases hc : b[i]? with
      | none => rfl
      | some c =>
        simp only
        by_cases h1 : c ∈ ends
        · rw [if_pos h1, if_pos h1]; rfl
        rw [if_neg h1, if_neg h1]
        by_cases h2 : c.toNat = 92
        · rw [if_pos h2, if_pos h2, Nat.add_assoc, get_right]
          cases he : b[i + 1]? with
          | none => rfl
          | some e =>
            simp only
            rw [Nat.add_assoc]
            exact ihp _ _ _ _
        rw [if_neg h2, if_neg h2]
        by_cases h3 : c.toNat = 36
        · rw [if_pos h3, if_pos h3, Nat.add_assoc, ihd]
          cases hd : dollarM b gr n i d (i + 1) with
          | none => rfl
          | some r =>
            cases r with
            | error e => rfl
            | ok y =>
              obtain ⟨p, k⟩ := y
              simp only [Option.map_some, shD]
              exact ihp _ _ _ _
        · rw [if_neg h3, if_neg h3, Nat.add_assoc]; exact ihp _ _ _ _
    · intro x d i
      rw [dollarM, dollarM, stands_right, stands_right, numM_right, Nat.add_assoc, numM_right]
      simp only
      by_cases h1 : stands b i [36] = true
      · rw [if_pos h1, if_pos h1]; rfl
      rw [if_neg h1, if_neg h1]
      by_cases h2 : stands b i [123] = false
      · rw [if_pos h2, if_pos h2]
        by_cases h3 : i < (numM b 2 i 0).2 ∧ ((numM b 2 i 0).1 : Int) ≤ gr
        · rw [if_pos h3, if_pos ⟨by omega, h3.2⟩]; rfl
        · rw [if_neg h3, if_neg (fun e => h3 ⟨by omega, e.2⟩)]; rfl
      rw [if_neg h2, if_neg h2]
      by_cases h3 : i + 1 < (numM b 3 (i + 1) 0).2 ∧ ((numM b 3 (i + 1) 0).1 : Int) ≤ gr
      · have c1 : ¬ ¬ (a.length + (i + 1) < a.length + (numM b 3 (i + 1) 0).2 ∧ ((numM b 3 (i + 1) 0).1 : Int) ≤ gr) := fun e => e ⟨by omega, h3.2⟩
        have c2 : ¬ ¬ (i + 1 < (numM b 3 (i + 1) 0).2 ∧ ((numM b 3 (i + 1) 0).1 : Int) ≤ gr) := fun e => e h3
        rw [if_neg c1, if_neg c2, stands_right, stands_right]
        by_cases h4 : stands b (numM b 3 (i + 1) 0).2 [58, 45] = true
        · rw [if_pos h4, if_pos h4]
          by_cases h5 : d < 10
          · rw [if_pos h5, if_pos h5, Nat.add_assoc, ihp]
            cases hp : partsM b gr n [125] (d + 1) ((numM b 3 (i + 1) 0).2 + 2) [] with
            | none => rfl
            | some r =>
              cases r with
              | error e => rfl
              | ok y =>
                obtain ⟨no, k⟩ := y
                simp only [Option.map_some, shP]
                exact closeM_right ..
          · rw [if_neg h5, if_neg h5]; rfl
        rw [if_neg h4, if_neg h4]
        by_cases h6 : stands b (numM b 3 (i + 1) 0).2 [58, 43] = true
        · rw [if_pos h6, if_pos h6]
          by_cases h5 : d < 10
          · rw [if_pos h5, if_pos h5, Nat.add_assoc, ihp]
            cases hp : partsM b gr n [58, 125] (d + 1) ((numM b 3 (i + 1) 0).2 + 2) [] with
            | none => rfl
            | some r =>
              cases r with
              | error e => rfl
              | ok y =>
                obtain ⟨yes, k⟩ := y
                simp only [Option.map_some, shP]
                rw [stands_right]
                by_cases h7 : stands b k [58] = true
                · rw [if_pos h7, if_pos h7, Nat.add_assoc, ihp]
                  cases hp2 : partsM b gr n [125] (d + 1) (k + 1) [] with
                  | none => rfl
                  | some r2 =>
                    cases r2 with
                    | error e => rfl
                    | ok y2 =>
                      obtain ⟨no, k2⟩ := y2
                      simp only [Option.map_some, shP]
                      exact closeM_right ..
                · rw [if_neg h7, if_neg h7]; rfl
          · rw [if_neg h5, if_neg h5]; rfl
        rw [if_neg h6, if_neg h6]
        exact closeM_right ..
      · have c1 : ¬ (a.length + (i + 1) < a.length + (numM b 3 (i + 1) 0).2 ∧ ((numM b 3 (i + 1) 0).1 : Int) ≤ gr) := fun e => h3 ⟨by omega, e.2⟩
        rw [if_pos c1, if_pos h3]; rfl

/-- what is gathered already says nothing on what follows -/
theorem model_acc (t : List UInt8) (gr : Int) (ends : List UInt8) (d : Nat) : ∀ n i o1 o2 l1 j, partsM t gr n ends d i o1 = some (.ok (l1, j)) → ∃ l2, partsM t gr n ends d i o2 = some (.ok (l2, j)) ∧
    ∀ subj spans, ∃ e, expL subj spans l1 = expL subj spans o1 ++ e ∧ expL subj spans l2 = expL subj spans o2 ++ e := by
  intro n
  induction n with
  | zero => intro i o1 o2 l1 j h; simp [partsM] at h
  | succ n ih =>
    intro i o1 o2 l1 j h
    have step : ∀ (p : Tp) i', partsM t gr n ends d i' (addM o1 p) = some (.ok (l1, j)) → ∃ l2, partsM t gr n ends d i' (addM o2 p) = some (.ok (l2, j)) ∧ ∀ subj spans, ∃ e, expL subj spans l1 = expL subj spans o1 ++ e ∧ expL subj spans l2 = expL subj spans o2 ++ e := by
      intro p i' hp
      obtain ⟨l2, h2, he⟩ := ih i' _ (addM o2 p) _ _ hp
      refine ⟨l2, h2, fun subj spans => ?_⟩
      obtain ⟨e, e1, e2⟩ := he subj spans
      refine ⟨expT subj spans p ++ e, ?_, ?_⟩
      · rw [e1, expL_add, List.append_assoc]
      · rw [e2, expL_add, List.append_assoc]
    rw [partsM] at h
    rw [partsM]
    cases hc : t[i]? with
    | none =>
      simp only [hc] at h ⊢
      cases h
      exact ⟨o2, rfl, fun _ _ => ⟨[], by simp, by simp⟩⟩
    | some c =>
      simp only [hc] at h ⊢
      by_cases h1 : c ∈ ends
      · rw [if_pos h1] at h ⊢
        cases h
        exact ⟨o2, rfl, fun _ _ => ⟨[], by simp, by simp⟩⟩
      rw [if_neg h1] at h ⊢
      by_cases h2 : c.toNat = 92
      · rw [if_pos h2] at h ⊢
        cases he : t[i + 1]? with
        | none => simp [he] at h
        | some e => simp only [he] at h ⊢; exact step _ _ h
      rw [if_neg h2] at h ⊢
      by_cases h3 : c.toNat = 36
      · rw [if_pos h3] at h ⊢
        cases hd : dollarM t gr n i d (i + 1) with
        | none => simp [hd] at h
        | some r =>
          cases r with
          | error e => simp [hd] at h
          | ok y =>
            obtain ⟨p, k⟩ := y
            simp only [hd] at h ⊢
            exact step _ _ h
      · rw [if_neg h3] at h ⊢; exact step _ _ h

/-- a run that gets through the first text goes on behind it -/
theorem model_through {a b : List UInt8} (gr : Int) (hb : noDig b) (d : Nat) : ∀ n i out x j, partsM a gr n [] d i out = some (.ok (x, j)) → i ≤ a.length → ∀ n' r, partsM (a ++ b) gr n' [] d a.length x = some r → ∃ n'', partsM (a ++ b) gr n'' [] d i out = some r := by
  intro n
  induction n with
  | zero => intro i out x j h; simp [partsM] at h
  | succ n ih =>
    intro i out x j h hi n' r hr
    rw [partsM] at h
    cases hc : a[i]? with
    | none =>
      simp only [hc] at h
      cases h
      have : a.length ≤ i := by simpa using hc
      have e : i = a.length := by omega
      subst e
      exact ⟨n', hr⟩
    | some c =>
      have hlt := lt_of_getElem? hc
      simp only [hc, List.not_mem_nil, if_false] at h
      by_cases h2 : c.toNat = 92
      · rw [if_pos h2] at h
        cases he : a[i + 1]? with
        | none => simp [he] at h
        | some e =>
          have hlt2 := lt_of_getElem? he
          simp only [he] at h
          obtain ⟨m, hm⟩ := ih _ _ _ _ h (by omega) n' r hr
          refine ⟨m + 1, ?_⟩
          rw [partsM, get_left hlt, hc]
          simp only [List.not_mem_nil, if_false]
          rw [if_pos h2, get_left hlt2, he]
          exact hm
      rw [if_neg h2] at h
      by_cases h3 : c.toNat = 36
      · rw [if_pos h3] at h
        cases hd : dollarM a gr n i d (i + 1) with
        | none => simp [hd] at h
        | some q =>
          cases q with
          | error e => simp [hd] at h
          | ok y =>
            obtain ⟨p, k⟩ := y
            simp only [hd] at h
            have hk := (model_wt a gr n).2 _ _ _ _ _ hd (by omega)
            have hd2 := (model_left gr hb n).2 _ _ _ _ _ hd (by omega)
            obtain ⟨m, hm⟩ := ih _ _ _ _ h (by omega) n' r hr
            refine ⟨n + m + 1, ?_⟩
            rw [partsM, get_left hlt, hc]
            simp only [List.not_mem_nil, if_false]
            rw [if_neg h2, if_pos h3, dollar_mono (show n ≤ n + m by omega) hd2]
            exact parts_mono (show m ≤ n + m by omega) hm
      · rw [if_neg h3] at h
        obtain ⟨m, hm⟩ := ih _ _ _ _ h (by omega) n' r hr
        refine ⟨m + 1, ?_⟩
        rw [partsM, get_left hlt, hc]
        simp only [List.not_mem_nil, if_false]
        rw [if_neg h2, if_neg h3]
        exact hm

/-- of two templates, one behind the other, the expansion is that of both -/
theorem model_joins {a b : List UInt8} (gr : Int) (hb : noDig b) {n1 n2 : Nat} {x y : List Tp} {j1 j2 : Nat} (h1 : partsM a gr n1 [] 1 0 [] = some (.ok (x, j1))) (h2 : partsM b gr n2 [] 1 0 [] = some (.ok (y, j2))) :
    ∃ n z j, partsM (a ++ b) gr n [] 1 0 [] = some (.ok (z, j)) ∧ ∀ subj spans, expL subj spans z = expL subj spans x ++ expL subj spans y := by
  obtain ⟨z, hz, he⟩ := model_acc b gr [] 1 n2 0 [] x y j2 h2
  have hr := (model_right a b gr n2).1 [] 1 0 x
  rw [hz] at hr
  obtain ⟨n, hn⟩ := model_through gr hb 1 n1 0 [] x j1 h1 (Nat.zero_le _) n2 _ hr
  refine ⟨n, z, _, hn, fun subj spans => ?_⟩
  obtain ⟨e, e1, e2⟩ := he subj spans
  rw [e2, e1]
  simp [expL]

end Go.Tpl

namespace Go.Tpl
open Go Go.Am Go.Proofs

theorem fin_eq' {x : Option (Out × Sg)} {a : Out} {c : Sg} (h : OkF x fun o s' => o = a ∧ s' = c) : x = some (a, c) := by
  obtain ⟨o, s', h1, rfl, rfl⟩ := h.ok
  exact h1

/-- a template of a text that isn't long expands -/
theorem expand_of {t : List UInt8} {gr : Int} {n : Nat} {x : List Tp} {j : Nat} (h : partsM t gr n [] 1 0 [] = some (.ok (x, j))) (ht : t.length ≤ 1000) (subj : List UInt8) (spans : List (Int × Int)) (hs : subj.length ≤ 200) :
    (expL subj spans x).length ≤ 201 * 2000 ∧ ∃ N, ∀ m, N ≤ m → ∀ b s a0 a1 a2, a0.weak = .vec (avs x) .shut → a1.weak = .vec (Am.byteCells subj) .shut → a2.weak = .vec (spAV spans) .shut →
      callF T m b 9 [a0, a1, a2] s = some (.ret (.vec (Am.byteCells (expL subj spans x)) .shut), s) := by
  have hw := ((model_wt t gr n).1 _ _ _ _ _ _ h (Nat.zero_le _))
  simp only [wtL] at hw
  have hle := expL_len subj spans x
  have hm : (subj.length + 1) * wtL x ≤ 201 * 2000 := Nat.mul_le_mul (by omega) (by omega)
  have hln := len_wt x
  obtain ⟨N, hN⟩ := expand_spec subj spans (by omega) x (by omega) (fineL_wt x (by omega))
  exact ⟨by omega, N, fun m hm b s a0 a1 a2 h0 h1 h2 => hN (by omega) m hm b s a0 a1 a2 h0 h1 h2⟩

/-- a part of function 4 -/
def reg4 : ACode := .region [⟨(some 26), .v (.move (.tmp 0)), none⟩, ⟨(some 27), .v (.len 1 (.tmp 26)), none⟩, ⟨(some 28), .v (.bin .gtr (.tmp 27) (.const (.int .i64 500))), none⟩, ⟨(some 29), .v (.move (.tmp 28)), none⟩, ⟨(some 30), .v (.move (.tmp 1)), (some (29, false))⟩, ⟨(some 31), .v (.len 1 (.tmp 30)), (some (29, false))⟩, ⟨(some 32), .v (.bin .gtr (.tmp 31) (.const (.int .i64 500))), (some (29, false))⟩, ⟨(some 33), .v (.pick (.tmp 29) (.const (.bool true)) (.tmp 32)), none⟩, ⟨(some 34), .v (.move (.tmp 33)), none⟩, ⟨(some 35), .v (.move (.tmp 3)), (some (34, false))⟩, ⟨(some 36), .v (.len 1 (.tmp 35)), (some (34, false))⟩, ⟨(some 37), .v (.bin .gtr (.tmp 36) (.const (.int .i64 200))), (some (34, false))⟩, ⟨(some 38), .v (.pick (.tmp 34) (.const (.bool true)) (.tmp 37)), none⟩, ⟨(some 39), .v (.move (.tmp 38)), none⟩, ⟨(some 40), .v (.move (.tmp 1)), (some (39, false))⟩, ⟨(some 41), .v (.len 1 (.tmp 40)), (some (39, false))⟩, ⟨(some 42), .v (.bin .gtr (.tmp 41) (.const (.int .i64 0))), (some (39, false))⟩, ⟨(some 43), .v (.move (.tmp 42)), (some (39, false))⟩, ⟨(some 44), .v (.move (.tmp 1)), (some (43, true))⟩, ⟨(some 45), .v (.indexAddrS none (.tmp 44) (.const (.int .i64 0))), (some (43, true))⟩, ⟨(some 46), .v (.load none (.tmp 45)), (some (43, true))⟩, ⟨(some 47), .v (.bin .geq (.tmp 46) (.const (.int .u8 48))), (some (43, true))⟩, ⟨(some 48), .v (.pick (.tmp 43) (.tmp 47) (.const (.bool false))), (some (39, false))⟩, ⟨(some 49), .v (.move (.tmp 48)), (some (39, false))⟩, ⟨(some 50), .v (.move (.tmp 1)), (some (49, true))⟩, ⟨(some 51), .v (.indexAddrS none (.tmp 50) (.const (.int .i64 0))), (some (49, true))⟩, ⟨(some 52), .v (.load none (.tmp 51)), (some (49, true))⟩, ⟨(some 53), .v (.bin .leq (.tmp 52) (.const (.int .u8 57))), (some (49, true))⟩, ⟨(some 54), .v (.pick (.tmp 49) (.tmp 53) (.const (.bool false))), (some (39, false))⟩, ⟨(some 55), .v (.pick (.tmp 39) (.const (.bool true)) (.tmp 54)), none⟩] [55]

theorem reg4_false {lp : (Fr → Sg → Ran) → Fr → Sg → Ran} {call : CallFn} {bb : Bar} {s : Sg} {a b subj : List UInt8} {gr : Int} {x4 : AV} (h1 : a.length ≤ 500) (h2 : b.length ≤ 500) (h3 : subj.length ≤ 200) (hnd : noDig b) {Q : Ex → Fr → Sg → Prop}
    (hq : Q .normal ⟨[(0, .vec (Am.byteCells a) .shut), (1, .vec (Am.byteCells b) .shut), (2, .int .i64 gr), (3, .vec (Am.byteCells subj) .shut), (4, x4), (10, .bool false), (11, .bool true), (25, .bool false), (55, .bool false), (13, .undef), (16, .undef), (75, .undef), (18, .undef), (12, .undef), (15, .undef), (20, .undef), (19, .undef), (22, .undef)], [], .off⟩ s) :
    OkC lp call bb reg4 ⟨[(0, .vec (Am.byteCells a) .shut), (1, .vec (Am.byteCells b) .shut), (2, .int .i64 gr), (3, .vec (Am.byteCells subj) .shut), (4, x4), (10, .bool false), (11, .bool true), (25, .bool false), (55, .undef), (13, .undef), (16, .undef), (75, .undef), (18, .undef), (12, .undef), (15, .undef), (20, .undef), (19, .undef), (22, .undef)], [], .off⟩ s Q := by
  have hba := Am.byteCells_length a
  have hbb := Am.byteCells_length b
  have hbs := Am.byteCells_length subj
  cases hc : b[0]? with
  | none =>
    have : b.length ≤ 0 := by simpa using hc
    ((repeat refine c_seq ?_); refine c_region ?_; (repeat (first | ((first | apply o_move rfl rfl | apply o_easy1 rfl rfl rfl | apply o_ld rfl rfl (by assumption) (by first | rfl | assumption)); conv => lhs; whnf) | refine o_no rfl ?_ | refine o_add rfl rfl rfl (by omega) (by omega) ?_ | refine o_sub rfl rfl rfl (by omega) (by omega) ?_ | refine o_mul rfl rfl rfl (by omega) (by omega) ?_ | refine o_sadd rfl rfl rfl (by omega) ?_ | refine o_seql_t rfl rfl rfl (by assumption) ?_ | refine o_seql_f rfl rfl rfl (by assumption) ?_ | refine o_ct rfl rfl rfl (by dsimp only [cmpP]; omega) ?_ | refine o_cf rfl rfl rfl (by dsimp only [cmpN]; omega) ?_ | (apply o_easy rfl rfl rfl; conv => lhs; whnf) | refine o_non rfl ?_)); apply o_end; (repeat (first | exact OutS.nil | exact GetS.hit | exact PutS.hit | apply GetS.miss rfl | apply PutS.miss rfl | apply OutS.cons | apply OutS.skip rfl)))
    exact hq
  | some c =>
    have hpos := lt_of_getElem? hc
    have hd := hnd c hc
    by_cases hlo : c.toNat < 48
    · ((repeat refine c_seq ?_); refine c_region ?_; (repeat (first | ((first | apply o_move rfl rfl | apply o_easy1 rfl rfl rfl | apply o_ld rfl rfl (by assumption) (by first | rfl | assumption)); conv => lhs; whnf) | refine o_no rfl ?_ | refine o_add rfl rfl rfl (by omega) (by omega) ?_ | refine o_sub rfl rfl rfl (by omega) (by omega) ?_ | refine o_mul rfl rfl rfl (by omega) (by omega) ?_ | refine o_sadd rfl rfl rfl (by omega) ?_ | refine o_seql_t rfl rfl rfl (by assumption) ?_ | refine o_seql_f rfl rfl rfl (by assumption) ?_ | refine o_ct rfl rfl rfl (by dsimp only [cmpP]; omega) ?_ | refine o_cf rfl rfl rfl (by dsimp only [cmpN]; omega) ?_ | (apply o_easy rfl rfl rfl; conv => lhs; whnf) | refine o_non rfl ?_)))
      refine o_ixvec (j := 0) rfl rfl rfl rfl (bc_get hc) rfl ?_
      (repeat (first | ((first | apply o_move rfl rfl | apply o_easy1 rfl rfl rfl | apply o_ld rfl rfl (by assumption) (by first | rfl | assumption)); conv => lhs; whnf) | refine o_no rfl ?_ | refine o_add rfl rfl rfl (by omega) (by omega) ?_ | refine o_sub rfl rfl rfl (by omega) (by omega) ?_ | refine o_mul rfl rfl rfl (by omega) (by omega) ?_ | refine o_sadd rfl rfl rfl (by omega) ?_ | refine o_seql_t rfl rfl rfl (by assumption) ?_ | refine o_seql_f rfl rfl rfl (by assumption) ?_ | refine o_ct rfl rfl rfl (by dsimp only [cmpP]; omega) ?_ | refine o_cf rfl rfl rfl (by dsimp only [cmpN]; omega) ?_ | (apply o_easy rfl rfl rfl; conv => lhs; whnf) | refine o_non rfl ?_))
      (apply o_end; (repeat (first | exact OutS.nil | exact GetS.hit | exact PutS.hit | apply GetS.miss rfl | apply PutS.miss rfl | apply OutS.cons | apply OutS.skip rfl)))
      exact hq
    · have hhi : 57 < c.toNat := by
        simp only [isDig, Bool.and_eq_false_iff, decide_eq_false_iff_not] at hd
        omega
      ((repeat refine c_seq ?_); refine c_region ?_; (repeat (first | ((first | apply o_move rfl rfl | apply o_easy1 rfl rfl rfl | apply o_ld rfl rfl (by assumption) (by first | rfl | assumption)); conv => lhs; whnf) | refine o_no rfl ?_ | refine o_add rfl rfl rfl (by omega) (by omega) ?_ | refine o_sub rfl rfl rfl (by omega) (by omega) ?_ | refine o_mul rfl rfl rfl (by omega) (by omega) ?_ | refine o_sadd rfl rfl rfl (by omega) ?_ | refine o_seql_t rfl rfl rfl (by assumption) ?_ | refine o_seql_f rfl rfl rfl (by assumption) ?_ | refine o_ct rfl rfl rfl (by dsimp only [cmpP]; omega) ?_ | refine o_cf rfl rfl rfl (by dsimp only [cmpN]; omega) ?_ | (apply o_easy rfl rfl rfl; conv => lhs; whnf) | refine o_non rfl ?_)))
      refine o_ixvec (j := 0) rfl rfl rfl rfl (bc_get hc) rfl ?_
      (repeat (first | ((first | apply o_move rfl rfl | apply o_easy1 rfl rfl rfl | apply o_ld rfl rfl (by assumption) (by first | rfl | assumption)); conv => lhs; whnf) | refine o_no rfl ?_ | refine o_add rfl rfl rfl (by omega) (by omega) ?_ | refine o_sub rfl rfl rfl (by omega) (by omega) ?_ | refine o_mul rfl rfl rfl (by omega) (by omega) ?_ | refine o_sadd rfl rfl rfl (by omega) ?_ | refine o_seql_t rfl rfl rfl (by assumption) ?_ | refine o_seql_f rfl rfl rfl (by assumption) ?_ | refine o_ct rfl rfl rfl (by dsimp only [cmpP]; omega) ?_ | refine o_cf rfl rfl rfl (by dsimp only [cmpN]; omega) ?_ | (apply o_easy rfl rfl rfl; conv => lhs; whnf) | refine o_non rfl ?_))
      refine o_ixvec (j := 0) rfl rfl rfl rfl (bc_get hc) rfl ?_
      (repeat (first | ((first | apply o_move rfl rfl | apply o_easy1 rfl rfl rfl | apply o_ld rfl rfl (by assumption) (by first | rfl | assumption)); conv => lhs; whnf) | refine o_no rfl ?_ | refine o_add rfl rfl rfl (by omega) (by omega) ?_ | refine o_sub rfl rfl rfl (by omega) (by omega) ?_ | refine o_mul rfl rfl rfl (by omega) (by omega) ?_ | refine o_sadd rfl rfl rfl (by omega) ?_ | refine o_seql_t rfl rfl rfl (by assumption) ?_ | refine o_seql_f rfl rfl rfl (by assumption) ?_ | refine o_ct rfl rfl rfl (by dsimp only [cmpP]; omega) ?_ | refine o_cf rfl rfl rfl (by dsimp only [cmpN]; omega) ?_ | (apply o_easy rfl rfl rfl; conv => lhs; whnf) | refine o_non rfl ?_))
      (apply o_end; (repeat (first | exact OutS.nil | exact GetS.hit | exact PutS.hit | apply GetS.miss rfl | apply PutS.miss rfl | apply OutS.cons | apply OutS.skip rfl)))
      exact hq

theorem joins_true (a b subj : List UInt8) (gr : Int) (spans : List (Int × Int)) (ha : a.length ≤ 2 ^ 63 - 1) :
    ∃ n, callF T n bar0 4 [.vec (Am.byteCells a) .shut, .vec (Am.byteCells b) .shut, .int .i64 gr, .vec (Am.byteCells subj) .shut, .vec (spAV spans) .shut] sg0 = some (.ret (.bool true), sg0) := by
  have hba := Am.byteCells_length a
  have hbb := Am.byteCells_length b
  have hbs := Am.byteCells_length subj
  -- the head, up to the first condition
  by_cases h1 : a.length > 500
  · refine ⟨400 + 1, ?_⟩
    (apply f_of rfl rfl; (repeat (first | exact Shape.nil | (apply Shape.cons; conv => lhs; whnf))))
    ((repeat refine c_seq ?_); refine c_region ?_; (repeat (first | ((first | apply o_move rfl rfl | apply o_easy1 rfl rfl rfl | apply o_ld rfl rfl (by assumption) (by first | rfl | assumption)); conv => lhs; whnf) | refine o_no rfl ?_ | refine o_add rfl rfl rfl (by omega) (by omega) ?_ | refine o_sub rfl rfl rfl (by omega) (by omega) ?_ | refine o_mul rfl rfl rfl (by omega) (by omega) ?_ | refine o_sadd rfl rfl rfl (by omega) ?_ | refine o_seql_t rfl rfl rfl (by assumption) ?_ | refine o_seql_f rfl rfl rfl (by assumption) ?_ | refine o_ct rfl rfl rfl (by dsimp only [cmpP]; omega) ?_ | refine o_cf rfl rfl rfl (by dsimp only [cmpN]; omega) ?_ | (apply o_easy rfl rfl rfl; conv => lhs; whnf) | refine o_non rfl ?_)); apply o_end; (repeat (first | exact OutS.nil | exact GetS.hit | exact PutS.hit | apply GetS.miss rfl | apply PutS.miss rfl | apply OutS.cons | apply OutS.skip rfl)))
    ((repeat refine c_seq ?_); refine c_region ?_; (repeat (first | ((first | apply o_move rfl rfl | apply o_easy1 rfl rfl rfl | apply o_ld rfl rfl (by assumption) (by first | rfl | assumption)); conv => lhs; whnf) | refine o_no rfl ?_ | refine o_add rfl rfl rfl (by omega) (by omega) ?_ | refine o_sub rfl rfl rfl (by omega) (by omega) ?_ | refine o_mul rfl rfl rfl (by omega) (by omega) ?_ | refine o_sadd rfl rfl rfl (by omega) ?_ | refine o_seql_t rfl rfl rfl (by assumption) ?_ | refine o_seql_f rfl rfl rfl (by assumption) ?_ | refine o_ct rfl rfl rfl (by dsimp only [cmpP]; omega) ?_ | refine o_cf rfl rfl rfl (by dsimp only [cmpN]; omega) ?_ | (apply o_easy rfl rfl rfl; conv => lhs; whnf) | refine o_non rfl ?_)))
    refine o_call rfl rfl (awake' 400 (Nat.le_refl _)) ?_
    (repeat (first | ((first | apply o_move rfl rfl | apply o_easy1 rfl rfl rfl | apply o_ld rfl rfl (by assumption) (by first | rfl | assumption)); conv => lhs; whnf) | refine o_no rfl ?_ | refine o_add rfl rfl rfl (by omega) (by omega) ?_ | refine o_sub rfl rfl rfl (by omega) (by omega) ?_ | refine o_mul rfl rfl rfl (by omega) (by omega) ?_ | refine o_sadd rfl rfl rfl (by omega) ?_ | refine o_seql_t rfl rfl rfl (by assumption) ?_ | refine o_seql_f rfl rfl rfl (by assumption) ?_ | refine o_ct rfl rfl rfl (by dsimp only [cmpP]; omega) ?_ | refine o_cf rfl rfl rfl (by dsimp only [cmpN]; omega) ?_ | (apply o_easy rfl rfl rfl; conv => lhs; whnf) | refine o_non rfl ?_))
    (apply o_end; (repeat (first | exact OutS.nil | exact GetS.hit | exact PutS.hit | apply GetS.miss rfl | apply PutS.miss rfl | apply OutS.cons | apply OutS.skip rfl)))
    ((repeat refine c_seq ?_); refine c_region ?_; (repeat (first | ((first | apply o_move rfl rfl | apply o_easy1 rfl rfl rfl | apply o_ld rfl rfl (by assumption) (by first | rfl | assumption)); conv => lhs; whnf) | refine o_no rfl ?_ | refine o_add rfl rfl rfl (by omega) (by omega) ?_ | refine o_sub rfl rfl rfl (by omega) (by omega) ?_ | refine o_mul rfl rfl rfl (by omega) (by omega) ?_ | refine o_sadd rfl rfl rfl (by omega) ?_ | refine o_seql_t rfl rfl rfl (by assumption) ?_ | refine o_seql_f rfl rfl rfl (by assumption) ?_ | refine o_ct rfl rfl rfl (by dsimp only [cmpP]; omega) ?_ | refine o_cf rfl rfl rfl (by dsimp only [cmpN]; omega) ?_ | (apply o_easy rfl rfl rfl; conv => lhs; whnf) | refine o_non rfl ?_)); apply o_end; (repeat (first | exact OutS.nil | exact GetS.hit | exact PutS.hit | apply GetS.miss rfl | apply PutS.miss rfl | apply OutS.cons | apply OutS.skip rfl)))
    ((repeat refine c_seq ?_); refine c_else rfl ?_)
    refine c_skip ?_
    ((repeat refine c_seq ?_); refine c_region ?_; (repeat (first | ((first | apply o_move rfl rfl | apply o_easy1 rfl rfl rfl | apply o_ld rfl rfl (by assumption) (by first | rfl | assumption)); conv => lhs; whnf) | refine o_no rfl ?_ | refine o_add rfl rfl rfl (by omega) (by omega) ?_ | refine o_sub rfl rfl rfl (by omega) (by omega) ?_ | refine o_mul rfl rfl rfl (by omega) (by omega) ?_ | refine o_sadd rfl rfl rfl (by omega) ?_ | refine o_seql_t rfl rfl rfl (by assumption) ?_ | refine o_seql_f rfl rfl rfl (by assumption) ?_ | refine o_ct rfl rfl rfl (by dsimp only [cmpP]; omega) ?_ | refine o_cf rfl rfl rfl (by dsimp only [cmpN]; omega) ?_ | (apply o_easy rfl rfl rfl; conv => lhs; whnf) | refine o_non rfl ?_)); apply o_end; (repeat (first | exact OutS.nil | exact GetS.hit | exact PutS.hit | apply GetS.miss rfl | apply PutS.miss rfl | apply OutS.cons | apply OutS.skip rfl)))
    ((repeat refine c_seq ?_); refine c_if rfl ?_)
    ((repeat refine c_seq ?_); refine c_region ?_; (repeat (first | ((first | apply o_move rfl rfl | apply o_easy1 rfl rfl rfl | apply o_ld rfl rfl (by assumption) (by first | rfl | assumption)); conv => lhs; whnf) | refine o_no rfl ?_ | refine o_add rfl rfl rfl (by omega) (by omega) ?_ | refine o_sub rfl rfl rfl (by omega) (by omega) ?_ | refine o_mul rfl rfl rfl (by omega) (by omega) ?_ | refine o_sadd rfl rfl rfl (by omega) ?_ | refine o_seql_t rfl rfl rfl (by assumption) ?_ | refine o_seql_f rfl rfl rfl (by assumption) ?_ | refine o_ct rfl rfl rfl (by dsimp only [cmpP]; omega) ?_ | refine o_cf rfl rfl rfl (by dsimp only [cmpN]; omega) ?_ | (apply o_easy rfl rfl rfl; conv => lhs; whnf) | refine o_non rfl ?_)); apply o_end; (repeat (first | exact OutS.nil | exact GetS.hit | exact PutS.hit | apply GetS.miss rfl | apply PutS.miss rfl | apply OutS.cons | apply OutS.skip rfl)))
    exact c_ret rfl
  by_cases h2 : b.length > 500
  · refine ⟨400 + 1, ?_⟩
    (apply f_of rfl rfl; (repeat (first | exact Shape.nil | (apply Shape.cons; conv => lhs; whnf))))
    ((repeat refine c_seq ?_); refine c_region ?_; (repeat (first | ((first | apply o_move rfl rfl | apply o_easy1 rfl rfl rfl | apply o_ld rfl rfl (by assumption) (by first | rfl | assumption)); conv => lhs; whnf) | refine o_no rfl ?_ | refine o_add rfl rfl rfl (by omega) (by omega) ?_ | refine o_sub rfl rfl rfl (by omega) (by omega) ?_ | refine o_mul rfl rfl rfl (by omega) (by omega) ?_ | refine o_sadd rfl rfl rfl (by omega) ?_ | refine o_seql_t rfl rfl rfl (by assumption) ?_ | refine o_seql_f rfl rfl rfl (by assumption) ?_ | refine o_ct rfl rfl rfl (by dsimp only [cmpP]; omega) ?_ | refine o_cf rfl rfl rfl (by dsimp only [cmpN]; omega) ?_ | (apply o_easy rfl rfl rfl; conv => lhs; whnf) | refine o_non rfl ?_)); apply o_end; (repeat (first | exact OutS.nil | exact GetS.hit | exact PutS.hit | apply GetS.miss rfl | apply PutS.miss rfl | apply OutS.cons | apply OutS.skip rfl)))
    ((repeat refine c_seq ?_); refine c_region ?_; (repeat (first | ((first | apply o_move rfl rfl | apply o_easy1 rfl rfl rfl | apply o_ld rfl rfl (by assumption) (by first | rfl | assumption)); conv => lhs; whnf) | refine o_no rfl ?_ | refine o_add rfl rfl rfl (by omega) (by omega) ?_ | refine o_sub rfl rfl rfl (by omega) (by omega) ?_ | refine o_mul rfl rfl rfl (by omega) (by omega) ?_ | refine o_sadd rfl rfl rfl (by omega) ?_ | refine o_seql_t rfl rfl rfl (by assumption) ?_ | refine o_seql_f rfl rfl rfl (by assumption) ?_ | refine o_ct rfl rfl rfl (by dsimp only [cmpP]; omega) ?_ | refine o_cf rfl rfl rfl (by dsimp only [cmpN]; omega) ?_ | (apply o_easy rfl rfl rfl; conv => lhs; whnf) | refine o_non rfl ?_)))
    refine o_call rfl rfl (awake' 400 (Nat.le_refl _)) ?_
    (repeat (first | ((first | apply o_move rfl rfl | apply o_easy1 rfl rfl rfl | apply o_ld rfl rfl (by assumption) (by first | rfl | assumption)); conv => lhs; whnf) | refine o_no rfl ?_ | refine o_add rfl rfl rfl (by omega) (by omega) ?_ | refine o_sub rfl rfl rfl (by omega) (by omega) ?_ | refine o_mul rfl rfl rfl (by omega) (by omega) ?_ | refine o_sadd rfl rfl rfl (by omega) ?_ | refine o_seql_t rfl rfl rfl (by assumption) ?_ | refine o_seql_f rfl rfl rfl (by assumption) ?_ | refine o_ct rfl rfl rfl (by dsimp only [cmpP]; omega) ?_ | refine o_cf rfl rfl rfl (by dsimp only [cmpN]; omega) ?_ | (apply o_easy rfl rfl rfl; conv => lhs; whnf) | refine o_non rfl ?_))
    (apply o_end; (repeat (first | exact OutS.nil | exact GetS.hit | exact PutS.hit | apply GetS.miss rfl | apply PutS.miss rfl | apply OutS.cons | apply OutS.skip rfl)))
    ((repeat refine c_seq ?_); refine c_region ?_; (repeat (first | ((first | apply o_move rfl rfl | apply o_easy1 rfl rfl rfl | apply o_ld rfl rfl (by assumption) (by first | rfl | assumption)); conv => lhs; whnf) | refine o_no rfl ?_ | refine o_add rfl rfl rfl (by omega) (by omega) ?_ | refine o_sub rfl rfl rfl (by omega) (by omega) ?_ | refine o_mul rfl rfl rfl (by omega) (by omega) ?_ | refine o_sadd rfl rfl rfl (by omega) ?_ | refine o_seql_t rfl rfl rfl (by assumption) ?_ | refine o_seql_f rfl rfl rfl (by assumption) ?_ | refine o_ct rfl rfl rfl (by dsimp only [cmpP]; omega) ?_ | refine o_cf rfl rfl rfl (by dsimp only [cmpN]; omega) ?_ | (apply o_easy rfl rfl rfl; conv => lhs; whnf) | refine o_non rfl ?_)); apply o_end; (repeat (first | exact OutS.nil | exact GetS.hit | exact PutS.hit | apply GetS.miss rfl | apply PutS.miss rfl | apply OutS.cons | apply OutS.skip rfl)))
    ((repeat refine c_seq ?_); refine c_else rfl ?_)
    refine c_skip ?_
    ((repeat refine c_seq ?_); refine c_region ?_; (repeat (first | ((first | apply o_move rfl rfl | apply o_easy1 rfl rfl rfl | apply o_ld rfl rfl (by assumption) (by first | rfl | assumption)); conv => lhs; whnf) | refine o_no rfl ?_ | refine o_add rfl rfl rfl (by omega) (by omega) ?_ | refine o_sub rfl rfl rfl (by omega) (by omega) ?_ | refine o_mul rfl rfl rfl (by omega) (by omega) ?_ | refine o_sadd rfl rfl rfl (by omega) ?_ | refine o_seql_t rfl rfl rfl (by assumption) ?_ | refine o_seql_f rfl rfl rfl (by assumption) ?_ | refine o_ct rfl rfl rfl (by dsimp only [cmpP]; omega) ?_ | refine o_cf rfl rfl rfl (by dsimp only [cmpN]; omega) ?_ | (apply o_easy rfl rfl rfl; conv => lhs; whnf) | refine o_non rfl ?_)); apply o_end; (repeat (first | exact OutS.nil | exact GetS.hit | exact PutS.hit | apply GetS.miss rfl | apply PutS.miss rfl | apply OutS.cons | apply OutS.skip rfl)))
    ((repeat refine c_seq ?_); refine c_if rfl ?_)
    ((repeat refine c_seq ?_); refine c_region ?_; (repeat (first | ((first | apply o_move rfl rfl | apply o_easy1 rfl rfl rfl | apply o_ld rfl rfl (by assumption) (by first | rfl | assumption)); conv => lhs; whnf) | refine o_no rfl ?_ | refine o_add rfl rfl rfl (by omega) (by omega) ?_ | refine o_sub rfl rfl rfl (by omega) (by omega) ?_ | refine o_mul rfl rfl rfl (by omega) (by omega) ?_ | refine o_sadd rfl rfl rfl (by omega) ?_ | refine o_seql_t rfl rfl rfl (by assumption) ?_ | refine o_seql_f rfl rfl rfl (by assumption) ?_ | refine o_ct rfl rfl rfl (by dsimp only [cmpP]; omega) ?_ | refine o_cf rfl rfl rfl (by dsimp only [cmpN]; omega) ?_ | (apply o_easy rfl rfl rfl; conv => lhs; whnf) | refine o_non rfl ?_)); apply o_end; (repeat (first | exact OutS.nil | exact GetS.hit | exact PutS.hit | apply GetS.miss rfl | apply PutS.miss rfl | apply OutS.cons | apply OutS.skip rfl)))
    exact c_ret rfl
  by_cases h3 : subj.length > 200
  · refine ⟨400 + 1, ?_⟩
    (apply f_of rfl rfl; (repeat (first | exact Shape.nil | (apply Shape.cons; conv => lhs; whnf))))
    ((repeat refine c_seq ?_); refine c_region ?_; (repeat (first | ((first | apply o_move rfl rfl | apply o_easy1 rfl rfl rfl | apply o_ld rfl rfl (by assumption) (by first | rfl | assumption)); conv => lhs; whnf) | refine o_no rfl ?_ | refine o_add rfl rfl rfl (by omega) (by omega) ?_ | refine o_sub rfl rfl rfl (by omega) (by omega) ?_ | refine o_mul rfl rfl rfl (by omega) (by omega) ?_ | refine o_sadd rfl rfl rfl (by omega) ?_ | refine o_seql_t rfl rfl rfl (by assumption) ?_ | refine o_seql_f rfl rfl rfl (by assumption) ?_ | refine o_ct rfl rfl rfl (by dsimp only [cmpP]; omega) ?_ | refine o_cf rfl rfl rfl (by dsimp only [cmpN]; omega) ?_ | (apply o_easy rfl rfl rfl; conv => lhs; whnf) | refine o_non rfl ?_)); apply o_end; (repeat (first | exact OutS.nil | exact GetS.hit | exact PutS.hit | apply GetS.miss rfl | apply PutS.miss rfl | apply OutS.cons | apply OutS.skip rfl)))
    ((repeat refine c_seq ?_); refine c_region ?_; (repeat (first | ((first | apply o_move rfl rfl | apply o_easy1 rfl rfl rfl | apply o_ld rfl rfl (by assumption) (by first | rfl | assumption)); conv => lhs; whnf) | refine o_no rfl ?_ | refine o_add rfl rfl rfl (by omega) (by omega) ?_ | refine o_sub rfl rfl rfl (by omega) (by omega) ?_ | refine o_mul rfl rfl rfl (by omega) (by omega) ?_ | refine o_sadd rfl rfl rfl (by omega) ?_ | refine o_seql_t rfl rfl rfl (by assumption) ?_ | refine o_seql_f rfl rfl rfl (by assumption) ?_ | refine o_ct rfl rfl rfl (by dsimp only [cmpP]; omega) ?_ | refine o_cf rfl rfl rfl (by dsimp only [cmpN]; omega) ?_ | (apply o_easy rfl rfl rfl; conv => lhs; whnf) | refine o_non rfl ?_)))
    refine o_call rfl rfl (awake' 400 (Nat.le_refl _)) ?_
    (repeat (first | ((first | apply o_move rfl rfl | apply o_easy1 rfl rfl rfl | apply o_ld rfl rfl (by assumption) (by first | rfl | assumption)); conv => lhs; whnf) | refine o_no rfl ?_ | refine o_add rfl rfl rfl (by omega) (by omega) ?_ | refine o_sub rfl rfl rfl (by omega) (by omega) ?_ | refine o_mul rfl rfl rfl (by omega) (by omega) ?_ | refine o_sadd rfl rfl rfl (by omega) ?_ | refine o_seql_t rfl rfl rfl (by assumption) ?_ | refine o_seql_f rfl rfl rfl (by assumption) ?_ | refine o_ct rfl rfl rfl (by dsimp only [cmpP]; omega) ?_ | refine o_cf rfl rfl rfl (by dsimp only [cmpN]; omega) ?_ | (apply o_easy rfl rfl rfl; conv => lhs; whnf) | refine o_non rfl ?_))
    (apply o_end; (repeat (first | exact OutS.nil | exact GetS.hit | exact PutS.hit | apply GetS.miss rfl | apply PutS.miss rfl | apply OutS.cons | apply OutS.skip rfl)))
    ((repeat refine c_seq ?_); refine c_region ?_; (repeat (first | ((first | apply o_move rfl rfl | apply o_easy1 rfl rfl rfl | apply o_ld rfl rfl (by assumption) (by first | rfl | assumption)); conv => lhs; whnf) | refine o_no rfl ?_ | refine o_add rfl rfl rfl (by omega) (by omega) ?_ | refine o_sub rfl rfl rfl (by omega) (by omega) ?_ | refine o_mul rfl rfl rfl (by omega) (by omega) ?_ | refine o_sadd rfl rfl rfl (by omega) ?_ | refine o_seql_t rfl rfl rfl (by assumption) ?_ | refine o_seql_f rfl rfl rfl (by assumption) ?_ | refine o_ct rfl rfl rfl (by dsimp only [cmpP]; omega) ?_ | refine o_cf rfl rfl rfl (by dsimp only [cmpN]; omega) ?_ | (apply o_easy rfl rfl rfl; conv => lhs; whnf) | refine o_non rfl ?_)); apply o_end; (repeat (first | exact OutS.nil | exact GetS.hit | exact PutS.hit | apply GetS.miss rfl | apply PutS.miss rfl | apply OutS.cons | apply OutS.skip rfl)))
    ((repeat refine c_seq ?_); refine c_else rfl ?_)
    refine c_skip ?_
    ((repeat refine c_seq ?_); refine c_region ?_; (repeat (first | ((first | apply o_move rfl rfl | apply o_easy1 rfl rfl rfl | apply o_ld rfl rfl (by assumption) (by first | rfl | assumption)); conv => lhs; whnf) | refine o_no rfl ?_ | refine o_add rfl rfl rfl (by omega) (by omega) ?_ | refine o_sub rfl rfl rfl (by omega) (by omega) ?_ | refine o_mul rfl rfl rfl (by omega) (by omega) ?_ | refine o_sadd rfl rfl rfl (by omega) ?_ | refine o_seql_t rfl rfl rfl (by assumption) ?_ | refine o_seql_f rfl rfl rfl (by assumption) ?_ | refine o_ct rfl rfl rfl (by dsimp only [cmpP]; omega) ?_ | refine o_cf rfl rfl rfl (by dsimp only [cmpN]; omega) ?_ | (apply o_easy rfl rfl rfl; conv => lhs; whnf) | refine o_non rfl ?_)); apply o_end; (repeat (first | exact OutS.nil | exact GetS.hit | exact PutS.hit | apply GetS.miss rfl | apply PutS.miss rfl | apply OutS.cons | apply OutS.skip rfl)))
    ((repeat refine c_seq ?_); refine c_if rfl ?_)
    ((repeat refine c_seq ?_); refine c_region ?_; (repeat (first | ((first | apply o_move rfl rfl | apply o_easy1 rfl rfl rfl | apply o_ld rfl rfl (by assumption) (by first | rfl | assumption)); conv => lhs; whnf) | refine o_no rfl ?_ | refine o_add rfl rfl rfl (by omega) (by omega) ?_ | refine o_sub rfl rfl rfl (by omega) (by omega) ?_ | refine o_mul rfl rfl rfl (by omega) (by omega) ?_ | refine o_sadd rfl rfl rfl (by omega) ?_ | refine o_seql_t rfl rfl rfl (by assumption) ?_ | refine o_seql_f rfl rfl rfl (by assumption) ?_ | refine o_ct rfl rfl rfl (by dsimp only [cmpP]; omega) ?_ | refine o_cf rfl rfl rfl (by dsimp only [cmpN]; omega) ?_ | (apply o_easy rfl rfl rfl; conv => lhs; whnf) | refine o_non rfl ?_)); apply o_end; (repeat (first | exact OutS.nil | exact GetS.hit | exact PutS.hit | apply GetS.miss rfl | apply PutS.miss rfl | apply OutS.cons | apply OutS.skip rfl)))
    exact c_ret rfl
  by_cases h4 : ∃ c, b[0]? = some c ∧ isDig c = true
  · obtain ⟨c, hc, hd⟩ := h4
    have hpos := lt_of_getElem? hc
    simp only [isDig, Bool.and_eq_true, decide_eq_true_eq] at hd
    refine ⟨400 + 1, ?_⟩
    (apply f_of rfl rfl; (repeat (first | exact Shape.nil | (apply Shape.cons; conv => lhs; whnf))))
    ((repeat refine c_seq ?_); refine c_region ?_; (repeat (first | ((first | apply o_move rfl rfl | apply o_easy1 rfl rfl rfl | apply o_ld rfl rfl (by assumption) (by first | rfl | assumption)); conv => lhs; whnf) | refine o_no rfl ?_ | refine o_add rfl rfl rfl (by omega) (by omega) ?_ | refine o_sub rfl rfl rfl (by omega) (by omega) ?_ | refine o_mul rfl rfl rfl (by omega) (by omega) ?_ | refine o_sadd rfl rfl rfl (by omega) ?_ | refine o_seql_t rfl rfl rfl (by assumption) ?_ | refine o_seql_f rfl rfl rfl (by assumption) ?_ | refine o_ct rfl rfl rfl (by dsimp only [cmpP]; omega) ?_ | refine o_cf rfl rfl rfl (by dsimp only [cmpN]; omega) ?_ | (apply o_easy rfl rfl rfl; conv => lhs; whnf) | refine o_non rfl ?_)); apply o_end; (repeat (first | exact OutS.nil | exact GetS.hit | exact PutS.hit | apply GetS.miss rfl | apply PutS.miss rfl | apply OutS.cons | apply OutS.skip rfl)))
    ((repeat refine c_seq ?_); refine c_region ?_; (repeat (first | ((first | apply o_move rfl rfl | apply o_easy1 rfl rfl rfl | apply o_ld rfl rfl (by assumption) (by first | rfl | assumption)); conv => lhs; whnf) | refine o_no rfl ?_ | refine o_add rfl rfl rfl (by omega) (by omega) ?_ | refine o_sub rfl rfl rfl (by omega) (by omega) ?_ | refine o_mul rfl rfl rfl (by omega) (by omega) ?_ | refine o_sadd rfl rfl rfl (by omega) ?_ | refine o_seql_t rfl rfl rfl (by assumption) ?_ | refine o_seql_f rfl rfl rfl (by assumption) ?_ | refine o_ct rfl rfl rfl (by dsimp only [cmpP]; omega) ?_ | refine o_cf rfl rfl rfl (by dsimp only [cmpN]; omega) ?_ | (apply o_easy rfl rfl rfl; conv => lhs; whnf) | refine o_non rfl ?_)))
    refine o_call rfl rfl (awake' 400 (Nat.le_refl _)) ?_
    (repeat (first | ((first | apply o_move rfl rfl | apply o_easy1 rfl rfl rfl | apply o_ld rfl rfl (by assumption) (by first | rfl | assumption)); conv => lhs; whnf) | refine o_no rfl ?_ | refine o_add rfl rfl rfl (by omega) (by omega) ?_ | refine o_sub rfl rfl rfl (by omega) (by omega) ?_ | refine o_mul rfl rfl rfl (by omega) (by omega) ?_ | refine o_sadd rfl rfl rfl (by omega) ?_ | refine o_seql_t rfl rfl rfl (by assumption) ?_ | refine o_seql_f rfl rfl rfl (by assumption) ?_ | refine o_ct rfl rfl rfl (by dsimp only [cmpP]; omega) ?_ | refine o_cf rfl rfl rfl (by dsimp only [cmpN]; omega) ?_ | (apply o_easy rfl rfl rfl; conv => lhs; whnf) | refine o_non rfl ?_))
    (apply o_end; (repeat (first | exact OutS.nil | exact GetS.hit | exact PutS.hit | apply GetS.miss rfl | apply PutS.miss rfl | apply OutS.cons | apply OutS.skip rfl)))
    ((repeat refine c_seq ?_); refine c_region ?_; (repeat (first | ((first | apply o_move rfl rfl | apply o_easy1 rfl rfl rfl | apply o_ld rfl rfl (by assumption) (by first | rfl | assumption)); conv => lhs; whnf) | refine o_no rfl ?_ | refine o_add rfl rfl rfl (by omega) (by omega) ?_ | refine o_sub rfl rfl rfl (by omega) (by omega) ?_ | refine o_mul rfl rfl rfl (by omega) (by omega) ?_ | refine o_sadd rfl rfl rfl (by omega) ?_ | refine o_seql_t rfl rfl rfl (by assumption) ?_ | refine o_seql_f rfl rfl rfl (by assumption) ?_ | refine o_ct rfl rfl rfl (by dsimp only [cmpP]; omega) ?_ | refine o_cf rfl rfl rfl (by dsimp only [cmpN]; omega) ?_ | (apply o_easy rfl rfl rfl; conv => lhs; whnf) | refine o_non rfl ?_)); apply o_end; (repeat (first | exact OutS.nil | exact GetS.hit | exact PutS.hit | apply GetS.miss rfl | apply PutS.miss rfl | apply OutS.cons | apply OutS.skip rfl)))
    ((repeat refine c_seq ?_); refine c_else rfl ?_)
    refine c_skip ?_
    ((repeat refine c_seq ?_); refine c_region ?_; (repeat (first | ((first | apply o_move rfl rfl | apply o_easy1 rfl rfl rfl | apply o_ld rfl rfl (by assumption) (by first | rfl | assumption)); conv => lhs; whnf) | refine o_no rfl ?_ | refine o_add rfl rfl rfl (by omega) (by omega) ?_ | refine o_sub rfl rfl rfl (by omega) (by omega) ?_ | refine o_mul rfl rfl rfl (by omega) (by omega) ?_ | refine o_sadd rfl rfl rfl (by omega) ?_ | refine o_seql_t rfl rfl rfl (by assumption) ?_ | refine o_seql_f rfl rfl rfl (by assumption) ?_ | refine o_ct rfl rfl rfl (by dsimp only [cmpP]; omega) ?_ | refine o_cf rfl rfl rfl (by dsimp only [cmpN]; omega) ?_ | (apply o_easy rfl rfl rfl; conv => lhs; whnf) | refine o_non rfl ?_)))
    refine o_ixvec (j := 0) rfl rfl rfl rfl (bc_get hc) rfl ?_
    (repeat (first | ((first | apply o_move rfl rfl | apply o_easy1 rfl rfl rfl | apply o_ld rfl rfl (by assumption) (by first | rfl | assumption)); conv => lhs; whnf) | refine o_no rfl ?_ | refine o_add rfl rfl rfl (by omega) (by omega) ?_ | refine o_sub rfl rfl rfl (by omega) (by omega) ?_ | refine o_mul rfl rfl rfl (by omega) (by omega) ?_ | refine o_sadd rfl rfl rfl (by omega) ?_ | refine o_seql_t rfl rfl rfl (by assumption) ?_ | refine o_seql_f rfl rfl rfl (by assumption) ?_ | refine o_ct rfl rfl rfl (by dsimp only [cmpP]; omega) ?_ | refine o_cf rfl rfl rfl (by dsimp only [cmpN]; omega) ?_ | (apply o_easy rfl rfl rfl; conv => lhs; whnf) | refine o_non rfl ?_))
    refine o_ixvec (j := 0) rfl rfl rfl rfl (bc_get hc) rfl ?_
    (repeat (first | ((first | apply o_move rfl rfl | apply o_easy1 rfl rfl rfl | apply o_ld rfl rfl (by assumption) (by first | rfl | assumption)); conv => lhs; whnf) | refine o_no rfl ?_ | refine o_add rfl rfl rfl (by omega) (by omega) ?_ | refine o_sub rfl rfl rfl (by omega) (by omega) ?_ | refine o_mul rfl rfl rfl (by omega) (by omega) ?_ | refine o_sadd rfl rfl rfl (by omega) ?_ | refine o_seql_t rfl rfl rfl (by assumption) ?_ | refine o_seql_f rfl rfl rfl (by assumption) ?_ | refine o_ct rfl rfl rfl (by dsimp only [cmpP]; omega) ?_ | refine o_cf rfl rfl rfl (by dsimp only [cmpN]; omega) ?_ | (apply o_easy rfl rfl rfl; conv => lhs; whnf) | refine o_non rfl ?_))
    (apply o_end; (repeat (first | exact OutS.nil | exact GetS.hit | exact PutS.hit | apply GetS.miss rfl | apply PutS.miss rfl | apply OutS.cons | apply OutS.skip rfl)))
    ((repeat refine c_seq ?_); refine c_if rfl ?_)
    ((repeat refine c_seq ?_); refine c_region ?_; (repeat (first | ((first | apply o_move rfl rfl | apply o_easy1 rfl rfl rfl | apply o_ld rfl rfl (by assumption) (by first | rfl | assumption)); conv => lhs; whnf) | refine o_no rfl ?_ | refine o_add rfl rfl rfl (by omega) (by omega) ?_ | refine o_sub rfl rfl rfl (by omega) (by omega) ?_ | refine o_mul rfl rfl rfl (by omega) (by omega) ?_ | refine o_sadd rfl rfl rfl (by omega) ?_ | refine o_seql_t rfl rfl rfl (by assumption) ?_ | refine o_seql_f rfl rfl rfl (by assumption) ?_ | refine o_ct rfl rfl rfl (by dsimp only [cmpP]; omega) ?_ | refine o_cf rfl rfl rfl (by dsimp only [cmpN]; omega) ?_ | (apply o_easy rfl rfl rfl; conv => lhs; whnf) | refine o_non rfl ?_)); apply o_end; (repeat (first | exact OutS.nil | exact GetS.hit | exact PutS.hit | apply GetS.miss rfl | apply PutS.miss rfl | apply OutS.cons | apply OutS.skip rfl)))
    exact c_ret rfl
  have hnd : noDig b := fun c hc => by
    cases hd : isDig c with
    | false => rfl
    | true => exact absurd ⟨c, hc, hd⟩ h4
  obtain ⟨n1, r1, hr1⟩ := parse_total a gr
  obtain ⟨n2, r2, hr2⟩ := parse_total b gr
  obtain ⟨N1, hN1⟩ := parse_spec a gr (by omega) n1 r1 hr1
  obtain ⟨N2, hN2⟩ := parse_spec b gr (by omega) n2 r2 hr2
  cases r1 with
  | error e1 =>
    refine ⟨400 + N1 + N2 + 1, ?_⟩
    generalize hm : 400 + N1 + N2 = m
    have hp1 := hN1 m (by omega) (bar0.into .pure sg0) sg0 (.vec (Am.byteCells a) .shut) .nilsl rfl rfl
    have hp2 := hN2 m (by omega) (bar0.into .pure sg0) sg0 (.vec (Am.byteCells b) .shut) .nilsl rfl rfl
    cases r2 with
    | error e2 =>
      (apply f_of rfl rfl; (repeat (first | exact Shape.nil | (apply Shape.cons; conv => lhs; whnf))))
      ((repeat refine c_seq ?_); refine c_region ?_; (repeat (first | ((first | apply o_move rfl rfl | apply o_easy1 rfl rfl rfl | apply o_ld rfl rfl (by assumption) (by first | rfl | assumption)); conv => lhs; whnf) | refine o_no rfl ?_ | refine o_add rfl rfl rfl (by omega) (by omega) ?_ | refine o_sub rfl rfl rfl (by omega) (by omega) ?_ | refine o_mul rfl rfl rfl (by omega) (by omega) ?_ | refine o_sadd rfl rfl rfl (by omega) ?_ | refine o_seql_t rfl rfl rfl (by assumption) ?_ | refine o_seql_f rfl rfl rfl (by assumption) ?_ | refine o_ct rfl rfl rfl (by dsimp only [cmpP]; omega) ?_ | refine o_cf rfl rfl rfl (by dsimp only [cmpN]; omega) ?_ | (apply o_easy rfl rfl rfl; conv => lhs; whnf) | refine o_non rfl ?_)); apply o_end; (repeat (first | exact OutS.nil | exact GetS.hit | exact PutS.hit | apply GetS.miss rfl | apply PutS.miss rfl | apply OutS.cons | apply OutS.skip rfl)))
      ((repeat refine c_seq ?_); refine c_region ?_; (repeat (first | ((first | apply o_move rfl rfl | apply o_easy1 rfl rfl rfl | apply o_ld rfl rfl (by assumption) (by first | rfl | assumption)); conv => lhs; whnf) | refine o_no rfl ?_ | refine o_add rfl rfl rfl (by omega) (by omega) ?_ | refine o_sub rfl rfl rfl (by omega) (by omega) ?_ | refine o_mul rfl rfl rfl (by omega) (by omega) ?_ | refine o_sadd rfl rfl rfl (by omega) ?_ | refine o_seql_t rfl rfl rfl (by assumption) ?_ | refine o_seql_f rfl rfl rfl (by assumption) ?_ | refine o_ct rfl rfl rfl (by dsimp only [cmpP]; omega) ?_ | refine o_cf rfl rfl rfl (by dsimp only [cmpN]; omega) ?_ | (apply o_easy rfl rfl rfl; conv => lhs; whnf) | refine o_non rfl ?_)))
      refine o_call rfl rfl (awake' m (by omega)) ?_
      (repeat (first | ((first | apply o_move rfl rfl | apply o_easy1 rfl rfl rfl | apply o_ld rfl rfl (by assumption) (by first | rfl | assumption)); conv => lhs; whnf) | refine o_no rfl ?_ | refine o_add rfl rfl rfl (by omega) (by omega) ?_ | refine o_sub rfl rfl rfl (by omega) (by omega) ?_ | refine o_mul rfl rfl rfl (by omega) (by omega) ?_ | refine o_sadd rfl rfl rfl (by omega) ?_ | refine o_seql_t rfl rfl rfl (by assumption) ?_ | refine o_seql_f rfl rfl rfl (by assumption) ?_ | refine o_ct rfl rfl rfl (by dsimp only [cmpP]; omega) ?_ | refine o_cf rfl rfl rfl (by dsimp only [cmpN]; omega) ?_ | (apply o_easy rfl rfl rfl; conv => lhs; whnf) | refine o_non rfl ?_))
      (apply o_end; (repeat (first | exact OutS.nil | exact GetS.hit | exact PutS.hit | apply GetS.miss rfl | apply PutS.miss rfl | apply OutS.cons | apply OutS.skip rfl)))
      ((repeat refine c_seq ?_); refine c_region ?_; (repeat (first | ((first | apply o_move rfl rfl | apply o_easy1 rfl rfl rfl | apply o_ld rfl rfl (by assumption) (by first | rfl | assumption)); conv => lhs; whnf) | refine o_no rfl ?_ | refine o_add rfl rfl rfl (by omega) (by omega) ?_ | refine o_sub rfl rfl rfl (by omega) (by omega) ?_ | refine o_mul rfl rfl rfl (by omega) (by omega) ?_ | refine o_sadd rfl rfl rfl (by omega) ?_ | refine o_seql_t rfl rfl rfl (by assumption) ?_ | refine o_seql_f rfl rfl rfl (by assumption) ?_ | refine o_ct rfl rfl rfl (by dsimp only [cmpP]; omega) ?_ | refine o_cf rfl rfl rfl (by dsimp only [cmpN]; omega) ?_ | (apply o_easy rfl rfl rfl; conv => lhs; whnf) | refine o_non rfl ?_)); apply o_end; (repeat (first | exact OutS.nil | exact GetS.hit | exact PutS.hit | apply GetS.miss rfl | apply PutS.miss rfl | apply OutS.cons | apply OutS.skip rfl)))
      ((repeat refine c_seq ?_); refine c_else rfl ?_)
      refine c_skip ?_
      repeat refine c_seq ?_
      refine reg4_false (by omega) (by omega) (by omega) hnd ?_
      ((repeat refine c_seq ?_); refine c_else rfl ?_)
      refine c_skip ?_
      ((repeat refine c_seq ?_); refine c_region ?_; (repeat (first | ((first | apply o_move rfl rfl | apply o_easy1 rfl rfl rfl | apply o_ld rfl rfl (by assumption) (by first | rfl | assumption)); conv => lhs; whnf) | refine o_no rfl ?_ | refine o_add rfl rfl rfl (by omega) (by omega) ?_ | refine o_sub rfl rfl rfl (by omega) (by omega) ?_ | refine o_mul rfl rfl rfl (by omega) (by omega) ?_ | refine o_sadd rfl rfl rfl (by omega) ?_ | refine o_seql_t rfl rfl rfl (by assumption) ?_ | refine o_seql_f rfl rfl rfl (by assumption) ?_ | refine o_ct rfl rfl rfl (by dsimp only [cmpP]; omega) ?_ | refine o_cf rfl rfl rfl (by dsimp only [cmpN]; omega) ?_ | (apply o_easy rfl rfl rfl; conv => lhs; whnf) | refine o_non rfl ?_)))
      refine o_call rfl rfl hp1 ?_
      (repeat (first | ((first | apply o_move rfl rfl | apply o_easy1 rfl rfl rfl | apply o_ld rfl rfl (by assumption) (by first | rfl | assumption)); conv => lhs; whnf) | refine o_no rfl ?_ | refine o_add rfl rfl rfl (by omega) (by omega) ?_ | refine o_sub rfl rfl rfl (by omega) (by omega) ?_ | refine o_mul rfl rfl rfl (by omega) (by omega) ?_ | refine o_sadd rfl rfl rfl (by omega) ?_ | refine o_seql_t rfl rfl rfl (by assumption) ?_ | refine o_seql_f rfl rfl rfl (by assumption) ?_ | refine o_ct rfl rfl rfl (by dsimp only [cmpP]; omega) ?_ | refine o_cf rfl rfl rfl (by dsimp only [cmpN]; omega) ?_ | (apply o_easy rfl rfl rfl; conv => lhs; whnf) | refine o_non rfl ?_))
      (apply o_end; (repeat (first | exact OutS.nil | exact GetS.hit | exact PutS.hit | apply GetS.miss rfl | apply PutS.miss rfl | apply OutS.cons | apply OutS.skip rfl)))
      ((repeat refine c_seq ?_); refine c_region ?_; (repeat (first | ((first | apply o_move rfl rfl | apply o_easy1 rfl rfl rfl | apply o_ld rfl rfl (by assumption) (by first | rfl | assumption)); conv => lhs; whnf) | refine o_no rfl ?_ | refine o_add rfl rfl rfl (by omega) (by omega) ?_ | refine o_sub rfl rfl rfl (by omega) (by omega) ?_ | refine o_mul rfl rfl rfl (by omega) (by omega) ?_ | refine o_sadd rfl rfl rfl (by omega) ?_ | refine o_seql_t rfl rfl rfl (by assumption) ?_ | refine o_seql_f rfl rfl rfl (by assumption) ?_ | refine o_ct rfl rfl rfl (by dsimp only [cmpP]; omega) ?_ | refine o_cf rfl rfl rfl (by dsimp only [cmpN]; omega) ?_ | (apply o_easy rfl rfl rfl; conv => lhs; whnf) | refine o_non rfl ?_)))
      refine o_call rfl rfl hp2 ?_
      (repeat (first | ((first | apply o_move rfl rfl | apply o_easy1 rfl rfl rfl | apply o_ld rfl rfl (by assumption) (by first | rfl | assumption)); conv => lhs; whnf) | refine o_no rfl ?_ | refine o_add rfl rfl rfl (by omega) (by omega) ?_ | refine o_sub rfl rfl rfl (by omega) (by omega) ?_ | refine o_mul rfl rfl rfl (by omega) (by omega) ?_ | refine o_sadd rfl rfl rfl (by omega) ?_ | refine o_seql_t rfl rfl rfl (by assumption) ?_ | refine o_seql_f rfl rfl rfl (by assumption) ?_ | refine o_ct rfl rfl rfl (by dsimp only [cmpP]; omega) ?_ | refine o_cf rfl rfl rfl (by dsimp only [cmpN]; omega) ?_ | (apply o_easy rfl rfl rfl; conv => lhs; whnf) | refine o_non rfl ?_))
      (apply o_end; (repeat (first | exact OutS.nil | exact GetS.hit | exact PutS.hit | apply GetS.miss rfl | apply PutS.miss rfl | apply OutS.cons | apply OutS.skip rfl)))
      ((repeat refine c_seq ?_); refine c_region ?_; (repeat (first | ((first | apply o_move rfl rfl | apply o_easy1 rfl rfl rfl | apply o_ld rfl rfl (by assumption) (by first | rfl | assumption)); conv => lhs; whnf) | refine o_no rfl ?_ | refine o_add rfl rfl rfl (by omega) (by omega) ?_ | refine o_sub rfl rfl rfl (by omega) (by omega) ?_ | refine o_mul rfl rfl rfl (by omega) (by omega) ?_ | refine o_sadd rfl rfl rfl (by omega) ?_ | refine o_seql_t rfl rfl rfl (by assumption) ?_ | refine o_seql_f rfl rfl rfl (by assumption) ?_ | refine o_ct rfl rfl rfl (by dsimp only [cmpP]; omega) ?_ | refine o_cf rfl rfl rfl (by dsimp only [cmpN]; omega) ?_ | (apply o_easy rfl rfl rfl; conv => lhs; whnf) | refine o_non rfl ?_)); apply o_end; (repeat (first | exact OutS.nil | exact GetS.hit | exact PutS.hit | apply GetS.miss rfl | apply PutS.miss rfl | apply OutS.cons | apply OutS.skip rfl)))
      ((repeat refine c_seq ?_); refine c_if rfl ?_)
      ((repeat refine c_seq ?_); refine c_region ?_; (repeat (first | ((first | apply o_move rfl rfl | apply o_easy1 rfl rfl rfl | apply o_ld rfl rfl (by assumption) (by first | rfl | assumption)); conv => lhs; whnf) | refine o_no rfl ?_ | refine o_add rfl rfl rfl (by omega) (by omega) ?_ | refine o_sub rfl rfl rfl (by omega) (by omega) ?_ | refine o_mul rfl rfl rfl (by omega) (by omega) ?_ | refine o_sadd rfl rfl rfl (by omega) ?_ | refine o_seql_t rfl rfl rfl (by assumption) ?_ | refine o_seql_f rfl rfl rfl (by assumption) ?_ | refine o_ct rfl rfl rfl (by dsimp only [cmpP]; omega) ?_ | refine o_cf rfl rfl rfl (by dsimp only [cmpN]; omega) ?_ | (apply o_easy rfl rfl rfl; conv => lhs; whnf) | refine o_non rfl ?_)); apply o_end; (repeat (first | exact OutS.nil | exact GetS.hit | exact PutS.hit | apply GetS.miss rfl | apply PutS.miss rfl | apply OutS.cons | apply OutS.skip rfl)))
      exact c_ret rfl
    | ok x2 =>
      (apply f_of rfl rfl; (repeat (first | exact Shape.nil | (apply Shape.cons; conv => lhs; whnf))))
      ((repeat refine c_seq ?_); refine c_region ?_; (repeat (first | ((first | apply o_move rfl rfl | apply o_easy1 rfl rfl rfl | apply o_ld rfl rfl (by assumption) (by first | rfl | assumption)); conv => lhs; whnf) | refine o_no rfl ?_ | refine o_add rfl rfl rfl (by omega) (by omega) ?_ | refine o_sub rfl rfl rfl (by omega) (by omega) ?_ | refine o_mul rfl rfl rfl (by omega) (by omega) ?_ | refine o_sadd rfl rfl rfl (by omega) ?_ | refine o_seql_t rfl rfl rfl (by assumption) ?_ | refine o_seql_f rfl rfl rfl (by assumption) ?_ | refine o_ct rfl rfl rfl (by dsimp only [cmpP]; omega) ?_ | refine o_cf rfl rfl rfl (by dsimp only [cmpN]; omega) ?_ | (apply o_easy rfl rfl rfl; conv => lhs; whnf) | refine o_non rfl ?_)); apply o_end; (repeat (first | exact OutS.nil | exact GetS.hit | exact PutS.hit | apply GetS.miss rfl | apply PutS.miss rfl | apply OutS.cons | apply OutS.skip rfl)))
      ((repeat refine c_seq ?_); refine c_region ?_; (repeat (first | ((first | apply o_move rfl rfl | apply o_easy1 rfl rfl rfl | apply o_ld rfl rfl (by assumption) (by first | rfl | assumption)); conv => lhs; whnf) | refine o_no rfl ?_ | refine o_add rfl rfl rfl (by omega) (by omega) ?_ | refine o_sub rfl rfl rfl (by omega) (by omega) ?_ | refine o_mul rfl rfl rfl (by omega) (by omega) ?_ | refine o_sadd rfl rfl rfl (by omega) ?_ | refine o_seql_t rfl rfl rfl (by assumption) ?_ | refine o_seql_f rfl rfl rfl (by assumption) ?_ | refine o_ct rfl rfl rfl (by dsimp only [cmpP]; omega) ?_ | refine o_cf rfl rfl rfl (by dsimp only [cmpN]; omega) ?_ | (apply o_easy rfl rfl rfl; conv => lhs; whnf) | refine o_non rfl ?_)))
      refine o_call rfl rfl (awake' m (by omega)) ?_
      (repeat (first | ((first | apply o_move rfl rfl | apply o_easy1 rfl rfl rfl | apply o_ld rfl rfl (by assumption) (by first | rfl | assumption)); conv => lhs; whnf) | refine o_no rfl ?_ | refine o_add rfl rfl rfl (by omega) (by omega) ?_ | refine o_sub rfl rfl rfl (by omega) (by omega) ?_ | refine o_mul rfl rfl rfl (by omega) (by omega) ?_ | refine o_sadd rfl rfl rfl (by omega) ?_ | refine o_seql_t rfl rfl rfl (by assumption) ?_ | refine o_seql_f rfl rfl rfl (by assumption) ?_ | refine o_ct rfl rfl rfl (by dsimp only [cmpP]; omega) ?_ | refine o_cf rfl rfl rfl (by dsimp only [cmpN]; omega) ?_ | (apply o_easy rfl rfl rfl; conv => lhs; whnf) | refine o_non rfl ?_))
      (apply o_end; (repeat (first | exact OutS.nil | exact GetS.hit | exact PutS.hit | apply GetS.miss rfl | apply PutS.miss rfl | apply OutS.cons | apply OutS.skip rfl)))
      ((repeat refine c_seq ?_); refine c_region ?_; (repeat (first | ((first | apply o_move rfl rfl | apply o_easy1 rfl rfl rfl | apply o_ld rfl rfl (by assumption) (by first | rfl | assumption)); conv => lhs; whnf) | refine o_no rfl ?_ | refine o_add rfl rfl rfl (by omega) (by omega) ?_ | refine o_sub rfl rfl rfl (by omega) (by omega) ?_ | refine o_mul rfl rfl rfl (by omega) (by omega) ?_ | refine o_sadd rfl rfl rfl (by omega) ?_ | refine o_seql_t rfl rfl rfl (by assumption) ?_ | refine o_seql_f rfl rfl rfl (by assumption) ?_ | refine o_ct rfl rfl rfl (by dsimp only [cmpP]; omega) ?_ | refine o_cf rfl rfl rfl (by dsimp only [cmpN]; omega) ?_ | (apply o_easy rfl rfl rfl; conv => lhs; whnf) | refine o_non rfl ?_)); apply o_end; (repeat (first | exact OutS.nil | exact GetS.hit | exact PutS.hit | apply GetS.miss rfl | apply PutS.miss rfl | apply OutS.cons | apply OutS.skip rfl)))
      ((repeat refine c_seq ?_); refine c_else rfl ?_)
      refine c_skip ?_
      repeat refine c_seq ?_
      refine reg4_false (by omega) (by omega) (by omega) hnd ?_
      ((repeat refine c_seq ?_); refine c_else rfl ?_)
      refine c_skip ?_
      ((repeat refine c_seq ?_); refine c_region ?_; (repeat (first | ((first | apply o_move rfl rfl | apply o_easy1 rfl rfl rfl | apply o_ld rfl rfl (by assumption) (by first | rfl | assumption)); conv => lhs; whnf) | refine o_no rfl ?_ | refine o_add rfl rfl rfl (by omega) (by omega) ?_ | refine o_sub rfl rfl rfl (by omega) (by omega) ?_ | refine o_mul rfl rfl rfl (by omega) (by omega) ?_ | refine o_sadd rfl rfl rfl (by omega) ?_ | refine o_seql_t rfl rfl rfl (by assumption) ?_ | refine o_seql_f rfl rfl rfl (by assumption) ?_ | refine o_ct rfl rfl rfl (by dsimp only [cmpP]; omega) ?_ | refine o_cf rfl rfl rfl (by dsimp only [cmpN]; omega) ?_ | (apply o_easy rfl rfl rfl; conv => lhs; whnf) | refine o_non rfl ?_)))
      refine o_call rfl rfl hp1 ?_
      (repeat (first | ((first | apply o_move rfl rfl | apply o_easy1 rfl rfl rfl | apply o_ld rfl rfl (by assumption) (by first | rfl | assumption)); conv => lhs; whnf) | refine o_no rfl ?_ | refine o_add rfl rfl rfl (by omega) (by omega) ?_ | refine o_sub rfl rfl rfl (by omega) (by omega) ?_ | refine o_mul rfl rfl rfl (by omega) (by omega) ?_ | refine o_sadd rfl rfl rfl (by omega) ?_ | refine o_seql_t rfl rfl rfl (by assumption) ?_ | refine o_seql_f rfl rfl rfl (by assumption) ?_ | refine o_ct rfl rfl rfl (by dsimp only [cmpP]; omega) ?_ | refine o_cf rfl rfl rfl (by dsimp only [cmpN]; omega) ?_ | (apply o_easy rfl rfl rfl; conv => lhs; whnf) | refine o_non rfl ?_))
      (apply o_end; (repeat (first | exact OutS.nil | exact GetS.hit | exact PutS.hit | apply GetS.miss rfl | apply PutS.miss rfl | apply OutS.cons | apply OutS.skip rfl)))
      ((repeat refine c_seq ?_); refine c_region ?_; (repeat (first | ((first | apply o_move rfl rfl | apply o_easy1 rfl rfl rfl | apply o_ld rfl rfl (by assumption) (by first | rfl | assumption)); conv => lhs; whnf) | refine o_no rfl ?_ | refine o_add rfl rfl rfl (by omega) (by omega) ?_ | refine o_sub rfl rfl rfl (by omega) (by omega) ?_ | refine o_mul rfl rfl rfl (by omega) (by omega) ?_ | refine o_sadd rfl rfl rfl (by omega) ?_ | refine o_seql_t rfl rfl rfl (by assumption) ?_ | refine o_seql_f rfl rfl rfl (by assumption) ?_ | refine o_ct rfl rfl rfl (by dsimp only [cmpP]; omega) ?_ | refine o_cf rfl rfl rfl (by dsimp only [cmpN]; omega) ?_ | (apply o_easy rfl rfl rfl; conv => lhs; whnf) | refine o_non rfl ?_)))
      refine o_call rfl rfl hp2 ?_
      (repeat (first | ((first | apply o_move rfl rfl | apply o_easy1 rfl rfl rfl | apply o_ld rfl rfl (by assumption) (by first | rfl | assumption)); conv => lhs; whnf) | refine o_no rfl ?_ | refine o_add rfl rfl rfl (by omega) (by omega) ?_ | refine o_sub rfl rfl rfl (by omega) (by omega) ?_ | refine o_mul rfl rfl rfl (by omega) (by omega) ?_ | refine o_sadd rfl rfl rfl (by omega) ?_ | refine o_seql_t rfl rfl rfl (by assumption) ?_ | refine o_seql_f rfl rfl rfl (by assumption) ?_ | refine o_ct rfl rfl rfl (by dsimp only [cmpP]; omega) ?_ | refine o_cf rfl rfl rfl (by dsimp only [cmpN]; omega) ?_ | (apply o_easy rfl rfl rfl; conv => lhs; whnf) | refine o_non rfl ?_))
      (apply o_end; (repeat (first | exact OutS.nil | exact GetS.hit | exact PutS.hit | apply GetS.miss rfl | apply PutS.miss rfl | apply OutS.cons | apply OutS.skip rfl)))
      ((repeat refine c_seq ?_); refine c_region ?_; (repeat (first | ((first | apply o_move rfl rfl | apply o_easy1 rfl rfl rfl | apply o_ld rfl rfl (by assumption) (by first | rfl | assumption)); conv => lhs; whnf) | refine o_no rfl ?_ | refine o_add rfl rfl rfl (by omega) (by omega) ?_ | refine o_sub rfl rfl rfl (by omega) (by omega) ?_ | refine o_mul rfl rfl rfl (by omega) (by omega) ?_ | refine o_sadd rfl rfl rfl (by omega) ?_ | refine o_seql_t rfl rfl rfl (by assumption) ?_ | refine o_seql_f rfl rfl rfl (by assumption) ?_ | refine o_ct rfl rfl rfl (by dsimp only [cmpP]; omega) ?_ | refine o_cf rfl rfl rfl (by dsimp only [cmpN]; omega) ?_ | (apply o_easy rfl rfl rfl; conv => lhs; whnf) | refine o_non rfl ?_)); apply o_end; (repeat (first | exact OutS.nil | exact GetS.hit | exact PutS.hit | apply GetS.miss rfl | apply PutS.miss rfl | apply OutS.cons | apply OutS.skip rfl)))
      ((repeat refine c_seq ?_); refine c_if rfl ?_)
      ((repeat refine c_seq ?_); refine c_region ?_; (repeat (first | ((first | apply o_move rfl rfl | apply o_easy1 rfl rfl rfl | apply o_ld rfl rfl (by assumption) (by first | rfl | assumption)); conv => lhs; whnf) | refine o_no rfl ?_ | refine o_add rfl rfl rfl (by omega) (by omega) ?_ | refine o_sub rfl rfl rfl (by omega) (by omega) ?_ | refine o_mul rfl rfl rfl (by omega) (by omega) ?_ | refine o_sadd rfl rfl rfl (by omega) ?_ | refine o_seql_t rfl rfl rfl (by assumption) ?_ | refine o_seql_f rfl rfl rfl (by assumption) ?_ | refine o_ct rfl rfl rfl (by dsimp only [cmpP]; omega) ?_ | refine o_cf rfl rfl rfl (by dsimp only [cmpN]; omega) ?_ | (apply o_easy rfl rfl rfl; conv => lhs; whnf) | refine o_non rfl ?_)); apply o_end; (repeat (first | exact OutS.nil | exact GetS.hit | exact PutS.hit | apply GetS.miss rfl | apply PutS.miss rfl | apply OutS.cons | apply OutS.skip rfl)))
      exact c_ret rfl
  | ok x1 =>
    obtain ⟨x, j1⟩ := x1
    cases r2 with
    | error e2 =>
      refine ⟨400 + N1 + N2 + 1, ?_⟩
      generalize hm : 400 + N1 + N2 = m
      have hp1 := hN1 m (by omega) (bar0.into .pure sg0) sg0 (.vec (Am.byteCells a) .shut) .nilsl rfl rfl
      have hp2 := hN2 m (by omega) (bar0.into .pure sg0) sg0 (.vec (Am.byteCells b) .shut) .nilsl rfl rfl
      (apply f_of rfl rfl; (repeat (first | exact Shape.nil | (apply Shape.cons; conv => lhs; whnf))))
      ((repeat refine c_seq ?_); refine c_region ?_; (repeat (first | ((first | apply o_move rfl rfl | apply o_easy1 rfl rfl rfl | apply o_ld rfl rfl (by assumption) (by first | rfl | assumption)); conv => lhs; whnf) | refine o_no rfl ?_ | refine o_add rfl rfl rfl (by omega) (by omega) ?_ | refine o_sub rfl rfl rfl (by omega) (by omega) ?_ | refine o_mul rfl rfl rfl (by omega) (by omega) ?_ | refine o_sadd rfl rfl rfl (by omega) ?_ | refine o_seql_t rfl rfl rfl (by assumption) ?_ | refine o_seql_f rfl rfl rfl (by assumption) ?_ | refine o_ct rfl rfl rfl (by dsimp only [cmpP]; omega) ?_ | refine o_cf rfl rfl rfl (by dsimp only [cmpN]; omega) ?_ | (apply o_easy rfl rfl rfl; conv => lhs; whnf) | refine o_non rfl ?_)); apply o_end; (repeat (first | exact OutS.nil | exact GetS.hit | exact PutS.hit | apply GetS.miss rfl | apply PutS.miss rfl | apply OutS.cons | apply OutS.skip rfl)))
      ((repeat refine c_seq ?_); refine c_region ?_; (repeat (first | ((first | apply o_move rfl rfl | apply o_easy1 rfl rfl rfl | apply o_ld rfl rfl (by assumption) (by first | rfl | assumption)); conv => lhs; whnf) | refine o_no rfl ?_ | refine o_add rfl rfl rfl (by omega) (by omega) ?_ | refine o_sub rfl rfl rfl (by omega) (by omega) ?_ | refine o_mul rfl rfl rfl (by omega) (by omega) ?_ | refine o_sadd rfl rfl rfl (by omega) ?_ | refine o_seql_t rfl rfl rfl (by assumption) ?_ | refine o_seql_f rfl rfl rfl (by assumption) ?_ | refine o_ct rfl rfl rfl (by dsimp only [cmpP]; omega) ?_ | refine o_cf rfl rfl rfl (by dsimp only [cmpN]; omega) ?_ | (apply o_easy rfl rfl rfl; conv => lhs; whnf) | refine o_non rfl ?_)))
      refine o_call rfl rfl (awake' m (by omega)) ?_
      (repeat (first | ((first | apply o_move rfl rfl | apply o_easy1 rfl rfl rfl | apply o_ld rfl rfl (by assumption) (by first | rfl | assumption)); conv => lhs; whnf) | refine o_no rfl ?_ | refine o_add rfl rfl rfl (by omega) (by omega) ?_ | refine o_sub rfl rfl rfl (by omega) (by omega) ?_ | refine o_mul rfl rfl rfl (by omega) (by omega) ?_ | refine o_sadd rfl rfl rfl (by omega) ?_ | refine o_seql_t rfl rfl rfl (by assumption) ?_ | refine o_seql_f rfl rfl rfl (by assumption) ?_ | refine o_ct rfl rfl rfl (by dsimp only [cmpP]; omega) ?_ | refine o_cf rfl rfl rfl (by dsimp only [cmpN]; omega) ?_ | (apply o_easy rfl rfl rfl; conv => lhs; whnf) | refine o_non rfl ?_))
      (apply o_end; (repeat (first | exact OutS.nil | exact GetS.hit | exact PutS.hit | apply GetS.miss rfl | apply PutS.miss rfl | apply OutS.cons | apply OutS.skip rfl)))
      ((repeat refine c_seq ?_); refine c_region ?_; (repeat (first | ((first | apply o_move rfl rfl | apply o_easy1 rfl rfl rfl | apply o_ld rfl rfl (by assumption) (by first | rfl | assumption)); conv => lhs; whnf) | refine o_no rfl ?_ | refine o_add rfl rfl rfl (by omega) (by omega) ?_ | refine o_sub rfl rfl rfl (by omega) (by omega) ?_ | refine o_mul rfl rfl rfl (by omega) (by omega) ?_ | refine o_sadd rfl rfl rfl (by omega) ?_ | refine o_seql_t rfl rfl rfl (by assumption) ?_ | refine o_seql_f rfl rfl rfl (by assumption) ?_ | refine o_ct rfl rfl rfl (by dsimp only [cmpP]; omega) ?_ | refine o_cf rfl rfl rfl (by dsimp only [cmpN]; omega) ?_ | (apply o_easy rfl rfl rfl; conv => lhs; whnf) | refine o_non rfl ?_)); apply o_end; (repeat (first | exact OutS.nil | exact GetS.hit | exact PutS.hit | apply GetS.miss rfl | apply PutS.miss rfl | apply OutS.cons | apply OutS.skip rfl)))
      ((repeat refine c_seq ?_); refine c_else rfl ?_)
      refine c_skip ?_
      repeat refine c_seq ?_
      refine reg4_false (by omega) (by omega) (by omega) hnd ?_
      ((repeat refine c_seq ?_); refine c_else rfl ?_)
      refine c_skip ?_
      ((repeat refine c_seq ?_); refine c_region ?_; (repeat (first | ((first | apply o_move rfl rfl | apply o_easy1 rfl rfl rfl | apply o_ld rfl rfl (by assumption) (by first | rfl | assumption)); conv => lhs; whnf) | refine o_no rfl ?_ | refine o_add rfl rfl rfl (by omega) (by omega) ?_ | refine o_sub rfl rfl rfl (by omega) (by omega) ?_ | refine o_mul rfl rfl rfl (by omega) (by omega) ?_ | refine o_sadd rfl rfl rfl (by omega) ?_ | refine o_seql_t rfl rfl rfl (by assumption) ?_ | refine o_seql_f rfl rfl rfl (by assumption) ?_ | refine o_ct rfl rfl rfl (by dsimp only [cmpP]; omega) ?_ | refine o_cf rfl rfl rfl (by dsimp only [cmpN]; omega) ?_ | (apply o_easy rfl rfl rfl; conv => lhs; whnf) | refine o_non rfl ?_)))
      refine o_call rfl rfl hp1 ?_
      (repeat (first | ((first | apply o_move rfl rfl | apply o_easy1 rfl rfl rfl | apply o_ld rfl rfl (by assumption) (by first | rfl | assumption)); conv => lhs; whnf) | refine o_no rfl ?_ | refine o_add rfl rfl rfl (by omega) (by omega) ?_ | refine o_sub rfl rfl rfl (by omega) (by omega) ?_ | refine o_mul rfl rfl rfl (by omega) (by omega) ?_ | refine o_sadd rfl rfl rfl (by omega) ?_ | refine o_seql_t rfl rfl rfl (by assumption) ?_ | refine o_seql_f rfl rfl rfl (by assumption) ?_ | refine o_ct rfl rfl rfl (by dsimp only [cmpP]; omega) ?_ | refine o_cf rfl rfl rfl (by dsimp only [cmpN]; omega) ?_ | (apply o_easy rfl rfl rfl; conv => lhs; whnf) | refine o_non rfl ?_))
      (apply o_end; (repeat (first | exact OutS.nil | exact GetS.hit | exact PutS.hit | apply GetS.miss rfl | apply PutS.miss rfl | apply OutS.cons | apply OutS.skip rfl)))
      ((repeat refine c_seq ?_); refine c_region ?_; (repeat (first | ((first | apply o_move rfl rfl | apply o_easy1 rfl rfl rfl | apply o_ld rfl rfl (by assumption) (by first | rfl | assumption)); conv => lhs; whnf) | refine o_no rfl ?_ | refine o_add rfl rfl rfl (by omega) (by omega) ?_ | refine o_sub rfl rfl rfl (by omega) (by omega) ?_ | refine o_mul rfl rfl rfl (by omega) (by omega) ?_ | refine o_sadd rfl rfl rfl (by omega) ?_ | refine o_seql_t rfl rfl rfl (by assumption) ?_ | refine o_seql_f rfl rfl rfl (by assumption) ?_ | refine o_ct rfl rfl rfl (by dsimp only [cmpP]; omega) ?_ | refine o_cf rfl rfl rfl (by dsimp only [cmpN]; omega) ?_ | (apply o_easy rfl rfl rfl; conv => lhs; whnf) | refine o_non rfl ?_)))
      refine o_call rfl rfl hp2 ?_
      (repeat (first | ((first | apply o_move rfl rfl | apply o_easy1 rfl rfl rfl | apply o_ld rfl rfl (by assumption) (by first | rfl | assumption)); conv => lhs; whnf) | refine o_no rfl ?_ | refine o_add rfl rfl rfl (by omega) (by omega) ?_ | refine o_sub rfl rfl rfl (by omega) (by omega) ?_ | refine o_mul rfl rfl rfl (by omega) (by omega) ?_ | refine o_sadd rfl rfl rfl (by omega) ?_ | refine o_seql_t rfl rfl rfl (by assumption) ?_ | refine o_seql_f rfl rfl rfl (by assumption) ?_ | refine o_ct rfl rfl rfl (by dsimp only [cmpP]; omega) ?_ | refine o_cf rfl rfl rfl (by dsimp only [cmpN]; omega) ?_ | (apply o_easy rfl rfl rfl; conv => lhs; whnf) | refine o_non rfl ?_))
      (apply o_end; (repeat (first | exact OutS.nil | exact GetS.hit | exact PutS.hit | apply GetS.miss rfl | apply PutS.miss rfl | apply OutS.cons | apply OutS.skip rfl)))
      ((repeat refine c_seq ?_); refine c_region ?_; (repeat (first | ((first | apply o_move rfl rfl | apply o_easy1 rfl rfl rfl | apply o_ld rfl rfl (by assumption) (by first | rfl | assumption)); conv => lhs; whnf) | refine o_no rfl ?_ | refine o_add rfl rfl rfl (by omega) (by omega) ?_ | refine o_sub rfl rfl rfl (by omega) (by omega) ?_ | refine o_mul rfl rfl rfl (by omega) (by omega) ?_ | refine o_sadd rfl rfl rfl (by omega) ?_ | refine o_seql_t rfl rfl rfl (by assumption) ?_ | refine o_seql_f rfl rfl rfl (by assumption) ?_ | refine o_ct rfl rfl rfl (by dsimp only [cmpP]; omega) ?_ | refine o_cf rfl rfl rfl (by dsimp only [cmpN]; omega) ?_ | (apply o_easy rfl rfl rfl; conv => lhs; whnf) | refine o_non rfl ?_)); apply o_end; (repeat (first | exact OutS.nil | exact GetS.hit | exact PutS.hit | apply GetS.miss rfl | apply PutS.miss rfl | apply OutS.cons | apply OutS.skip rfl)))
      ((repeat refine c_seq ?_); refine c_if rfl ?_)
      ((repeat refine c_seq ?_); refine c_region ?_; (repeat (first | ((first | apply o_move rfl rfl | apply o_easy1 rfl rfl rfl | apply o_ld rfl rfl (by assumption) (by first | rfl | assumption)); conv => lhs; whnf) | refine o_no rfl ?_ | refine o_add rfl rfl rfl (by omega) (by omega) ?_ | refine o_sub rfl rfl rfl (by omega) (by omega) ?_ | refine o_mul rfl rfl rfl (by omega) (by omega) ?_ | refine o_sadd rfl rfl rfl (by omega) ?_ | refine o_seql_t rfl rfl rfl (by assumption) ?_ | refine o_seql_f rfl rfl rfl (by assumption) ?_ | refine o_ct rfl rfl rfl (by dsimp only [cmpP]; omega) ?_ | refine o_cf rfl rfl rfl (by dsimp only [cmpN]; omega) ?_ | (apply o_easy rfl rfl rfl; conv => lhs; whnf) | refine o_non rfl ?_)); apply o_end; (repeat (first | exact OutS.nil | exact GetS.hit | exact PutS.hit | apply GetS.miss rfl | apply PutS.miss rfl | apply OutS.cons | apply OutS.skip rfl)))
      exact c_ret rfl
    | ok x2 =>
      obtain ⟨y, j2⟩ := x2
      obtain ⟨n3, z, j3, hr3, hz⟩ := model_joins gr hnd hr1 hr2
      have hab : (a ++ b).length ≤ 1000 := by simp; omega
      obtain ⟨N3, hN3⟩ := parse_spec (a ++ b) gr (by omega) n3 _ hr3
      obtain ⟨lx, NX, hNX⟩ := expand_of hr1 (by omega) subj spans (by omega)
      obtain ⟨ly, NY, hNY⟩ := expand_of hr2 (by omega) subj spans (by omega)
      obtain ⟨lz, NZ, hNZ⟩ := expand_of hr3 hab subj spans (by omega)
      refine ⟨400 + N1 + N2 + N3 + NX + NY + NZ + 1, ?_⟩
      generalize hm : 400 + N1 + N2 + N3 + NX + NY + NZ = m
      have hp1 := hN1 m (by omega) (bar0.into .pure sg0) sg0 (.vec (Am.byteCells a) .shut) .nilsl rfl rfl
      have hp2 := hN2 m (by omega) (bar0.into .pure sg0) sg0 (.vec (Am.byteCells b) .shut) .nilsl rfl rfl
      (apply f_of rfl rfl; (repeat (first | exact Shape.nil | (apply Shape.cons; conv => lhs; whnf))))
      ((repeat refine c_seq ?_); refine c_region ?_; (repeat (first | ((first | apply o_move rfl rfl | apply o_easy1 rfl rfl rfl | apply o_ld rfl rfl (by assumption) (by first | rfl | assumption)); conv => lhs; whnf) | refine o_no rfl ?_ | refine o_add rfl rfl rfl (by omega) (by omega) ?_ | refine o_sub rfl rfl rfl (by omega) (by omega) ?_ | refine o_mul rfl rfl rfl (by omega) (by omega) ?_ | refine o_sadd rfl rfl rfl (by omega) ?_ | refine o_seql_t rfl rfl rfl (by assumption) ?_ | refine o_seql_f rfl rfl rfl (by assumption) ?_ | refine o_ct rfl rfl rfl (by dsimp only [cmpP]; omega) ?_ | refine o_cf rfl rfl rfl (by dsimp only [cmpN]; omega) ?_ | (apply o_easy rfl rfl rfl; conv => lhs; whnf) | refine o_non rfl ?_)); apply o_end; (repeat (first | exact OutS.nil | exact GetS.hit | exact PutS.hit | apply GetS.miss rfl | apply PutS.miss rfl | apply OutS.cons | apply OutS.skip rfl)))
      ((repeat refine c_seq ?_); refine c_region ?_; (repeat (first | ((first | apply o_move rfl rfl | apply o_easy1 rfl rfl rfl | apply o_ld rfl rfl (by assumption) (by first | rfl | assumption)); conv => lhs; whnf) | refine o_no rfl ?_ | refine o_add rfl rfl rfl (by omega) (by omega) ?_ | refine o_sub rfl rfl rfl (by omega) (by omega) ?_ | refine o_mul rfl rfl rfl (by omega) (by omega) ?_ | refine o_sadd rfl rfl rfl (by omega) ?_ | refine o_seql_t rfl rfl rfl (by assumption) ?_ | refine o_seql_f rfl rfl rfl (by assumption) ?_ | refine o_ct rfl rfl rfl (by dsimp only [cmpP]; omega) ?_ | refine o_cf rfl rfl rfl (by dsimp only [cmpN]; omega) ?_ | (apply o_easy rfl rfl rfl; conv => lhs; whnf) | refine o_non rfl ?_)))
      refine o_call rfl rfl (awake' m (by omega)) ?_
      (repeat (first | ((first | apply o_move rfl rfl | apply o_easy1 rfl rfl rfl | apply o_ld rfl rfl (by assumption) (by first | rfl | assumption)); conv => lhs; whnf) | refine o_no rfl ?_ | refine o_add rfl rfl rfl (by omega) (by omega) ?_ | refine o_sub rfl rfl rfl (by omega) (by omega) ?_ | refine o_mul rfl rfl rfl (by omega) (by omega) ?_ | refine o_sadd rfl rfl rfl (by omega) ?_ | refine o_seql_t rfl rfl rfl (by assumption) ?_ | refine o_seql_f rfl rfl rfl (by assumption) ?_ | refine o_ct rfl rfl rfl (by dsimp only [cmpP]; omega) ?_ | refine o_cf rfl rfl rfl (by dsimp only [cmpN]; omega) ?_ | (apply o_easy rfl rfl rfl; conv => lhs; whnf) | refine o_non rfl ?_))
      (apply o_end; (repeat (first | exact OutS.nil | exact GetS.hit | exact PutS.hit | apply GetS.miss rfl | apply PutS.miss rfl | apply OutS.cons | apply OutS.skip rfl)))
      ((repeat refine c_seq ?_); refine c_region ?_; (repeat (first | ((first | apply o_move rfl rfl | apply o_easy1 rfl rfl rfl | apply o_ld rfl rfl (by assumption) (by first | rfl | assumption)); conv => lhs; whnf) | refine o_no rfl ?_ | refine o_add rfl rfl rfl (by omega) (by omega) ?_ | refine o_sub rfl rfl rfl (by omega) (by omega) ?_ | refine o_mul rfl rfl rfl (by omega) (by omega) ?_ | refine o_sadd rfl rfl rfl (by omega) ?_ | refine o_seql_t rfl rfl rfl (by assumption) ?_ | refine o_seql_f rfl rfl rfl (by assumption) ?_ | refine o_ct rfl rfl rfl (by dsimp only [cmpP]; omega) ?_ | refine o_cf rfl rfl rfl (by dsimp only [cmpN]; omega) ?_ | (apply o_easy rfl rfl rfl; conv => lhs; whnf) | refine o_non rfl ?_)); apply o_end; (repeat (first | exact OutS.nil | exact GetS.hit | exact PutS.hit | apply GetS.miss rfl | apply PutS.miss rfl | apply OutS.cons | apply OutS.skip rfl)))
      ((repeat refine c_seq ?_); refine c_else rfl ?_)
      refine c_skip ?_
      repeat refine c_seq ?_
      refine reg4_false (by omega) (by omega) (by omega) hnd ?_
      ((repeat refine c_seq ?_); refine c_else rfl ?_)
      refine c_skip ?_
      ((repeat refine c_seq ?_); refine c_region ?_; (repeat (first | ((first | apply o_move rfl rfl | apply o_easy1 rfl rfl rfl | apply o_ld rfl rfl (by assumption) (by first | rfl | assumption)); conv => lhs; whnf) | refine o_no rfl ?_ | refine o_add rfl rfl rfl (by omega) (by omega) ?_ | refine o_sub rfl rfl rfl (by omega) (by omega) ?_ | refine o_mul rfl rfl rfl (by omega) (by omega) ?_ | refine o_sadd rfl rfl rfl (by omega) ?_ | refine o_seql_t rfl rfl rfl (by assumption) ?_ | refine o_seql_f rfl rfl rfl (by assumption) ?_ | refine o_ct rfl rfl rfl (by dsimp only [cmpP]; omega) ?_ | refine o_cf rfl rfl rfl (by dsimp only [cmpN]; omega) ?_ | (apply o_easy rfl rfl rfl; conv => lhs; whnf) | refine o_non rfl ?_)))
      refine o_call rfl rfl hp1 ?_
      (repeat (first | ((first | apply o_move rfl rfl | apply o_easy1 rfl rfl rfl | apply o_ld rfl rfl (by assumption) (by first | rfl | assumption)); conv => lhs; whnf) | refine o_no rfl ?_ | refine o_add rfl rfl rfl (by omega) (by omega) ?_ | refine o_sub rfl rfl rfl (by omega) (by omega) ?_ | refine o_mul rfl rfl rfl (by omega) (by omega) ?_ | refine o_sadd rfl rfl rfl (by omega) ?_ | refine o_seql_t rfl rfl rfl (by assumption) ?_ | refine o_seql_f rfl rfl rfl (by assumption) ?_ | refine o_ct rfl rfl rfl (by dsimp only [cmpP]; omega) ?_ | refine o_cf rfl rfl rfl (by dsimp only [cmpN]; omega) ?_ | (apply o_easy rfl rfl rfl; conv => lhs; whnf) | refine o_non rfl ?_))
      (apply o_end; (repeat (first | exact OutS.nil | exact GetS.hit | exact PutS.hit | apply GetS.miss rfl | apply PutS.miss rfl | apply OutS.cons | apply OutS.skip rfl)))
      ((repeat refine c_seq ?_); refine c_region ?_; (repeat (first | ((first | apply o_move rfl rfl | apply o_easy1 rfl rfl rfl | apply o_ld rfl rfl (by assumption) (by first | rfl | assumption)); conv => lhs; whnf) | refine o_no rfl ?_ | refine o_add rfl rfl rfl (by omega) (by omega) ?_ | refine o_sub rfl rfl rfl (by omega) (by omega) ?_ | refine o_mul rfl rfl rfl (by omega) (by omega) ?_ | refine o_sadd rfl rfl rfl (by omega) ?_ | refine o_seql_t rfl rfl rfl (by assumption) ?_ | refine o_seql_f rfl rfl rfl (by assumption) ?_ | refine o_ct rfl rfl rfl (by dsimp only [cmpP]; omega) ?_ | refine o_cf rfl rfl rfl (by dsimp only [cmpN]; omega) ?_ | (apply o_easy rfl rfl rfl; conv => lhs; whnf) | refine o_non rfl ?_)))
      refine o_call rfl rfl hp2 ?_
      (repeat (first | ((first | apply o_move rfl rfl | apply o_easy1 rfl rfl rfl | apply o_ld rfl rfl (by assumption) (by first | rfl | assumption)); conv => lhs; whnf) | refine o_no rfl ?_ | refine o_add rfl rfl rfl (by omega) (by omega) ?_ | refine o_sub rfl rfl rfl (by omega) (by omega) ?_ | refine o_mul rfl rfl rfl (by omega) (by omega) ?_ | refine o_sadd rfl rfl rfl (by omega) ?_ | refine o_seql_t rfl rfl rfl (by assumption) ?_ | refine o_seql_f rfl rfl rfl (by assumption) ?_ | refine o_ct rfl rfl rfl (by dsimp only [cmpP]; omega) ?_ | refine o_cf rfl rfl rfl (by dsimp only [cmpN]; omega) ?_ | (apply o_easy rfl rfl rfl; conv => lhs; whnf) | refine o_non rfl ?_))
      (apply o_end; (repeat (first | exact OutS.nil | exact GetS.hit | exact PutS.hit | apply GetS.miss rfl | apply PutS.miss rfl | apply OutS.cons | apply OutS.skip rfl)))
      ((repeat refine c_seq ?_); refine c_region ?_; (repeat (first | ((first | apply o_move rfl rfl | apply o_easy1 rfl rfl rfl | apply o_ld rfl rfl (by assumption) (by first | rfl | assumption)); conv => lhs; whnf) | refine o_no rfl ?_ | refine o_add rfl rfl rfl (by omega) (by omega) ?_ | refine o_sub rfl rfl rfl (by omega) (by omega) ?_ | refine o_mul rfl rfl rfl (by omega) (by omega) ?_ | refine o_sadd rfl rfl rfl (by omega) ?_ | refine o_seql_t rfl rfl rfl (by assumption) ?_ | refine o_seql_f rfl rfl rfl (by assumption) ?_ | refine o_ct rfl rfl rfl (by dsimp only [cmpP]; omega) ?_ | refine o_cf rfl rfl rfl (by dsimp only [cmpN]; omega) ?_ | (apply o_easy rfl rfl rfl; conv => lhs; whnf) | refine o_non rfl ?_)); apply o_end; (repeat (first | exact OutS.nil | exact GetS.hit | exact PutS.hit | apply GetS.miss rfl | apply PutS.miss rfl | apply OutS.cons | apply OutS.skip rfl)))
      ((repeat refine c_seq ?_); refine c_else rfl ?_)
      refine c_skip ?_
      ((repeat refine c_seq ?_); refine c_region ?_; (repeat (first | ((first | apply o_move rfl rfl | apply o_easy1 rfl rfl rfl | apply o_ld rfl rfl (by assumption) (by first | rfl | assumption)); conv => lhs; whnf) | refine o_no rfl ?_ | refine o_add rfl rfl rfl (by omega) (by omega) ?_ | refine o_sub rfl rfl rfl (by omega) (by omega) ?_ | refine o_mul rfl rfl rfl (by omega) (by omega) ?_ | refine o_sadd rfl rfl rfl (by omega) ?_ | refine o_seql_t rfl rfl rfl (by assumption) ?_ | refine o_seql_f rfl rfl rfl (by assumption) ?_ | refine o_ct rfl rfl rfl (by dsimp only [cmpP]; omega) ?_ | refine o_cf rfl rfl rfl (by dsimp only [cmpN]; omega) ?_ | (apply o_easy rfl rfl rfl; conv => lhs; whnf) | refine o_non rfl ?_)); apply o_end; (repeat (first | exact OutS.nil | exact GetS.hit | exact PutS.hit | apply GetS.miss rfl | apply PutS.miss rfl | apply OutS.cons | apply OutS.skip rfl)))
      ((repeat refine c_seq ?_); refine c_region ?_; (repeat (first | ((first | apply o_move rfl rfl | apply o_easy1 rfl rfl rfl | apply o_ld rfl rfl (by assumption) (by first | rfl | assumption)); conv => lhs; whnf) | refine o_no rfl ?_ | refine o_add rfl rfl rfl (by omega) (by omega) ?_ | refine o_sub rfl rfl rfl (by omega) (by omega) ?_ | refine o_mul rfl rfl rfl (by omega) (by omega) ?_ | refine o_sadd rfl rfl rfl (by omega) ?_ | refine o_seql_t rfl rfl rfl (by assumption) ?_ | refine o_seql_f rfl rfl rfl (by assumption) ?_ | refine o_ct rfl rfl rfl (by dsimp only [cmpP]; omega) ?_ | refine o_cf rfl rfl rfl (by dsimp only [cmpN]; omega) ?_ | (apply o_easy rfl rfl rfl; conv => lhs; whnf) | refine o_non rfl ?_)))
      refine o_appB (t0 := 0) (l := []) (p := a) rfl rfl (.inl ⟨rfl, rfl⟩) (Nat.le_refl 0) (Nat.zero_le _) rfl rfl (by simp; omega) fun v1 s1 hv1 hh1 ht1 => ?_
      refine o_move rfl hv1.defd rfl ?_
      (apply o_end; (repeat (first | exact OutS.nil | exact GetS.hit | exact PutS.hit | apply GetS.miss rfl | apply PutS.miss rfl | apply OutS.cons | apply OutS.skip rfl)))
      ((repeat refine c_seq ?_); refine c_region ?_; (repeat (first | ((first | apply o_move rfl rfl | apply o_easy1 rfl rfl rfl | apply o_ld rfl rfl (by assumption) (by first | rfl | assumption)); conv => lhs; whnf) | refine o_no rfl ?_ | refine o_add rfl rfl rfl (by omega) (by omega) ?_ | refine o_sub rfl rfl rfl (by omega) (by omega) ?_ | refine o_mul rfl rfl rfl (by omega) (by omega) ?_ | refine o_sadd rfl rfl rfl (by omega) ?_ | refine o_seql_t rfl rfl rfl (by assumption) ?_ | refine o_seql_f rfl rfl rfl (by assumption) ?_ | refine o_ct rfl rfl rfl (by dsimp only [cmpP]; omega) ?_ | refine o_cf rfl rfl rfl (by dsimp only [cmpN]; omega) ?_ | (apply o_easy rfl rfl rfl; conv => lhs; whnf) | refine o_non rfl ?_)))
      refine o_move rfl hv1.defd rfl ?_
      (repeat (first | ((first | apply o_move rfl rfl | apply o_easy1 rfl rfl rfl | apply o_ld rfl rfl (by assumption) (by first | rfl | assumption)); conv => lhs; whnf) | refine o_no rfl ?_ | refine o_add rfl rfl rfl (by omega) (by omega) ?_ | refine o_sub rfl rfl rfl (by omega) (by omega) ?_ | refine o_mul rfl rfl rfl (by omega) (by omega) ?_ | refine o_sadd rfl rfl rfl (by omega) ?_ | refine o_seql_t rfl rfl rfl (by assumption) ?_ | refine o_seql_f rfl rfl rfl (by assumption) ?_ | refine o_ct rfl rfl rfl (by dsimp only [cmpP]; omega) ?_ | refine o_cf rfl rfl rfl (by dsimp only [cmpN]; omega) ?_ | (apply o_easy rfl rfl rfl; conv => lhs; whnf) | refine o_non rfl ?_))
      refine o_appB (p := b) rfl hv1.defd hv1 (Nat.le_refl 0) (Nat.zero_le _) rfl rfl (by simp; omega) fun v2 s2 hv2 hh2 ht2 => ?_
      refine o_move rfl hv2.defd rfl ?_
      (apply o_end; (repeat (first | exact OutS.nil | exact GetS.hit | exact PutS.hit | apply GetS.miss rfl | apply PutS.miss rfl | apply OutS.cons | apply OutS.skip rfl)))
      rw [List.nil_append] at hv2
      have hp3 := hN3 m (by omega) (bar0.into .pure sg0) s2 v2 .nilsl hv2.weak rfl
      have hx := hNX m (by omega) (bar0.into .pure sg0) s2 (.vec (avs x) .shut) (.vec (Am.byteCells subj) .shut) (.vec (spAV spans) .shut) rfl rfl rfl
      have hy := hNY m (by omega) (bar0.into .pure sg0) s2 (.vec (avs y) .shut) (.vec (Am.byteCells subj) .shut) (.vec (spAV spans) .shut) rfl rfl rfl
      have hzz := hNZ m (by omega) (bar0.into .pure sg0) s2 (.vec (avs z) .shut) (.vec (Am.byteCells subj) .shut) (.vec (spAV spans) .shut) rfl rfl rfl
      have hzx := hz subj spans
      ((repeat refine c_seq ?_); refine c_region ?_; (repeat (first | ((first | apply o_move rfl rfl | apply o_easy1 rfl rfl rfl | apply o_ld rfl rfl (by assumption) (by first | rfl | assumption)); conv => lhs; whnf) | refine o_no rfl ?_ | refine o_add rfl rfl rfl (by omega) (by omega) ?_ | refine o_sub rfl rfl rfl (by omega) (by omega) ?_ | refine o_mul rfl rfl rfl (by omega) (by omega) ?_ | refine o_sadd rfl rfl rfl (by omega) ?_ | refine o_seql_t rfl rfl rfl (by assumption) ?_ | refine o_seql_f rfl rfl rfl (by assumption) ?_ | refine o_ct rfl rfl rfl (by dsimp only [cmpP]; omega) ?_ | refine o_cf rfl rfl rfl (by dsimp only [cmpN]; omega) ?_ | (apply o_easy rfl rfl rfl; conv => lhs; whnf) | refine o_non rfl ?_)))
      refine o_move rfl hv2.defd rfl ?_
      (repeat (first | ((first | apply o_move rfl rfl | apply o_easy1 rfl rfl rfl | apply o_ld rfl rfl (by assumption) (by first | rfl | assumption)); conv => lhs; whnf) | refine o_no rfl ?_ | refine o_add rfl rfl rfl (by omega) (by omega) ?_ | refine o_sub rfl rfl rfl (by omega) (by omega) ?_ | refine o_mul rfl rfl rfl (by omega) (by omega) ?_ | refine o_sadd rfl rfl rfl (by omega) ?_ | refine o_seql_t rfl rfl rfl (by assumption) ?_ | refine o_seql_f rfl rfl rfl (by assumption) ?_ | refine o_ct rfl rfl rfl (by dsimp only [cmpP]; omega) ?_ | refine o_cf rfl rfl rfl (by dsimp only [cmpN]; omega) ?_ | (apply o_easy rfl rfl rfl; conv => lhs; whnf) | refine o_non rfl ?_))
      refine o_call rfl (evAll3 hv2.defd rfl rfl) hp3 ?_
      (repeat (first | ((first | apply o_move rfl rfl | apply o_easy1 rfl rfl rfl | apply o_ld rfl rfl (by assumption) (by first | rfl | assumption)); conv => lhs; whnf) | refine o_no rfl ?_ | refine o_add rfl rfl rfl (by omega) (by omega) ?_ | refine o_sub rfl rfl rfl (by omega) (by omega) ?_ | refine o_mul rfl rfl rfl (by omega) (by omega) ?_ | refine o_sadd rfl rfl rfl (by omega) ?_ | refine o_seql_t rfl rfl rfl (by assumption) ?_ | refine o_seql_f rfl rfl rfl (by assumption) ?_ | refine o_ct rfl rfl rfl (by dsimp only [cmpP]; omega) ?_ | refine o_cf rfl rfl rfl (by dsimp only [cmpN]; omega) ?_ | (apply o_easy rfl rfl rfl; conv => lhs; whnf) | refine o_non rfl ?_))
      (apply o_end; (repeat (first | exact OutS.nil | exact GetS.hit | exact PutS.hit | apply GetS.miss rfl | apply PutS.miss rfl | apply OutS.cons | apply OutS.skip rfl)))
      ((repeat refine c_seq ?_); refine c_drawn ?_; (repeat (first | ((first | apply o_move rfl rfl | apply o_easy1 rfl rfl rfl | apply o_ld rfl rfl (by assumption) (by first | rfl | assumption)); conv => lhs; whnf) | refine o_no rfl ?_ | refine o_add rfl rfl rfl (by omega) (by omega) ?_ | refine o_sub rfl rfl rfl (by omega) (by omega) ?_ | refine o_mul rfl rfl rfl (by omega) (by omega) ?_ | refine o_sadd rfl rfl rfl (by omega) ?_ | refine o_seql_t rfl rfl rfl (by assumption) ?_ | refine o_seql_f rfl rfl rfl (by assumption) ?_ | refine o_ct rfl rfl rfl (by dsimp only [cmpP]; omega) ?_ | refine o_cf rfl rfl rfl (by dsimp only [cmpN]; omega) ?_ | (apply o_easy rfl rfl rfl; conv => lhs; whnf) | refine o_non rfl ?_)))
      refine o_call rfl rfl hx ?_
      refine o_strB _ rfl rfl rfl ?_
      (repeat (first | ((first | apply o_move rfl rfl | apply o_easy1 rfl rfl rfl | apply o_ld rfl rfl (by assumption) (by first | rfl | assumption)); conv => lhs; whnf) | refine o_no rfl ?_ | refine o_add rfl rfl rfl (by omega) (by omega) ?_ | refine o_sub rfl rfl rfl (by omega) (by omega) ?_ | refine o_mul rfl rfl rfl (by omega) (by omega) ?_ | refine o_sadd rfl rfl rfl (by omega) ?_ | refine o_seql_t rfl rfl rfl (by assumption) ?_ | refine o_seql_f rfl rfl rfl (by assumption) ?_ | refine o_ct rfl rfl rfl (by dsimp only [cmpP]; omega) ?_ | refine o_cf rfl rfl rfl (by dsimp only [cmpN]; omega) ?_ | (apply o_easy rfl rfl rfl; conv => lhs; whnf) | refine o_non rfl ?_))
      refine o_call rfl rfl hy ?_
      refine o_strB _ rfl rfl rfl ?_
      (repeat (first | ((first | apply o_move rfl rfl | apply o_easy1 rfl rfl rfl | apply o_ld rfl rfl (by assumption) (by first | rfl | assumption)); conv => lhs; whnf) | refine o_no rfl ?_ | refine o_add rfl rfl rfl (by omega) (by omega) ?_ | refine o_sub rfl rfl rfl (by omega) (by omega) ?_ | refine o_mul rfl rfl rfl (by omega) (by omega) ?_ | refine o_sadd rfl rfl rfl (by omega) ?_ | refine o_seql_t rfl rfl rfl (by assumption) ?_ | refine o_seql_f rfl rfl rfl (by assumption) ?_ | refine o_ct rfl rfl rfl (by dsimp only [cmpP]; omega) ?_ | refine o_cf rfl rfl rfl (by dsimp only [cmpN]; omega) ?_ | (apply o_easy rfl rfl rfl; conv => lhs; whnf) | refine o_non rfl ?_))
      (apply d_end rfl; (repeat (first | exact OutS.nil | exact GetS.hit | exact PutS.hit | apply GetS.miss rfl | apply PutS.miss rfl | apply OutS.cons | apply OutS.skip rfl)))
      ((repeat refine c_seq ?_); refine c_region ?_; (repeat (first | ((first | apply o_move rfl rfl | apply o_easy1 rfl rfl rfl | apply o_ld rfl rfl (by assumption) (by first | rfl | assumption)); conv => lhs; whnf) | refine o_no rfl ?_ | refine o_add rfl rfl rfl (by omega) (by omega) ?_ | refine o_sub rfl rfl rfl (by omega) (by omega) ?_ | refine o_mul rfl rfl rfl (by omega) (by omega) ?_ | refine o_sadd rfl rfl rfl (by omega) ?_ | refine o_seql_t rfl rfl rfl (by assumption) ?_ | refine o_seql_f rfl rfl rfl (by assumption) ?_ | refine o_ct rfl rfl rfl (by dsimp only [cmpP]; omega) ?_ | refine o_cf rfl rfl rfl (by dsimp only [cmpN]; omega) ?_ | (apply o_easy rfl rfl rfl; conv => lhs; whnf) | refine o_non rfl ?_)))
      refine o_call rfl rfl hzz ?_
      refine o_strB _ rfl rfl rfl ?_
      (repeat (first | ((first | apply o_move rfl rfl | apply o_easy1 rfl rfl rfl | apply o_ld rfl rfl (by assumption) (by first | rfl | assumption)); conv => lhs; whnf) | refine o_no rfl ?_ | refine o_add rfl rfl rfl (by omega) (by omega) ?_ | refine o_sub rfl rfl rfl (by omega) (by omega) ?_ | refine o_mul rfl rfl rfl (by omega) (by omega) ?_ | refine o_sadd rfl rfl rfl (by omega) ?_ | refine o_seql_t rfl rfl rfl (by assumption) ?_ | refine o_seql_f rfl rfl rfl (by assumption) ?_ | refine o_ct rfl rfl rfl (by dsimp only [cmpP]; omega) ?_ | refine o_cf rfl rfl rfl (by dsimp only [cmpN]; omega) ?_ | (apply o_easy rfl rfl rfl; conv => lhs; whnf) | refine o_non rfl ?_))
      (apply o_end; (repeat (first | exact OutS.nil | exact GetS.hit | exact PutS.hit | apply GetS.miss rfl | apply PutS.miss rfl | apply OutS.cons | apply OutS.skip rfl)))
      exact c_ret rfl


end Go.Tpl

/-
  Of two templates, one behind the other, the expansion is that of both, if the second one doesn't begin with a digit: TemplateJoins answers true, whatever the texts, groups, subject and spans, and leaves them as they were.
-/
namespace Go.Proofs.Ytdbjemmoaldelaa
open Go.ChangeShapes Go.WideShapes Go.ChangeAt Go.RowKit

theorem own : ownKnob Try.prog.godebug = none := by kernel_rfl
theorem laidOut : laidOutB Try.prog = true := by kernel_rfl
theorem rowed : mapsRowed Try.prog = true := by kernel_rfl
theorem full : ∀ t e, t < Try.prog.types.size → Try.prog.underlying t = some (.slice e) → 0 < Try.prog.cellsOf e := slices_full_of Try.prog (by kernel_rfl)
theorem cells5 : Try.prog.cellsOf 5 = 1 := by kernel_rfl
theorem cells3 : Try.prog.cellsOf 3 = 1 := by kernel_rfl
theorem cells35 : Try.prog.cellsOf 35 = 2 := by kernel_rfl

set_option maxRecDepth 100000 in
theorem joins_lifted (os : Os) (started : os.Started) (H : Type) (enc : TypeId × Value → H) :
    ReturnsInHanded {} Try.checked os 4 .any (Rows.templateJoinsSpec.pre6 enc Try.prog Try.f4 Rows.templateJoinsRow.domain false) (Rows.templateJoinsSpec.post enc Try.prog Try.f4 false true false false) := by
  refine returnsInHanded_of_change (C := Try.checked) own started (by kernel_rfl) Try.func4
    (ChangeSpec.witness6 (enc := enc) (C := Try.checked) false ⟨#[], #[.slice none 0 0, .slice none 0 0, .int .i64 0, .slice none 0 0, .slice none 0 0], []⟩ 8 (by kernel_rfl) (by kernel_rfl) (by kernel_rfl) (by kernel_rfl)) ?_
  intro W base args ds gs before hval0 hW hcnd _
  have hval : ∀ (j : Nat) t v, Try.f4.params[j]? = some t → args[j]? = some v → Value.okWide Try.prog W .any base t v := hval0
  have hW' : DataW.Whole enc Try.prog Try.f4.params.toList Rows.templateJoinsSpec.vars false W args.toList ds gs before := hW
  obtain ⟨p, q, hA0, hV, rfl, hfz, hnd⟩ := hW
  have hA : DataW.TrodAll enc Try.prog W 0 (fun _ => true) true Try.f4.params.toList args.toList ds p := hA0
  have hts : ∀ t ∈ Try.f4.params.toList, t < Try.prog.types.size := of_decide_eq_true (by kernel_rfl)
  rw [Try.params4] at hA hval
  obtain ⟨v0, vs0, d0, ds0, p0, q0, hargs, rfl, rfl, h0, r0⟩ := trodAll_cons hA
  obtain ⟨v1, vs1, d1, ds1, p1, q1, rfl, rfl, rfl, h1, r1⟩ := trodAll_cons r0
  obtain ⟨v2, vs2, d2, ds2, p2, q2, rfl, rfl, rfl, h2, r2⟩ := trodAll_cons r1
  obtain ⟨v3, vs3, d3, ds3, p3, q3, rfl, rfl, rfl, h3, r3⟩ := trodAll_cons r2
  obtain ⟨v4, vs4, d4, ds4, p4, q4, rfl, rfl, rfl, h4, r4⟩ := trodAll_cons r3
  obtain ⟨rfl, rfl, rfl⟩ := trodAll_nil r4
  obtain rfl : args = #[v0, v1, v2, v3, v4] := by cases args; simp_all
  have hgs : gs = [] ∧ q = [] := trodVars_none hV
  obtain ⟨rfl, rfl⟩ := hgs
  obtain ⟨a, hv0, hla⟩ := Am.lay_bytes Try.underlying22 Try.underlying5 cells5 (hval 0 22 v0 rfl rfl) h0
  obtain ⟨b, hv1, _⟩ := Am.lay_bytes Try.underlying22 Try.underlying5 cells5 (hval 1 22 v1 rfl rfl) h1
  obtain ⟨gr, hv2, _⟩ := Am.lay_int Try.underlying3 (hval 2 3 v2 rfl rfl) h2
  obtain ⟨subj, hv3, _⟩ := Am.lay_bytes Try.underlying22 Try.underlying5 cells5 (hval 3 22 v3 rfl rfl) h3
  obtain ⟨spans, hv4, _⟩ := Am.lay_pairs Try.underlying32 Try.underlying35 cells35 Try.underlying3 Try.underlying3 cells3 cells3 rfl rfl (hval 4 32 v4 rfl rfl) h4
  obtain ⟨n, hn⟩ := Tpl.joins_true a b subj gr spans hla
  have hc := Am.law_true Tpl.tab_ok hn (Am.vrs_cons hv0 (Am.vrs_cons hv1 (Am.vrs_cons hv2 (Am.vrs_cons hv3 (Am.vrs_cons hv4 Am.vrs_nil))))) Try.func4 rfl (by decide +kernel)
  exact hc.mono fun e W' he => ⟨_, he.1, Am.law_post laidOut rowed full hts rfl rfl Try.underlying4 hW' rfl rfl rfl he.2⟩

theorem templateJoins : Rows.TemplateJoinsSaid :=
  OpenClaim.holds_of_wide 4 Try.f4 rfl rfl rfl rfl rfl rfl rfl ⟨rfl, rfl, rfl, rfl, rfl⟩ rfl rfl rfl rfl rfl (by kernel_rfl) Try.func4 (by kernel_rfl)
    (of_decide_eq_true (by kernel_rfl)) (by unfold Func.isWrapper; first | (rw [if_pos (by decide +kernel)]; kernel_rfl) | (rw [if_neg (by decide +kernel)]; exact ⟨rfl, rfl⟩))
    (fun os started H enc _ => joins_lifted os started H enc)

#print axioms templateJoins
end Go.Proofs.Ytdbjemmoaldelaa
