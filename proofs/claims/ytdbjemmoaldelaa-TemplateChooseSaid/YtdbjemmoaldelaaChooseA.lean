/-
  Of a group that matched an Else is its text, an If its first template, of one that did not the other one: TemplateChoose answers true, whatever the text and the span, and leaves the text as it was.
-/
import Derived.Test.YtdbjemmoaldelaaMachC
import Derived.Test.YtdbjemmoaldelaaTmplC
import Derived.Test.YtdbjemmoaldelaaRows

namespace Go.Tpl
open Go Go.Am Go.Proofs

/-- dollars and backslashes with a backslash ahead of them -/
def quoteM : List UInt8 → List UInt8
  | [] => []
  | c :: r => if c.toNat = 36 ∨ c.toNat = 92 then 92 :: c :: quoteM r else c :: quoteM r

theorem quoteM_app : ∀ a b : List UInt8, quoteM (a ++ b) = quoteM a ++ quoteM b
  | [], b => rfl
  | c :: r, b => by
    simp only [List.cons_append, quoteM, quoteM_app r b]
    split <;> rfl

theorem quoteM_len : ∀ a : List UInt8, (quoteM a).length ≤ 2 * a.length
  | [] => Nat.le_refl _
  | c :: r => by
    have ih := quoteM_len r
    simp only [quoteM]
    split <;> simp <;> omega

def lit1 (x : List UInt8) : List Tp := if x = [] then [] else [.lit x]

theorem addM_lit1 (x : List UInt8) (c : UInt8) : addM (lit1 x) (.lit [c]) = lit1 (x ++ [c]) := by
  simp only [lit1]
  by_cases h : x = []
  · subst h; simp [addM]
  · rw [if_neg h, if_neg (by simp)]
    exact addM_lit [] x [c]

theorem drop_cons {t : List UInt8} {i : Nat} {c : UInt8} {r : List UInt8} (h : t.drop i = c :: r) : t[i]? = some c ∧ t.drop (i + 1) = r := by
  constructor
  · have := List.getElem?_drop (xs := t) (i := i) (j := 0)
    rw [h] at this
    simpa using this.symm
  · rw [← List.drop_drop, h]
    rfl

theorem quote_parts (t : List UInt8) (gr : Int) (d : Nat) : ∀ (rest done : List UInt8) (n i : Nat), rest.length + 1 ≤ n → i ≤ t.length → t.drop i = quoteM rest → partsM t gr n [] d i (lit1 done) = some (.ok (lit1 (done ++ rest), t.length))
  | [], done, n, i, hn, hi, h => by
    obtain ⟨n, rfl⟩ : ∃ n', n = n' + 1 := ⟨n - 1, by omega⟩
    have hle : t.length ≤ i := by simpa [quoteM] using h
    have he : t[i]? = none := by simp [hle]
    have hii : i = t.length := by omega
    subst hii
    simp only [partsM, he, List.append_nil]
  | c :: r, done, n, i, hn, hi, h => by
    obtain ⟨n, rfl⟩ : ∃ n', n = n' + 1 := ⟨n - 1, by omega⟩
    simp only [List.length_cons] at hn
    have e1 : done ++ c :: r = (done ++ [c]) ++ r := by simp
    simp only [quoteM] at h
    by_cases hc : c.toNat = 36 ∨ c.toNat = 92
    · rw [if_pos hc] at h
      obtain ⟨h1, h2⟩ := drop_cons h
      obtain ⟨h3, h4⟩ := drop_cons h2
      have hl := lt_of_getElem? h3
      simp only [partsM, h1, h3, List.not_mem_nil, if_false, addM_lit1]
      rw [if_pos (by rfl), e1]
      exact quote_parts t gr d r (done ++ [c]) n (i + 2) (by omega) (by omega) h4
    · rw [if_neg hc] at h
      obtain ⟨h1, h2⟩ := drop_cons h
      have hl := lt_of_getElem? h1
      simp only [partsM, h1, List.not_mem_nil, if_false, addM_lit1]
      rw [if_neg (by omega), if_neg (by omega), e1]
      exact quote_parts t gr d r (done ++ [c]) n (i + 1) (by omega) (by omega) h2

theorem quote_all (text : List UInt8) (gr : Int) : partsM (quoteM text) gr (text.length + 1) [] 1 0 [] = some (.ok (lit1 text, (quoteM text).length)) := by
  have := quote_parts (quoteM text) gr 1 text [] (text.length + 1) 0 (Nat.le_refl _) (Nat.zero_le _) (by simp)
  simpa [lit1] using this

theorem awake' (m : Nat) (hm : 400 ≤ m) : callF T m bar0 7 [] sg0 = some (.ret (.bool true), sg0) := callF_mono T 400 m hm _ _ _ _ _ awake

end Go.Tpl

namespace Go.Tpl
open Go Go.Am Go.Proofs

/-- the loop 0 of function 3 -/
def lp3_0 : ACode := .seq (.seq (.region [⟨(some 17), .v (.move (.tmp 5)), none⟩, ⟨(some 18), .v (.move (.tmp 0)), none⟩, ⟨(some 19), .v (.len 1 (.tmp 18)), none⟩, ⟨(some 20), .v (.bin .lss (.tmp 17) (.tmp 19)), none⟩] [20]) (.cond (.tmp 20) (.skip) (.exit 0))) (.seq (.block 1 (.seq (.seq (.region [⟨(some 23), .v (.move (.tmp 0)), none⟩, ⟨(some 24), .v (.move (.tmp 5)), none⟩, ⟨(some 25), .v (.indexAddrS none (.tmp 23) (.tmp 24)), none⟩, ⟨(some 26), .v (.load none (.tmp 25)), none⟩, ⟨(some 27), .v (.bin .eql (.tmp 26) (.const (.int .u8 36))), none⟩, ⟨(some 28), .v (.move (.tmp 27)), none⟩, ⟨(some 29), .v (.move (.tmp 0)), (some (28, false))⟩, ⟨(some 30), .v (.move (.tmp 5)), (some (28, false))⟩, ⟨(some 31), .v (.indexAddrS none (.tmp 29) (.tmp 30)), (some (28, false))⟩, ⟨(some 32), .v (.load none (.tmp 31)), (some (28, false))⟩, ⟨(some 33), .v (.bin .eql (.tmp 32) (.const (.int .u8 92))), (some (28, false))⟩, ⟨(some 34), .v (.pick (.tmp 28) (.const (.bool true)) (.tmp 33)), none⟩] [34]) (.cond (.tmp 34) (.region [⟨(some 35), .v (.move (.tmp 4)), none⟩, ⟨(some 36), .v (.buildSl 1 (.int .u8 0) 1 [(0, (.const (.int .u8 92)))]), none⟩, ⟨(some 37), .e (.append false none 1 (.tmp 35) (.tmp 36)), none⟩, ⟨(some 4), .v (.move (.tmp 37)), none⟩] [4]) (.skip))) (.region [⟨(some 38), .v (.move (.tmp 4)), none⟩, ⟨(some 39), .v (.move (.tmp 0)), none⟩, ⟨(some 40), .v (.move (.tmp 5)), none⟩, ⟨(some 41), .v (.indexAddrS none (.tmp 39) (.tmp 40)), none⟩, ⟨(some 42), .v (.load none (.tmp 41)), none⟩, ⟨(some 43), .v (.buildSl 1 (.int .u8 0) 1 [(0, (.tmp 42))]), none⟩, ⟨(some 44), .e (.append false none 1 (.tmp 38) (.tmp 43)), none⟩, ⟨(some 4), .v (.move (.tmp 44)), none⟩] [4]))) (.region [⟨(some 21), .v (.move (.tmp 5)), none⟩, ⟨(some 22), .v (.bin .add (.tmp 21) (.const (.int .i64 1))), none⟩, ⟨(some 5), .v (.move (.tmp 22)), none⟩] [5]))

abbrev fr3 (text : List UInt8) (k : Nat) (x20 x34 v : AV) : Fr :=
  ⟨[(0, .vec (Am.byteCells text) .shut), (2, .bool false), (3, .bool true), (13, .bool false), (16, .bool false), (5, .int .i64 k), (20, x20), (34, x34), (4, v), (6, .undef), (7, .undef), (9, .undef), (10, .undef)], [], .off⟩

theorem bc_get {l : List UInt8} {j : Nat} {c : UInt8} (h : l[j]? = some c) : (Am.byteCells l)[j]? = some (.int .u8 c.toNat) := by rw [Am.byteCells_get, h]; rfl

set_option maxHeartbeats 1000000 in
theorem quote_loop (m : Nat) (b : Bar) (text : List UInt8) (t0 : Nat) (hlen : text.length < 2 ^ 30) (hbt : b.t ≤ t0) {Q : Ex → Fr → Sg → Prop}
    (hq : ∀ x20 x34 v s', RepB t0 s' v (quoteM text) → Q (.exit 0) (fr3 text text.length x20 x34 v) s') :
    ∀ (rest done : List UInt8) (k L : Nat) (x20 x34 v : AV) (s : Sg), text = done ++ rest → k = done.length → rest.length + 1 ≤ L → t0 ≤ s.toks.length → RepB t0 s v (quoteM done) →
    OkL L (fun fr s => ACode.run (loopN m) (callF T m) b lp3_0 fr s) (fr3 text k x20 x34 v) s Q := by
  have hbl := Am.byteCells_length text
  intro rest
  induction rest with
  | nil =>
    intro done k L x20 x34 v s hl hk hL ht0 hv
    obtain ⟨L, rfl⟩ : ∃ L', L = L' + 1 := ⟨L - 1, by omega⟩
    rw [List.append_nil] at hl
    subst hl
    subst hk
    apply l_round
    ((repeat refine c_seq ?_); refine c_region ?_; (repeat (first | ((first | apply o_move rfl rfl | apply o_easy1 rfl rfl rfl | apply o_ld rfl rfl (by assumption) (by first | rfl | assumption)); conv => lhs; whnf) | refine o_no rfl ?_ | refine o_add rfl rfl rfl (by omega) (by omega) ?_ | refine o_sub rfl rfl rfl (by omega) (by omega) ?_ | refine o_mul rfl rfl rfl (by omega) (by omega) ?_ | refine o_sadd rfl rfl rfl (by omega) ?_ | refine o_seql_t rfl rfl rfl (by assumption) ?_ | refine o_seql_f rfl rfl rfl (by assumption) ?_ | refine o_ct rfl rfl rfl (by dsimp only [cmpP]; omega) ?_ | refine o_cf rfl rfl rfl (by dsimp only [cmpN]; omega) ?_ | (apply o_easy rfl rfl rfl; conv => lhs; whnf) | refine o_non rfl ?_)); apply o_end; (repeat (first | exact OutS.nil | exact GetS.hit | exact PutS.hit | apply GetS.miss rfl | apply PutS.miss rfl | apply OutS.cons | apply OutS.skip rfl)))
    ((repeat refine c_seq ?_); refine c_else rfl ?_)
    exact c_exit (hq _ _ _ _ hv)
  | cons c rest ih =>
    intro done k L x20 x34 v s hl hk hL ht0 hv
    obtain ⟨L, rfl⟩ : ∃ L', L = L' + 1 := ⟨L - 1, by omega⟩
    have hkl : k < text.length := by rw [hl, hk]; simp
    have hget : text[k]? = some c := by rw [hl, hk]; simp
    have hql := quoteM_len text
    have hqa : (quoteM text).length = (quoteM done).length + (quoteM [c]).length + (quoteM rest).length := by
      rw [hl, quoteM_app, show c :: rest = [c] ++ rest from rfl, quoteM_app]; simp; omega
    apply l_round
    ((repeat refine c_seq ?_); refine c_region ?_; (repeat (first | ((first | apply o_move rfl rfl | apply o_easy1 rfl rfl rfl | apply o_ld rfl rfl (by assumption) (by first | rfl | assumption)); conv => lhs; whnf) | refine o_no rfl ?_ | refine o_add rfl rfl rfl (by omega) (by omega) ?_ | refine o_sub rfl rfl rfl (by omega) (by omega) ?_ | refine o_mul rfl rfl rfl (by omega) (by omega) ?_ | refine o_sadd rfl rfl rfl (by omega) ?_ | refine o_seql_t rfl rfl rfl (by assumption) ?_ | refine o_seql_f rfl rfl rfl (by assumption) ?_ | refine o_ct rfl rfl rfl (by dsimp only [cmpP]; omega) ?_ | refine o_cf rfl rfl rfl (by dsimp only [cmpN]; omega) ?_ | (apply o_easy rfl rfl rfl; conv => lhs; whnf) | refine o_non rfl ?_)); apply o_end; (repeat (first | exact OutS.nil | exact GetS.hit | exact PutS.hit | apply GetS.miss rfl | apply PutS.miss rfl | apply OutS.cons | apply OutS.skip rfl)))
    ((repeat refine c_seq ?_); refine c_if rfl ?_)
    refine c_skip ?_
    ((repeat refine c_seq ?_); refine c_block ?_)
    by_cases h36 : c.toNat = 36
    · ((repeat refine c_seq ?_); refine c_region ?_; (repeat (first | ((first | apply o_move rfl rfl | apply o_easy1 rfl rfl rfl | apply o_ld rfl rfl (by assumption) (by first | rfl | assumption)); conv => lhs; whnf) | refine o_no rfl ?_ | refine o_add rfl rfl rfl (by omega) (by omega) ?_ | refine o_sub rfl rfl rfl (by omega) (by omega) ?_ | refine o_mul rfl rfl rfl (by omega) (by omega) ?_ | refine o_sadd rfl rfl rfl (by omega) ?_ | refine o_seql_t rfl rfl rfl (by assumption) ?_ | refine o_seql_f rfl rfl rfl (by assumption) ?_ | refine o_ct rfl rfl rfl (by dsimp only [cmpP]; omega) ?_ | refine o_cf rfl rfl rfl (by dsimp only [cmpN]; omega) ?_ | (apply o_easy rfl rfl rfl; conv => lhs; whnf) | refine o_non rfl ?_)))
      refine o_ixvec (j := k) rfl rfl rfl rfl (bc_get hget) rfl ?_
      (repeat (first | ((first | apply o_move rfl rfl | apply o_easy1 rfl rfl rfl | apply o_ld rfl rfl (by assumption) (by first | rfl | assumption)); conv => lhs; whnf) | refine o_no rfl ?_ | refine o_add rfl rfl rfl (by omega) (by omega) ?_ | refine o_sub rfl rfl rfl (by omega) (by omega) ?_ | refine o_mul rfl rfl rfl (by omega) (by omega) ?_ | refine o_sadd rfl rfl rfl (by omega) ?_ | refine o_seql_t rfl rfl rfl (by assumption) ?_ | refine o_seql_f rfl rfl rfl (by assumption) ?_ | refine o_ct rfl rfl rfl (by dsimp only [cmpP]; omega) ?_ | refine o_cf rfl rfl rfl (by dsimp only [cmpN]; omega) ?_ | (apply o_easy rfl rfl rfl; conv => lhs; whnf) | refine o_non rfl ?_))
      (apply o_end; (repeat (first | exact OutS.nil | exact GetS.hit | exact PutS.hit | apply GetS.miss rfl | apply PutS.miss rfl | apply OutS.cons | apply OutS.skip rfl)))
      ((repeat refine c_seq ?_); refine c_if rfl ?_)
      have hqc : quoteM [c] = [92] ++ [c] := by simp [quoteM, *]
      ((repeat refine c_seq ?_); refine c_region ?_; (repeat (first | ((first | apply o_move rfl rfl | apply o_easy1 rfl rfl rfl | apply o_ld rfl rfl (by assumption) (by first | rfl | assumption)); conv => lhs; whnf) | refine o_no rfl ?_ | refine o_add rfl rfl rfl (by omega) (by omega) ?_ | refine o_sub rfl rfl rfl (by omega) (by omega) ?_ | refine o_mul rfl rfl rfl (by omega) (by omega) ?_ | refine o_sadd rfl rfl rfl (by omega) ?_ | refine o_seql_t rfl rfl rfl (by assumption) ?_ | refine o_seql_f rfl rfl rfl (by assumption) ?_ | refine o_ct rfl rfl rfl (by dsimp only [cmpP]; omega) ?_ | refine o_cf rfl rfl rfl (by dsimp only [cmpN]; omega) ?_ | (apply o_easy rfl rfl rfl; conv => lhs; whnf) | refine o_non rfl ?_)))
      refine o_move rfl hv.defd rfl ?_
      (repeat (first | ((first | apply o_move rfl rfl | apply o_easy1 rfl rfl rfl | apply o_ld rfl rfl (by assumption) (by first | rfl | assumption)); conv => lhs; whnf) | refine o_no rfl ?_ | refine o_add rfl rfl rfl (by omega) (by omega) ?_ | refine o_sub rfl rfl rfl (by omega) (by omega) ?_ | refine o_mul rfl rfl rfl (by omega) (by omega) ?_ | refine o_sadd rfl rfl rfl (by omega) ?_ | refine o_seql_t rfl rfl rfl (by assumption) ?_ | refine o_seql_f rfl rfl rfl (by assumption) ?_ | refine o_ct rfl rfl rfl (by dsimp only [cmpP]; omega) ?_ | refine o_cf rfl rfl rfl (by dsimp only [cmpN]; omega) ?_ | (apply o_easy rfl rfl rfl; conv => lhs; whnf) | refine o_non rfl ?_))
      refine o_appB (p := [92]) rfl hv.defd hv hbt ht0 rfl rfl (by simp only [hqc, List.length_append, List.length_singleton] at hqa ⊢; omega) fun v1 s1 hv1 hh1 ht1 => ?_
      refine o_move rfl hv1.defd rfl ?_
      (apply o_end; (repeat (first | exact OutS.nil | exact GetS.hit | exact PutS.hit | apply GetS.miss rfl | apply PutS.miss rfl | apply OutS.cons | apply OutS.skip rfl)))
      ((repeat refine c_seq ?_); refine c_region ?_; (repeat (first | ((first | apply o_move rfl rfl | apply o_easy1 rfl rfl rfl | apply o_ld rfl rfl (by assumption) (by first | rfl | assumption)); conv => lhs; whnf) | refine o_no rfl ?_ | refine o_add rfl rfl rfl (by omega) (by omega) ?_ | refine o_sub rfl rfl rfl (by omega) (by omega) ?_ | refine o_mul rfl rfl rfl (by omega) (by omega) ?_ | refine o_sadd rfl rfl rfl (by omega) ?_ | refine o_seql_t rfl rfl rfl (by assumption) ?_ | refine o_seql_f rfl rfl rfl (by assumption) ?_ | refine o_ct rfl rfl rfl (by dsimp only [cmpP]; omega) ?_ | refine o_cf rfl rfl rfl (by dsimp only [cmpN]; omega) ?_ | (apply o_easy rfl rfl rfl; conv => lhs; whnf) | refine o_non rfl ?_)))
      refine o_move rfl hv1.defd rfl ?_
      (repeat (first | ((first | apply o_move rfl rfl | apply o_easy1 rfl rfl rfl | apply o_ld rfl rfl (by assumption) (by first | rfl | assumption)); conv => lhs; whnf) | refine o_no rfl ?_ | refine o_add rfl rfl rfl (by omega) (by omega) ?_ | refine o_sub rfl rfl rfl (by omega) (by omega) ?_ | refine o_mul rfl rfl rfl (by omega) (by omega) ?_ | refine o_sadd rfl rfl rfl (by omega) ?_ | refine o_seql_t rfl rfl rfl (by assumption) ?_ | refine o_seql_f rfl rfl rfl (by assumption) ?_ | refine o_ct rfl rfl rfl (by dsimp only [cmpP]; omega) ?_ | refine o_cf rfl rfl rfl (by dsimp only [cmpN]; omega) ?_ | (apply o_easy rfl rfl rfl; conv => lhs; whnf) | refine o_non rfl ?_))
      refine o_ixvec (j := k) rfl rfl rfl rfl (bc_get hget) rfl ?_
      (repeat (first | ((first | apply o_move rfl rfl | apply o_easy1 rfl rfl rfl | apply o_ld rfl rfl (by assumption) (by first | rfl | assumption)); conv => lhs; whnf) | refine o_no rfl ?_ | refine o_add rfl rfl rfl (by omega) (by omega) ?_ | refine o_sub rfl rfl rfl (by omega) (by omega) ?_ | refine o_mul rfl rfl rfl (by omega) (by omega) ?_ | refine o_sadd rfl rfl rfl (by omega) ?_ | refine o_seql_t rfl rfl rfl (by assumption) ?_ | refine o_seql_f rfl rfl rfl (by assumption) ?_ | refine o_ct rfl rfl rfl (by dsimp only [cmpP]; omega) ?_ | refine o_cf rfl rfl rfl (by dsimp only [cmpN]; omega) ?_ | (apply o_easy rfl rfl rfl; conv => lhs; whnf) | refine o_non rfl ?_))
      refine o_appB (p := [c]) rfl hv1.defd hv1 hbt (by omega) rfl rfl (by simp only [hqc, List.length_append, List.length_singleton] at hqa ⊢; omega) fun v2 s2 hv2 hh2 ht2 => ?_
      refine o_move rfl hv2.defd rfl ?_
      (apply o_end; (repeat (first | exact OutS.nil | exact GetS.hit | exact PutS.hit | apply GetS.miss rfl | apply PutS.miss rfl | apply OutS.cons | apply OutS.skip rfl)))
      ((repeat refine c_seq ?_); refine c_region ?_; (repeat (first | ((first | apply o_move rfl rfl | apply o_easy1 rfl rfl rfl | apply o_ld rfl rfl (by assumption) (by first | rfl | assumption)); conv => lhs; whnf) | refine o_no rfl ?_ | refine o_add rfl rfl rfl (by omega) (by omega) ?_ | refine o_sub rfl rfl rfl (by omega) (by omega) ?_ | refine o_mul rfl rfl rfl (by omega) (by omega) ?_ | refine o_sadd rfl rfl rfl (by omega) ?_ | refine o_seql_t rfl rfl rfl (by assumption) ?_ | refine o_seql_f rfl rfl rfl (by assumption) ?_ | refine o_ct rfl rfl rfl (by dsimp only [cmpP]; omega) ?_ | refine o_cf rfl rfl rfl (by dsimp only [cmpN]; omega) ?_ | (apply o_easy rfl rfl rfl; conv => lhs; whnf) | refine o_non rfl ?_)); apply o_end; (repeat (first | exact OutS.nil | exact GetS.hit | exact PutS.hit | apply GetS.miss rfl | apply PutS.miss rfl | apply OutS.cons | apply OutS.skip rfl)))
      exact ih (done ++ [c]) (k + 1) L _ _ _ s2 (by rw [hl]; simp) (by simp [hk]) (by simp at hL ⊢; omega) (by omega) (by rw [quoteM_app, hqc, ← List.append_assoc]; exact hv2)
    · by_cases h92 : c.toNat = 92
      · ((repeat refine c_seq ?_); refine c_region ?_; (repeat (first | ((first | apply o_move rfl rfl | apply o_easy1 rfl rfl rfl | apply o_ld rfl rfl (by assumption) (by first | rfl | assumption)); conv => lhs; whnf) | refine o_no rfl ?_ | refine o_add rfl rfl rfl (by omega) (by omega) ?_ | refine o_sub rfl rfl rfl (by omega) (by omega) ?_ | refine o_mul rfl rfl rfl (by omega) (by omega) ?_ | refine o_sadd rfl rfl rfl (by omega) ?_ | refine o_seql_t rfl rfl rfl (by assumption) ?_ | refine o_seql_f rfl rfl rfl (by assumption) ?_ | refine o_ct rfl rfl rfl (by dsimp only [cmpP]; omega) ?_ | refine o_cf rfl rfl rfl (by dsimp only [cmpN]; omega) ?_ | (apply o_easy rfl rfl rfl; conv => lhs; whnf) | refine o_non rfl ?_)))
        refine o_ixvec (j := k) rfl rfl rfl rfl (bc_get hget) rfl ?_
        (repeat (first | ((first | apply o_move rfl rfl | apply o_easy1 rfl rfl rfl | apply o_ld rfl rfl (by assumption) (by first | rfl | assumption)); conv => lhs; whnf) | refine o_no rfl ?_ | refine o_add rfl rfl rfl (by omega) (by omega) ?_ | refine o_sub rfl rfl rfl (by omega) (by omega) ?_ | refine o_mul rfl rfl rfl (by omega) (by omega) ?_ | refine o_sadd rfl rfl rfl (by omega) ?_ | refine o_seql_t rfl rfl rfl (by assumption) ?_ | refine o_seql_f rfl rfl rfl (by assumption) ?_ | refine o_ct rfl rfl rfl (by dsimp only [cmpP]; omega) ?_ | refine o_cf rfl rfl rfl (by dsimp only [cmpN]; omega) ?_ | (apply o_easy rfl rfl rfl; conv => lhs; whnf) | refine o_non rfl ?_))
        refine o_ixvec (j := k) rfl rfl rfl rfl (bc_get hget) rfl ?_
        (repeat (first | ((first | apply o_move rfl rfl | apply o_easy1 rfl rfl rfl | apply o_ld rfl rfl (by assumption) (by first | rfl | assumption)); conv => lhs; whnf) | refine o_no rfl ?_ | refine o_add rfl rfl rfl (by omega) (by omega) ?_ | refine o_sub rfl rfl rfl (by omega) (by omega) ?_ | refine o_mul rfl rfl rfl (by omega) (by omega) ?_ | refine o_sadd rfl rfl rfl (by omega) ?_ | refine o_seql_t rfl rfl rfl (by assumption) ?_ | refine o_seql_f rfl rfl rfl (by assumption) ?_ | refine o_ct rfl rfl rfl (by dsimp only [cmpP]; omega) ?_ | refine o_cf rfl rfl rfl (by dsimp only [cmpN]; omega) ?_ | (apply o_easy rfl rfl rfl; conv => lhs; whnf) | refine o_non rfl ?_))
        (apply o_end; (repeat (first | exact OutS.nil | exact GetS.hit | exact PutS.hit | apply GetS.miss rfl | apply PutS.miss rfl | apply OutS.cons | apply OutS.skip rfl)))
        ((repeat refine c_seq ?_); refine c_if rfl ?_)
        have hqc : quoteM [c] = [92] ++ [c] := by simp [quoteM, *]
        ((repeat refine c_seq ?_); refine c_region ?_; (repeat (first | ((first | apply o_move rfl rfl | apply o_easy1 rfl rfl rfl | apply o_ld rfl rfl (by assumption) (by first | rfl | assumption)); conv => lhs; whnf) | refine o_no rfl ?_ | refine o_add rfl rfl rfl (by omega) (by omega) ?_ | refine o_sub rfl rfl rfl (by omega) (by omega) ?_ | refine o_mul rfl rfl rfl (by omega) (by omega) ?_ | refine o_sadd rfl rfl rfl (by omega) ?_ | refine o_seql_t rfl rfl rfl (by assumption) ?_ | refine o_seql_f rfl rfl rfl (by assumption) ?_ | refine o_ct rfl rfl rfl (by dsimp only [cmpP]; omega) ?_ | refine o_cf rfl rfl rfl (by dsimp only [cmpN]; omega) ?_ | (apply o_easy rfl rfl rfl; conv => lhs; whnf) | refine o_non rfl ?_)))
        refine o_move rfl hv.defd rfl ?_
        (repeat (first | ((first | apply o_move rfl rfl | apply o_easy1 rfl rfl rfl | apply o_ld rfl rfl (by assumption) (by first | rfl | assumption)); conv => lhs; whnf) | refine o_no rfl ?_ | refine o_add rfl rfl rfl (by omega) (by omega) ?_ | refine o_sub rfl rfl rfl (by omega) (by omega) ?_ | refine o_mul rfl rfl rfl (by omega) (by omega) ?_ | refine o_sadd rfl rfl rfl (by omega) ?_ | refine o_seql_t rfl rfl rfl (by assumption) ?_ | refine o_seql_f rfl rfl rfl (by assumption) ?_ | refine o_ct rfl rfl rfl (by dsimp only [cmpP]; omega) ?_ | refine o_cf rfl rfl rfl (by dsimp only [cmpN]; omega) ?_ | (apply o_easy rfl rfl rfl; conv => lhs; whnf) | refine o_non rfl ?_))
        refine o_appB (p := [92]) rfl hv.defd hv hbt ht0 rfl rfl (by simp only [hqc, List.length_append, List.length_singleton] at hqa ⊢; omega) fun v1 s1 hv1 hh1 ht1 => ?_
        refine o_move rfl hv1.defd rfl ?_
        (apply o_end; (repeat (first | exact OutS.nil | exact GetS.hit | exact PutS.hit | apply GetS.miss rfl | apply PutS.miss rfl | apply OutS.cons | apply OutS.skip rfl)))
        ((repeat refine c_seq ?_); refine c_region ?_; (repeat (first | ((first | apply o_move rfl rfl | apply o_easy1 rfl rfl rfl | apply o_ld rfl rfl (by assumption) (by first | rfl | assumption)); conv => lhs; whnf) | refine o_no rfl ?_ | refine o_add rfl rfl rfl (by omega) (by omega) ?_ | refine o_sub rfl rfl rfl (by omega) (by omega) ?_ | refine o_mul rfl rfl rfl (by omega) (by omega) ?_ | refine o_sadd rfl rfl rfl (by omega) ?_ | refine o_seql_t rfl rfl rfl (by assumption) ?_ | refine o_seql_f rfl rfl rfl (by assumption) ?_ | refine o_ct rfl rfl rfl (by dsimp only [cmpP]; omega) ?_ | refine o_cf rfl rfl rfl (by dsimp only [cmpN]; omega) ?_ | (apply o_easy rfl rfl rfl; conv => lhs; whnf) | refine o_non rfl ?_)))
        refine o_move rfl hv1.defd rfl ?_
        (repeat (first | ((first | apply o_move rfl rfl | apply o_easy1 rfl rfl rfl | apply o_ld rfl rfl (by assumption) (by first | rfl | assumption)); conv => lhs; whnf) | refine o_no rfl ?_ | refine o_add rfl rfl rfl (by omega) (by omega) ?_ | refine o_sub rfl rfl rfl (by omega) (by omega) ?_ | refine o_mul rfl rfl rfl (by omega) (by omega) ?_ | refine o_sadd rfl rfl rfl (by omega) ?_ | refine o_seql_t rfl rfl rfl (by assumption) ?_ | refine o_seql_f rfl rfl rfl (by assumption) ?_ | refine o_ct rfl rfl rfl (by dsimp only [cmpP]; omega) ?_ | refine o_cf rfl rfl rfl (by dsimp only [cmpN]; omega) ?_ | (apply o_easy rfl rfl rfl; conv => lhs; whnf) | refine o_non rfl ?_))
        refine o_ixvec (j := k) rfl rfl rfl rfl (bc_get hget) rfl ?_
        (repeat (first | ((first | apply o_move rfl rfl | apply o_easy1 rfl rfl rfl | apply o_ld rfl rfl (by assumption) (by first | rfl | assumption)); conv => lhs; whnf) | refine o_no rfl ?_ | refine o_add rfl rfl rfl (by omega) (by omega) ?_ | refine o_sub rfl rfl rfl (by omega) (by omega) ?_ | refine o_mul rfl rfl rfl (by omega) (by omega) ?_ | refine o_sadd rfl rfl rfl (by omega) ?_ | refine o_seql_t rfl rfl rfl (by assumption) ?_ | refine o_seql_f rfl rfl rfl (by assumption) ?_ | refine o_ct rfl rfl rfl (by dsimp only [cmpP]; omega) ?_ | refine o_cf rfl rfl rfl (by dsimp only [cmpN]; omega) ?_ | (apply o_easy rfl rfl rfl; conv => lhs; whnf) | refine o_non rfl ?_))
        refine o_appB (p := [c]) rfl hv1.defd hv1 hbt (by omega) rfl rfl (by simp only [hqc, List.length_append, List.length_singleton] at hqa ⊢; omega) fun v2 s2 hv2 hh2 ht2 => ?_
        refine o_move rfl hv2.defd rfl ?_
        (apply o_end; (repeat (first | exact OutS.nil | exact GetS.hit | exact PutS.hit | apply GetS.miss rfl | apply PutS.miss rfl | apply OutS.cons | apply OutS.skip rfl)))
        ((repeat refine c_seq ?_); refine c_region ?_; (repeat (first | ((first | apply o_move rfl rfl | apply o_easy1 rfl rfl rfl | apply o_ld rfl rfl (by assumption) (by first | rfl | assumption)); conv => lhs; whnf) | refine o_no rfl ?_ | refine o_add rfl rfl rfl (by omega) (by omega) ?_ | refine o_sub rfl rfl rfl (by omega) (by omega) ?_ | refine o_mul rfl rfl rfl (by omega) (by omega) ?_ | refine o_sadd rfl rfl rfl (by omega) ?_ | refine o_seql_t rfl rfl rfl (by assumption) ?_ | refine o_seql_f rfl rfl rfl (by assumption) ?_ | refine o_ct rfl rfl rfl (by dsimp only [cmpP]; omega) ?_ | refine o_cf rfl rfl rfl (by dsimp only [cmpN]; omega) ?_ | (apply o_easy rfl rfl rfl; conv => lhs; whnf) | refine o_non rfl ?_)); apply o_end; (repeat (first | exact OutS.nil | exact GetS.hit | exact PutS.hit | apply GetS.miss rfl | apply PutS.miss rfl | apply OutS.cons | apply OutS.skip rfl)))
        exact ih (done ++ [c]) (k + 1) L _ _ _ s2 (by rw [hl]; simp) (by simp [hk]) (by simp at hL ⊢; omega) (by omega) (by rw [quoteM_app, hqc, ← List.append_assoc]; exact hv2)
      · ((repeat refine c_seq ?_); refine c_region ?_; (repeat (first | ((first | apply o_move rfl rfl | apply o_easy1 rfl rfl rfl | apply o_ld rfl rfl (by assumption) (by first | rfl | assumption)); conv => lhs; whnf) | refine o_no rfl ?_ | refine o_add rfl rfl rfl (by omega) (by omega) ?_ | refine o_sub rfl rfl rfl (by omega) (by omega) ?_ | refine o_mul rfl rfl rfl (by omega) (by omega) ?_ | refine o_sadd rfl rfl rfl (by omega) ?_ | refine o_seql_t rfl rfl rfl (by assumption) ?_ | refine o_seql_f rfl rfl rfl (by assumption) ?_ | refine o_ct rfl rfl rfl (by dsimp only [cmpP]; omega) ?_ | refine o_cf rfl rfl rfl (by dsimp only [cmpN]; omega) ?_ | (apply o_easy rfl rfl rfl; conv => lhs; whnf) | refine o_non rfl ?_)))
        refine o_ixvec (j := k) rfl rfl rfl rfl (bc_get hget) rfl ?_
        (repeat (first | ((first | apply o_move rfl rfl | apply o_easy1 rfl rfl rfl | apply o_ld rfl rfl (by assumption) (by first | rfl | assumption)); conv => lhs; whnf) | refine o_no rfl ?_ | refine o_add rfl rfl rfl (by omega) (by omega) ?_ | refine o_sub rfl rfl rfl (by omega) (by omega) ?_ | refine o_mul rfl rfl rfl (by omega) (by omega) ?_ | refine o_sadd rfl rfl rfl (by omega) ?_ | refine o_seql_t rfl rfl rfl (by assumption) ?_ | refine o_seql_f rfl rfl rfl (by assumption) ?_ | refine o_ct rfl rfl rfl (by dsimp only [cmpP]; omega) ?_ | refine o_cf rfl rfl rfl (by dsimp only [cmpN]; omega) ?_ | (apply o_easy rfl rfl rfl; conv => lhs; whnf) | refine o_non rfl ?_))
        refine o_ixvec (j := k) rfl rfl rfl rfl (bc_get hget) rfl ?_
        (repeat (first | ((first | apply o_move rfl rfl | apply o_easy1 rfl rfl rfl | apply o_ld rfl rfl (by assumption) (by first | rfl | assumption)); conv => lhs; whnf) | refine o_no rfl ?_ | refine o_add rfl rfl rfl (by omega) (by omega) ?_ | refine o_sub rfl rfl rfl (by omega) (by omega) ?_ | refine o_mul rfl rfl rfl (by omega) (by omega) ?_ | refine o_sadd rfl rfl rfl (by omega) ?_ | refine o_seql_t rfl rfl rfl (by assumption) ?_ | refine o_seql_f rfl rfl rfl (by assumption) ?_ | refine o_ct rfl rfl rfl (by dsimp only [cmpP]; omega) ?_ | refine o_cf rfl rfl rfl (by dsimp only [cmpN]; omega) ?_ | (apply o_easy rfl rfl rfl; conv => lhs; whnf) | refine o_non rfl ?_))
        (apply o_end; (repeat (first | exact OutS.nil | exact GetS.hit | exact PutS.hit | apply GetS.miss rfl | apply PutS.miss rfl | apply OutS.cons | apply OutS.skip rfl)))
        ((repeat refine c_seq ?_); refine c_else rfl ?_)
        refine c_skip ?_
        have hqc : quoteM [c] = [c] := by simp [quoteM, h36, h92]
        ((repeat refine c_seq ?_); refine c_region ?_; (repeat (first | ((first | apply o_move rfl rfl | apply o_easy1 rfl rfl rfl | apply o_ld rfl rfl (by assumption) (by first | rfl | assumption)); conv => lhs; whnf) | refine o_no rfl ?_ | refine o_add rfl rfl rfl (by omega) (by omega) ?_ | refine o_sub rfl rfl rfl (by omega) (by omega) ?_ | refine o_mul rfl rfl rfl (by omega) (by omega) ?_ | refine o_sadd rfl rfl rfl (by omega) ?_ | refine o_seql_t rfl rfl rfl (by assumption) ?_ | refine o_seql_f rfl rfl rfl (by assumption) ?_ | refine o_ct rfl rfl rfl (by dsimp only [cmpP]; omega) ?_ | refine o_cf rfl rfl rfl (by dsimp only [cmpN]; omega) ?_ | (apply o_easy rfl rfl rfl; conv => lhs; whnf) | refine o_non rfl ?_)))
        refine o_move rfl hv.defd rfl ?_
        (repeat (first | ((first | apply o_move rfl rfl | apply o_easy1 rfl rfl rfl | apply o_ld rfl rfl (by assumption) (by first | rfl | assumption)); conv => lhs; whnf) | refine o_no rfl ?_ | refine o_add rfl rfl rfl (by omega) (by omega) ?_ | refine o_sub rfl rfl rfl (by omega) (by omega) ?_ | refine o_mul rfl rfl rfl (by omega) (by omega) ?_ | refine o_sadd rfl rfl rfl (by omega) ?_ | refine o_seql_t rfl rfl rfl (by assumption) ?_ | refine o_seql_f rfl rfl rfl (by assumption) ?_ | refine o_ct rfl rfl rfl (by dsimp only [cmpP]; omega) ?_ | refine o_cf rfl rfl rfl (by dsimp only [cmpN]; omega) ?_ | (apply o_easy rfl rfl rfl; conv => lhs; whnf) | refine o_non rfl ?_))
        refine o_ixvec (j := k) rfl rfl rfl rfl (bc_get hget) rfl ?_
        (repeat (first | ((first | apply o_move rfl rfl | apply o_easy1 rfl rfl rfl | apply o_ld rfl rfl (by assumption) (by first | rfl | assumption)); conv => lhs; whnf) | refine o_no rfl ?_ | refine o_add rfl rfl rfl (by omega) (by omega) ?_ | refine o_sub rfl rfl rfl (by omega) (by omega) ?_ | refine o_mul rfl rfl rfl (by omega) (by omega) ?_ | refine o_sadd rfl rfl rfl (by omega) ?_ | refine o_seql_t rfl rfl rfl (by assumption) ?_ | refine o_seql_f rfl rfl rfl (by assumption) ?_ | refine o_ct rfl rfl rfl (by dsimp only [cmpP]; omega) ?_ | refine o_cf rfl rfl rfl (by dsimp only [cmpN]; omega) ?_ | (apply o_easy rfl rfl rfl; conv => lhs; whnf) | refine o_non rfl ?_))
        refine o_appB (p := [c]) rfl hv.defd hv hbt ht0 rfl rfl (by simp only [hqc, List.length_singleton] at hqa ⊢; omega) fun v1 s1 hv1 hh1 ht1 => ?_
        refine o_move rfl hv1.defd rfl ?_
        (apply o_end; (repeat (first | exact OutS.nil | exact GetS.hit | exact PutS.hit | apply GetS.miss rfl | apply PutS.miss rfl | apply OutS.cons | apply OutS.skip rfl)))
        ((repeat refine c_seq ?_); refine c_region ?_; (repeat (first | ((first | apply o_move rfl rfl | apply o_easy1 rfl rfl rfl | apply o_ld rfl rfl (by assumption) (by first | rfl | assumption)); conv => lhs; whnf) | refine o_no rfl ?_ | refine o_add rfl rfl rfl (by omega) (by omega) ?_ | refine o_sub rfl rfl rfl (by omega) (by omega) ?_ | refine o_mul rfl rfl rfl (by omega) (by omega) ?_ | refine o_sadd rfl rfl rfl (by omega) ?_ | refine o_seql_t rfl rfl rfl (by assumption) ?_ | refine o_seql_f rfl rfl rfl (by assumption) ?_ | refine o_ct rfl rfl rfl (by dsimp only [cmpP]; omega) ?_ | refine o_cf rfl rfl rfl (by dsimp only [cmpN]; omega) ?_ | (apply o_easy rfl rfl rfl; conv => lhs; whnf) | refine o_non rfl ?_)); apply o_end; (repeat (first | exact OutS.nil | exact GetS.hit | exact PutS.hit | apply GetS.miss rfl | apply PutS.miss rfl | apply OutS.cons | apply OutS.skip rfl)))
        exact ih (done ++ [c]) (k + 1) L _ _ _ s1 (by rw [hl]; simp) (by simp [hk]) (by simp at hL ⊢; omega) (by omega) (by rw [quoteM_app, hqc]; exact hv1)


end Go.Tpl

namespace Go.Tpl
open Go Go.Am Go.Proofs

theorem evAll3 {loc pers : Env} {x y z : AOpd} {a c d : AV} (hx : x.ev loc pers = some a) (hy : y.ev loc pers = some c) (hz : z.ev loc pers = some d) : evAll loc pers [x, y, z] = some [a, c, d] := by
  simp only [evAll, hx, hy, hz, Option.bind_some]

theorem RepB.weak {t0 : Nat} {s : Sg} {v : AV} {l : List UInt8} (hr : RepB t0 s v l) : v.weak = .vec (Am.byteCells l) .shut := by
  rcases hr with ⟨rfl, rfl⟩ | ⟨i, n, rfl, _⟩ <;> rfl

theorem o_strB {call : CallFn} {b : Bar} {g : Option (Nat × Bool)} {r : List AOper} {loc : Env} {fr : Fr} {s : Sg} {Q : Ex → Env → Fr → Sg → Prop} {x : AOpd} {t : Nat} {es : List AV} {tl : Tail} (l : List UInt8) (hg : wantedA loc fr.pers g = some true) (hx : x.ev loc fr.pers = some (.vec es tl)) (hl : es = Am.byteCells l) (hr : OkO call b r ((t, .str l) :: loc) fr s Q) : OkO call b (⟨some t, .v (.conv .bytesStr x), g⟩ :: r) loc fr s Q := by
  subst hl
  exact o_bs hg hx (bytesOf_cells l) hr

theorem quotes_true (text : List UInt8) : ∃ n, callF T n bar0 3 [.vec (Am.byteCells text) .shut] sg0 = some (.ret (.bool true), sg0) := by
  have hbl := Am.byteCells_length text
  by_cases hlong : text.length > 2000
  · refine ⟨400 + 1, ?_⟩
    (apply f_of rfl rfl; (repeat (first | exact Shape.nil | (apply Shape.cons; conv => lhs; whnf))))
    ((repeat refine c_seq ?_); refine c_region ?_; (repeat (first | ((first | apply o_move rfl rfl | apply o_easy1 rfl rfl rfl | apply o_ld rfl rfl (by assumption) (by first | rfl | assumption)); conv => lhs; whnf) | refine o_no rfl ?_ | refine o_add rfl rfl rfl (by omega) (by omega) ?_ | refine o_sub rfl rfl rfl (by omega) (by omega) ?_ | refine o_mul rfl rfl rfl (by omega) (by omega) ?_ | refine o_sadd rfl rfl rfl (by omega) ?_ | refine o_seql_t rfl rfl rfl (by assumption) ?_ | refine o_seql_f rfl rfl rfl (by assumption) ?_ | refine o_ct rfl rfl rfl (by dsimp only [cmpP]; omega) ?_ | refine o_cf rfl rfl rfl (by dsimp only [cmpN]; omega) ?_ | (apply o_easy rfl rfl rfl; conv => lhs; whnf) | refine o_non rfl ?_)); apply o_end; (repeat (first | exact OutS.nil | exact GetS.hit | exact PutS.hit | apply GetS.miss rfl | apply PutS.miss rfl | apply OutS.cons | apply OutS.skip rfl)))
    ((repeat refine c_seq ?_); refine c_region ?_; (repeat (first | ((first | apply o_move rfl rfl | apply o_easy1 rfl rfl rfl | apply o_ld rfl rfl (by assumption) (by first | rfl | assumption)); conv => lhs; whnf) | refine o_no rfl ?_ | refine o_add rfl rfl rfl (by omega) (by omega) ?_ | refine o_sub rfl rfl rfl (by omega) (by omega) ?_ | refine o_mul rfl rfl rfl (by omega) (by omega) ?_ | refine o_sadd rfl rfl rfl (by omega) ?_ | refine o_seql_t rfl rfl rfl (by assumption) ?_ | refine o_seql_f rfl rfl rfl (by assumption) ?_ | refine o_ct rfl rfl rfl (by dsimp only [cmpP]; omega) ?_ | refine o_cf rfl rfl rfl (by dsimp only [cmpN]; omega) ?_ | (apply o_easy rfl rfl rfl; conv => lhs; whnf) | refine o_non rfl ?_)))
    refine o_call rfl rfl (awake' 400 (Nat.le_refl _)) ?_
    (repeat (first | ((first | apply o_move rfl rfl | apply o_easy1 rfl rfl rfl | apply o_ld rfl rfl (by assumption) (by first | rfl | assumption)); conv => lhs; whnf) | refine o_no rfl ?_ | refine o_add rfl rfl rfl (by omega) (by omega) ?_ | refine o_sub rfl rfl rfl (by omega) (by omega) ?_ | refine o_mul rfl rfl rfl (by omega) (by omega) ?_ | refine o_sadd rfl rfl rfl (by omega) ?_ | refine o_seql_t rfl rfl rfl (by assumption) ?_ | refine o_seql_f rfl rfl rfl (by assumption) ?_ | refine o_ct rfl rfl rfl (by dsimp only [cmpP]; omega) ?_ | refine o_cf rfl rfl rfl (by dsimp only [cmpN]; omega) ?_ | (apply o_easy rfl rfl rfl; conv => lhs; whnf) | refine o_non rfl ?_))
    (apply o_end; (repeat (first | exact OutS.nil | exact GetS.hit | exact PutS.hit | apply GetS.miss rfl | apply PutS.miss rfl | apply OutS.cons | apply OutS.skip rfl)))
    ((repeat refine c_seq ?_); refine c_region ?_; (repeat (first | ((first | apply o_move rfl rfl | apply o_easy1 rfl rfl rfl | apply o_ld rfl rfl (by assumption) (by first | rfl | assumption)); conv => lhs; whnf) | refine o_no rfl ?_ | refine o_add rfl rfl rfl (by omega) (by omega) ?_ | refine o_sub rfl rfl rfl (by omega) (by omega) ?_ | refine o_mul rfl rfl rfl (by omega) (by omega) ?_ | refine o_sadd rfl rfl rfl (by omega) ?_ | refine o_seql_t rfl rfl rfl (by assumption) ?_ | refine o_seql_f rfl rfl rfl (by assumption) ?_ | refine o_ct rfl rfl rfl (by dsimp only [cmpP]; omega) ?_ | refine o_cf rfl rfl rfl (by dsimp only [cmpN]; omega) ?_ | (apply o_easy rfl rfl rfl; conv => lhs; whnf) | refine o_non rfl ?_)); apply o_end; (repeat (first | exact OutS.nil | exact GetS.hit | exact PutS.hit | apply GetS.miss rfl | apply PutS.miss rfl | apply OutS.cons | apply OutS.skip rfl)))
    ((repeat refine c_seq ?_); refine c_else rfl ?_)
    refine c_skip ?_
    ((repeat refine c_seq ?_); refine c_region ?_; (repeat (first | ((first | apply o_move rfl rfl | apply o_easy1 rfl rfl rfl | apply o_ld rfl rfl (by assumption) (by first | rfl | assumption)); conv => lhs; whnf) | refine o_no rfl ?_ | refine o_add rfl rfl rfl (by omega) (by omega) ?_ | refine o_sub rfl rfl rfl (by omega) (by omega) ?_ | refine o_mul rfl rfl rfl (by omega) (by omega) ?_ | refine o_sadd rfl rfl rfl (by omega) ?_ | refine o_seql_t rfl rfl rfl (by assumption) ?_ | refine o_seql_f rfl rfl rfl (by assumption) ?_ | refine o_ct rfl rfl rfl (by dsimp only [cmpP]; omega) ?_ | refine o_cf rfl rfl rfl (by dsimp only [cmpN]; omega) ?_ | (apply o_easy rfl rfl rfl; conv => lhs; whnf) | refine o_non rfl ?_)); apply o_end; (repeat (first | exact OutS.nil | exact GetS.hit | exact PutS.hit | apply GetS.miss rfl | apply PutS.miss rfl | apply OutS.cons | apply OutS.skip rfl)))
    ((repeat refine c_seq ?_); refine c_if rfl ?_)
    ((repeat refine c_seq ?_); refine c_region ?_; (repeat (first | ((first | apply o_move rfl rfl | apply o_easy1 rfl rfl rfl | apply o_ld rfl rfl (by assumption) (by first | rfl | assumption)); conv => lhs; whnf) | refine o_no rfl ?_ | refine o_add rfl rfl rfl (by omega) (by omega) ?_ | refine o_sub rfl rfl rfl (by omega) (by omega) ?_ | refine o_mul rfl rfl rfl (by omega) (by omega) ?_ | refine o_sadd rfl rfl rfl (by omega) ?_ | refine o_seql_t rfl rfl rfl (by assumption) ?_ | refine o_seql_f rfl rfl rfl (by assumption) ?_ | refine o_ct rfl rfl rfl (by dsimp only [cmpP]; omega) ?_ | refine o_cf rfl rfl rfl (by dsimp only [cmpN]; omega) ?_ | (apply o_easy rfl rfl rfl; conv => lhs; whnf) | refine o_non rfl ?_)); apply o_end; (repeat (first | exact OutS.nil | exact GetS.hit | exact PutS.hit | apply GetS.miss rfl | apply PutS.miss rfl | apply OutS.cons | apply OutS.skip rfl)))
    exact c_ret rfl
  · have hql := quoteM_len text
    obtain ⟨NP, hNP⟩ := parse_spec (quoteM text) 0 (by omega) (text.length + 1) _ (quote_all text 0)
    have hll : (lit1 text).length ≤ 1 := by simp only [lit1]; split <;> simp
    have hfine : fineL (lit1 text) := by simp only [lit1]; split <;> simp [fineL, Tp.fine]
    have hexp : expL [] [] (lit1 text) = text := by
      simp only [lit1]; split
      · rename_i h; simp [h, expL]
      · simp [expL, expT]
    obtain ⟨NE, hNE⟩ := expand_spec [] [] (by simp) (lit1 text) (by omega) hfine
    refine ⟨400 + NP + NE + text.length + 10 + 1, ?_⟩
    generalize hm : 400 + NP + NE + text.length + 10 = m
    (apply f_of rfl rfl; (repeat (first | exact Shape.nil | (apply Shape.cons; conv => lhs; whnf))))
    ((repeat refine c_seq ?_); refine c_region ?_; (repeat (first | ((first | apply o_move rfl rfl | apply o_easy1 rfl rfl rfl | apply o_ld rfl rfl (by assumption) (by first | rfl | assumption)); conv => lhs; whnf) | refine o_no rfl ?_ | refine o_add rfl rfl rfl (by omega) (by omega) ?_ | refine o_sub rfl rfl rfl (by omega) (by omega) ?_ | refine o_mul rfl rfl rfl (by omega) (by omega) ?_ | refine o_sadd rfl rfl rfl (by omega) ?_ | refine o_seql_t rfl rfl rfl (by assumption) ?_ | refine o_seql_f rfl rfl rfl (by assumption) ?_ | refine o_ct rfl rfl rfl (by dsimp only [cmpP]; omega) ?_ | refine o_cf rfl rfl rfl (by dsimp only [cmpN]; omega) ?_ | (apply o_easy rfl rfl rfl; conv => lhs; whnf) | refine o_non rfl ?_)); apply o_end; (repeat (first | exact OutS.nil | exact GetS.hit | exact PutS.hit | apply GetS.miss rfl | apply PutS.miss rfl | apply OutS.cons | apply OutS.skip rfl)))
    ((repeat refine c_seq ?_); refine c_region ?_; (repeat (first | ((first | apply o_move rfl rfl | apply o_easy1 rfl rfl rfl | apply o_ld rfl rfl (by assumption) (by first | rfl | assumption)); conv => lhs; whnf) | refine o_no rfl ?_ | refine o_add rfl rfl rfl (by omega) (by omega) ?_ | refine o_sub rfl rfl rfl (by omega) (by omega) ?_ | refine o_mul rfl rfl rfl (by omega) (by omega) ?_ | refine o_sadd rfl rfl rfl (by omega) ?_ | refine o_seql_t rfl rfl rfl (by assumption) ?_ | refine o_seql_f rfl rfl rfl (by assumption) ?_ | refine o_ct rfl rfl rfl (by dsimp only [cmpP]; omega) ?_ | refine o_cf rfl rfl rfl (by dsimp only [cmpN]; omega) ?_ | (apply o_easy rfl rfl rfl; conv => lhs; whnf) | refine o_non rfl ?_)))
    refine o_call rfl rfl (awake' m (by omega)) ?_
    (repeat (first | ((first | apply o_move rfl rfl | apply o_easy1 rfl rfl rfl | apply o_ld rfl rfl (by assumption) (by first | rfl | assumption)); conv => lhs; whnf) | refine o_no rfl ?_ | refine o_add rfl rfl rfl (by omega) (by omega) ?_ | refine o_sub rfl rfl rfl (by omega) (by omega) ?_ | refine o_mul rfl rfl rfl (by omega) (by omega) ?_ | refine o_sadd rfl rfl rfl (by omega) ?_ | refine o_seql_t rfl rfl rfl (by assumption) ?_ | refine o_seql_f rfl rfl rfl (by assumption) ?_ | refine o_ct rfl rfl rfl (by dsimp only [cmpP]; omega) ?_ | refine o_cf rfl rfl rfl (by dsimp only [cmpN]; omega) ?_ | (apply o_easy rfl rfl rfl; conv => lhs; whnf) | refine o_non rfl ?_))
    (apply o_end; (repeat (first | exact OutS.nil | exact GetS.hit | exact PutS.hit | apply GetS.miss rfl | apply PutS.miss rfl | apply OutS.cons | apply OutS.skip rfl)))
    ((repeat refine c_seq ?_); refine c_region ?_; (repeat (first | ((first | apply o_move rfl rfl | apply o_easy1 rfl rfl rfl | apply o_ld rfl rfl (by assumption) (by first | rfl | assumption)); conv => lhs; whnf) | refine o_no rfl ?_ | refine o_add rfl rfl rfl (by omega) (by omega) ?_ | refine o_sub rfl rfl rfl (by omega) (by omega) ?_ | refine o_mul rfl rfl rfl (by omega) (by omega) ?_ | refine o_sadd rfl rfl rfl (by omega) ?_ | refine o_seql_t rfl rfl rfl (by assumption) ?_ | refine o_seql_f rfl rfl rfl (by assumption) ?_ | refine o_ct rfl rfl rfl (by dsimp only [cmpP]; omega) ?_ | refine o_cf rfl rfl rfl (by dsimp only [cmpN]; omega) ?_ | (apply o_easy rfl rfl rfl; conv => lhs; whnf) | refine o_non rfl ?_)); apply o_end; (repeat (first | exact OutS.nil | exact GetS.hit | exact PutS.hit | apply GetS.miss rfl | apply PutS.miss rfl | apply OutS.cons | apply OutS.skip rfl)))
    ((repeat refine c_seq ?_); refine c_else rfl ?_)
    refine c_skip ?_
    ((repeat refine c_seq ?_); refine c_region ?_; (repeat (first | ((first | apply o_move rfl rfl | apply o_easy1 rfl rfl rfl | apply o_ld rfl rfl (by assumption) (by first | rfl | assumption)); conv => lhs; whnf) | refine o_no rfl ?_ | refine o_add rfl rfl rfl (by omega) (by omega) ?_ | refine o_sub rfl rfl rfl (by omega) (by omega) ?_ | refine o_mul rfl rfl rfl (by omega) (by omega) ?_ | refine o_sadd rfl rfl rfl (by omega) ?_ | refine o_seql_t rfl rfl rfl (by assumption) ?_ | refine o_seql_f rfl rfl rfl (by assumption) ?_ | refine o_ct rfl rfl rfl (by dsimp only [cmpP]; omega) ?_ | refine o_cf rfl rfl rfl (by dsimp only [cmpN]; omega) ?_ | (apply o_easy rfl rfl rfl; conv => lhs; whnf) | refine o_non rfl ?_)); apply o_end; (repeat (first | exact OutS.nil | exact GetS.hit | exact PutS.hit | apply GetS.miss rfl | apply PutS.miss rfl | apply OutS.cons | apply OutS.skip rfl)))
    ((repeat refine c_seq ?_); refine c_else rfl ?_)
    refine c_skip ?_
    ((repeat refine c_seq ?_); refine c_region ?_; (repeat (first | ((first | apply o_move rfl rfl | apply o_easy1 rfl rfl rfl | apply o_ld rfl rfl (by assumption) (by first | rfl | assumption)); conv => lhs; whnf) | refine o_no rfl ?_ | refine o_add rfl rfl rfl (by omega) (by omega) ?_ | refine o_sub rfl rfl rfl (by omega) (by omega) ?_ | refine o_mul rfl rfl rfl (by omega) (by omega) ?_ | refine o_sadd rfl rfl rfl (by omega) ?_ | refine o_seql_t rfl rfl rfl (by assumption) ?_ | refine o_seql_f rfl rfl rfl (by assumption) ?_ | refine o_ct rfl rfl rfl (by dsimp only [cmpP]; omega) ?_ | refine o_cf rfl rfl rfl (by dsimp only [cmpN]; omega) ?_ | (apply o_easy rfl rfl rfl; conv => lhs; whnf) | refine o_non rfl ?_)); apply o_end; (repeat (first | exact OutS.nil | exact GetS.hit | exact PutS.hit | apply GetS.miss rfl | apply PutS.miss rfl | apply OutS.cons | apply OutS.skip rfl)))
    ((repeat refine c_seq ?_); refine c_region ?_; (repeat (first | ((first | apply o_move rfl rfl | apply o_easy1 rfl rfl rfl | apply o_ld rfl rfl (by assumption) (by first | rfl | assumption)); conv => lhs; whnf) | refine o_no rfl ?_ | refine o_add rfl rfl rfl (by omega) (by omega) ?_ | refine o_sub rfl rfl rfl (by omega) (by omega) ?_ | refine o_mul rfl rfl rfl (by omega) (by omega) ?_ | refine o_sadd rfl rfl rfl (by omega) ?_ | refine o_seql_t rfl rfl rfl (by assumption) ?_ | refine o_seql_f rfl rfl rfl (by assumption) ?_ | refine o_ct rfl rfl rfl (by dsimp only [cmpP]; omega) ?_ | refine o_cf rfl rfl rfl (by dsimp only [cmpN]; omega) ?_ | (apply o_easy rfl rfl rfl; conv => lhs; whnf) | refine o_non rfl ?_)); apply o_end; (repeat (first | exact OutS.nil | exact GetS.hit | exact PutS.hit | apply GetS.miss rfl | apply PutS.miss rfl | apply OutS.cons | apply OutS.skip rfl)))
    ((repeat refine c_seq ?_); refine c_block ?_)
    refine c_loop (x := lp3_0) ?_
    refine quote_loop m _ text 0 (by omega) (by show (0:Nat) ≤ 0; omega) ?_ text [] 0 m _ _ _ _ rfl rfl (by omega) (Nat.le_refl _) (.inl ⟨rfl, rfl⟩)
    intro x20 x34 v s' hv
    have hparse := hNP m (by omega) (bar0.into .pure sg0) s' v .nilsl hv.weak rfl
    have hex := hNE (by rw [hexp]; omega) m (by omega) (bar0.into .pure sg0) s' (.vec (avs (lit1 text)) .shut) .nilsl .nilsl rfl rfl rfl
    rw [hexp] at hex
    ((repeat refine c_seq ?_); refine c_region ?_; (repeat (first | ((first | apply o_move rfl rfl | apply o_easy1 rfl rfl rfl | apply o_ld rfl rfl (by assumption) (by first | rfl | assumption)); conv => lhs; whnf) | refine o_no rfl ?_ | refine o_add rfl rfl rfl (by omega) (by omega) ?_ | refine o_sub rfl rfl rfl (by omega) (by omega) ?_ | refine o_mul rfl rfl rfl (by omega) (by omega) ?_ | refine o_sadd rfl rfl rfl (by omega) ?_ | refine o_seql_t rfl rfl rfl (by assumption) ?_ | refine o_seql_f rfl rfl rfl (by assumption) ?_ | refine o_ct rfl rfl rfl (by dsimp only [cmpP]; omega) ?_ | refine o_cf rfl rfl rfl (by dsimp only [cmpN]; omega) ?_ | (apply o_easy rfl rfl rfl; conv => lhs; whnf) | refine o_non rfl ?_)))
    refine o_move rfl hv.defd rfl ?_
    refine o_call rfl (evAll3 hv.defd rfl rfl) hparse ?_
    (repeat (first | ((first | apply o_move rfl rfl | apply o_easy1 rfl rfl rfl | apply o_ld rfl rfl (by assumption) (by first | rfl | assumption)); conv => lhs; whnf) | refine o_no rfl ?_ | refine o_add rfl rfl rfl (by omega) (by omega) ?_ | refine o_sub rfl rfl rfl (by omega) (by omega) ?_ | refine o_mul rfl rfl rfl (by omega) (by omega) ?_ | refine o_sadd rfl rfl rfl (by omega) ?_ | refine o_seql_t rfl rfl rfl (by assumption) ?_ | refine o_seql_f rfl rfl rfl (by assumption) ?_ | refine o_ct rfl rfl rfl (by dsimp only [cmpP]; omega) ?_ | refine o_cf rfl rfl rfl (by dsimp only [cmpN]; omega) ?_ | (apply o_easy rfl rfl rfl; conv => lhs; whnf) | refine o_non rfl ?_))
    (apply o_end; (repeat (first | exact OutS.nil | exact GetS.hit | exact PutS.hit | apply GetS.miss rfl | apply PutS.miss rfl | apply OutS.cons | apply OutS.skip rfl)))
    ((repeat refine c_seq ?_); refine c_region ?_; (repeat (first | ((first | apply o_move rfl rfl | apply o_easy1 rfl rfl rfl | apply o_ld rfl rfl (by assumption) (by first | rfl | assumption)); conv => lhs; whnf) | refine o_no rfl ?_ | refine o_add rfl rfl rfl (by omega) (by omega) ?_ | refine o_sub rfl rfl rfl (by omega) (by omega) ?_ | refine o_mul rfl rfl rfl (by omega) (by omega) ?_ | refine o_sadd rfl rfl rfl (by omega) ?_ | refine o_seql_t rfl rfl rfl (by assumption) ?_ | refine o_seql_f rfl rfl rfl (by assumption) ?_ | refine o_ct rfl rfl rfl (by dsimp only [cmpP]; omega) ?_ | refine o_cf rfl rfl rfl (by dsimp only [cmpN]; omega) ?_ | (apply o_easy rfl rfl rfl; conv => lhs; whnf) | refine o_non rfl ?_)))
    refine o_call rfl rfl hex ?_
    (repeat (first | ((first | apply o_move rfl rfl | apply o_easy1 rfl rfl rfl | apply o_ld rfl rfl (by assumption) (by first | rfl | assumption)); conv => lhs; whnf) | refine o_no rfl ?_ | refine o_add rfl rfl rfl (by omega) (by omega) ?_ | refine o_sub rfl rfl rfl (by omega) (by omega) ?_ | refine o_mul rfl rfl rfl (by omega) (by omega) ?_ | refine o_sadd rfl rfl rfl (by omega) ?_ | refine o_seql_t rfl rfl rfl (by assumption) ?_ | refine o_seql_f rfl rfl rfl (by assumption) ?_ | refine o_ct rfl rfl rfl (by dsimp only [cmpP]; omega) ?_ | refine o_cf rfl rfl rfl (by dsimp only [cmpN]; omega) ?_ | (apply o_easy rfl rfl rfl; conv => lhs; whnf) | refine o_non rfl ?_))
    (apply o_end; (repeat (first | exact OutS.nil | exact GetS.hit | exact PutS.hit | apply GetS.miss rfl | apply PutS.miss rfl | apply OutS.cons | apply OutS.skip rfl)))
    by_cases he : text = []
    · subst he
      ((repeat refine c_seq ?_); refine c_region ?_; (repeat (first | ((first | apply o_move rfl rfl | apply o_easy1 rfl rfl rfl | apply o_ld rfl rfl (by assumption) (by first | rfl | assumption)); conv => lhs; whnf) | refine o_no rfl ?_ | refine o_add rfl rfl rfl (by omega) (by omega) ?_ | refine o_sub rfl rfl rfl (by omega) (by omega) ?_ | refine o_mul rfl rfl rfl (by omega) (by omega) ?_ | refine o_sadd rfl rfl rfl (by omega) ?_ | refine o_seql_t rfl rfl rfl (by assumption) ?_ | refine o_seql_f rfl rfl rfl (by assumption) ?_ | refine o_ct rfl rfl rfl (by dsimp only [cmpP]; omega) ?_ | refine o_cf rfl rfl rfl (by dsimp only [cmpN]; omega) ?_ | (apply o_easy rfl rfl rfl; conv => lhs; whnf) | refine o_non rfl ?_)); apply o_end; (repeat (first | exact OutS.nil | exact GetS.hit | exact PutS.hit | apply GetS.miss rfl | apply PutS.miss rfl | apply OutS.cons | apply OutS.skip rfl)))
      ((repeat refine c_seq ?_); refine c_region ?_; (repeat (first | ((first | apply o_move rfl rfl | apply o_easy1 rfl rfl rfl | apply o_ld rfl rfl (by assumption) (by first | rfl | assumption)); conv => lhs; whnf) | refine o_no rfl ?_ | refine o_add rfl rfl rfl (by omega) (by omega) ?_ | refine o_sub rfl rfl rfl (by omega) (by omega) ?_ | refine o_mul rfl rfl rfl (by omega) (by omega) ?_ | refine o_sadd rfl rfl rfl (by omega) ?_ | refine o_seql_t rfl rfl rfl (by assumption) ?_ | refine o_seql_f rfl rfl rfl (by assumption) ?_ | refine o_ct rfl rfl rfl (by dsimp only [cmpP]; omega) ?_ | refine o_cf rfl rfl rfl (by dsimp only [cmpN]; omega) ?_ | (apply o_easy rfl rfl rfl; conv => lhs; whnf) | refine o_non rfl ?_)); apply o_end; (repeat (first | exact OutS.nil | exact GetS.hit | exact PutS.hit | apply GetS.miss rfl | apply PutS.miss rfl | apply OutS.cons | apply OutS.skip rfl)))
      exact c_ret rfl
    · have hl1 : lit1 text = [.lit text] := if_neg he
      have hpos : 0 < text.length := by cases text; exact absurd rfl he; simp
      rw [hl1]
      ((repeat refine c_seq ?_); refine c_region ?_; (repeat (first | ((first | apply o_move rfl rfl | apply o_easy1 rfl rfl rfl | apply o_ld rfl rfl (by assumption) (by first | rfl | assumption)); conv => lhs; whnf) | refine o_no rfl ?_ | refine o_add rfl rfl rfl (by omega) (by omega) ?_ | refine o_sub rfl rfl rfl (by omega) (by omega) ?_ | refine o_mul rfl rfl rfl (by omega) (by omega) ?_ | refine o_sadd rfl rfl rfl (by omega) ?_ | refine o_seql_t rfl rfl rfl (by assumption) ?_ | refine o_seql_f rfl rfl rfl (by assumption) ?_ | refine o_ct rfl rfl rfl (by dsimp only [cmpP]; omega) ?_ | refine o_cf rfl rfl rfl (by dsimp only [cmpN]; omega) ?_ | (apply o_easy rfl rfl rfl; conv => lhs; whnf) | refine o_non rfl ?_)))
      refine o_ixvec (j := 0) rfl rfl rfl rfl rfl rfl ?_
      (repeat (first | ((first | apply o_move rfl rfl | apply o_easy1 rfl rfl rfl | apply o_ld rfl rfl (by assumption) (by first | rfl | assumption)); conv => lhs; whnf) | refine o_no rfl ?_ | refine o_add rfl rfl rfl (by omega) (by omega) ?_ | refine o_sub rfl rfl rfl (by omega) (by omega) ?_ | refine o_mul rfl rfl rfl (by omega) (by omega) ?_ | refine o_sadd rfl rfl rfl (by omega) ?_ | refine o_seql_t rfl rfl rfl (by assumption) ?_ | refine o_seql_f rfl rfl rfl (by assumption) ?_ | refine o_ct rfl rfl rfl (by dsimp only [cmpP]; omega) ?_ | refine o_cf rfl rfl rfl (by dsimp only [cmpN]; omega) ?_ | (apply o_easy rfl rfl rfl; conv => lhs; whnf) | refine o_non rfl ?_))
      (apply o_end; (repeat (first | exact OutS.nil | exact GetS.hit | exact PutS.hit | apply GetS.miss rfl | apply PutS.miss rfl | apply OutS.cons | apply OutS.skip rfl)))
      ((repeat refine c_seq ?_); refine c_region ?_; (repeat (first | ((first | apply o_move rfl rfl | apply o_easy1 rfl rfl rfl | apply o_ld rfl rfl (by assumption) (by first | rfl | assumption)); conv => lhs; whnf) | refine o_no rfl ?_ | refine o_add rfl rfl rfl (by omega) (by omega) ?_ | refine o_sub rfl rfl rfl (by omega) (by omega) ?_ | refine o_mul rfl rfl rfl (by omega) (by omega) ?_ | refine o_sadd rfl rfl rfl (by omega) ?_ | refine o_seql_t rfl rfl rfl (by assumption) ?_ | refine o_seql_f rfl rfl rfl (by assumption) ?_ | refine o_ct rfl rfl rfl (by dsimp only [cmpP]; omega) ?_ | refine o_cf rfl rfl rfl (by dsimp only [cmpN]; omega) ?_ | (apply o_easy rfl rfl rfl; conv => lhs; whnf) | refine o_non rfl ?_)))
      refine o_strB text rfl rfl rfl ?_
      (repeat (first | ((first | apply o_move rfl rfl | apply o_easy1 rfl rfl rfl | apply o_ld rfl rfl (by assumption) (by first | rfl | assumption)); conv => lhs; whnf) | refine o_no rfl ?_ | refine o_add rfl rfl rfl (by omega) (by omega) ?_ | refine o_sub rfl rfl rfl (by omega) (by omega) ?_ | refine o_mul rfl rfl rfl (by omega) (by omega) ?_ | refine o_sadd rfl rfl rfl (by omega) ?_ | refine o_seql_t rfl rfl rfl (by assumption) ?_ | refine o_seql_f rfl rfl rfl (by assumption) ?_ | refine o_ct rfl rfl rfl (by dsimp only [cmpP]; omega) ?_ | refine o_cf rfl rfl rfl (by dsimp only [cmpN]; omega) ?_ | (apply o_easy rfl rfl rfl; conv => lhs; whnf) | refine o_non rfl ?_))
      refine o_strB text rfl rfl rfl ?_
      refine o_seql_t rfl rfl rfl rfl ?_
      (repeat (first | ((first | apply o_move rfl rfl | apply o_easy1 rfl rfl rfl | apply o_ld rfl rfl (by assumption) (by first | rfl | assumption)); conv => lhs; whnf) | refine o_no rfl ?_ | refine o_add rfl rfl rfl (by omega) (by omega) ?_ | refine o_sub rfl rfl rfl (by omega) (by omega) ?_ | refine o_mul rfl rfl rfl (by omega) (by omega) ?_ | refine o_sadd rfl rfl rfl (by omega) ?_ | refine o_seql_t rfl rfl rfl (by assumption) ?_ | refine o_seql_f rfl rfl rfl (by assumption) ?_ | refine o_ct rfl rfl rfl (by dsimp only [cmpP]; omega) ?_ | refine o_cf rfl rfl rfl (by dsimp only [cmpN]; omega) ?_ | (apply o_easy rfl rfl rfl; conv => lhs; whnf) | refine o_non rfl ?_))
      (apply o_end; (repeat (first | exact OutS.nil | exact GetS.hit | exact PutS.hit | apply GetS.miss rfl | apply PutS.miss rfl | apply OutS.cons | apply OutS.skip rfl)))
      exact c_ret rfl

end Go.Tpl

namespace Go.Tpl
open Go Go.Am Go.Proofs

/-- the template of the law -/
def chooseT : List UInt8 := [36,123,49,58,45,110,111,125,47,36,123,49,58,43,121,101,115,36,48,58,110,111,116,125,47,36,49]
def chooseL : List Tp := [.els 1 [.lit [110, 111]], .lit [47], .ifs 1 [.lit [121, 101, 115], .group 0] [.lit [110, 111, 116]], .lit [47], .group 1]

theorem choose_parts : partsM chooseT 1 40 [] 1 0 [] = some (.ok (chooseL, 27)) := by kernel_rfl

/-- the loop 0 of function 5 -/
def lp5_0 : ACode := .seq (.seq (.region [⟨(some 18), .v (.move (.tmp 8)), none⟩, ⟨(some 19), .v (.move (.tmp 0)), none⟩, ⟨(some 20), .v (.len 1 (.tmp 19)), none⟩, ⟨(some 21), .v (.bin .lss (.tmp 18) (.tmp 20)), none⟩] [21]) (.cond (.tmp 21) (.skip) (.exit 0))) (.seq (.block 1 (.seq (.region [⟨(some 24), .v (.move (.tmp 0)), none⟩, ⟨(some 25), .v (.move (.tmp 8)), none⟩, ⟨(some 26), .v (.indexAddrS none (.tmp 24) (.tmp 25)), none⟩, ⟨(some 27), .v (.load none (.tmp 26)), none⟩, ⟨(some 28), .v (.bin .lss (.tmp 27) (.const (.int .u8 97))), none⟩, ⟨(some 29), .v (.move (.tmp 28)), none⟩, ⟨(some 30), .v (.move (.tmp 0)), (some (29, false))⟩, ⟨(some 31), .v (.move (.tmp 8)), (some (29, false))⟩, ⟨(some 32), .v (.indexAddrS none (.tmp 30) (.tmp 31)), (some (29, false))⟩, ⟨(some 33), .v (.load none (.tmp 32)), (some (29, false))⟩, ⟨(some 34), .v (.bin .gtr (.tmp 33) (.const (.int .u8 122))), (some (29, false))⟩, ⟨(some 35), .v (.pick (.tmp 29) (.const (.bool true)) (.tmp 34)), none⟩] [35]) (.cond (.tmp 35) (.seq (.region [⟨(some 6), .v (.move (.const (.bool true))), none⟩] [6]) (.ret)) (.skip)))) (.region [⟨(some 22), .v (.move (.tmp 8)), none⟩, ⟨(some 23), .v (.bin .add (.tmp 22) (.const (.int .i64 1))), none⟩, ⟨(some 8), .v (.move (.tmp 23)), none⟩] [8]))

abbrev fr5 (text : List UInt8) (f t : Int) (k : Nat) (x21 x35 : AV) : Fr :=
  ⟨[(0, .vec (Am.byteCells text) .shut), (1, .int .i64 f), (2, .int .i64 t), (6, .bool false), (7, .bool true), (17, .bool false), (8, .int .i64 k), (21, x21), (35, x35), (53, .undef), (10, .undef), (9, .undef), (11, .undef), (74, .undef), (76, .undef), (13, .undef), (14, .undef)], [], .off⟩

abbrev fr5b (text : List UInt8) (f t : Int) (k : Nat) (x21 x35 x9 x10 x11 x13 : AV) : Fr :=
  ⟨[(0, .vec (Am.byteCells text) .shut), (1, .int .i64 f), (2, .int .i64 t), (6, .bool false), (7, .bool true), (17, .bool false), (8, .int .i64 k), (21, x21), (35, x35), (53, .bool false), (10, x10), (9, x9), (11, x11), (74, .undef), (76, .undef), (13, x13), (14, .undef)], [], .off⟩

theorem choose_loop (m : Nat) (b : Bar) (text : List UInt8) (f t : Int) (hlen : text.length ≤ 2 ^ 63 - 1) (s : Sg) {Q : Ex → Fr → Sg → Prop}
    (hq : ∀ k x21 x35, Q (.exit 0) (fr5 text f t k x21 x35) s) (hr : ∀ pers, (Env.get pers 6).def? = some (.bool true) → Q .ret ⟨pers, [], .off⟩ s) :
    ∀ (n k L : Nat) (x21 x35 : AV), k + n = text.length → n + 1 ≤ L →
    OkL L (fun fr s => ACode.run (loopN m) (callF T m) b lp5_0 fr s) (fr5 text f t k x21 x35) s Q := by
  have hbl := Am.byteCells_length text
  intro n
  induction n with
  | zero =>
    intro k L x21 x35 hk hL
    obtain ⟨L, rfl⟩ : ∃ L', L = L' + 1 := ⟨L - 1, by omega⟩
    apply l_round
    ((repeat refine c_seq ?_); refine c_region ?_; (repeat (first | ((first | apply o_move rfl rfl | apply o_easy1 rfl rfl rfl | apply o_ld rfl rfl (by assumption) (by first | rfl | assumption)); conv => lhs; whnf) | refine o_no rfl ?_ | refine o_add rfl rfl rfl (by omega) (by omega) ?_ | refine o_sub rfl rfl rfl (by omega) (by omega) ?_ | refine o_mul rfl rfl rfl (by omega) (by omega) ?_ | refine o_sadd rfl rfl rfl (by omega) ?_ | refine o_seql_t rfl rfl rfl (by assumption) ?_ | refine o_seql_f rfl rfl rfl (by assumption) ?_ | refine o_ct rfl rfl rfl (by dsimp only [cmpP]; omega) ?_ | refine o_cf rfl rfl rfl (by dsimp only [cmpN]; omega) ?_ | (apply o_easy rfl rfl rfl; conv => lhs; whnf) | refine o_non rfl ?_)); apply o_end; (repeat (first | exact OutS.nil | exact GetS.hit | exact PutS.hit | apply GetS.miss rfl | apply PutS.miss rfl | apply OutS.cons | apply OutS.skip rfl)))
    ((repeat refine c_seq ?_); refine c_else rfl ?_)
    exact c_exit (hq _ _ _)
  | succ n ih =>
    intro k L x21 x35 hk hL
    obtain ⟨L, rfl⟩ : ∃ L', L = L' + 1 := ⟨L - 1, by omega⟩
    obtain ⟨c, hget⟩ : ∃ c, text[k]? = some c := ⟨text[k]'(by omega), List.getElem?_eq_getElem (by omega)⟩
    apply l_round
    ((repeat refine c_seq ?_); refine c_region ?_; (repeat (first | ((first | apply o_move rfl rfl | apply o_easy1 rfl rfl rfl | apply o_ld rfl rfl (by assumption) (by first | rfl | assumption)); conv => lhs; whnf) | refine o_no rfl ?_ | refine o_add rfl rfl rfl (by omega) (by omega) ?_ | refine o_sub rfl rfl rfl (by omega) (by omega) ?_ | refine o_mul rfl rfl rfl (by omega) (by omega) ?_ | refine o_sadd rfl rfl rfl (by omega) ?_ | refine o_seql_t rfl rfl rfl (by assumption) ?_ | refine o_seql_f rfl rfl rfl (by assumption) ?_ | refine o_ct rfl rfl rfl (by dsimp only [cmpP]; omega) ?_ | refine o_cf rfl rfl rfl (by dsimp only [cmpN]; omega) ?_ | (apply o_easy rfl rfl rfl; conv => lhs; whnf) | refine o_non rfl ?_)); apply o_end; (repeat (first | exact OutS.nil | exact GetS.hit | exact PutS.hit | apply GetS.miss rfl | apply PutS.miss rfl | apply OutS.cons | apply OutS.skip rfl)))
    ((repeat refine c_seq ?_); refine c_if rfl ?_)
    refine c_skip ?_
    ((repeat refine c_seq ?_); refine c_block ?_)
    by_cases h1 : (c.toNat : Int) < 97
    · ((repeat refine c_seq ?_); refine c_region ?_; (repeat (first | ((first | apply o_move rfl rfl | apply o_easy1 rfl rfl rfl | apply o_ld rfl rfl (by assumption) (by first | rfl | assumption)); conv => lhs; whnf) | refine o_no rfl ?_ | refine o_add rfl rfl rfl (by omega) (by omega) ?_ | refine o_sub rfl rfl rfl (by omega) (by omega) ?_ | refine o_mul rfl rfl rfl (by omega) (by omega) ?_ | refine o_sadd rfl rfl rfl (by omega) ?_ | refine o_seql_t rfl rfl rfl (by assumption) ?_ | refine o_seql_f rfl rfl rfl (by assumption) ?_ | refine o_ct rfl rfl rfl (by dsimp only [cmpP]; omega) ?_ | refine o_cf rfl rfl rfl (by dsimp only [cmpN]; omega) ?_ | (apply o_easy rfl rfl rfl; conv => lhs; whnf) | refine o_non rfl ?_)))
      refine o_ixvec (j := k) rfl rfl rfl rfl (bc_get hget) rfl ?_
      (repeat (first | ((first | apply o_move rfl rfl | apply o_easy1 rfl rfl rfl | apply o_ld rfl rfl (by assumption) (by first | rfl | assumption)); conv => lhs; whnf) | refine o_no rfl ?_ | refine o_add rfl rfl rfl (by omega) (by omega) ?_ | refine o_sub rfl rfl rfl (by omega) (by omega) ?_ | refine o_mul rfl rfl rfl (by omega) (by omega) ?_ | refine o_sadd rfl rfl rfl (by omega) ?_ | refine o_seql_t rfl rfl rfl (by assumption) ?_ | refine o_seql_f rfl rfl rfl (by assumption) ?_ | refine o_ct rfl rfl rfl (by dsimp only [cmpP]; omega) ?_ | refine o_cf rfl rfl rfl (by dsimp only [cmpN]; omega) ?_ | (apply o_easy rfl rfl rfl; conv => lhs; whnf) | refine o_non rfl ?_))
      (apply o_end; (repeat (first | exact OutS.nil | exact GetS.hit | exact PutS.hit | apply GetS.miss rfl | apply PutS.miss rfl | apply OutS.cons | apply OutS.skip rfl)))
      ((repeat refine c_seq ?_); refine c_if rfl ?_)
      ((repeat refine c_seq ?_); refine c_region ?_; (repeat (first | ((first | apply o_move rfl rfl | apply o_easy1 rfl rfl rfl | apply o_ld rfl rfl (by assumption) (by first | rfl | assumption)); conv => lhs; whnf) | refine o_no rfl ?_ | refine o_add rfl rfl rfl (by omega) (by omega) ?_ | refine o_sub rfl rfl rfl (by omega) (by omega) ?_ | refine o_mul rfl rfl rfl (by omega) (by omega) ?_ | refine o_sadd rfl rfl rfl (by omega) ?_ | refine o_seql_t rfl rfl rfl (by assumption) ?_ | refine o_seql_f rfl rfl rfl (by assumption) ?_ | refine o_ct rfl rfl rfl (by dsimp only [cmpP]; omega) ?_ | refine o_cf rfl rfl rfl (by dsimp only [cmpN]; omega) ?_ | (apply o_easy rfl rfl rfl; conv => lhs; whnf) | refine o_non rfl ?_)); apply o_end; (repeat (first | exact OutS.nil | exact GetS.hit | exact PutS.hit | apply GetS.miss rfl | apply PutS.miss rfl | apply OutS.cons | apply OutS.skip rfl)))
      exact c_ret (hr _ rfl)
    · by_cases h2 : (c.toNat : Int) > 122
      · ((repeat refine c_seq ?_); refine c_region ?_; (repeat (first | ((first | apply o_move rfl rfl | apply o_easy1 rfl rfl rfl | apply o_ld rfl rfl (by assumption) (by first | rfl | assumption)); conv => lhs; whnf) | refine o_no rfl ?_ | refine o_add rfl rfl rfl (by omega) (by omega) ?_ | refine o_sub rfl rfl rfl (by omega) (by omega) ?_ | refine o_mul rfl rfl rfl (by omega) (by omega) ?_ | refine o_sadd rfl rfl rfl (by omega) ?_ | refine o_seql_t rfl rfl rfl (by assumption) ?_ | refine o_seql_f rfl rfl rfl (by assumption) ?_ | refine o_ct rfl rfl rfl (by dsimp only [cmpP]; omega) ?_ | refine o_cf rfl rfl rfl (by dsimp only [cmpN]; omega) ?_ | (apply o_easy rfl rfl rfl; conv => lhs; whnf) | refine o_non rfl ?_)))
        refine o_ixvec (j := k) rfl rfl rfl rfl (bc_get hget) rfl ?_
        (repeat (first | ((first | apply o_move rfl rfl | apply o_easy1 rfl rfl rfl | apply o_ld rfl rfl (by assumption) (by first | rfl | assumption)); conv => lhs; whnf) | refine o_no rfl ?_ | refine o_add rfl rfl rfl (by omega) (by omega) ?_ | refine o_sub rfl rfl rfl (by omega) (by omega) ?_ | refine o_mul rfl rfl rfl (by omega) (by omega) ?_ | refine o_sadd rfl rfl rfl (by omega) ?_ | refine o_seql_t rfl rfl rfl (by assumption) ?_ | refine o_seql_f rfl rfl rfl (by assumption) ?_ | refine o_ct rfl rfl rfl (by dsimp only [cmpP]; omega) ?_ | refine o_cf rfl rfl rfl (by dsimp only [cmpN]; omega) ?_ | (apply o_easy rfl rfl rfl; conv => lhs; whnf) | refine o_non rfl ?_))
        refine o_ixvec (j := k) rfl rfl rfl rfl (bc_get hget) rfl ?_
        (repeat (first | ((first | apply o_move rfl rfl | apply o_easy1 rfl rfl rfl | apply o_ld rfl rfl (by assumption) (by first | rfl | assumption)); conv => lhs; whnf) | refine o_no rfl ?_ | refine o_add rfl rfl rfl (by omega) (by omega) ?_ | refine o_sub rfl rfl rfl (by omega) (by omega) ?_ | refine o_mul rfl rfl rfl (by omega) (by omega) ?_ | refine o_sadd rfl rfl rfl (by omega) ?_ | refine o_seql_t rfl rfl rfl (by assumption) ?_ | refine o_seql_f rfl rfl rfl (by assumption) ?_ | refine o_ct rfl rfl rfl (by dsimp only [cmpP]; omega) ?_ | refine o_cf rfl rfl rfl (by dsimp only [cmpN]; omega) ?_ | (apply o_easy rfl rfl rfl; conv => lhs; whnf) | refine o_non rfl ?_))
        (apply o_end; (repeat (first | exact OutS.nil | exact GetS.hit | exact PutS.hit | apply GetS.miss rfl | apply PutS.miss rfl | apply OutS.cons | apply OutS.skip rfl)))
        ((repeat refine c_seq ?_); refine c_if rfl ?_)
        ((repeat refine c_seq ?_); refine c_region ?_; (repeat (first | ((first | apply o_move rfl rfl | apply o_easy1 rfl rfl rfl | apply o_ld rfl rfl (by assumption) (by first | rfl | assumption)); conv => lhs; whnf) | refine o_no rfl ?_ | refine o_add rfl rfl rfl (by omega) (by omega) ?_ | refine o_sub rfl rfl rfl (by omega) (by omega) ?_ | refine o_mul rfl rfl rfl (by omega) (by omega) ?_ | refine o_sadd rfl rfl rfl (by omega) ?_ | refine o_seql_t rfl rfl rfl (by assumption) ?_ | refine o_seql_f rfl rfl rfl (by assumption) ?_ | refine o_ct rfl rfl rfl (by dsimp only [cmpP]; omega) ?_ | refine o_cf rfl rfl rfl (by dsimp only [cmpN]; omega) ?_ | (apply o_easy rfl rfl rfl; conv => lhs; whnf) | refine o_non rfl ?_)); apply o_end; (repeat (first | exact OutS.nil | exact GetS.hit | exact PutS.hit | apply GetS.miss rfl | apply PutS.miss rfl | apply OutS.cons | apply OutS.skip rfl)))
        exact c_ret (hr _ rfl)
      · ((repeat refine c_seq ?_); refine c_region ?_; (repeat (first | ((first | apply o_move rfl rfl | apply o_easy1 rfl rfl rfl | apply o_ld rfl rfl (by assumption) (by first | rfl | assumption)); conv => lhs; whnf) | refine o_no rfl ?_ | refine o_add rfl rfl rfl (by omega) (by omega) ?_ | refine o_sub rfl rfl rfl (by omega) (by omega) ?_ | refine o_mul rfl rfl rfl (by omega) (by omega) ?_ | refine o_sadd rfl rfl rfl (by omega) ?_ | refine o_seql_t rfl rfl rfl (by assumption) ?_ | refine o_seql_f rfl rfl rfl (by assumption) ?_ | refine o_ct rfl rfl rfl (by dsimp only [cmpP]; omega) ?_ | refine o_cf rfl rfl rfl (by dsimp only [cmpN]; omega) ?_ | (apply o_easy rfl rfl rfl; conv => lhs; whnf) | refine o_non rfl ?_)))
        refine o_ixvec (j := k) rfl rfl rfl rfl (bc_get hget) rfl ?_
        (repeat (first | ((first | apply o_move rfl rfl | apply o_easy1 rfl rfl rfl | apply o_ld rfl rfl (by assumption) (by first | rfl | assumption)); conv => lhs; whnf) | refine o_no rfl ?_ | refine o_add rfl rfl rfl (by omega) (by omega) ?_ | refine o_sub rfl rfl rfl (by omega) (by omega) ?_ | refine o_mul rfl rfl rfl (by omega) (by omega) ?_ | refine o_sadd rfl rfl rfl (by omega) ?_ | refine o_seql_t rfl rfl rfl (by assumption) ?_ | refine o_seql_f rfl rfl rfl (by assumption) ?_ | refine o_ct rfl rfl rfl (by dsimp only [cmpP]; omega) ?_ | refine o_cf rfl rfl rfl (by dsimp only [cmpN]; omega) ?_ | (apply o_easy rfl rfl rfl; conv => lhs; whnf) | refine o_non rfl ?_))
        refine o_ixvec (j := k) rfl rfl rfl rfl (bc_get hget) rfl ?_
        (repeat (first | ((first | apply o_move rfl rfl | apply o_easy1 rfl rfl rfl | apply o_ld rfl rfl (by assumption) (by first | rfl | assumption)); conv => lhs; whnf) | refine o_no rfl ?_ | refine o_add rfl rfl rfl (by omega) (by omega) ?_ | refine o_sub rfl rfl rfl (by omega) (by omega) ?_ | refine o_mul rfl rfl rfl (by omega) (by omega) ?_ | refine o_sadd rfl rfl rfl (by omega) ?_ | refine o_seql_t rfl rfl rfl (by assumption) ?_ | refine o_seql_f rfl rfl rfl (by assumption) ?_ | refine o_ct rfl rfl rfl (by dsimp only [cmpP]; omega) ?_ | refine o_cf rfl rfl rfl (by dsimp only [cmpN]; omega) ?_ | (apply o_easy rfl rfl rfl; conv => lhs; whnf) | refine o_non rfl ?_))
        (apply o_end; (repeat (first | exact OutS.nil | exact GetS.hit | exact PutS.hit | apply GetS.miss rfl | apply PutS.miss rfl | apply OutS.cons | apply OutS.skip rfl)))
        ((repeat refine c_seq ?_); refine c_else rfl ?_)
        refine c_skip ?_
        ((repeat refine c_seq ?_); refine c_region ?_; (repeat (first | ((first | apply o_move rfl rfl | apply o_easy1 rfl rfl rfl | apply o_ld rfl rfl (by assumption) (by first | rfl | assumption)); conv => lhs; whnf) | refine o_no rfl ?_ | refine o_add rfl rfl rfl (by omega) (by omega) ?_ | refine o_sub rfl rfl rfl (by omega) (by omega) ?_ | refine o_mul rfl rfl rfl (by omega) (by omega) ?_ | refine o_sadd rfl rfl rfl (by omega) ?_ | refine o_seql_t rfl rfl rfl (by assumption) ?_ | refine o_seql_f rfl rfl rfl (by assumption) ?_ | refine o_ct rfl rfl rfl (by dsimp only [cmpP]; omega) ?_ | refine o_cf rfl rfl rfl (by dsimp only [cmpN]; omega) ?_ | (apply o_easy rfl rfl rfl; conv => lhs; whnf) | refine o_non rfl ?_)); apply o_end; (repeat (first | exact OutS.nil | exact GetS.hit | exact PutS.hit | apply GetS.miss rfl | apply PutS.miss rfl | apply OutS.cons | apply OutS.skip rfl)))
        exact ih (k + 1) L _ _ (by omega) (by omega)

theorem fin_eq {x : Option (Out × Sg)} {a : Out} {c : Sg} (h : OkF x fun o s' => o = a ∧ s' = c) : x = some (a, c) := by
  obtain ⟨o, s', h1, rfl, rfl⟩ := h.ok
  exact h1

theorem choose_none {text : List UInt8} {f t : Int} (hf : f < 0) : expL text [(0, (text.length : Int)), (f, t)] chooseL = [110, 111, 47, 110, 111, 116, 47] := by
  have h1 : grp text [(0, (text.length : Int)), (f, t)] 1 = none := by
    simp only [grp]
    rw [if_pos (by omega)]
    simp only [show (1 : Int).toNat = 1 from rfl, List.getElem?_cons_succ, List.getElem?_cons_zero]
    rw [if_neg (by omega)]
  simp [chooseL, expL, expT, h1]

theorem choose_some {text : List UInt8} {f t : Int} (hf : 0 ≤ f) (hft : f ≤ t) (ht : t ≤ text.length) : expL text [(0, (text.length : Int)), (f, t)] chooseL =
    ((((text.drop f.toNat).take (t.toNat - f.toNat) ++ [47, 121, 101, 115]) ++ text) ++ [47]) ++ (text.drop f.toNat).take (t.toNat - f.toNat) := by
  have h1 : grp text [(0, (text.length : Int)), (f, t)] 1 = some ((text.drop f.toNat).take (t.toNat - f.toNat)) := by
    simp only [grp]
    rw [if_pos (by omega)]
    simp only [show (1 : Int).toNat = 1 from rfl, List.getElem?_cons_succ, List.getElem?_cons_zero]
    rw [if_pos ⟨hf, hft, ht⟩]
  have h0 : grp text [(0, (text.length : Int)), (f, t)] 0 = some text := by
    simp only [grp]
    rw [if_pos (by omega)]
    simp only [show (0 : Int).toNat = 0 from rfl, List.getElem?_cons_zero]
    rw [if_pos (by omega)]
    simp
  simp [chooseL, expL, expT, h1, h0]

theorem choose_true (text : List UInt8) (f t : Int) (hlen : text.length ≤ 2 ^ 63 - 1) : ∃ n, callF T n bar0 5 [.vec (Am.byteCells text) .shut, .int .i64 f, .int .i64 t] sg0 = some (.ret (.bool true), sg0) := by
  have hbl := Am.byteCells_length text
  obtain ⟨NP, hNP⟩ := parse_spec chooseT 1 (by decide) 40 _ choose_parts
  obtain ⟨NE, hNE⟩ : ∃ NE, text.length ≤ 100 → ExpAt text [(0, (text.length : Int)), (f, t)] chooseL NE := by
    by_cases h : text.length ≤ 100
    · obtain ⟨N, hN⟩ := expand_spec text [(0, (text.length : Int)), (f, t)] (by omega) chooseL (by decide) (by simp [chooseL, fineL, Tp.fine])
      exact ⟨N, fun _ => hN⟩
    · exact ⟨0, fun h' => absurd h' h⟩
  refine ⟨400 + NP + NE + text.length + 10 + 1, ?_⟩
  generalize hm : 400 + NP + NE + text.length + 10 = m
  (apply f_of rfl rfl; (repeat (first | exact Shape.nil | (apply Shape.cons; conv => lhs; whnf))))
  ((repeat refine c_seq ?_); refine c_region ?_; (repeat (first | ((first | apply o_move rfl rfl | apply o_easy1 rfl rfl rfl | apply o_ld rfl rfl (by assumption) (by first | rfl | assumption)); conv => lhs; whnf) | refine o_no rfl ?_ | refine o_add rfl rfl rfl (by omega) (by omega) ?_ | refine o_sub rfl rfl rfl (by omega) (by omega) ?_ | refine o_mul rfl rfl rfl (by omega) (by omega) ?_ | refine o_sadd rfl rfl rfl (by omega) ?_ | refine o_seql_t rfl rfl rfl (by assumption) ?_ | refine o_seql_f rfl rfl rfl (by assumption) ?_ | refine o_ct rfl rfl rfl (by dsimp only [cmpP]; omega) ?_ | refine o_cf rfl rfl rfl (by dsimp only [cmpN]; omega) ?_ | (apply o_easy rfl rfl rfl; conv => lhs; whnf) | refine o_non rfl ?_)); apply o_end; (repeat (first | exact OutS.nil | exact GetS.hit | exact PutS.hit | apply GetS.miss rfl | apply PutS.miss rfl | apply OutS.cons | apply OutS.skip rfl)))
  ((repeat refine c_seq ?_); refine c_region ?_; (repeat (first | ((first | apply o_move rfl rfl | apply o_easy1 rfl rfl rfl | apply o_ld rfl rfl (by assumption) (by first | rfl | assumption)); conv => lhs; whnf) | refine o_no rfl ?_ | refine o_add rfl rfl rfl (by omega) (by omega) ?_ | refine o_sub rfl rfl rfl (by omega) (by omega) ?_ | refine o_mul rfl rfl rfl (by omega) (by omega) ?_ | refine o_sadd rfl rfl rfl (by omega) ?_ | refine o_seql_t rfl rfl rfl (by assumption) ?_ | refine o_seql_f rfl rfl rfl (by assumption) ?_ | refine o_ct rfl rfl rfl (by dsimp only [cmpP]; omega) ?_ | refine o_cf rfl rfl rfl (by dsimp only [cmpN]; omega) ?_ | (apply o_easy rfl rfl rfl; conv => lhs; whnf) | refine o_non rfl ?_)))
  refine o_call rfl rfl (awake' m (by omega)) ?_
  (repeat (first | ((first | apply o_move rfl rfl | apply o_easy1 rfl rfl rfl | apply o_ld rfl rfl (by assumption) (by first | rfl | assumption)); conv => lhs; whnf) | refine o_no rfl ?_ | refine o_add rfl rfl rfl (by omega) (by omega) ?_ | refine o_sub rfl rfl rfl (by omega) (by omega) ?_ | refine o_mul rfl rfl rfl (by omega) (by omega) ?_ | refine o_sadd rfl rfl rfl (by omega) ?_ | refine o_seql_t rfl rfl rfl (by assumption) ?_ | refine o_seql_f rfl rfl rfl (by assumption) ?_ | refine o_ct rfl rfl rfl (by dsimp only [cmpP]; omega) ?_ | refine o_cf rfl rfl rfl (by dsimp only [cmpN]; omega) ?_ | (apply o_easy rfl rfl rfl; conv => lhs; whnf) | refine o_non rfl ?_))
  (apply o_end; (repeat (first | exact OutS.nil | exact GetS.hit | exact PutS.hit | apply GetS.miss rfl | apply PutS.miss rfl | apply OutS.cons | apply OutS.skip rfl)))
  ((repeat refine c_seq ?_); refine c_region ?_; (repeat (first | ((first | apply o_move rfl rfl | apply o_easy1 rfl rfl rfl | apply o_ld rfl rfl (by assumption) (by first | rfl | assumption)); conv => lhs; whnf) | refine o_no rfl ?_ | refine o_add rfl rfl rfl (by omega) (by omega) ?_ | refine o_sub rfl rfl rfl (by omega) (by omega) ?_ | refine o_mul rfl rfl rfl (by omega) (by omega) ?_ | refine o_sadd rfl rfl rfl (by omega) ?_ | refine o_seql_t rfl rfl rfl (by assumption) ?_ | refine o_seql_f rfl rfl rfl (by assumption) ?_ | refine o_ct rfl rfl rfl (by dsimp only [cmpP]; omega) ?_ | refine o_cf rfl rfl rfl (by dsimp only [cmpN]; omega) ?_ | (apply o_easy rfl rfl rfl; conv => lhs; whnf) | refine o_non rfl ?_)); apply o_end; (repeat (first | exact OutS.nil | exact GetS.hit | exact PutS.hit | apply GetS.miss rfl | apply PutS.miss rfl | apply OutS.cons | apply OutS.skip rfl)))
  ((repeat refine c_seq ?_); refine c_else rfl ?_)
  refine c_skip ?_
  ((repeat refine c_seq ?_); refine c_region ?_; (repeat (first | ((first | apply o_move rfl rfl | apply o_easy1 rfl rfl rfl | apply o_ld rfl rfl (by assumption) (by first | rfl | assumption)); conv => lhs; whnf) | refine o_no rfl ?_ | refine o_add rfl rfl rfl (by omega) (by omega) ?_ | refine o_sub rfl rfl rfl (by omega) (by omega) ?_ | refine o_mul rfl rfl rfl (by omega) (by omega) ?_ | refine o_sadd rfl rfl rfl (by omega) ?_ | refine o_seql_t rfl rfl rfl (by assumption) ?_ | refine o_seql_f rfl rfl rfl (by assumption) ?_ | refine o_ct rfl rfl rfl (by dsimp only [cmpP]; omega) ?_ | refine o_cf rfl rfl rfl (by dsimp only [cmpN]; omega) ?_ | (apply o_easy rfl rfl rfl; conv => lhs; whnf) | refine o_non rfl ?_)); apply o_end; (repeat (first | exact OutS.nil | exact GetS.hit | exact PutS.hit | apply GetS.miss rfl | apply PutS.miss rfl | apply OutS.cons | apply OutS.skip rfl)))
  ((repeat refine c_seq ?_); refine c_block ?_)
  refine c_loop (x := lp5_0) ?_
  refine choose_loop m _ text f t hlen sg0 ?_ ?_ text.length 0 m _ _ (by omega) (by omega)
  · intro k x21 x35
    by_cases h1 : text.length > 100
    · ((repeat refine c_seq ?_); refine c_region ?_; (repeat (first | ((first | apply o_move rfl rfl | apply o_easy1 rfl rfl rfl | apply o_ld rfl rfl (by assumption) (by first | rfl | assumption)); conv => lhs; whnf) | refine o_no rfl ?_ | refine o_add rfl rfl rfl (by omega) (by omega) ?_ | refine o_sub rfl rfl rfl (by omega) (by omega) ?_ | refine o_mul rfl rfl rfl (by omega) (by omega) ?_ | refine o_sadd rfl rfl rfl (by omega) ?_ | refine o_seql_t rfl rfl rfl (by assumption) ?_ | refine o_seql_f rfl rfl rfl (by assumption) ?_ | refine o_ct rfl rfl rfl (by dsimp only [cmpP]; omega) ?_ | refine o_cf rfl rfl rfl (by dsimp only [cmpN]; omega) ?_ | (apply o_easy rfl rfl rfl; conv => lhs; whnf) | refine o_non rfl ?_)); apply o_end; (repeat (first | exact OutS.nil | exact GetS.hit | exact PutS.hit | apply GetS.miss rfl | apply PutS.miss rfl | apply OutS.cons | apply OutS.skip rfl)))
      ((repeat refine c_seq ?_); refine c_if rfl ?_)
      ((repeat refine c_seq ?_); refine c_region ?_; (repeat (first | ((first | apply o_move rfl rfl | apply o_easy1 rfl rfl rfl | apply o_ld rfl rfl (by assumption) (by first | rfl | assumption)); conv => lhs; whnf) | refine o_no rfl ?_ | refine o_add rfl rfl rfl (by omega) (by omega) ?_ | refine o_sub rfl rfl rfl (by omega) (by omega) ?_ | refine o_mul rfl rfl rfl (by omega) (by omega) ?_ | refine o_sadd rfl rfl rfl (by omega) ?_ | refine o_seql_t rfl rfl rfl (by assumption) ?_ | refine o_seql_f rfl rfl rfl (by assumption) ?_ | refine o_ct rfl rfl rfl (by dsimp only [cmpP]; omega) ?_ | refine o_cf rfl rfl rfl (by dsimp only [cmpN]; omega) ?_ | (apply o_easy rfl rfl rfl; conv => lhs; whnf) | refine o_non rfl ?_)); apply o_end; (repeat (first | exact OutS.nil | exact GetS.hit | exact PutS.hit | apply GetS.miss rfl | apply PutS.miss rfl | apply OutS.cons | apply OutS.skip rfl)))
      exact c_ret rfl
    by_cases h2 : f < -1
    · ((repeat refine c_seq ?_); refine c_region ?_; (repeat (first | ((first | apply o_move rfl rfl | apply o_easy1 rfl rfl rfl | apply o_ld rfl rfl (by assumption) (by first | rfl | assumption)); conv => lhs; whnf) | refine o_no rfl ?_ | refine o_add rfl rfl rfl (by omega) (by omega) ?_ | refine o_sub rfl rfl rfl (by omega) (by omega) ?_ | refine o_mul rfl rfl rfl (by omega) (by omega) ?_ | refine o_sadd rfl rfl rfl (by omega) ?_ | refine o_seql_t rfl rfl rfl (by assumption) ?_ | refine o_seql_f rfl rfl rfl (by assumption) ?_ | refine o_ct rfl rfl rfl (by dsimp only [cmpP]; omega) ?_ | refine o_cf rfl rfl rfl (by dsimp only [cmpN]; omega) ?_ | (apply o_easy rfl rfl rfl; conv => lhs; whnf) | refine o_non rfl ?_)); apply o_end; (repeat (first | exact OutS.nil | exact GetS.hit | exact PutS.hit | apply GetS.miss rfl | apply PutS.miss rfl | apply OutS.cons | apply OutS.skip rfl)))
      ((repeat refine c_seq ?_); refine c_if rfl ?_)
      ((repeat refine c_seq ?_); refine c_region ?_; (repeat (first | ((first | apply o_move rfl rfl | apply o_easy1 rfl rfl rfl | apply o_ld rfl rfl (by assumption) (by first | rfl | assumption)); conv => lhs; whnf) | refine o_no rfl ?_ | refine o_add rfl rfl rfl (by omega) (by omega) ?_ | refine o_sub rfl rfl rfl (by omega) (by omega) ?_ | refine o_mul rfl rfl rfl (by omega) (by omega) ?_ | refine o_sadd rfl rfl rfl (by omega) ?_ | refine o_seql_t rfl rfl rfl (by assumption) ?_ | refine o_seql_f rfl rfl rfl (by assumption) ?_ | refine o_ct rfl rfl rfl (by dsimp only [cmpP]; omega) ?_ | refine o_cf rfl rfl rfl (by dsimp only [cmpN]; omega) ?_ | (apply o_easy rfl rfl rfl; conv => lhs; whnf) | refine o_non rfl ?_)); apply o_end; (repeat (first | exact OutS.nil | exact GetS.hit | exact PutS.hit | apply GetS.miss rfl | apply PutS.miss rfl | apply OutS.cons | apply OutS.skip rfl)))
      exact c_ret rfl
    by_cases h3 : t < f
    · ((repeat refine c_seq ?_); refine c_region ?_; (repeat (first | ((first | apply o_move rfl rfl | apply o_easy1 rfl rfl rfl | apply o_ld rfl rfl (by assumption) (by first | rfl | assumption)); conv => lhs; whnf) | refine o_no rfl ?_ | refine o_add rfl rfl rfl (by omega) (by omega) ?_ | refine o_sub rfl rfl rfl (by omega) (by omega) ?_ | refine o_mul rfl rfl rfl (by omega) (by omega) ?_ | refine o_sadd rfl rfl rfl (by omega) ?_ | refine o_seql_t rfl rfl rfl (by assumption) ?_ | refine o_seql_f rfl rfl rfl (by assumption) ?_ | refine o_ct rfl rfl rfl (by dsimp only [cmpP]; omega) ?_ | refine o_cf rfl rfl rfl (by dsimp only [cmpN]; omega) ?_ | (apply o_easy rfl rfl rfl; conv => lhs; whnf) | refine o_non rfl ?_)); apply o_end; (repeat (first | exact OutS.nil | exact GetS.hit | exact PutS.hit | apply GetS.miss rfl | apply PutS.miss rfl | apply OutS.cons | apply OutS.skip rfl)))
      ((repeat refine c_seq ?_); refine c_if rfl ?_)
      ((repeat refine c_seq ?_); refine c_region ?_; (repeat (first | ((first | apply o_move rfl rfl | apply o_easy1 rfl rfl rfl | apply o_ld rfl rfl (by assumption) (by first | rfl | assumption)); conv => lhs; whnf) | refine o_no rfl ?_ | refine o_add rfl rfl rfl (by omega) (by omega) ?_ | refine o_sub rfl rfl rfl (by omega) (by omega) ?_ | refine o_mul rfl rfl rfl (by omega) (by omega) ?_ | refine o_sadd rfl rfl rfl (by omega) ?_ | refine o_seql_t rfl rfl rfl (by assumption) ?_ | refine o_seql_f rfl rfl rfl (by assumption) ?_ | refine o_ct rfl rfl rfl (by dsimp only [cmpP]; omega) ?_ | refine o_cf rfl rfl rfl (by dsimp only [cmpN]; omega) ?_ | (apply o_easy rfl rfl rfl; conv => lhs; whnf) | refine o_non rfl ?_)); apply o_end; (repeat (first | exact OutS.nil | exact GetS.hit | exact PutS.hit | apply GetS.miss rfl | apply PutS.miss rfl | apply OutS.cons | apply OutS.skip rfl)))
      exact c_ret rfl
    by_cases h4 : t > text.length
    · ((repeat refine c_seq ?_); refine c_region ?_; (repeat (first | ((first | apply o_move rfl rfl | apply o_easy1 rfl rfl rfl | apply o_ld rfl rfl (by assumption) (by first | rfl | assumption)); conv => lhs; whnf) | refine o_no rfl ?_ | refine o_add rfl rfl rfl (by omega) (by omega) ?_ | refine o_sub rfl rfl rfl (by omega) (by omega) ?_ | refine o_mul rfl rfl rfl (by omega) (by omega) ?_ | refine o_sadd rfl rfl rfl (by omega) ?_ | refine o_seql_t rfl rfl rfl (by assumption) ?_ | refine o_seql_f rfl rfl rfl (by assumption) ?_ | refine o_ct rfl rfl rfl (by dsimp only [cmpP]; omega) ?_ | refine o_cf rfl rfl rfl (by dsimp only [cmpN]; omega) ?_ | (apply o_easy rfl rfl rfl; conv => lhs; whnf) | refine o_non rfl ?_)); apply o_end; (repeat (first | exact OutS.nil | exact GetS.hit | exact PutS.hit | apply GetS.miss rfl | apply PutS.miss rfl | apply OutS.cons | apply OutS.skip rfl)))
      ((repeat refine c_seq ?_); refine c_if rfl ?_)
      ((repeat refine c_seq ?_); refine c_region ?_; (repeat (first | ((first | apply o_move rfl rfl | apply o_easy1 rfl rfl rfl | apply o_ld rfl rfl (by assumption) (by first | rfl | assumption)); conv => lhs; whnf) | refine o_no rfl ?_ | refine o_add rfl rfl rfl (by omega) (by omega) ?_ | refine o_sub rfl rfl rfl (by omega) (by omega) ?_ | refine o_mul rfl rfl rfl (by omega) (by omega) ?_ | refine o_sadd rfl rfl rfl (by omega) ?_ | refine o_seql_t rfl rfl rfl (by assumption) ?_ | refine o_seql_f rfl rfl rfl (by assumption) ?_ | refine o_ct rfl rfl rfl (by dsimp only [cmpP]; omega) ?_ | refine o_cf rfl rfl rfl (by dsimp only [cmpN]; omega) ?_ | (apply o_easy rfl rfl rfl; conv => lhs; whnf) | refine o_non rfl ?_)); apply o_end; (repeat (first | exact OutS.nil | exact GetS.hit | exact PutS.hit | apply GetS.miss rfl | apply PutS.miss rfl | apply OutS.cons | apply OutS.skip rfl)))
      exact c_ret rfl
    have hparse := hNP m (by omega) (bar0.into .pure sg0) sg0 (.vec (Am.byteCells chooseT) (.exact false)) .nilsl rfl rfl
    have hel : (expL text [(0, (text.length : Int)), (f, t)] chooseL).length < 2 ^ 39 := by
      by_cases hf : f < 0
      · rw [choose_none hf]; decide
      · rw [choose_some (by omega) (by omega) (by omega)]
        simp only [List.length_append, List.length_take, List.length_drop, List.length_cons, List.length_nil]
        omega
    have hex := hNE (by omega) hel m (by omega) (bar0.into .pure sg0) sg0 (.vec (avs chooseL) .shut) (.vec (Am.byteCells text) .shut) (.vec (spAV [(0, (text.length : Int)), (f, t)]) (.exact true)) rfl rfl rfl
    ((repeat refine c_seq ?_); refine c_region ?_; (repeat (first | ((first | apply o_move rfl rfl | apply o_easy1 rfl rfl rfl | apply o_ld rfl rfl (by assumption) (by first | rfl | assumption)); conv => lhs; whnf) | refine o_no rfl ?_ | refine o_add rfl rfl rfl (by omega) (by omega) ?_ | refine o_sub rfl rfl rfl (by omega) (by omega) ?_ | refine o_mul rfl rfl rfl (by omega) (by omega) ?_ | refine o_sadd rfl rfl rfl (by omega) ?_ | refine o_seql_t rfl rfl rfl (by assumption) ?_ | refine o_seql_f rfl rfl rfl (by assumption) ?_ | refine o_ct rfl rfl rfl (by dsimp only [cmpP]; omega) ?_ | refine o_cf rfl rfl rfl (by dsimp only [cmpN]; omega) ?_ | (apply o_easy rfl rfl rfl; conv => lhs; whnf) | refine o_non rfl ?_)); apply o_end; (repeat (first | exact OutS.nil | exact GetS.hit | exact PutS.hit | apply GetS.miss rfl | apply PutS.miss rfl | apply OutS.cons | apply OutS.skip rfl)))
    ((repeat refine c_seq ?_); refine c_else rfl ?_)
    refine c_skip ?_
    ((repeat refine c_seq ?_); refine c_region ?_; (repeat (first | ((first | apply o_move rfl rfl | apply o_easy1 rfl rfl rfl | apply o_ld rfl rfl (by assumption) (by first | rfl | assumption)); conv => lhs; whnf) | refine o_no rfl ?_ | refine o_add rfl rfl rfl (by omega) (by omega) ?_ | refine o_sub rfl rfl rfl (by omega) (by omega) ?_ | refine o_mul rfl rfl rfl (by omega) (by omega) ?_ | refine o_sadd rfl rfl rfl (by omega) ?_ | refine o_seql_t rfl rfl rfl (by assumption) ?_ | refine o_seql_f rfl rfl rfl (by assumption) ?_ | refine o_ct rfl rfl rfl (by dsimp only [cmpP]; omega) ?_ | refine o_cf rfl rfl rfl (by dsimp only [cmpN]; omega) ?_ | (apply o_easy rfl rfl rfl; conv => lhs; whnf) | refine o_non rfl ?_)); apply o_end; (repeat (first | exact OutS.nil | exact GetS.hit | exact PutS.hit | apply GetS.miss rfl | apply PutS.miss rfl | apply OutS.cons | apply OutS.skip rfl)))
    change OkC _ _ _ _ (fr5b text f t k x21 x35 (.vec (spAV [(0, ((Am.byteCells text).length : Int)), (f, t)]) (.exact true)) .undef .undef .undef) _ _
    rw [hbl]
    ((repeat refine c_seq ?_); refine c_region ?_; (repeat (first | ((first | apply o_move rfl rfl | apply o_easy1 rfl rfl rfl | apply o_ld rfl rfl (by assumption) (by first | rfl | assumption)); conv => lhs; whnf) | refine o_no rfl ?_ | refine o_add rfl rfl rfl (by omega) (by omega) ?_ | refine o_sub rfl rfl rfl (by omega) (by omega) ?_ | refine o_mul rfl rfl rfl (by omega) (by omega) ?_ | refine o_sadd rfl rfl rfl (by omega) ?_ | refine o_seql_t rfl rfl rfl (by assumption) ?_ | refine o_seql_f rfl rfl rfl (by assumption) ?_ | refine o_ct rfl rfl rfl (by dsimp only [cmpP]; omega) ?_ | refine o_cf rfl rfl rfl (by dsimp only [cmpN]; omega) ?_ | (apply o_easy rfl rfl rfl; conv => lhs; whnf) | refine o_non rfl ?_)))
    refine o_call (l := [.vec (Am.byteCells chooseT) (.exact false), .int .i64 1, .nilsl]) rfl rfl hparse ?_
    (repeat (first | ((first | apply o_move rfl rfl | apply o_easy1 rfl rfl rfl | apply o_ld rfl rfl (by assumption) (by first | rfl | assumption)); conv => lhs; whnf) | refine o_no rfl ?_ | refine o_add rfl rfl rfl (by omega) (by omega) ?_ | refine o_sub rfl rfl rfl (by omega) (by omega) ?_ | refine o_mul rfl rfl rfl (by omega) (by omega) ?_ | refine o_sadd rfl rfl rfl (by omega) ?_ | refine o_seql_t rfl rfl rfl (by assumption) ?_ | refine o_seql_f rfl rfl rfl (by assumption) ?_ | refine o_ct rfl rfl rfl (by dsimp only [cmpP]; omega) ?_ | refine o_cf rfl rfl rfl (by dsimp only [cmpN]; omega) ?_ | (apply o_easy rfl rfl rfl; conv => lhs; whnf) | refine o_non rfl ?_))
    (apply o_end; (repeat (first | exact OutS.nil | exact GetS.hit | exact PutS.hit | apply GetS.miss rfl | apply PutS.miss rfl | apply OutS.cons | apply OutS.skip rfl)))
    change OkC _ _ _ _ (fr5b text f t k x21 x35 (.vec (spAV [(0, (text.length : Int)), (f, t)]) (.exact true)) (.vec (avs chooseL) .shut) (.int .i64 0) .undef) _ _
    ((repeat refine c_seq ?_); refine c_region ?_; (repeat (first | ((first | apply o_move rfl rfl | apply o_easy1 rfl rfl rfl | apply o_ld rfl rfl (by assumption) (by first | rfl | assumption)); conv => lhs; whnf) | refine o_no rfl ?_ | refine o_add rfl rfl rfl (by omega) (by omega) ?_ | refine o_sub rfl rfl rfl (by omega) (by omega) ?_ | refine o_mul rfl rfl rfl (by omega) (by omega) ?_ | refine o_sadd rfl rfl rfl (by omega) ?_ | refine o_seql_t rfl rfl rfl (by assumption) ?_ | refine o_seql_f rfl rfl rfl (by assumption) ?_ | refine o_ct rfl rfl rfl (by dsimp only [cmpP]; omega) ?_ | refine o_cf rfl rfl rfl (by dsimp only [cmpN]; omega) ?_ | (apply o_easy rfl rfl rfl; conv => lhs; whnf) | refine o_non rfl ?_)))
    refine o_call rfl rfl hex ?_
    refine o_strB (expL text [(0, (text.length : Int)), (f, t)] chooseL) rfl rfl rfl ?_
    (repeat (first | ((first | apply o_move rfl rfl | apply o_easy1 rfl rfl rfl | apply o_ld rfl rfl (by assumption) (by first | rfl | assumption)); conv => lhs; whnf) | refine o_no rfl ?_ | refine o_add rfl rfl rfl (by omega) (by omega) ?_ | refine o_sub rfl rfl rfl (by omega) (by omega) ?_ | refine o_mul rfl rfl rfl (by omega) (by omega) ?_ | refine o_sadd rfl rfl rfl (by omega) ?_ | refine o_seql_t rfl rfl rfl (by assumption) ?_ | refine o_seql_f rfl rfl rfl (by assumption) ?_ | refine o_ct rfl rfl rfl (by dsimp only [cmpP]; omega) ?_ | refine o_cf rfl rfl rfl (by dsimp only [cmpN]; omega) ?_ | (apply o_easy rfl rfl rfl; conv => lhs; whnf) | refine o_non rfl ?_))
    (apply o_end; (repeat (first | exact OutS.nil | exact GetS.hit | exact PutS.hit | apply GetS.miss rfl | apply PutS.miss rfl | apply OutS.cons | apply OutS.skip rfl)))
    ((repeat refine c_seq ?_); refine c_region ?_; (repeat (first | ((first | apply o_move rfl rfl | apply o_easy1 rfl rfl rfl | apply o_ld rfl rfl (by assumption) (by first | rfl | assumption)); conv => lhs; whnf) | refine o_no rfl ?_ | refine o_add rfl rfl rfl (by omega) (by omega) ?_ | refine o_sub rfl rfl rfl (by omega) (by omega) ?_ | refine o_mul rfl rfl rfl (by omega) (by omega) ?_ | refine o_sadd rfl rfl rfl (by omega) ?_ | refine o_seql_t rfl rfl rfl (by assumption) ?_ | refine o_seql_f rfl rfl rfl (by assumption) ?_ | refine o_ct rfl rfl rfl (by dsimp only [cmpP]; omega) ?_ | refine o_cf rfl rfl rfl (by dsimp only [cmpN]; omega) ?_ | (apply o_easy rfl rfl rfl; conv => lhs; whnf) | refine o_non rfl ?_)); apply o_end; (repeat (first | exact OutS.nil | exact GetS.hit | exact PutS.hit | apply GetS.miss rfl | apply PutS.miss rfl | apply OutS.cons | apply OutS.skip rfl)))
    ((repeat refine c_seq ?_); refine c_else rfl ?_)
    refine c_skip ?_
    by_cases hf : f < 0
    · have he := choose_none (text := text) (t := t) hf
      ((repeat refine c_seq ?_); refine c_region ?_; (repeat (first | ((first | apply o_move rfl rfl | apply o_easy1 rfl rfl rfl | apply o_ld rfl rfl (by assumption) (by first | rfl | assumption)); conv => lhs; whnf) | refine o_no rfl ?_ | refine o_add rfl rfl rfl (by omega) (by omega) ?_ | refine o_sub rfl rfl rfl (by omega) (by omega) ?_ | refine o_mul rfl rfl rfl (by omega) (by omega) ?_ | refine o_sadd rfl rfl rfl (by omega) ?_ | refine o_seql_t rfl rfl rfl (by assumption) ?_ | refine o_seql_f rfl rfl rfl (by assumption) ?_ | refine o_ct rfl rfl rfl (by dsimp only [cmpP]; omega) ?_ | refine o_cf rfl rfl rfl (by dsimp only [cmpN]; omega) ?_ | (apply o_easy rfl rfl rfl; conv => lhs; whnf) | refine o_non rfl ?_)); apply o_end; (repeat (first | exact OutS.nil | exact GetS.hit | exact PutS.hit | apply GetS.miss rfl | apply PutS.miss rfl | apply OutS.cons | apply OutS.skip rfl)))
      ((repeat refine c_seq ?_); refine c_if rfl ?_)
      ((repeat refine c_seq ?_); refine c_region ?_; (repeat (first | ((first | apply o_move rfl rfl | apply o_easy1 rfl rfl rfl | apply o_ld rfl rfl (by assumption) (by first | rfl | assumption)); conv => lhs; whnf) | refine o_no rfl ?_ | refine o_add rfl rfl rfl (by omega) (by omega) ?_ | refine o_sub rfl rfl rfl (by omega) (by omega) ?_ | refine o_mul rfl rfl rfl (by omega) (by omega) ?_ | refine o_sadd rfl rfl rfl (by omega) ?_ | refine o_seql_t rfl rfl rfl (by assumption) ?_ | refine o_seql_f rfl rfl rfl (by assumption) ?_ | refine o_ct rfl rfl rfl (by dsimp only [cmpP]; omega) ?_ | refine o_cf rfl rfl rfl (by dsimp only [cmpN]; omega) ?_ | (apply o_easy rfl rfl rfl; conv => lhs; whnf) | refine o_non rfl ?_)); apply o_end; (repeat (first | exact OutS.nil | exact GetS.hit | exact PutS.hit | apply GetS.miss rfl | apply PutS.miss rfl | apply OutS.cons | apply OutS.skip rfl)))
      exact c_ret rfl
    · have he := choose_some (text := text) (f := f) (t := t) (by omega) (by omega) (by omega)
      have hol : ((text.drop f.toNat).take (t.toNat - f.toNat)).length ≤ 100 := by simp only [List.length_take, List.length_drop]; omega
      ((repeat refine c_seq ?_); refine c_region ?_; (repeat (first | ((first | apply o_move rfl rfl | apply o_easy1 rfl rfl rfl | apply o_ld rfl rfl (by assumption) (by first | rfl | assumption)); conv => lhs; whnf) | refine o_no rfl ?_ | refine o_add rfl rfl rfl (by omega) (by omega) ?_ | refine o_sub rfl rfl rfl (by omega) (by omega) ?_ | refine o_mul rfl rfl rfl (by omega) (by omega) ?_ | refine o_sadd rfl rfl rfl (by omega) ?_ | refine o_seql_t rfl rfl rfl (by assumption) ?_ | refine o_seql_f rfl rfl rfl (by assumption) ?_ | refine o_ct rfl rfl rfl (by dsimp only [cmpP]; omega) ?_ | refine o_cf rfl rfl rfl (by dsimp only [cmpN]; omega) ?_ | (apply o_easy rfl rfl rfl; conv => lhs; whnf) | refine o_non rfl ?_)); apply o_end; (repeat (first | exact OutS.nil | exact GetS.hit | exact PutS.hit | apply GetS.miss rfl | apply PutS.miss rfl | apply OutS.cons | apply OutS.skip rfl)))
      ((repeat refine c_seq ?_); refine c_else rfl ?_)
      refine c_skip ?_
      ((repeat refine c_seq ?_); refine c_region ?_; (repeat (first | ((first | apply o_move rfl rfl | apply o_easy1 rfl rfl rfl | apply o_ld rfl rfl (by assumption) (by first | rfl | assumption)); conv => lhs; whnf) | refine o_no rfl ?_ | refine o_add rfl rfl rfl (by omega) (by omega) ?_ | refine o_sub rfl rfl rfl (by omega) (by omega) ?_ | refine o_mul rfl rfl rfl (by omega) (by omega) ?_ | refine o_sadd rfl rfl rfl (by omega) ?_ | refine o_seql_t rfl rfl rfl (by assumption) ?_ | refine o_seql_f rfl rfl rfl (by assumption) ?_ | refine o_ct rfl rfl rfl (by dsimp only [cmpP]; omega) ?_ | refine o_cf rfl rfl rfl (by dsimp only [cmpN]; omega) ?_ | (apply o_easy rfl rfl rfl; conv => lhs; whnf) | refine o_non rfl ?_)))
      refine o_slvec (i := f.toNat) (j := t.toNat) (q := Am.byteCells ((text.drop f.toNat).take (t.toNat - f.toNat))) rfl rfl rfl rfl (by omega) (by omega) (by omega) (by omega) (by cases text <;> rfl) (by simp [Am.byteCells, List.map_take, List.map_drop]) ?_
      intro tl'
      refine o_strB _ rfl rfl rfl ?_
      (repeat (first | ((first | apply o_move rfl rfl | apply o_easy1 rfl rfl rfl | apply o_ld rfl rfl (by assumption) (by first | rfl | assumption)); conv => lhs; whnf) | refine o_no rfl ?_ | refine o_add rfl rfl rfl (by omega) (by omega) ?_ | refine o_sub rfl rfl rfl (by omega) (by omega) ?_ | refine o_mul rfl rfl rfl (by omega) (by omega) ?_ | refine o_sadd rfl rfl rfl (by omega) ?_ | refine o_seql_t rfl rfl rfl (by assumption) ?_ | refine o_seql_f rfl rfl rfl (by assumption) ?_ | refine o_ct rfl rfl rfl (by dsimp only [cmpP]; omega) ?_ | refine o_cf rfl rfl rfl (by dsimp only [cmpN]; omega) ?_ | (apply o_easy rfl rfl rfl; conv => lhs; whnf) | refine o_non rfl ?_))
      (apply o_end; (repeat (first | exact OutS.nil | exact GetS.hit | exact PutS.hit | apply GetS.miss rfl | apply PutS.miss rfl | apply OutS.cons | apply OutS.skip rfl)))
      generalize (text.drop f.toNat).take (t.toNat - f.toNat) = own at he hol ⊢
      ((repeat refine c_seq ?_); refine c_region ?_; (repeat (first | ((first | apply o_move rfl rfl | apply o_easy1 rfl rfl rfl | apply o_ld rfl rfl (by assumption) (by first | rfl | assumption)); conv => lhs; whnf) | refine o_no rfl ?_ | refine o_add rfl rfl rfl (by omega) (by omega) ?_ | refine o_sub rfl rfl rfl (by omega) (by omega) ?_ | refine o_mul rfl rfl rfl (by omega) (by omega) ?_ | refine o_sadd rfl rfl rfl (by omega) ?_ | refine o_seql_t rfl rfl rfl (by assumption) ?_ | refine o_seql_f rfl rfl rfl (by assumption) ?_ | refine o_ct rfl rfl rfl (by dsimp only [cmpP]; omega) ?_ | refine o_cf rfl rfl rfl (by dsimp only [cmpN]; omega) ?_ | (apply o_easy rfl rfl rfl; conv => lhs; whnf) | refine o_non rfl ?_)))
      refine o_sadd rfl rfl rfl (by simp; omega) ?_
      (repeat (first | ((first | apply o_move rfl rfl | apply o_easy1 rfl rfl rfl | apply o_ld rfl rfl (by assumption) (by first | rfl | assumption)); conv => lhs; whnf) | refine o_no rfl ?_ | refine o_add rfl rfl rfl (by omega) (by omega) ?_ | refine o_sub rfl rfl rfl (by omega) (by omega) ?_ | refine o_mul rfl rfl rfl (by omega) (by omega) ?_ | refine o_sadd rfl rfl rfl (by omega) ?_ | refine o_seql_t rfl rfl rfl (by assumption) ?_ | refine o_seql_f rfl rfl rfl (by assumption) ?_ | refine o_ct rfl rfl rfl (by dsimp only [cmpP]; omega) ?_ | refine o_cf rfl rfl rfl (by dsimp only [cmpN]; omega) ?_ | (apply o_easy rfl rfl rfl; conv => lhs; whnf) | refine o_non rfl ?_))
      refine o_strB text rfl rfl rfl ?_
      have hl1 : (own ++ [47, 121, 101, 115]).length = own.length + 4 := by simp
      refine o_sadd rfl rfl rfl (by omega) ?_
      have hl2 : (own ++ [47, 121, 101, 115] ++ text).length = own.length + 4 + text.length := by simp; omega
      refine o_sadd rfl rfl rfl (by simp only [hl2, List.length_singleton]; omega) ?_
      (repeat (first | ((first | apply o_move rfl rfl | apply o_easy1 rfl rfl rfl | apply o_ld rfl rfl (by assumption) (by first | rfl | assumption)); conv => lhs; whnf) | refine o_no rfl ?_ | refine o_add rfl rfl rfl (by omega) (by omega) ?_ | refine o_sub rfl rfl rfl (by omega) (by omega) ?_ | refine o_mul rfl rfl rfl (by omega) (by omega) ?_ | refine o_sadd rfl rfl rfl (by omega) ?_ | refine o_seql_t rfl rfl rfl (by assumption) ?_ | refine o_seql_f rfl rfl rfl (by assumption) ?_ | refine o_ct rfl rfl rfl (by dsimp only [cmpP]; omega) ?_ | refine o_cf rfl rfl rfl (by dsimp only [cmpN]; omega) ?_ | (apply o_easy rfl rfl rfl; conv => lhs; whnf) | refine o_non rfl ?_))
      refine o_sadd rfl rfl rfl (by simp only [List.length_append, hl2, List.length_singleton]; omega) ?_
      (repeat (first | ((first | apply o_move rfl rfl | apply o_easy1 rfl rfl rfl | apply o_ld rfl rfl (by assumption) (by first | rfl | assumption)); conv => lhs; whnf) | refine o_no rfl ?_ | refine o_add rfl rfl rfl (by omega) (by omega) ?_ | refine o_sub rfl rfl rfl (by omega) (by omega) ?_ | refine o_mul rfl rfl rfl (by omega) (by omega) ?_ | refine o_sadd rfl rfl rfl (by omega) ?_ | refine o_seql_t rfl rfl rfl (by assumption) ?_ | refine o_seql_f rfl rfl rfl (by assumption) ?_ | refine o_ct rfl rfl rfl (by dsimp only [cmpP]; omega) ?_ | refine o_cf rfl rfl rfl (by dsimp only [cmpN]; omega) ?_ | (apply o_easy rfl rfl rfl; conv => lhs; whnf) | refine o_non rfl ?_))
      (apply o_end; (repeat (first | exact OutS.nil | exact GetS.hit | exact PutS.hit | apply GetS.miss rfl | apply PutS.miss rfl | apply OutS.cons | apply OutS.skip rfl)))
      exact c_ret rfl
  · intro pers hp
    exact fin_eq (fin_ret (.inl rfl) (read_tmp hp read_nil) (leave_pure (lay_cons rfl lay_nil) rfl) ⟨rfl, rfl⟩)

end Go.Tpl

/-
  Of a group that matched an Else is its text, an If its first template, of one that didn't the other one: TemplateChoose answers true, whatever the text and the group's span, and leaves the text as it was.
-/
namespace Go.Proofs.Ytdbjemmoaldelaa
open Go.ChangeShapes Go.WideShapes Go.ChangeAt Go.RowKit

theorem own : ownKnob Try.prog.godebug = none := by kernel_rfl
theorem laidOut : laidOutB Try.prog = true := by kernel_rfl
theorem rowed : mapsRowed Try.prog = true := by kernel_rfl
theorem full : ∀ t e, t < Try.prog.types.size → Try.prog.underlying t = some (.slice e) → 0 < Try.prog.cellsOf e := slices_full_of Try.prog (by kernel_rfl)
theorem cells5 : Try.prog.cellsOf 5 = 1 := by kernel_rfl

set_option maxRecDepth 100000 in
theorem choose_lifted (os : Os) (started : os.Started) (H : Type) (enc : TypeId × Value → H) :
    ReturnsInHanded {} Try.checked os 5 .any (Rows.templateChooseSpec.pre6 enc Try.prog Try.f5 Rows.templateChooseRow.domain false) (Rows.templateChooseSpec.post enc Try.prog Try.f5 false true false false) := by
  refine returnsInHanded_of_change (C := Try.checked) own started (by kernel_rfl) Try.func5
    (ChangeSpec.witness6 (enc := enc) (C := Try.checked) false ⟨#[], #[.slice none 0 0, .int .i64 0, .int .i64 0], []⟩ 8 (by kernel_rfl) (by kernel_rfl) (by kernel_rfl) (by kernel_rfl)) ?_
  intro W base args ds gs before hval0 hW hcnd _
  have hval : ∀ (j : Nat) t v, Try.f5.params[j]? = some t → args[j]? = some v → Value.okWide Try.prog W .any base t v := hval0
  have hW' : DataW.Whole enc Try.prog Try.f5.params.toList Rows.templateChooseSpec.vars false W args.toList ds gs before := hW
  obtain ⟨p, q, hA0, hV, rfl, hfz, hnd⟩ := hW
  have hA : DataW.TrodAll enc Try.prog W 0 (fun _ => true) true Try.f5.params.toList args.toList ds p := hA0
  have hts : ∀ t ∈ Try.f5.params.toList, t < Try.prog.types.size := of_decide_eq_true (by kernel_rfl)
  rw [Try.params5] at hA hval
  obtain ⟨v0, v1, v2, d0, d1, d2, p0, p1, p2, rfl, rfl, rfl, h0, h1, h2⟩ := trodAll_three hA
  have hgs : gs = [] ∧ q = [] := trodVars_none hV
  obtain ⟨rfl, rfl⟩ := hgs
  obtain ⟨text, hv0, hlen⟩ := Am.lay_bytes Try.underlying22 Try.underlying5 cells5 (hval 0 22 v0 rfl rfl) h0
  obtain ⟨f, hv1, _⟩ := Am.lay_int Try.underlying3 (hval 1 3 v1 rfl rfl) h1
  obtain ⟨t, hv2, _⟩ := Am.lay_int Try.underlying3 (hval 2 3 v2 rfl rfl) h2
  obtain ⟨n, hn⟩ := Tpl.choose_true text f t hlen
  have hc := Am.law_true Tpl.tab_ok hn (Am.vrs_cons hv0 (Am.vrs_cons hv1 (Am.vrs_cons hv2 Am.vrs_nil))) Try.func5 rfl (by decide +kernel)
  exact hc.mono fun e W' he => ⟨_, he.1, Am.law_post laidOut rowed full hts rfl rfl Try.underlying4 hW' rfl rfl rfl he.2⟩

theorem templateChoose : Rows.TemplateChooseSaid :=
  OpenClaim.holds_of_wide 5 Try.f5 rfl rfl rfl rfl rfl rfl rfl ⟨rfl, rfl, rfl, rfl, rfl⟩ rfl rfl rfl rfl rfl (by kernel_rfl) Try.func5 (by kernel_rfl)
    (of_decide_eq_true (by kernel_rfl)) (by unfold Func.isWrapper; first | (rw [if_pos (by decide +kernel)]; kernel_rfl) | (rw [if_neg (by decide +kernel)]; exact ⟨rfl, rfl⟩))
    (fun os started H enc _ => choose_lifted os started H enc)

#print axioms templateChoose
end Go.Proofs.Ytdbjemmoaldelaa
