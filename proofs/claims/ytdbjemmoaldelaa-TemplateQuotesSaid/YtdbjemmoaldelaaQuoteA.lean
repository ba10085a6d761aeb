/-
  A text in which dollars and backslashes have a backslash ahead of them is itself: TemplateQuotes answers true, whatever the text, and leaves it as it was.
-/
import Derived.Test.YtdbjemmoaldelaaMachC
import Derived.Test.YtdbjemmoaldelaaTmplC
import Derived.Test.YtdbjemmoaldelaaRows

namespace Go.Tpl
open Go Go.Am Go.Proofs

/-- dollars and backslashes with a backslash ahead of them -/
def quoteM : List UInt8 → List UInt8
  | [] => []
  | c :: r => if c.toNat = 36 ∨ c.toNat = 92 then 92 :: c :: quoteM r else c :: quoteM r

theorem quoteM_app : ∀ a b : List UInt8, quoteM (a ++ b) = quoteM a ++ quoteM b
  | [], b => rfl
  | c :: r, b => by
    simp only [List.cons_append, quoteM, quoteM_app r b]
    split <;> rfl

theorem quoteM_len : ∀ a : List UInt8, (quoteM a).length ≤ 2 * a.length
  | [] => Nat.le_refl _
  | c :: r => by
    have ih := quoteM_len r
    simp only [quoteM]
    split <;> simp <;> omega

def lit1 (x : List UInt8) : List Tp := if x = [] then [] else [.lit x]

theorem addM_lit1 (x : List UInt8) (c : UInt8) : addM (lit1 x) (.lit [c]) = lit1 (x ++ [c]) := by
  simp only [lit1]
  by_cases h : x = []
  · subst h; simp [addM]
  · rw [if_neg h, if_neg (by simp)]
    exact addM_lit [] x [c]

theorem drop_cons {t : List UInt8} {i : Nat} {c : UInt8} {r : List UInt8} (h : t.drop i = c :: r) : t[i]? = some c ∧ t.drop (i + 1) = r := by
  constructor
  · have := List.getElem?_drop (xs := t) (i := i) (j := 0)
    rw [h] at this
    simpa using this.symm
  · rw [← List.drop_drop, h]
    rfl

theorem quote_parts (t : List UInt8) (gr : Int) (d : Nat) : ∀ (rest done : List UInt8) (n i : Nat), rest.length + 1 ≤ n → i ≤ t.length → t.drop i = quoteM rest → partsM t gr n [] d i (lit1 done) = some (.ok (lit1 (done ++ rest), t.length))
  | [], done, n, i, hn, hi, h => by
    obtain ⟨n, rfl⟩ : ∃ n', n = n' + 1 := ⟨n - 1, by omega⟩
    have hle : t.length ≤ i := by simpa [quoteM] using h
    have he : t[i]? = none := by simp [hle]
    have hii : i = t.length := by omega
    subst hii
    simp only [partsM, he, List.append_nil]
  | c :: r, done, n, i, hn, hi, h => by
    obtain ⟨n, rfl⟩ : ∃ n', n = n' + 1 := ⟨n - 1, by omega⟩
    simp only [List.length_cons] at hn
    have e1 : done ++ c :: r = (done ++ [c]) ++ r := by simp
    simp only [quoteM] at h
    by_cases hc : c.toNat = 36 ∨ c.toNat = 92
    · rw [if_pos hc] at h
      obtain ⟨h1, h2⟩ := drop_cons h
      obtain ⟨h3, h4⟩ := drop_cons h2
      have hl := lt_of_getElem? h3
      simp only [partsM, h1, h3, List.not_mem_nil, if_false, addM_lit1]
      rw [if_pos (by rfl), e1]
      exact quote_parts t gr d r (done ++ [c]) n (i + 2) (by omega) (by omega) h4
    · rw [if_neg hc] at h
      obtain ⟨h1, h2⟩ := drop_cons h
      have hl := lt_of_getElem? h1
      simp only [partsM, h1, List.not_mem_nil, if_false, addM_lit1]
      rw [if_neg (by omega), if_neg (by omega), e1]
      exact quote_parts t gr d r (done ++ [c]) n (i + 1) (by omega) (by omega) h2

theorem quote_all (text : List UInt8) (gr : Int) : partsM (quoteM text) gr (text.length + 1) [] 1 0 [] = some (.ok (lit1 text, (quoteM text).length)) := by
  have := quote_parts (quoteM text) gr 1 text [] (text.length + 1) 0 (Nat.le_refl _) (Nat.zero_le _) (by simp)
  simpa [lit1] using this

theorem awake' (m : Nat) (hm : 400 ≤ m) : callF T m bar0 7 [] sg0 = some (.ret (.bool true), sg0) := callF_mono T 400 m hm _ _ _ _ _ awake

end Go.Tpl

namespace Go.Tpl
open Go Go.Am Go.Proofs

/-- the loop 0 of function 3 -/
def lp3_0 : ACode := .seq (.seq (.region [⟨(some 17), .v (.move (.tmp 5)), none⟩, ⟨(some 18), .v (.move (.tmp 0)), none⟩, ⟨(some 19), .v (.len 1 (.tmp 18)), none⟩, ⟨(some 20), .v (.bin .lss (.tmp 17) (.tmp 19)), none⟩] [20]) (.cond (.tmp 20) (.skip) (.exit 0))) (.seq (.block 1 (.seq (.seq (.region [⟨(some 23), .v (.move (.tmp 0)), none⟩, ⟨(some 24), .v (.move (.tmp 5)), none⟩, ⟨(some 25), .v (.indexAddrS none (.tmp 23) (.tmp 24)), none⟩, ⟨(some 26), .v (.load none (.tmp 25)), none⟩, ⟨(some 27), .v (.bin .eql (.tmp 26) (.const (.int .u8 36))), none⟩, ⟨(some 28), .v (.move (.tmp 27)), none⟩, ⟨(some 29), .v (.move (.tmp 0)), (some (28, false))⟩, ⟨(some 30), .v (.move (.tmp 5)), (some (28, false))⟩, ⟨(some 31), .v (.indexAddrS none (.tmp 29) (.tmp 30)), (some (28, false))⟩, ⟨(some 32), .v (.load none (.tmp 31)), (some (28, false))⟩, ⟨(some 33), .v (.bin .eql (.tmp 32) (.const (.int .u8 92))), (some (28, false))⟩, ⟨(some 34), .v (.pick (.tmp 28) (.const (.bool true)) (.tmp 33)), none⟩] [34]) (.cond (.tmp 34) (.region [⟨(some 35), .v (.move (.tmp 4)), none⟩, ⟨(some 36), .v (.buildSl 1 (.int .u8 0) 1 [(0, (.const (.int .u8 92)))]), none⟩, ⟨(some 37), .e (.append false none 1 (.tmp 35) (.tmp 36)), none⟩, ⟨(some 4), .v (.move (.tmp 37)), none⟩] [4]) (.skip))) (.region [⟨(some 38), .v (.move (.tmp 4)), none⟩, ⟨(some 39), .v (.move (.tmp 0)), none⟩, ⟨(some 40), .v (.move (.tmp 5)), none⟩, ⟨(some 41), .v (.indexAddrS none (.tmp 39) (.tmp 40)), none⟩, ⟨(some 42), .v (.load none (.tmp 41)), none⟩, ⟨(some 43), .v (.buildSl 1 (.int .u8 0) 1 [(0, (.tmp 42))]), none⟩, ⟨(some 44), .e (.append false none 1 (.tmp 38) (.tmp 43)), none⟩, ⟨(some 4), .v (.move (.tmp 44)), none⟩] [4]))) (.region [⟨(some 21), .v (.move (.tmp 5)), none⟩, ⟨(some 22), .v (.bin .add (.tmp 21) (.const (.int .i64 1))), none⟩, ⟨(some 5), .v (.move (.tmp 22)), none⟩] [5]))

abbrev fr3 (text : List UInt8) (k : Nat) (x20 x34 v : AV) : Fr :=
  ⟨[(0, .vec (Am.byteCells text) .shut), (2, .bool false), (3, .bool true), (13, .bool false), (16, .bool false), (5, .int .i64 k), (20, x20), (34, x34), (4, v), (6, .undef), (7, .undef), (9, .undef), (10, .undef)], [], .off⟩

theorem bc_get {l : List UInt8} {j : Nat} {c : UInt8} (h : l[j]? = some c) : (Am.byteCells l)[j]? = some (.int .u8 c.toNat) := by rw [Am.byteCells_get, h]; rfl

set_option maxHeartbeats 1000000 in
theorem quote_loop (m : Nat) (b : Bar) (text : List UInt8) (t0 : Nat) (hlen : text.length < 2 ^ 30) (hbt : b.t ≤ t0) {Q : Ex → Fr → Sg → Prop}
    (hq : ∀ x20 x34 v s', RepB t0 s' v (quoteM text) → Q (.exit 0) (fr3 text text.length x20 x34 v) s') :
    ∀ (rest done : List UInt8) (k L : Nat) (x20 x34 v : AV) (s : Sg), text = done ++ rest → k = done.length → rest.length + 1 ≤ L → t0 ≤ s.toks.length → RepB t0 s v (quoteM done) →
    OkL L (fun fr s => ACode.run (loopN m) (callF T m) b lp3_0 fr s) (fr3 text k x20 x34 v) s Q := by
  have hbl := Am.byteCells_length text
  intro rest
  induction rest with
  | nil =>
    intro done k L x20 x34 v s hl hk hL ht0 hv
    obtain ⟨L, rfl⟩ : ∃ L', L = L' + 1 := ⟨L - 1, by omega⟩
    rw [List.append_nil] at hl
    subst hl
    subst hk
    apply l_round
    ((repeat refine c_seq ?_); refine c_region ?_; (repeat (first | ((first | apply o_move rfl rfl | apply o_easy1 rfl rfl rfl | apply o_ld rfl rfl (by assumption) (by first | rfl | assumption)); conv => lhs; whnf) | refine o_no rfl ?_ | refine o_add rfl rfl rfl (by omega) (by omega) ?_ | refine o_sub rfl rfl rfl (by omega) (by omega) ?_ | refine o_mul rfl rfl rfl (by omega) (by omega) ?_ | refine o_sadd rfl rfl rfl (by omega) ?_ | refine o_seql_t rfl rfl rfl (by assumption) ?_ | refine o_seql_f rfl rfl rfl (by assumption) ?_ | refine o_ct rfl rfl rfl (by dsimp only [cmpP]; omega) ?_ | refine o_cf rfl rfl rfl (by dsimp only [cmpN]; omega) ?_ | (apply o_easy rfl rfl rfl; conv => lhs; whnf) | refine o_non rfl ?_)); apply o_end; (repeat (first | exact OutS.nil | exact GetS.hit | exact PutS.hit | apply GetS.miss rfl | apply PutS.miss rfl | apply OutS.cons | apply OutS.skip rfl)))
    ((repeat refine c_seq ?_); refine c_else rfl ?_)
    exact c_exit (hq _ _ _ _ hv)
  | cons c rest ih =>
    intro done k L x20 x34 v s hl hk hL ht0 hv
    obtain ⟨L, rfl⟩ : ∃ L', L = L' + 1 := ⟨L - 1, by omega⟩
    have hkl : k < text.length := by rw [hl, hk]; simp
    have hget : text[k]? = some c := by rw [hl, hk]; simp
    have hql := quoteM_len text
    have hqa : (quoteM text).length = (quoteM done).length + (quoteM [c]).length + (quoteM rest).length := by
      rw [hl, quoteM_app, show c :: rest = [c] ++ rest from rfl, quoteM_app]; simp; omega
    apply l_round
    ((repeat refine c_seq ?_); refine c_region ?_; (repeat (first | ((first | apply o_move rfl rfl | apply o_easy1 rfl rfl rfl | apply o_ld rfl rfl (by assumption) (by first | rfl | assumption)); conv => lhs; whnf) | refine o_no rfl ?_ | refine o_add rfl rfl rfl (by omega) (by omega) ?_ | refine o_sub rfl rfl rfl (by omega) (by omega) ?_ | refine o_mul rfl rfl rfl (by omega) (by omega) ?_ | refine o_sadd rfl rfl rfl (by omega) ?_ | refine o_seql_t rfl rfl rfl (by assumption) ?_ | refine o_seql_f rfl rfl rfl (by assumption) ?_ | refine o_ct rfl rfl rfl (by dsimp only [cmpP]; omega) ?_ | refine o_cf rfl rfl rfl (by dsimp only [cmpN]; omega) ?_ | (apply o_easy rfl rfl rfl; conv => lhs; whnf) | refine o_non rfl ?_)); apply o_end; (repeat (first | exact OutS.nil | exact GetS.hit | exact PutS.hit | apply GetS.miss rfl | apply PutS.miss rfl | apply OutS.cons | apply OutS.skip rfl)))
    ((repeat refine c_seq ?_); refine c_if rfl ?_)
    refine c_skip ?_
    ((repeat refine c_seq ?_); refine c_block ?_)
    by_cases h36 : c.toNat = 36
    · ((repeat refine c_seq ?_); refine c_region ?_; (repeat (first | ((first | apply o_move rfl rfl | apply o_easy1 rfl rfl rfl | apply o_ld rfl rfl (by assumption) (by first | rfl | assumption)); conv => lhs; whnf) | refine o_no rfl ?_ | refine o_add rfl rfl rfl (by omega) (by omega) ?_ | refine o_sub rfl rfl rfl (by omega) (by omega) ?_ | refine o_mul rfl rfl rfl (by omega) (by omega) ?_ | refine o_sadd rfl rfl rfl (by omega) ?_ | refine o_seql_t rfl rfl rfl (by assumption) ?_ | refine o_seql_f rfl rfl rfl (by assumption) ?_ | refine o_ct rfl rfl rfl (by dsimp only [cmpP]; omega) ?_ | refine o_cf rfl rfl rfl (by dsimp only [cmpN]; omega) ?_ | (apply o_easy rfl rfl rfl; conv => lhs; whnf) | refine o_non rfl ?_)))
      refine o_ixvec (j := k) rfl rfl rfl rfl (bc_get hget) rfl ?_
      (repeat (first | ((first | apply o_move rfl rfl | apply o_easy1 rfl rfl rfl | apply o_ld rfl rfl (by assumption) (by first | rfl | assumption)); conv => lhs; whnf) | refine o_no rfl ?_ | refine o_add rfl rfl rfl (by omega) (by omega) ?_ | refine o_sub rfl rfl rfl (by omega) (by omega) ?_ | refine o_mul rfl rfl rfl (by omega) (by omega) ?_ | refine o_sadd rfl rfl rfl (by omega) ?_ | refine o_seql_t rfl rfl rfl (by assumption) ?_ | refine o_seql_f rfl rfl rfl (by assumption) ?_ | refine o_ct rfl rfl rfl (by dsimp only [cmpP]; omega) ?_ | refine o_cf rfl rfl rfl (by dsimp only [cmpN]; omega) ?_ | (apply o_easy rfl rfl rfl; conv => lhs; whnf) | refine o_non rfl ?_))
      (apply o_end; (repeat (first | exact OutS.nil | exact GetS.hit | exact PutS.hit | apply GetS.miss rfl | apply PutS.miss rfl | apply OutS.cons | apply OutS.skip rfl)))
      ((repeat refine c_seq ?_); refine c_if rfl ?_)
      have hqc : quoteM [c] = [92] ++ [c] := by simp [quoteM, *]
      ((repeat refine c_seq ?_); refine c_region ?_; (repeat (first | ((first | apply o_move rfl rfl | apply o_easy1 rfl rfl rfl | apply o_ld rfl rfl (by assumption) (by first | rfl | assumption)); conv => lhs; whnf) | refine o_no rfl ?_ | refine o_add rfl rfl rfl (by omega) (by omega) ?_ | refine o_sub rfl rfl rfl (by omega) (by omega) ?_ | refine o_mul rfl rfl rfl (by omega) (by omega) ?_ | refine o_sadd rfl rfl rfl (by omega) ?_ | refine o_seql_t rfl rfl rfl (by assumption) ?_ | refine o_seql_f rfl rfl rfl (by assumption) ?_ | refine o_ct rfl rfl rfl (by dsimp only [cmpP]; omega) ?_ | refine o_cf rfl rfl rfl (by dsimp only [cmpN]; omega) ?_ | (apply o_easy rfl rfl rfl; conv => lhs; whnf) | refine o_non rfl ?_)))
      refine o_move rfl hv.defd rfl ?_
      (repeat (first | ((first | apply o_move rfl rfl | apply o_easy1 rfl rfl rfl | apply o_ld rfl rfl (by assumption) (by first | rfl | assumption)); conv => lhs; whnf) | refine o_no rfl ?_ | refine o_add rfl rfl rfl (by omega) (by omega) ?_ | refine o_sub rfl rfl rfl (by omega) (by omega) ?_ | refine o_mul rfl rfl rfl (by omega) (by omega) ?_ | refine o_sadd rfl rfl rfl (by omega) ?_ | refine o_seql_t rfl rfl rfl (by assumption) ?_ | refine o_seql_f rfl rfl rfl (by assumption) ?_ | refine o_ct rfl rfl rfl (by dsimp only [cmpP]; omega) ?_ | refine o_cf rfl rfl rfl (by dsimp only [cmpN]; omega) ?_ | (apply o_easy rfl rfl rfl; conv => lhs; whnf) | refine o_non rfl ?_))
      refine o_appB (p := [92]) rfl hv.defd hv hbt ht0 rfl rfl (by simp only [hqc, List.length_append, List.length_singleton] at hqa ⊢; omega) fun v1 s1 hv1 hh1 ht1 => ?_
      refine o_move rfl hv1.defd rfl ?_
      (apply o_end; (repeat (first | exact OutS.nil | exact GetS.hit | exact PutS.hit | apply GetS.miss rfl | apply PutS.miss rfl | apply OutS.cons | apply OutS.skip rfl)))
      ((repeat refine c_seq ?_); refine c_region ?_; (repeat (first | ((first | apply o_move rfl rfl | apply o_easy1 rfl rfl rfl | apply o_ld rfl rfl (by assumption) (by first | rfl | assumption)); conv => lhs; whnf) | refine o_no rfl ?_ | refine o_add rfl rfl rfl (by omega) (by omega) ?_ | refine o_sub rfl rfl rfl (by omega) (by omega) ?_ | refine o_mul rfl rfl rfl (by omega) (by omega) ?_ | refine o_sadd rfl rfl rfl (by omega) ?_ | refine o_seql_t rfl rfl rfl (by assumption) ?_ | refine o_seql_f rfl rfl rfl (by assumption) ?_ | refine o_ct rfl rfl rfl (by dsimp only [cmpP]; omega) ?_ | refine o_cf rfl rfl rfl (by dsimp only [cmpN]; omega) ?_ | (apply o_easy rfl rfl rfl; conv => lhs; whnf) | refine o_non rfl ?_)))
      refine o_move rfl hv1.defd rfl ?_
      (repeat (first | ((first | apply o_move rfl rfl | apply o_easy1 rfl rfl rfl | apply o_ld rfl rfl (by assumption) (by first | rfl | assumption)); conv => lhs; whnf) | refine o_no rfl ?_ | refine o_add rfl rfl rfl (by omega) (by omega) ?_ | refine o_sub rfl rfl rfl (by omega) (by omega) ?_ | refine o_mul rfl rfl rfl (by omega) (by omega) ?_ | refine o_sadd rfl rfl rfl (by omega) ?_ | refine o_seql_t rfl rfl rfl (by assumption) ?_ | refine o_seql_f rfl rfl rfl (by assumption) ?_ | refine o_ct rfl rfl rfl (by dsimp only [cmpP]; omega) ?_ | refine o_cf rfl rfl rfl (by dsimp only [cmpN]; omega) ?_ | (apply o_easy rfl rfl rfl; conv => lhs; whnf) | refine o_non rfl ?_))
      refine o_ixvec (j := k) rfl rfl rfl rfl (bc_get hget) rfl ?_
      (repeat (first | ((first | apply o_move rfl rfl | apply o_easy1 rfl rfl rfl | apply o_ld rfl rfl (by assumption) (by first | rfl | assumption)); conv => lhs; whnf) | refine o_no rfl ?_ | refine o_add rfl rfl rfl (by omega) (by omega) ?_ | refine o_sub rfl rfl rfl (by omega) (by omega) ?_ | refine o_mul rfl rfl rfl (by omega) (by omega) ?_ | refine o_sadd rfl rfl rfl (by omega) ?_ | refine o_seql_t rfl rfl rfl (by assumption) ?_ | refine o_seql_f rfl rfl rfl (by assumption) ?_ | refine o_ct rfl rfl rfl (by dsimp only [cmpP]; omega) ?_ | refine o_cf rfl rfl rfl (by dsimp only [cmpN]; omega) ?_ | (apply o_easy rfl rfl rfl; conv => lhs; whnf) | refine o_non rfl ?_))
      refine o_appB (p := [c]) rfl hv1.defd hv1 hbt (by omega) rfl rfl (by simp only [hqc, List.length_append, List.length_singleton] at hqa ⊢; omega) fun v2 s2 hv2 hh2 ht2 => ?_
      refine o_move rfl hv2.defd rfl ?_
      (apply o_end; (repeat (first | exact OutS.nil | exact GetS.hit | exact PutS.hit | apply GetS.miss rfl | apply PutS.miss rfl | apply OutS.cons | apply OutS.skip rfl)))
      ((repeat refine c_seq ?_); refine c_region ?_; (repeat (first | ((first | apply o_move rfl rfl | apply o_easy1 rfl rfl rfl | apply o_ld rfl rfl (by assumption) (by first | rfl | assumption)); conv => lhs; whnf) | refine o_no rfl ?_ | refine o_add rfl rfl rfl (by omega) (by omega) ?_ | refine o_sub rfl rfl rfl (by omega) (by omega) ?_ | refine o_mul rfl rfl rfl (by omega) (by omega) ?_ | refine o_sadd rfl rfl rfl (by omega) ?_ | refine o_seql_t rfl rfl rfl (by assumption) ?_ | refine o_seql_f rfl rfl rfl (by assumption) ?_ | refine o_ct rfl rfl rfl (by dsimp only [cmpP]; omega) ?_ | refine o_cf rfl rfl rfl (by dsimp only [cmpN]; omega) ?_ | (apply o_easy rfl rfl rfl; conv => lhs; whnf) | refine o_non rfl ?_)); apply o_end; (repeat (first | exact OutS.nil | exact GetS.hit | exact PutS.hit | apply GetS.miss rfl | apply PutS.miss rfl | apply OutS.cons | apply OutS.skip rfl)))
      exact ih (done ++ [c]) (k + 1) L _ _ _ s2 (by rw [hl]; simp) (by simp [hk]) (by simp at hL ⊢; omega) (by omega) (by rw [quoteM_app, hqc, ← List.append_assoc]; exact hv2)
    · by_cases h92 : c.toNat = 92
      · ((repeat refine c_seq ?_); refine c_region ?_; (repeat (first | ((first | apply o_move rfl rfl | apply o_easy1 rfl rfl rfl | apply o_ld rfl rfl (by assumption) (by first | rfl | assumption)); conv => lhs; whnf) | refine o_no rfl ?_ | refine o_add rfl rfl rfl (by omega) (by omega) ?_ | refine o_sub rfl rfl rfl (by omega) (by omega) ?_ | refine o_mul rfl rfl rfl (by omega) (by omega) ?_ | refine o_sadd rfl rfl rfl (by omega) ?_ | refine o_seql_t rfl rfl rfl (by assumption) ?_ | refine o_seql_f rfl rfl rfl (by assumption) ?_ | refine o_ct rfl rfl rfl (by dsimp only [cmpP]; omega) ?_ | refine o_cf rfl rfl rfl (by dsimp only [cmpN]; omega) ?_ | (apply o_easy rfl rfl rfl; conv => lhs; whnf) | refine o_non rfl ?_)))
        refine o_ixvec (j := k) rfl rfl rfl rfl (bc_get hget) rfl ?_
        (repeat (first | ((first | apply o_move rfl rfl | apply o_easy1 rfl rfl rfl | apply o_ld rfl rfl (by assumption) (by first | rfl | assumption)); conv => lhs; whnf) | refine o_no rfl ?_ | refine o_add rfl rfl rfl (by omega) (by omega) ?_ | refine o_sub rfl rfl rfl (by omega) (by omega) ?_ | refine o_mul rfl rfl rfl (by omega) (by omega) ?_ | refine o_sadd rfl rfl rfl (by omega) ?_ | refine o_seql_t rfl rfl rfl (by assumption) ?_ | refine o_seql_f rfl rfl rfl (by assumption) ?_ | refine o_ct rfl rfl rfl (by dsimp only [cmpP]; omega) ?_ | refine o_cf rfl rfl rfl (by dsimp only [cmpN]; omega) ?_ | (apply o_easy rfl rfl rfl; conv => lhs; whnf) | refine o_non rfl ?_))
        refine o_ixvec (j := k) rfl rfl rfl rfl (bc_get hget) rfl ?_
        (repeat (first | ((first | apply o_move rfl rfl | apply o_easy1 rfl rfl rfl | apply o_ld rfl rfl (by assumption) (by first | rfl | assumption)); conv => lhs; whnf) | refine o_no rfl ?_ | refine o_add rfl rfl rfl (by omega) (by omega) ?_ | refine o_sub rfl rfl rfl (by omega) (by omega) ?_ | refine o_mul rfl rfl rfl (by omega) (by omega) ?_ | refine o_sadd rfl rfl rfl (by omega) ?_ | refine o_seql_t rfl rfl rfl (by assumption) ?_ | refine o_seql_f rfl rfl rfl (by assumption) ?_ | refine o_ct rfl rfl rfl (by dsimp only [cmpP]; omega) ?_ | refine o_cf rfl rfl rfl (by dsimp only [cmpN]; omega) ?_ | (apply o_easy rfl rfl rfl; conv => lhs; whnf) | refine o_non rfl ?_))
        (apply o_end; (repeat (first | exact OutS.nil | exact GetS.hit | exact PutS.hit | apply GetS.miss rfl | apply PutS.miss rfl | apply OutS.cons | apply OutS.skip rfl)))
        ((repeat refine c_seq ?_); refine c_if rfl ?_)
        have hqc : quoteM [c] = [92] ++ [c] := by simp [quoteM, *]
        ((repeat refine c_seq ?_); refine c_region ?_; (repeat (first | ((first | apply o_move rfl rfl | apply o_easy1 rfl rfl rfl | apply o_ld rfl rfl (by assumption) (by first | rfl | assumption)); conv => lhs; whnf) | refine o_no rfl ?_ | refine o_add rfl rfl rfl (by omega) (by omega) ?_ | refine o_sub rfl rfl rfl (by omega) (by omega) ?_ | refine o_mul rfl rfl rfl (by omega) (by omega) ?_ | refine o_sadd rfl rfl rfl (by omega) ?_ | refine o_seql_t rfl rfl rfl (by assumption) ?_ | refine o_seql_f rfl rfl rfl (by assumption) ?_ | refine o_ct rfl rfl rfl (by dsimp only [cmpP]; omega) ?_ | refine o_cf rfl rfl rfl (by dsimp only [cmpN]; omega) ?_ | (apply o_easy rfl rfl rfl; conv => lhs; whnf) | refine o_non rfl ?_)))
        refine o_move rfl hv.defd rfl ?_
        (repeat (first | ((first | apply o_move rfl rfl | apply o_easy1 rfl rfl rfl | apply o_ld rfl rfl (by assumption) (by first | rfl | assumption)); conv => lhs; whnf) | refine o_no rfl ?_ | refine o_add rfl rfl rfl (by omega) (by omega) ?_ | refine o_sub rfl rfl rfl (by omega) (by omega) ?_ | refine o_mul rfl rfl rfl (by omega) (by omega) ?_ | refine o_sadd rfl rfl rfl (by omega) ?_ | refine o_seql_t rfl rfl rfl (by assumption) ?_ | refine o_seql_f rfl rfl rfl (by assumption) ?_ | refine o_ct rfl rfl rfl (by dsimp only [cmpP]; omega) ?_ | refine o_cf rfl rfl rfl (by dsimp only [cmpN]; omega) ?_ | (apply o_easy rfl rfl rfl; conv => lhs; whnf) | refine o_non rfl ?_))
        refine o_appB (p := [92]) rfl hv.defd hv hbt ht0 rfl rfl (by simp only [hqc, List.length_append, List.length_singleton] at hqa ⊢; omega) fun v1 s1 hv1 hh1 ht1 => ?_
        refine o_move rfl hv1.defd rfl ?_
        (apply o_end; (repeat (first | exact OutS.nil | exact GetS.hit | exact PutS.hit | apply GetS.miss rfl | apply PutS.miss rfl | apply OutS.cons | apply OutS.skip rfl)))
        ((repeat refine c_seq ?_); refine c_region ?_; (repeat (first | ((first | apply o_move rfl rfl | apply o_easy1 rfl rfl rfl | apply o_ld rfl rfl (by assumption) (by first | rfl | assumption)); conv => lhs; whnf) | refine o_no rfl ?_ | refine o_add rfl rfl rfl (by omega) (by omega) ?_ | refine o_sub rfl rfl rfl (by omega) (by omega) ?_ | refine o_mul rfl rfl rfl (by omega) (by omega) ?_ | refine o_sadd rfl rfl rfl (by omega) ?_ | refine o_seql_t rfl rfl rfl (by assumption) ?_ | refine o_seql_f rfl rfl rfl (by assumption) ?_ | refine o_ct rfl rfl rfl (by dsimp only [cmpP]; omega) ?_ | refine o_cf rfl rfl rfl (by dsimp only [cmpN]; omega) ?_ | (apply o_easy rfl rfl rfl; conv => lhs; whnf) | refine o_non rfl ?_)))
        refine o_move rfl hv1.defd rfl ?_
        (repeat (first | ((first | apply o_move rfl rfl | apply o_easy1 rfl rfl rfl | apply o_ld rfl rfl (by assumption) (by first | rfl | assumption)); conv => lhs; whnf) | refine o_no rfl ?_ | refine o_add rfl rfl rfl (by omega) (by omega) ?_ | refine o_sub rfl rfl rfl (by omega) (by omega) ?_ | refine o_mul rfl rfl rfl (by omega) (by omega) ?_ | refine o_sadd rfl rfl rfl (by omega) ?_ | refine o_seql_t rfl rfl rfl (by assumption) ?_ | refine o_seql_f rfl rfl rfl (by assumption) ?_ | refine o_ct rfl rfl rfl (by dsimp only [cmpP]; omega) ?_ | refine o_cf rfl rfl rfl (by dsimp only [cmpN]; omega) ?_ | (apply o_easy rfl rfl rfl; conv => lhs; whnf) | refine o_non rfl ?_))
        refine o_ixvec (j := k) rfl rfl rfl rfl (bc_get hget) rfl ?_
        (repeat (first | ((first | apply o_move rfl rfl | apply o_easy1 rfl rfl rfl | apply o_ld rfl rfl (by assumption) (by first | rfl | assumption)); conv => lhs; whnf) | refine o_no rfl ?_ | refine o_add rfl rfl rfl (by omega) (by omega) ?_ | refine o_sub rfl rfl rfl (by omega) (by omega) ?_ | refine o_mul rfl rfl rfl (by omega) (by omega) ?_ | refine o_sadd rfl rfl rfl (by omega) ?_ | refine o_seql_t rfl rfl rfl (by assumption) ?_ | refine o_seql_f rfl rfl rfl (by assumption) ?_ | refine o_ct rfl rfl rfl (by dsimp only [cmpP]; omega) ?_ | refine o_cf rfl rfl rfl (by dsimp only [cmpN]; omega) ?_ | (apply o_easy rfl rfl rfl; conv => lhs; whnf) | refine o_non rfl ?_))
        refine o_appB (p := [c]) rfl hv1.defd hv1 hbt (by omega) rfl rfl (by simp only [hqc, List.length_append, List.length_singleton] at hqa ⊢; omega) fun v2 s2 hv2 hh2 ht2 => ?_
        refine o_move rfl hv2.defd rfl ?_
        (apply o_end; (repeat (first | exact OutS.nil | exact GetS.hit | exact PutS.hit | apply GetS.miss rfl | apply PutS.miss rfl | apply OutS.cons | apply OutS.skip rfl)))
        ((repeat refine c_seq ?_); refine c_region ?_; (repeat (first | ((first | apply o_move rfl rfl | apply o_easy1 rfl rfl rfl | apply o_ld rfl rfl (by assumption) (by first | rfl | assumption)); conv => lhs; whnf) | refine o_no rfl ?_ | refine o_add rfl rfl rfl (by omega) (by omega) ?_ | refine o_sub rfl rfl rfl (by omega) (by omega) ?_ | refine o_mul rfl rfl rfl (by omega) (by omega) ?_ | refine o_sadd rfl rfl rfl (by omega) ?_ | refine o_seql_t rfl rfl rfl (by assumption) ?_ | refine o_seql_f rfl rfl rfl (by assumption) ?_ | refine o_ct rfl rfl rfl (by dsimp only [cmpP]; omega) ?_ | refine o_cf rfl rfl rfl (by dsimp only [cmpN]; omega) ?_ | (apply o_easy rfl rfl rfl; conv => lhs; whnf) | refine o_non rfl ?_)); apply o_end; (repeat (first | exact OutS.nil | exact GetS.hit | exact PutS.hit | apply GetS.miss rfl | apply PutS.miss rfl | apply OutS.cons | apply OutS.skip rfl)))
        exact ih (done ++ [c]) (k + 1) L _ _ _ s2 (by rw [hl]; simp) (by simp [hk]) (by simp at hL ⊢; omega) (by omega) (by rw [quoteM_app, hqc, ← List.append_assoc]; exact hv2)
      · ((repeat refine c_seq ?_); refine c_region ?_; (repeat (first | ((first | apply o_move rfl rfl | apply o_easy1 rfl rfl rfl | apply o_ld rfl rfl (by assumption) (by first | rfl | assumption)); conv => lhs; whnf) | refine o_no rfl ?_ | refine o_add rfl rfl rfl (by omega) (by omega) ?_ | refine o_sub rfl rfl rfl (by omega) (by omega) ?_ | refine o_mul rfl rfl rfl (by omega) (by omega) ?_ | refine o_sadd rfl rfl rfl (by omega) ?_ | refine o_seql_t rfl rfl rfl (by assumption) ?_ | refine o_seql_f rfl rfl rfl (by assumption) ?_ | refine o_ct rfl rfl rfl (by dsimp only [cmpP]; omega) ?_ | refine o_cf rfl rfl rfl (by dsimp only [cmpN]; omega) ?_ | (apply o_easy rfl rfl rfl; conv => lhs; whnf) | refine o_non rfl ?_)))
        refine o_ixvec (j := k) rfl rfl rfl rfl (bc_get hget) rfl ?_
        (repeat (first | ((first | apply o_move rfl rfl | apply o_easy1 rfl rfl rfl | apply o_ld rfl rfl (by assumption) (by first | rfl | assumption)); conv => lhs; whnf) | refine o_no rfl ?_ | refine o_add rfl rfl rfl (by omega) (by omega) ?_ | refine o_sub rfl rfl rfl (by omega) (by omega) ?_ | refine o_mul rfl rfl rfl (by omega) (by omega) ?_ | refine o_sadd rfl rfl rfl (by omega) ?_ | refine o_seql_t rfl rfl rfl (by assumption) ?_ | refine o_seql_f rfl rfl rfl (by assumption) ?_ | refine o_ct rfl rfl rfl (by dsimp only [cmpP]; omega) ?_ | refine o_cf rfl rfl rfl (by dsimp only [cmpN]; omega) ?_ | (apply o_easy rfl rfl rfl; conv => lhs; whnf) | refine o_non rfl ?_))
        refine o_ixvec (j := k) rfl rfl rfl rfl (bc_get hget) rfl ?_
        (repeat (first | ((first | apply o_move rfl rfl | apply o_easy1 rfl rfl rfl | apply o_ld rfl rfl (by assumption) (by first | rfl | assumption)); conv => lhs; whnf) | refine o_no rfl ?_ | refine o_add rfl rfl rfl (by omega) (by omega) ?_ | refine o_sub rfl rfl rfl (by omega) (by omega) ?_ | refine o_mul rfl rfl rfl (by omega) (by omega) ?_ | refine o_sadd rfl rfl rfl (by omega) ?_ | refine o_seql_t rfl rfl rfl (by assumption) ?_ | refine o_seql_f rfl rfl rfl (by assumption) ?_ | refine o_ct rfl rfl rfl (by dsimp only [cmpP]; omega) ?_ | refine o_cf rfl rfl rfl (by dsimp only [cmpN]; omega) ?_ | (apply o_easy rfl rfl rfl; conv => lhs; whnf) | refine o_non rfl ?_))
        (apply o_end; (repeat (first | exact OutS.nil | exact GetS.hit | exact PutS.hit | apply GetS.miss rfl | apply PutS.miss rfl | apply OutS.cons | apply OutS.skip rfl)))
        ((repeat refine c_seq ?_); refine c_else rfl ?_)
        refine c_skip ?_
        have hqc : quoteM [c] = [c] := by simp [quoteM, h36, h92]
        ((repeat refine c_seq ?_); refine c_region ?_; (repeat (first | ((first | apply o_move rfl rfl | apply o_easy1 rfl rfl rfl | apply o_ld rfl rfl (by assumption) (by first | rfl | assumption)); conv => lhs; whnf) | refine o_no rfl ?_ | refine o_add rfl rfl rfl (by omega) (by omega) ?_ | refine o_sub rfl rfl rfl (by omega) (by omega) ?_ | refine o_mul rfl rfl rfl (by omega) (by omega) ?_ | refine o_sadd rfl rfl rfl (by omega) ?_ | refine o_seql_t rfl rfl rfl (by assumption) ?_ | refine o_seql_f rfl rfl rfl (by assumption) ?_ | refine o_ct rfl rfl rfl (by dsimp only [cmpP]; omega) ?_ | refine o_cf rfl rfl rfl (by dsimp only [cmpN]; omega) ?_ | (apply o_easy rfl rfl rfl; conv => lhs; whnf) | refine o_non rfl ?_)))
        refine o_move rfl hv.defd rfl ?_
        (repeat (first | ((first | apply o_move rfl rfl | apply o_easy1 rfl rfl rfl | apply o_ld rfl rfl (by assumption) (by first | rfl | assumption)); conv => lhs; whnf) | refine o_no rfl ?_ | refine o_add rfl rfl rfl (by omega) (by omega) ?_ | refine o_sub rfl rfl rfl (by omega) (by omega) ?_ | refine o_mul rfl rfl rfl (by omega) (by omega) ?_ | refine o_sadd rfl rfl rfl (by omega) ?_ | refine o_seql_t rfl rfl rfl (by assumption) ?_ | refine o_seql_f rfl rfl rfl (by assumption) ?_ | refine o_ct rfl rfl rfl (by dsimp only [cmpP]; omega) ?_ | refine o_cf rfl rfl rfl (by dsimp only [cmpN]; omega) ?_ | (apply o_easy rfl rfl rfl; conv => lhs; whnf) | refine o_non rfl ?_))
        refine o_ixvec (j := k) rfl rfl rfl rfl (bc_get hget) rfl ?_
        (repeat (first | ((first | apply o_move rfl rfl | apply o_easy1 rfl rfl rfl | apply o_ld rfl rfl (by assumption) (by first | rfl | assumption)); conv => lhs; whnf) | refine o_no rfl ?_ | refine o_add rfl rfl rfl (by omega) (by omega) ?_ | refine o_sub rfl rfl rfl (by omega) (by omega) ?_ | refine o_mul rfl rfl rfl (by omega) (by omega) ?_ | refine o_sadd rfl rfl rfl (by omega) ?_ | refine o_seql_t rfl rfl rfl (by assumption) ?_ | refine o_seql_f rfl rfl rfl (by assumption) ?_ | refine o_ct rfl rfl rfl (by dsimp only [cmpP]; omega) ?_ | refine o_cf rfl rfl rfl (by dsimp only [cmpN]; omega) ?_ | (apply o_easy rfl rfl rfl; conv => lhs; whnf) | refine o_non rfl ?_))
        refine o_appB (p := [c]) rfl hv.defd hv hbt ht0 rfl rfl (by simp only [hqc, List.length_singleton] at hqa ⊢; omega) fun v1 s1 hv1 hh1 ht1 => ?_
        refine o_move rfl hv1.defd rfl ?_
        (apply o_end; (repeat (first | exact OutS.nil | exact GetS.hit | exact PutS.hit | apply GetS.miss rfl | apply PutS.miss rfl | apply OutS.cons | apply OutS.skip rfl)))
        ((repeat refine c_seq ?_); refine c_region ?_; (repeat (first | ((first | apply o_move rfl rfl | apply o_easy1 rfl rfl rfl | apply o_ld rfl rfl (by assumption) (by first | rfl | assumption)); conv => lhs; whnf) | refine o_no rfl ?_ | refine o_add rfl rfl rfl (by omega) (by omega) ?_ | refine o_sub rfl rfl rfl (by omega) (by omega) ?_ | refine o_mul rfl rfl rfl (by omega) (by omega) ?_ | refine o_sadd rfl rfl rfl (by omega) ?_ | refine o_seql_t rfl rfl rfl (by assumption) ?_ | refine o_seql_f rfl rfl rfl (by assumption) ?_ | refine o_ct rfl rfl rfl (by dsimp only [cmpP]; omega) ?_ | refine o_cf rfl rfl rfl (by dsimp only [cmpN]; omega) ?_ | (apply o_easy rfl rfl rfl; conv => lhs; whnf) | refine o_non rfl ?_)); apply o_end; (repeat (first | exact OutS.nil | exact GetS.hit | exact PutS.hit | apply GetS.miss rfl | apply PutS.miss rfl | apply OutS.cons | apply OutS.skip rfl)))
        exact ih (done ++ [c]) (k + 1) L _ _ _ s1 (by rw [hl]; simp) (by simp [hk]) (by simp at hL ⊢; omega) (by omega) (by rw [quoteM_app, hqc]; exact hv1)


end Go.Tpl

namespace Go.Tpl
open Go Go.Am Go.Proofs

theorem evAll3 {loc pers : Env} {x y z : AOpd} {a c d : AV} (hx : x.ev loc pers = some a) (hy : y.ev loc pers = some c) (hz : z.ev loc pers = some d) : evAll loc pers [x, y, z] = some [a, c, d] := by
  simp only [evAll, hx, hy, hz, Option.bind_some]

theorem RepB.weak {t0 : Nat} {s : Sg} {v : AV} {l : List UInt8} (hr : RepB t0 s v l) : v.weak = .vec (Am.byteCells l) .shut := by
  rcases hr with ⟨rfl, rfl⟩ | ⟨i, n, rfl, _⟩ <;> rfl

theorem o_strB {call : CallFn} {b : Bar} {g : Option (Nat × Bool)} {r : List AOper} {loc : Env} {fr : Fr} {s : Sg} {Q : Ex → Env → Fr → Sg → Prop} {x : AOpd} {t : Nat} {es : List AV} {tl : Tail} (l : List UInt8) (hg : wantedA loc fr.pers g = some true) (hx : x.ev loc fr.pers = some (.vec es tl)) (hl : es = Am.byteCells l) (hr : OkO call b r ((t, .str l) :: loc) fr s Q) : OkO call b (⟨some t, .v (.conv .bytesStr x), g⟩ :: r) loc fr s Q := by
  subst hl
  exact o_bs hg hx (bytesOf_cells l) hr

theorem quotes_true (text : List UInt8) : ∃ n, callF T n bar0 3 [.vec (Am.byteCells text) .shut] sg0 = some (.ret (.bool true), sg0) := by
  have hbl := Am.byteCells_length text
  by_cases hlong : text.length > 2000
  · refine ⟨400 + 1, ?_⟩
    (apply f_of rfl rfl; (repeat (first | exact Shape.nil | (apply Shape.cons; conv => lhs; whnf))))
    ((repeat refine c_seq ?_); refine c_region ?_; (repeat (first | ((first | apply o_move rfl rfl | apply o_easy1 rfl rfl rfl | apply o_ld rfl rfl (by assumption) (by first | rfl | assumption)); conv => lhs; whnf) | refine o_no rfl ?_ | refine o_add rfl rfl rfl (by omega) (by omega) ?_ | refine o_sub rfl rfl rfl (by omega) (by omega) ?_ | refine o_mul rfl rfl rfl (by omega) (by omega) ?_ | refine o_sadd rfl rfl rfl (by omega) ?_ | refine o_seql_t rfl rfl rfl (by assumption) ?_ | refine o_seql_f rfl rfl rfl (by assumption) ?_ | refine o_ct rfl rfl rfl (by dsimp only [cmpP]; omega) ?_ | refine o_cf rfl rfl rfl (by dsimp only [cmpN]; omega) ?_ | (apply o_easy rfl rfl rfl; conv => lhs; whnf) | refine o_non rfl ?_)); apply o_end; (repeat (first | exact OutS.nil | exact GetS.hit | exact PutS.hit | apply GetS.miss rfl | apply PutS.miss rfl | apply OutS.cons | apply OutS.skip rfl)))
    ((repeat refine c_seq ?_); refine c_region ?_; (repeat (first | ((first | apply o_move rfl rfl | apply o_easy1 rfl rfl rfl | apply o_ld rfl rfl (by assumption) (by first | rfl | assumption)); conv => lhs; whnf) | refine o_no rfl ?_ | refine o_add rfl rfl rfl (by omega) (by omega) ?_ | refine o_sub rfl rfl rfl (by omega) (by omega) ?_ | refine o_mul rfl rfl rfl (by omega) (by omega) ?_ | refine o_sadd rfl rfl rfl (by omega) ?_ | refine o_seql_t rfl rfl rfl (by assumption) ?_ | refine o_seql_f rfl rfl rfl (by assumption) ?_ | refine o_ct rfl rfl rfl (by dsimp only [cmpP]; omega) ?_ | refine o_cf rfl rfl rfl (by dsimp only [cmpN]; omega) ?_ | (apply o_easy rfl rfl rfl; conv => lhs; whnf) | refine o_non rfl ?_)))
    refine o_call rfl rfl (awake' 400 (Nat.le_refl _)) ?_
    (repeat (first | ((first | apply o_move rfl rfl | apply o_easy1 rfl rfl rfl | apply o_ld rfl rfl (by assumption) (by first | rfl | assumption)); conv => lhs; whnf) | refine o_no rfl ?_ | refine o_add rfl rfl rfl (by omega) (by omega) ?_ | refine o_sub rfl rfl rfl (by omega) (by omega) ?_ | refine o_mul rfl rfl rfl (by omega) (by omega) ?_ | refine o_sadd rfl rfl rfl (by omega) ?_ | refine o_seql_t rfl rfl rfl (by assumption) ?_ | refine o_seql_f rfl rfl rfl (by assumption) ?_ | refine o_ct rfl rfl rfl (by dsimp only [cmpP]; omega) ?_ | refine o_cf rfl rfl rfl (by dsimp only [cmpN]; omega) ?_ | (apply o_easy rfl rfl rfl; conv => lhs; whnf) | refine o_non rfl ?_))
    (apply o_end; (repeat (first | exact OutS.nil | exact GetS.hit | exact PutS.hit | apply GetS.miss rfl | apply PutS.miss rfl | apply OutS.cons | apply OutS.skip rfl)))
    ((repeat refine c_seq ?_); refine c_region ?_; (repeat (first | ((first | apply o_move rfl rfl | apply o_easy1 rfl rfl rfl | apply o_ld rfl rfl (by assumption) (by first | rfl | assumption)); conv => lhs; whnf) | refine o_no rfl ?_ | refine o_add rfl rfl rfl (by omega) (by omega) ?_ | refine o_sub rfl rfl rfl (by omega) (by omega) ?_ | refine o_mul rfl rfl rfl (by omega) (by omega) ?_ | refine o_sadd rfl rfl rfl (by omega) ?_ | refine o_seql_t rfl rfl rfl (by assumption) ?_ | refine o_seql_f rfl rfl rfl (by assumption) ?_ | refine o_ct rfl rfl rfl (by dsimp only [cmpP]; omega) ?_ | refine o_cf rfl rfl rfl (by dsimp only [cmpN]; omega) ?_ | (apply o_easy rfl rfl rfl; conv => lhs; whnf) | refine o_non rfl ?_)); apply o_end; (repeat (first | exact OutS.nil | exact GetS.hit | exact PutS.hit | apply GetS.miss rfl | apply PutS.miss rfl | apply OutS.cons | apply OutS.skip rfl)))
    ((repeat refine c_seq ?_); refine c_else rfl ?_)
    refine c_skip ?_
    ((repeat refine c_seq ?_); refine c_region ?_; (repeat (first | ((first | apply o_move rfl rfl | apply o_easy1 rfl rfl rfl | apply o_ld rfl rfl (by assumption) (by first | rfl | assumption)); conv => lhs; whnf) | refine o_no rfl ?_ | refine o_add rfl rfl rfl (by omega) (by omega) ?_ | refine o_sub rfl rfl rfl (by omega) (by omega) ?_ | refine o_mul rfl rfl rfl (by omega) (by omega) ?_ | refine o_sadd rfl rfl rfl (by omega) ?_ | refine o_seql_t rfl rfl rfl (by assumption) ?_ | refine o_seql_f rfl rfl rfl (by assumption) ?_ | refine o_ct rfl rfl rfl (by dsimp only [cmpP]; omega) ?_ | refine o_cf rfl rfl rfl (by dsimp only [cmpN]; omega) ?_ | (apply o_easy rfl rfl rfl; conv => lhs; whnf) | refine o_non rfl ?_)); apply o_end; (repeat (first | exact OutS.nil | exact GetS.hit | exact PutS.hit | apply GetS.miss rfl | apply PutS.miss rfl | apply OutS.cons | apply OutS.skip rfl)))
    ((repeat refine c_seq ?_); refine c_if rfl ?_)
    ((repeat refine c_seq ?_); refine c_region ?_; (repeat (first | ((first | apply o_move rfl rfl | apply o_easy1 rfl rfl rfl | apply o_ld rfl rfl (by assumption) (by first | rfl | assumption)); conv => lhs; whnf) | refine o_no rfl ?_ | refine o_add rfl rfl rfl (by omega) (by omega) ?_ | refine o_sub rfl rfl rfl (by omega) (by omega) ?_ | refine o_mul rfl rfl rfl (by omega) (by omega) ?_ | refine o_sadd rfl rfl rfl (by omega) ?_ | refine o_seql_t rfl rfl rfl (by assumption) ?_ | refine o_seql_f rfl rfl rfl (by assumption) ?_ | refine o_ct rfl rfl rfl (by dsimp only [cmpP]; omega) ?_ | refine o_cf rfl rfl rfl (by dsimp only [cmpN]; omega) ?_ | (apply o_easy rfl rfl rfl; conv => lhs; whnf) | refine o_non rfl ?_)); apply o_end; (repeat (first | exact OutS.nil | exact GetS.hit | exact PutS.hit | apply GetS.miss rfl | apply PutS.miss rfl | apply OutS.cons | apply OutS.skip rfl)))
    exact c_ret rfl
  · have hql := quoteM_len text
    obtain ⟨NP, hNP⟩ := parse_spec (quoteM text) 0 (by omega) (text.length + 1) _ (quote_all text 0)
    have hll : (lit1 text).length ≤ 1 := by simp only [lit1]; split <;> simp
    have hfine : fineL (lit1 text) := by simp only [lit1]; split <;> simp [fineL, Tp.fine]
    have hexp : expL [] [] (lit1 text) = text := by
      simp only [lit1]; split
      · rename_i h; simp [h, expL]
      · simp [expL, expT]
    obtain ⟨NE, hNE⟩ := expand_spec [] [] (by simp) (lit1 text) (by omega) hfine
    refine ⟨400 + NP + NE + text.length + 10 + 1, ?_⟩
    generalize hm : 400 + NP + NE + text.length + 10 = m
    (apply f_of rfl rfl; (repeat (first | exact Shape.nil | (apply Shape.cons; conv => lhs; whnf))))
    ((repeat refine c_seq ?_); refine c_region ?_; (repeat (first | ((first | apply o_move rfl rfl | apply o_easy1 rfl rfl rfl | apply o_ld rfl rfl (by assumption) (by first | rfl | assumption)); conv => lhs; whnf) | refine o_no rfl ?_ | refine o_add rfl rfl rfl (by omega) (by omega) ?_ | refine o_sub rfl rfl rfl (by omega) (by omega) ?_ | refine o_mul rfl rfl rfl (by omega) (by omega) ?_ | refine o_sadd rfl rfl rfl (by omega) ?_ | refine o_seql_t rfl rfl rfl (by assumption) ?_ | refine o_seql_f rfl rfl rfl (by assumption) ?_ | refine o_ct rfl rfl rfl (by dsimp only [cmpP]; omega) ?_ | refine o_cf rfl rfl rfl (by dsimp only [cmpN]; omega) ?_ | (apply o_easy rfl rfl rfl; conv => lhs; whnf) | refine o_non rfl ?_)); apply o_end; (repeat (first | exact OutS.nil | exact GetS.hit | exact PutS.hit | apply GetS.miss rfl | apply PutS.miss rfl | apply OutS.cons | apply OutS.skip rfl)))
    ((repeat refine c_seq ?_); refine c_region ?_; (repeat (first | ((first | apply o_move rfl rfl | apply o_easy1 rfl rfl rfl | apply o_ld rfl rfl (by assumption) (by first | rfl | assumption)); conv => lhs; whnf) | refine o_no rfl ?_ | refine o_add rfl rfl rfl (by omega) (by omega) ?_ | refine o_sub rfl rfl rfl (by omega) (by omega) ?_ | refine o_mul rfl rfl rfl (by omega) (by omega) ?_ | refine o_sadd rfl rfl rfl (by omega) ?_ | refine o_seql_t rfl rfl rfl (by assumption) ?_ | refine o_seql_f rfl rfl rfl (by assumption) ?_ | refine o_ct rfl rfl rfl (by dsimp only [cmpP]; omega) ?_ | refine o_cf rfl rfl rfl (by dsimp only [cmpN]; omega) ?_ | (apply o_easy rfl rfl rfl; conv => lhs; whnf) | refine o_non rfl ?_)))
    refine o_call rfl rfl (awake' m (by omega)) ?_
    (repeat (first | ((first | apply o_move rfl rfl | apply o_easy1 rfl rfl rfl | apply o_ld rfl rfl (by assumption) (by first | rfl | assumption)); conv => lhs; whnf) | refine o_no rfl ?_ | refine o_add rfl rfl rfl (by omega) (by omega) ?_ | refine o_sub rfl rfl rfl (by omega) (by omega) ?_ | refine o_mul rfl rfl rfl (by omega) (by omega) ?_ | refine o_sadd rfl rfl rfl (by omega) ?_ | refine o_seql_t rfl rfl rfl (by assumption) ?_ | refine o_seql_f rfl rfl rfl (by assumption) ?_ | refine o_ct rfl rfl rfl (by dsimp only [cmpP]; omega) ?_ | refine o_cf rfl rfl rfl (by dsimp only [cmpN]; omega) ?_ | (apply o_easy rfl rfl rfl; conv => lhs; whnf) | refine o_non rfl ?_))
    (apply o_end; (repeat (first | exact OutS.nil | exact GetS.hit | exact PutS.hit | apply GetS.miss rfl | apply PutS.miss rfl | apply OutS.cons | apply OutS.skip rfl)))
    ((repeat refine c_seq ?_); refine c_region ?_; (repeat (first | ((first | apply o_move rfl rfl | apply o_easy1 rfl rfl rfl | apply o_ld rfl rfl (by assumption) (by first | rfl | assumption)); conv => lhs; whnf) | refine o_no rfl ?_ | refine o_add rfl rfl rfl (by omega) (by omega) ?_ | refine o_sub rfl rfl rfl (by omega) (by omega) ?_ | refine o_mul rfl rfl rfl (by omega) (by omega) ?_ | refine o_sadd rfl rfl rfl (by omega) ?_ | refine o_seql_t rfl rfl rfl (by assumption) ?_ | refine o_seql_f rfl rfl rfl (by assumption) ?_ | refine o_ct rfl rfl rfl (by dsimp only [cmpP]; omega) ?_ | refine o_cf rfl rfl rfl (by dsimp only [cmpN]; omega) ?_ | (apply o_easy rfl rfl rfl; conv => lhs; whnf) | refine o_non rfl ?_)); apply o_end; (repeat (first | exact OutS.nil | exact GetS.hit | exact PutS.hit | apply GetS.miss rfl | apply PutS.miss rfl | apply OutS.cons | apply OutS.skip rfl)))
    ((repeat refine c_seq ?_); refine c_else rfl ?_)
    refine c_skip ?_
    ((repeat refine c_seq ?_); refine c_region ?_; (repeat (first | ((first | apply o_move rfl rfl | apply o_easy1 rfl rfl rfl | apply o_ld rfl rfl (by assumption) (by first | rfl | assumption)); conv => lhs; whnf) | refine o_no rfl ?_ | refine o_add rfl rfl rfl (by omega) (by omega) ?_ | refine o_sub rfl rfl rfl (by omega) (by omega) ?_ | refine o_mul rfl rfl rfl (by omega) (by omega) ?_ | refine o_sadd rfl rfl rfl (by omega) ?_ | refine o_seql_t rfl rfl rfl (by assumption) ?_ | refine o_seql_f rfl rfl rfl (by assumption) ?_ | refine o_ct rfl rfl rfl (by dsimp only [cmpP]; omega) ?_ | refine o_cf rfl rfl rfl (by dsimp only [cmpN]; omega) ?_ | (apply o_easy rfl rfl rfl; conv => lhs; whnf) | refine o_non rfl ?_)); apply o_end; (repeat (first | exact OutS.nil | exact GetS.hit | exact PutS.hit | apply GetS.miss rfl | apply PutS.miss rfl | apply OutS.cons | apply OutS.skip rfl)))
    ((repeat refine c_seq ?_); refine c_else rfl ?_)
    refine c_skip ?_
    ((repeat refine c_seq ?_); refine c_region ?_; (repeat (first | ((first | apply o_move rfl rfl | apply o_easy1 rfl rfl rfl | apply o_ld rfl rfl (by assumption) (by first | rfl | assumption)); conv => lhs; whnf) | refine o_no rfl ?_ | refine o_add rfl rfl rfl (by omega) (by omega) ?_ | refine o_sub rfl rfl rfl (by omega) (by omega) ?_ | refine o_mul rfl rfl rfl (by omega) (by omega) ?_ | refine o_sadd rfl rfl rfl (by omega) ?_ | refine o_seql_t rfl rfl rfl (by assumption) ?_ | refine o_seql_f rfl rfl rfl (by assumption) ?_ | refine o_ct rfl rfl rfl (by dsimp only [cmpP]; omega) ?_ | refine o_cf rfl rfl rfl (by dsimp only [cmpN]; omega) ?_ | (apply o_easy rfl rfl rfl; conv => lhs; whnf) | refine o_non rfl ?_)); apply o_end; (repeat (first | exact OutS.nil | exact GetS.hit | exact PutS.hit | apply GetS.miss rfl | apply PutS.miss rfl | apply OutS.cons | apply OutS.skip rfl)))
    ((repeat refine c_seq ?_); refine c_region ?_; (repeat (first | ((first | apply o_move rfl rfl | apply o_easy1 rfl rfl rfl | apply o_ld rfl rfl (by assumption) (by first | rfl | assumption)); conv => lhs; whnf) | refine o_no rfl ?_ | refine o_add rfl rfl rfl (by omega) (by omega) ?_ | refine o_sub rfl rfl rfl (by omega) (by omega) ?_ | refine o_mul rfl rfl rfl (by omega) (by omega) ?_ | refine o_sadd rfl rfl rfl (by omega) ?_ | refine o_seql_t rfl rfl rfl (by assumption) ?_ | refine o_seql_f rfl rfl rfl (by assumption) ?_ | refine o_ct rfl rfl rfl (by dsimp only [cmpP]; omega) ?_ | refine o_cf rfl rfl rfl (by dsimp only [cmpN]; omega) ?_ | (apply o_easy rfl rfl rfl; conv => lhs; whnf) | refine o_non rfl ?_)); apply o_end; (repeat (first | exact OutS.nil | exact GetS.hit | exact PutS.hit | apply GetS.miss rfl | apply PutS.miss rfl | apply OutS.cons | apply OutS.skip rfl)))
    ((repeat refine c_seq ?_); refine c_block ?_)
    refine c_loop (x := lp3_0) ?_
    refine quote_loop m _ text 0 (by omega) (by show (0:Nat) ≤ 0; omega) ?_ text [] 0 m _ _ _ _ rfl rfl (by omega) (Nat.le_refl _) (.inl ⟨rfl, rfl⟩)
    intro x20 x34 v s' hv
    have hparse := hNP m (by omega) (bar0.into .pure sg0) s' v .nilsl hv.weak rfl
    have hex := hNE (by rw [hexp]; omega) m (by omega) (bar0.into .pure sg0) s' (.vec (avs (lit1 text)) .shut) .nilsl .nilsl rfl rfl rfl
    rw [hexp] at hex
    ((repeat refine c_seq ?_); refine c_region ?_; (repeat (first | ((first | apply o_move rfl rfl | apply o_easy1 rfl rfl rfl | apply o_ld rfl rfl (by assumption) (by first | rfl | assumption)); conv => lhs; whnf) | refine o_no rfl ?_ | refine o_add rfl rfl rfl (by omega) (by omega) ?_ | refine o_sub rfl rfl rfl (by omega) (by omega) ?_ | refine o_mul rfl rfl rfl (by omega) (by omega) ?_ | refine o_sadd rfl rfl rfl (by omega) ?_ | refine o_seql_t rfl rfl rfl (by assumption) ?_ | refine o_seql_f rfl rfl rfl (by assumption) ?_ | refine o_ct rfl rfl rfl (by dsimp only [cmpP]; omega) ?_ | refine o_cf rfl rfl rfl (by dsimp only [cmpN]; omega) ?_ | (apply o_easy rfl rfl rfl; conv => lhs; whnf) | refine o_non rfl ?_)))
    refine o_move rfl hv.defd rfl ?_
    refine o_call rfl (evAll3 hv.defd rfl rfl) hparse ?_
    (repeat (first | ((first | apply o_move rfl rfl | apply o_easy1 rfl rfl rfl | apply o_ld rfl rfl (by assumption) (by first | rfl | assumption)); conv => lhs; whnf) | refine o_no rfl ?_ | refine o_add rfl rfl rfl (by omega) (by omega) ?_ | refine o_sub rfl rfl rfl (by omega) (by omega) ?_ | refine o_mul rfl rfl rfl (by omega) (by omega) ?_ | refine o_sadd rfl rfl rfl (by omega) ?_ | refine o_seql_t rfl rfl rfl (by assumption) ?_ | refine o_seql_f rfl rfl rfl (by assumption) ?_ | refine o_ct rfl rfl rfl (by dsimp only [cmpP]; omega) ?_ | refine o_cf rfl rfl rfl (by dsimp only [cmpN]; omega) ?_ | (apply o_easy rfl rfl rfl; conv => lhs; whnf) | refine o_non rfl ?_))
    (apply o_end; (repeat (first | exact OutS.nil | exact GetS.hit | exact PutS.hit | apply GetS.miss rfl | apply PutS.miss rfl | apply OutS.cons | apply OutS.skip rfl)))
    ((repeat refine c_seq ?_); refine c_region ?_; (repeat (first | ((first | apply o_move rfl rfl | apply o_easy1 rfl rfl rfl | apply o_ld rfl rfl (by assumption) (by first | rfl | assumption)); conv => lhs; whnf) | refine o_no rfl ?_ | refine o_add rfl rfl rfl (by omega) (by omega) ?_ | refine o_sub rfl rfl rfl (by omega) (by omega) ?_ | refine o_mul rfl rfl rfl (by omega) (by omega) ?_ | refine o_sadd rfl rfl rfl (by omega) ?_ | refine o_seql_t rfl rfl rfl (by assumption) ?_ | refine o_seql_f rfl rfl rfl (by assumption) ?_ | refine o_ct rfl rfl rfl (by dsimp only [cmpP]; omega) ?_ | refine o_cf rfl rfl rfl (by dsimp only [cmpN]; omega) ?_ | (apply o_easy rfl rfl rfl; conv => lhs; whnf) | refine o_non rfl ?_)))
    refine o_call rfl rfl hex ?_
    (repeat (first | ((first | apply o_move rfl rfl | apply o_easy1 rfl rfl rfl | apply o_ld rfl rfl (by assumption) (by first | rfl | assumption)); conv => lhs; whnf) | refine o_no rfl ?_ | refine o_add rfl rfl rfl (by omega) (by omega) ?_ | refine o_sub rfl rfl rfl (by omega) (by omega) ?_ | refine o_mul rfl rfl rfl (by omega) (by omega) ?_ | refine o_sadd rfl rfl rfl (by omega) ?_ | refine o_seql_t rfl rfl rfl (by assumption) ?_ | refine o_seql_f rfl rfl rfl (by assumption) ?_ | refine o_ct rfl rfl rfl (by dsimp only [cmpP]; omega) ?_ | refine o_cf rfl rfl rfl (by dsimp only [cmpN]; omega) ?_ | (apply o_easy rfl rfl rfl; conv => lhs; whnf) | refine o_non rfl ?_))
    (apply o_end; (repeat (first | exact OutS.nil | exact GetS.hit | exact PutS.hit | apply GetS.miss rfl | apply PutS.miss rfl | apply OutS.cons | apply OutS.skip rfl)))
    by_cases he : text = []
    · subst he
      ((repeat refine c_seq ?_); refine c_region ?_; (repeat (first | ((first | apply o_move rfl rfl | apply o_easy1 rfl rfl rfl | apply o_ld rfl rfl (by assumption) (by first | rfl | assumption)); conv => lhs; whnf) | refine o_no rfl ?_ | refine o_add rfl rfl rfl (by omega) (by omega) ?_ | refine o_sub rfl rfl rfl (by omega) (by omega) ?_ | refine o_mul rfl rfl rfl (by omega) (by omega) ?_ | refine o_sadd rfl rfl rfl (by omega) ?_ | refine o_seql_t rfl rfl rfl (by assumption) ?_ | refine o_seql_f rfl rfl rfl (by assumption) ?_ | refine o_ct rfl rfl rfl (by dsimp only [cmpP]; omega) ?_ | refine o_cf rfl rfl rfl (by dsimp only [cmpN]; omega) ?_ | (apply o_easy rfl rfl rfl; conv => lhs; whnf) | refine o_non rfl ?_)); apply o_end; (repeat (first | exact OutS.nil | exact GetS.hit | exact PutS.hit | apply GetS.miss rfl | apply PutS.miss rfl | apply OutS.cons | apply OutS.skip rfl)))
      ((repeat refine c_seq ?_); refine c_region ?_; (repeat (first | ((first | apply o_move rfl rfl | apply o_easy1 rfl rfl rfl | apply o_ld rfl rfl (by assumption) (by first | rfl | assumption)); conv => lhs; whnf) | refine o_no rfl ?_ | refine o_add rfl rfl rfl (by omega) (by omega) ?_ | refine o_sub rfl rfl rfl (by omega) (by omega) ?_ | refine o_mul rfl rfl rfl (by omega) (by omega) ?_ | refine o_sadd rfl rfl rfl (by omega) ?_ | refine o_seql_t rfl rfl rfl (by assumption) ?_ | refine o_seql_f rfl rfl rfl (by assumption) ?_ | refine o_ct rfl rfl rfl (by dsimp only [cmpP]; omega) ?_ | refine o_cf rfl rfl rfl (by dsimp only [cmpN]; omega) ?_ | (apply o_easy rfl rfl rfl; conv => lhs; whnf) | refine o_non rfl ?_)); apply o_end; (repeat (first | exact OutS.nil | exact GetS.hit | exact PutS.hit | apply GetS.miss rfl | apply PutS.miss rfl | apply OutS.cons | apply OutS.skip rfl)))
      exact c_ret rfl
    · have hl1 : lit1 text = [.lit text] := if_neg he
      have hpos : 0 < text.length := by cases text; exact absurd rfl he; simp
      rw [hl1]
      ((repeat refine c_seq ?_); refine c_region ?_; (repeat (first | ((first | apply o_move rfl rfl | apply o_easy1 rfl rfl rfl | apply o_ld rfl rfl (by assumption) (by first | rfl | assumption)); conv => lhs; whnf) | refine o_no rfl ?_ | refine o_add rfl rfl rfl (by omega) (by omega) ?_ | refine o_sub rfl rfl rfl (by omega) (by omega) ?_ | refine o_mul rfl rfl rfl (by omega) (by omega) ?_ | refine o_sadd rfl rfl rfl (by omega) ?_ | refine o_seql_t rfl rfl rfl (by assumption) ?_ | refine o_seql_f rfl rfl rfl (by assumption) ?_ | refine o_ct rfl rfl rfl (by dsimp only [cmpP]; omega) ?_ | refine o_cf rfl rfl rfl (by dsimp only [cmpN]; omega) ?_ | (apply o_easy rfl rfl rfl; conv => lhs; whnf) | refine o_non rfl ?_)))
      refine o_ixvec (j := 0) rfl rfl rfl rfl rfl rfl ?_
      (repeat (first | ((first | apply o_move rfl rfl | apply o_easy1 rfl rfl rfl | apply o_ld rfl rfl (by assumption) (by first | rfl | assumption)); conv => lhs; whnf) | refine o_no rfl ?_ | refine o_add rfl rfl rfl (by omega) (by omega) ?_ | refine o_sub rfl rfl rfl (by omega) (by omega) ?_ | refine o_mul rfl rfl rfl (by omega) (by omega) ?_ | refine o_sadd rfl rfl rfl (by omega) ?_ | refine o_seql_t rfl rfl rfl (by assumption) ?_ | refine o_seql_f rfl rfl rfl (by assumption) ?_ | refine o_ct rfl rfl rfl (by dsimp only [cmpP]; omega) ?_ | refine o_cf rfl rfl rfl (by dsimp only [cmpN]; omega) ?_ | (apply o_easy rfl rfl rfl; conv => lhs; whnf) | refine o_non rfl ?_))
      (apply o_end; (repeat (first | exact OutS.nil | exact GetS.hit | exact PutS.hit | apply GetS.miss rfl | apply PutS.miss rfl | apply OutS.cons | apply OutS.skip rfl)))
      ((repeat refine c_seq ?_); refine c_region ?_; (repeat (first | ((first | apply o_move rfl rfl | apply o_easy1 rfl rfl rfl | apply o_ld rfl rfl (by assumption) (by first | rfl | assumption)); conv => lhs; whnf) | refine o_no rfl ?_ | refine o_add rfl rfl rfl (by omega) (by omega) ?_ | refine o_sub rfl rfl rfl (by omega) (by omega) ?_ | refine o_mul rfl rfl rfl (by omega) (by omega) ?_ | refine o_sadd rfl rfl rfl (by omega) ?_ | refine o_seql_t rfl rfl rfl (by assumption) ?_ | refine o_seql_f rfl rfl rfl (by assumption) ?_ | refine o_ct rfl rfl rfl (by dsimp only [cmpP]; omega) ?_ | refine o_cf rfl rfl rfl (by dsimp only [cmpN]; omega) ?_ | (apply o_easy rfl rfl rfl; conv => lhs; whnf) | refine o_non rfl ?_)))
      refine o_strB text rfl rfl rfl ?_
      (repeat (first | ((first | apply o_move rfl rfl | apply o_easy1 rfl rfl rfl | apply o_ld rfl rfl (by assumption) (by first | rfl | assumption)); conv => lhs; whnf) | refine o_no rfl ?_ | refine o_add rfl rfl rfl (by omega) (by omega) ?_ | refine o_sub rfl rfl rfl (by omega) (by omega) ?_ | refine o_mul rfl rfl rfl (by omega) (by omega) ?_ | refine o_sadd rfl rfl rfl (by omega) ?_ | refine o_seql_t rfl rfl rfl (by assumption) ?_ | refine o_seql_f rfl rfl rfl (by assumption) ?_ | refine o_ct rfl rfl rfl (by dsimp only [cmpP]; omega) ?_ | refine o_cf rfl rfl rfl (by dsimp only [cmpN]; omega) ?_ | (apply o_easy rfl rfl rfl; conv => lhs; whnf) | refine o_non rfl ?_))
      refine o_strB text rfl rfl rfl ?_
      refine o_seql_t rfl rfl rfl rfl ?_
      (repeat (first | ((first | apply o_move rfl rfl | apply o_easy1 rfl rfl rfl | apply o_ld rfl rfl (by assumption) (by first | rfl | assumption)); conv => lhs; whnf) | refine o_no rfl ?_ | refine o_add rfl rfl rfl (by omega) (by omega) ?_ | refine o_sub rfl rfl rfl (by omega) (by omega) ?_ | refine o_mul rfl rfl rfl (by omega) (by omega) ?_ | refine o_sadd rfl rfl rfl (by omega) ?_ | refine o_seql_t rfl rfl rfl (by assumption) ?_ | refine o_seql_f rfl rfl rfl (by assumption) ?_ | refine o_ct rfl rfl rfl (by dsimp only [cmpP]; omega) ?_ | refine o_cf rfl rfl rfl (by dsimp only [cmpN]; omega) ?_ | (apply o_easy rfl rfl rfl; conv => lhs; whnf) | refine o_non rfl ?_))
      (apply o_end; (repeat (first | exact OutS.nil | exact GetS.hit | exact PutS.hit | apply GetS.miss rfl | apply PutS.miss rfl | apply OutS.cons | apply OutS.skip rfl)))
      exact c_ret rfl

end Go.Tpl

/-
  A text in which dollars and backslashes have a backslash ahead of them is itself: TemplateQuotes answers true, whatever the text, and leaves it as it was.
-/
namespace Go.Proofs.Ytdbjemmoaldelaa
open Go.ChangeShapes Go.WideShapes Go.ChangeAt Go.RowKit

theorem own : ownKnob Try.prog.godebug = none := by kernel_rfl
theorem laidOut : laidOutB Try.prog = true := by kernel_rfl
theorem rowed : mapsRowed Try.prog = true := by kernel_rfl
theorem full : ∀ t e, t < Try.prog.types.size → Try.prog.underlying t = some (.slice e) → 0 < Try.prog.cellsOf e := slices_full_of Try.prog (by kernel_rfl)

theorem cells5 : Try.prog.cellsOf 5 = 1 := by kernel_rfl

set_option maxRecDepth 100000 in
theorem quotes_lifted (os : Os) (started : os.Started) (H : Type) (enc : TypeId × Value → H) :
    ReturnsInHanded {} Try.checked os 3 .any (Rows.templateQuotesSpec.pre6 enc Try.prog Try.f3 Rows.templateQuotesRow.domain false) (Rows.templateQuotesSpec.post enc Try.prog Try.f3 false true false false) := by
  refine returnsInHanded_of_change (C := Try.checked) own started (by kernel_rfl) Try.func3
    (ChangeSpec.witness6 (enc := enc) (C := Try.checked) false ⟨#[], #[.slice none 0 0], []⟩ 8 (by kernel_rfl) (by kernel_rfl) (by kernel_rfl) (by kernel_rfl)) ?_
  intro W base args ds gs before hval0 hW hcnd _
  have hval : ∀ (j : Nat) t v, Try.f3.params[j]? = some t → args[j]? = some v → Value.okWide Try.prog W .any base t v := hval0
  have hW' : DataW.Whole enc Try.prog Try.f3.params.toList Rows.templateQuotesSpec.vars false W args.toList ds gs before := hW
  obtain ⟨p, q, hA0, hV, rfl, hfz, hnd⟩ := hW
  have hA : DataW.TrodAll enc Try.prog W 0 (fun _ => true) true Try.f3.params.toList args.toList ds p := hA0
  have hts : ∀ t ∈ Try.f3.params.toList, t < Try.prog.types.size := of_decide_eq_true (by kernel_rfl)
  rw [Try.params3] at hA hval
  obtain ⟨v0, d0, rfl, rfl, h0⟩ := trodAll_one hA
  have hgs : gs = [] ∧ q = [] := trodVars_none hV
  obtain ⟨rfl, rfl⟩ := hgs
  obtain ⟨text, hv, _⟩ := Am.lay_bytes Try.underlying22 Try.underlying5 cells5 (hval 0 22 v0 rfl rfl) h0
  obtain ⟨n, hn⟩ := Tpl.quotes_true text
  have hc := Am.law_true Tpl.tab_ok hn (Am.vrs1 hv) Try.func3 rfl (by decide +kernel)
  exact hc.mono fun e W' he => ⟨_, he.1, Am.law_post laidOut rowed full hts rfl rfl Try.underlying4 hW' rfl rfl rfl he.2⟩

theorem templateQuotes : Rows.TemplateQuotesSaid :=
  OpenClaim.holds_of_wide 3 Try.f3 rfl rfl rfl rfl rfl rfl rfl ⟨rfl, rfl, rfl, rfl, rfl⟩ rfl rfl rfl rfl rfl (by kernel_rfl) Try.func3 (by kernel_rfl)
    (of_decide_eq_true (by kernel_rfl)) (by unfold Func.isWrapper; first | (rw [if_pos (by decide +kernel)]; kernel_rfl) | (rw [if_neg (by decide +kernel)]; exact ⟨rfl, rfl⟩))
    (fun os started H enc _ => quotes_lifted os started H enc)

#print axioms templateQuotes
end Go.Proofs.Ytdbjemmoaldelaa
