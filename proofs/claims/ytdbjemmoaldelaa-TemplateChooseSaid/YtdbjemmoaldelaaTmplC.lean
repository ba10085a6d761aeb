/-
  What template.Parse and template.Expand come to, by a model.
-/
import Derived.Test.YtdbjemmoaldelaaMachC
import Derived.Test.YtdbjemmoaldelaaTmplB

namespace Go.Tpl
open Go Go.Am Go.Proofs

theorem numM_ge (t : List UInt8) : ∀ (k i n : Nat), i ≤ (numM t k i n).2
  | 0, i, n => Nat.le_refl _
  | k + 1, i, n => by
    simp only [numM]
    split
    · split
      · have := numM_ge t k (i + 1) (n * 10 + ((by assumption : UInt8).toNat - 48)); omega
      · exact Nat.le_refl _
    · exact Nat.le_refl _

theorem closeM_ok {t : List UInt8} {a : Nat} {p q : Tp} {k j : Nat} (h : closeM t a p k = some (.ok (q, j))) : q = p ∧ j = k + 1 ∧ stands t k [125] = true := by
  simp only [closeM] at h
  split at h
  · rename_i e
    cases h
    exact ⟨rfl, rfl, e⟩
  · cases h

/-- where a run ends is not ahead of where it began; a part's text is of one byte at most, with one byte read for it -/
theorem model_ge (t : List UInt8) (gr : Int) : ∀ n, (∀ ends d i out l j, partsM t gr n ends d i out = some (.ok (l, j)) → i ≤ j) ∧ (∀ a d i p j, dollarM t gr n a d i = some (.ok (p, j)) → i ≤ j ∧ p.text.length ≤ 1) := by
  intro n
  induction n with
  | zero =>
    constructor
    · intro ends d i out l j h; simp [partsM] at h
    · intro a d i p j h; simp [dollarM] at h
  | succ n ih =>
    obtain ⟨ihp, ihd⟩ := ih
    constructor
    · intro ends d i out l j h
      simp only [partsM] at h
      split at h
      · cases h; exact Nat.le_refl _
      · split at h
        · cases h; exact Nat.le_refl _
        · split at h
          · split at h
            · cases h
            · have := ihp _ _ _ _ _ _ h; omega
          · split at h
            · split at h
              · cases h
              · cases h
              · rename_i p k hk
                have h1 := (ihd _ _ _ _ _ hk).1
                have := ihp _ _ _ _ _ _ h; omega
            · have := ihp _ _ _ _ _ _ h; omega
    · intro a d i p j h
      simp only [dollarM] at h
      have g2 := numM_ge t 2 i 0
      have g3 := numM_ge t 3 (i + 1) 0
      split at h
      · cases h; exact ⟨by omega, Nat.le_refl _⟩
      · split at h
        · split at h
          · cases h; exact ⟨by omega, Nat.zero_le _⟩
          · cases h
        · split at h
          · cases h
          · split at h
            · split at h
              · split at h
                · cases h
                · cases h
                · rename_i no k hk
                  obtain ⟨rfl, rfl, _⟩ := closeM_ok h
                  have := ihp _ _ _ _ _ _ hk
                  exact ⟨by omega, Nat.zero_le _⟩
              · cases h
            · split at h
              · split at h
                · split at h
                  · cases h
                  · cases h
                  · rename_i yes k hk
                    split at h
                    · split at h
                      · cases h
                      · cases h
                      · rename_i no k2 hk2
                        obtain ⟨rfl, rfl, _⟩ := closeM_ok h
                        have h1 := ihp _ _ _ _ _ _ hk
                        have h2 := ihp _ _ _ _ _ _ hk2
                        exact ⟨by omega, Nat.zero_le _⟩
                    · cases h
                · cases h
              · obtain ⟨rfl, rfl, _⟩ := closeM_ok h
                exact ⟨by omega, Nat.zero_le _⟩

/-- parts are few, and their texts short -/
def Small (l : List Tp) (i : Nat) : Prop := l.length ≤ i ∧ ∀ q ∈ l, q.text.length ≤ i

theorem Small.add {l : List Tp} {i j : Nat} {p : Tp} (h : Small l i) (hij : i < j) (hp : p.text.length ≤ 1) : Small (addM l p) j := by
  have hp' : Small (l ++ [p]) j := by
    refine ⟨by have := h.1; simp; omega, ?_⟩
    intro q hq
    rcases List.mem_append.mp hq with hq | hq
    · have := h.2 q hq; omega
    · simp at hq; subst hq; omega
  rcases last_cases l with rfl | ⟨l0, q, rfl⟩
  · rw [addM_nil]; exact hp'
  · cases hb : q.isLit && p.isLit with
    | false => rw [addM_other hb]; exact hp'
    | true =>
      cases q with
      | lit t =>
        cases p with
        | lit u =>
          rw [addM_lit]
          have h1 := h.1
          have h2 := h.2 (.lit t) (by simp)
          refine ⟨by simp at h1 ⊢; omega, ?_⟩
          intro q hq
          rcases List.mem_append.mp hq with hq | hq
          · have := h.2 q (by simp [hq]); omega
          · simp at hq; subst hq; simp only [Tp.text, List.length_append] at h2 hp ⊢; omega
        | _ => simp [Tp.isLit] at hb
      | _ => simp [Tp.isLit] at hb

theorem Rep.defd {lo : Nat} {h : List AObj} {v : AV} {l : List Tp} (hr : Rep lo h v l) : v.def? = some v := by
  rcases hr with ⟨_, rfl⟩ | ⟨_, o, g, rfl, _⟩ <;> rfl

theorem evAll2 {loc pers : Env} {x y : AOpd} {a c : AV} (hx : x.ev loc pers = some a) (hy : y.ev loc pers = some c) : evAll loc pers [x, y] = some [a, c] := by
  simp only [evAll, hx, hy, Option.bind_some]

/-- the loop 0 of function 14 -/
def lp14_0 : ACode := .seq (.seq (.drawn [⟨(some 9), .v (.move (.tmp 0)), none⟩, ⟨(some 10), .v (.nilCheck (.tmp 9)), none⟩, ⟨(some 11), .v (.fieldAddr 1 none (.tmp 10)), none⟩, ⟨(some 12), .v (.load none (.tmp 11)), none⟩, ⟨(some 13), .v (.move (.tmp 0)), none⟩, ⟨(some 14), .v (.nilCheck (.tmp 13)), none⟩, ⟨(some 15), .v (.fieldAddr 0 none (.tmp 14)), none⟩, ⟨(some 16), .v (.load none (.tmp 15)), none⟩, ⟨(some 17), .v (.len 0 (.tmp 16)), none⟩, ⟨(some 18), .v (.bin .lss (.tmp 12) (.tmp 17)), none⟩, ⟨(some 19), .v (.move (.tmp 18)), none⟩, ⟨(some 20), .v (.move (.tmp 1)), (some (19, true))⟩, ⟨(some 21), .v (.move (.tmp 0)), (some (19, true))⟩, ⟨(some 22), .v (.nilCheck (.tmp 21)), (some (19, true))⟩, ⟨(some 23), .v (.fieldAddr 0 none (.tmp 22)), (some (19, true))⟩, ⟨(some 24), .v (.load none (.tmp 23)), (some (19, true))⟩, ⟨(some 25), .v (.move (.tmp 0)), (some (19, true))⟩, ⟨(some 26), .v (.nilCheck (.tmp 25)), (some (19, true))⟩, ⟨(some 27), .v (.fieldAddr 1 none (.tmp 26)), (some (19, true))⟩, ⟨(some 28), .v (.load none (.tmp 27)), (some (19, true))⟩, ⟨(some 29), .v (.move (.tmp 0)), (some (19, true))⟩, ⟨(some 30), .v (.nilCheck (.tmp 29)), (some (19, true))⟩, ⟨(some 31), .v (.fieldAddr 1 none (.tmp 30)), (some (19, true))⟩, ⟨(some 32), .v (.load none (.tmp 31)), (some (19, true))⟩, ⟨(some 33), .v (.bin .add (.tmp 32) (.const (.int .i64 1))), (some (19, true))⟩, ⟨(some 34), .v (.sliceS (.tmp 24) (some (.tmp 28)) (some (.tmp 33))), (some (19, true))⟩, ⟨(some 35), .call 18 [(.tmp 20), (.tmp 34)], (some (19, true))⟩, ⟨(some 36), .v (.un .not (.tmp 35)), (some (19, true))⟩, ⟨(some 37), .v (.pick (.tmp 19) (.tmp 36) (.const (.bool false))), none⟩] [37] []) (.cond (.tmp 37) (.skip) (.exit 0))) (.block 1 (.seq (.region [⟨(some 38), .v (.move (.tmp 0)), none⟩, ⟨(some 39), .v (.nilCheck (.tmp 38)), none⟩, ⟨(some 40), .v (.fieldAddr 1 none (.tmp 39)), none⟩, ⟨(some 41), .v (.load none (.tmp 40)), none⟩, ⟨(some 8), .v (.move (.tmp 41)), none⟩] [8]) (.seq (.region [⟨(some 42), .v (.move (.tmp 0)), none⟩, ⟨(some 43), .v (.nilCheck (.tmp 42)), none⟩, ⟨(some 44), .v (.fieldAddr 1 none (.tmp 43)), none⟩, ⟨(some 45), .v (.load none (.tmp 44)), none⟩, ⟨(some 46), .v (.bin .add (.tmp 45) (.const (.int .i64 1))), none⟩, ⟨(some 47), .v (.nilCheck (.tmp 42)), none⟩, ⟨(some 48), .v (.fieldAddr 1 none (.tmp 47)), none⟩, ⟨none, .e (.store 1 (.tmp 48) (.tmp 46)), none⟩] []) (.seq (.region [⟨(some 49), .v (.move (.tmp 0)), none⟩, ⟨(some 50), .v (.nilCheck (.tmp 49)), none⟩, ⟨(some 51), .v (.fieldAddr 0 none (.tmp 50)), none⟩, ⟨(some 52), .v (.load none (.tmp 51)), none⟩, ⟨(some 53), .v (.move (.tmp 8)), none⟩, ⟨(some 54), .v (.indexS (.tmp 52) (.tmp 53)), none⟩] [54]) (.block 2 (.seq (.region [⟨(some 69), .v (.bin .eql (.tmp 54) (.const (.int .u8 92))), none⟩, ⟨(some 68), .v (.move (.tmp 69)), none⟩] [68]) (.cond (.tmp 68) (.seq (.seq (.drawn [⟨(some 70), .v (.move (.tmp 0)), none⟩, ⟨(some 71), .v (.nilCheck (.tmp 70)), none⟩, ⟨(some 72), .v (.fieldAddr 1 none (.tmp 71)), none⟩, ⟨(some 73), .v (.load none (.tmp 72)), none⟩, ⟨(some 74), .v (.move (.tmp 0)), none⟩, ⟨(some 75), .v (.nilCheck (.tmp 74)), none⟩, ⟨(some 76), .v (.fieldAddr 0 none (.tmp 75)), none⟩, ⟨(some 77), .v (.load none (.tmp 76)), none⟩, ⟨(some 78), .v (.len 0 (.tmp 77)), none⟩, ⟨(some 79), .v (.bin .eql (.tmp 73) (.tmp 78)), none⟩] [79] []) (.cond (.tmp 79) (.region [⟨(some 80), .v (.move (.tmp 8)), none⟩, ⟨(some 81), .v (.mkIface 48 (.tmp 80)), none⟩, ⟨none, .panic (.tmp 81), none⟩] []) (.skip))) (.seq (.region [⟨(some 82), .v (.move (.tmp 0)), none⟩, ⟨(some 83), .v (.nilCheck (.tmp 82)), none⟩, ⟨(some 84), .v (.fieldAddr 1 none (.tmp 83)), none⟩, ⟨(some 85), .v (.load none (.tmp 84)), none⟩, ⟨(some 86), .v (.bin .add (.tmp 85) (.const (.int .i64 1))), none⟩, ⟨(some 87), .v (.nilCheck (.tmp 82)), none⟩, ⟨(some 88), .v (.fieldAddr 1 none (.tmp 87)), none⟩, ⟨none, .e (.store 1 (.tmp 88) (.tmp 86)), none⟩] []) (.drawn [⟨(some 89), .v (.move (.tmp 7)), none⟩, ⟨(some 90), .v (.move (.tmp 0)), none⟩, ⟨(some 91), .v (.nilCheck (.tmp 90)), none⟩, ⟨(some 92), .v (.fieldAddr 0 none (.tmp 91)), none⟩, ⟨(some 93), .v (.load none (.tmp 92)), none⟩, ⟨(some 94), .v (.move (.tmp 8)), none⟩, ⟨(some 95), .v (.bin .add (.tmp 94) (.const (.int .i64 1))), none⟩, ⟨(some 96), .v (.move (.tmp 0)), none⟩, ⟨(some 97), .v (.nilCheck (.tmp 96)), none⟩, ⟨(some 98), .v (.fieldAddr 1 none (.tmp 97)), none⟩, ⟨(some 99), .v (.load none (.tmp 98)), none⟩, ⟨(some 100), .v (.sliceS (.tmp 93) (some (.tmp 95)) (some (.tmp 99))), none⟩, ⟨(some 101), .v (.build [(.int .i64 0), (.str []), (.int .i64 0), .nilsl, .nilsl] [(0, 1, (.const (.int .i64 1))), (1, 1, (.tmp 100))]), none⟩, ⟨(some 102), .call 19 [(.tmp 89), (.tmp 101)], none⟩, ⟨(some 7), .v (.move (.tmp 102)), none⟩] [7] []))) (.seq (.region [⟨(some 104), .v (.bin .eql (.tmp 54) (.const (.int .u8 36))), none⟩, ⟨(some 103), .v (.move (.tmp 104)), none⟩] [103]) (.cond (.tmp 103) (.region [⟨(some 105), .v (.move (.tmp 7)), none⟩, ⟨(some 106), .v (.move (.tmp 0)), none⟩, ⟨(some 107), .v (.move (.tmp 8)), none⟩, ⟨(some 108), .v (.move (.tmp 2)), none⟩, ⟨(some 109), .call 20 [(.tmp 106), (.tmp 107), (.tmp 108)], none⟩, ⟨(some 110), .call 19 [(.tmp 105), (.tmp 109)], none⟩, ⟨(some 7), .v (.move (.tmp 110)), none⟩] [7]) (.drawn [⟨(some 55), .v (.move (.tmp 7)), none⟩, ⟨(some 56), .v (.move (.tmp 0)), none⟩, ⟨(some 57), .v (.nilCheck (.tmp 56)), none⟩, ⟨(some 58), .v (.fieldAddr 0 none (.tmp 57)), none⟩, ⟨(some 59), .v (.load none (.tmp 58)), none⟩, ⟨(some 60), .v (.move (.tmp 8)), none⟩, ⟨(some 61), .v (.move (.tmp 0)), none⟩, ⟨(some 62), .v (.nilCheck (.tmp 61)), none⟩, ⟨(some 63), .v (.fieldAddr 1 none (.tmp 62)), none⟩, ⟨(some 64), .v (.load none (.tmp 63)), none⟩, ⟨(some 65), .v (.sliceS (.tmp 59) (some (.tmp 60)) (some (.tmp 64))), none⟩, ⟨(some 66), .v (.build [(.int .i64 0), (.str []), (.int .i64 0), .nilsl, .nilsl] [(0, 1, (.const (.int .i64 1))), (1, 1, (.tmp 65))]), none⟩, ⟨(some 67), .call 19 [(.tmp 55), (.tmp 66)], none⟩, ⟨(some 7), .v (.move (.tmp 67)), none⟩] [7] []))))))))))

set_option maxHeartbeats 4000000 in
theorem parts_loop (t : List UInt8) (gr : Int) (ht : t.length < 2 ^ 30) (n : Nat) (ends : List UInt8) (d : Nat) (hD : ∀ k, k < n → ∀ at' i, ∃ N, DollarAt t gr k at' d i N) :
    ∀ k, k ≤ n → ∀ i out res, partsM t gr k ends d i out = some res → i ≤ t.length → Small out i → ∃ N, ∀ L m, N ≤ L → N ≤ m → ∀ (b : Bar) (r g : Nat) (s s1 : Sg) (v x37 x8 x54 x68 x79 x103 : AV) (Q : Ex → Fr → Sg → Prop), b.w ≤ r → r < s.heap.length →
      On s r g (rd t i gr) s1 → Rep s.heap.length s1.heap v out →
      (∀ out' j v' s2 y37 y8 y54 y68 y79 y103, res = .ok (out', j) → j ≤ t.length → On s r g (rd t j gr) s2 → Rep s.heap.length s2.heap v' out' → Small out' j → Q (.exit 0) ⟨[(0, .ptr r g 0), (1, .str ends), (2, .int .i64 d), (6, .nilsl), (37, y37), (8, y8), (54, y54), (68, y68), (79, y79), (7, v'), (103, y103)], [], .off⟩ s2) →
      (∀ (a j : Nat) pers s2, res = .error a → On s r g (rd t j gr) s2 → Q (.panic (.iface 48 (.int .i64 a))) ⟨pers, [], .off⟩ s2) →
      OkL L (fun fr s => ACode.run (loopN m) (callF T m) b lp14_0 fr s) ⟨[(0, .ptr r g 0), (1, .str ends), (2, .int .i64 d), (6, .nilsl), (37, x37), (8, x8), (54, x54), (68, x68), (79, x79), (7, v), (103, x103)], [], .off⟩ s1 Q := by
  intro k
  induction k with
  | zero => intro _ i out res h; simp [partsM] at h
  | succ k ih =>
    intro hk i out res hres hi hsm
    simp only [partsM] at hres
    cases hc : t[i]? with
    | none =>
      simp only [hc, Option.some.injEq] at hres
      subst hres
      have h1 : t.length ≤ i := by simpa using hc
      refine ⟨20, ?_⟩
      intro L m hL hm b r g s s1 v x37 x8 x54 x68 x79 x103 Q hw rl hon hrep hok hbad
      obtain ⟨L, rfl⟩ : ∃ L', L = L' + 1 := ⟨L - 1, by omega⟩
      have hg := hon.get rl
      apply l_round
      ((repeat refine c_seq ?_); refine c_drawn ?_; (repeat (first | ((first | apply o_move rfl rfl | apply o_easy1 rfl rfl rfl | apply o_ld rfl rfl (by assumption) (by first | rfl | assumption)); conv => lhs; whnf) | refine o_no rfl ?_ | refine o_add rfl rfl rfl (by omega) (by omega) ?_ | refine o_sub rfl rfl rfl (by omega) (by omega) ?_ | refine o_mul rfl rfl rfl (by omega) (by omega) ?_ | refine o_sadd rfl rfl rfl (by omega) ?_ | refine o_seql_t rfl rfl rfl (by assumption) ?_ | refine o_seql_f rfl rfl rfl (by assumption) ?_ | refine o_ct rfl rfl rfl (by dsimp only [cmpP]; omega) ?_ | refine o_cf rfl rfl rfl (by dsimp only [cmpN]; omega) ?_ | (apply o_easy rfl rfl rfl; conv => lhs; whnf) | refine o_non rfl ?_)); apply d_end rfl; (repeat (first | exact OutS.nil | exact GetS.hit | exact PutS.hit | apply GetS.miss rfl | apply PutS.miss rfl | apply OutS.cons | apply OutS.skip rfl)))
      ((repeat refine c_seq ?_); refine c_else rfl ?_)
      exact c_exit (hok _ _ _ _ _ _ _ _ _ _ rfl hi hon hrep hsm)
    | some c =>
      have h1 : i < t.length := lt_of_getElem? hc
      have hone : (t.drop i).take (i + 1 - i) = [c] := by
        rw [show i + 1 - i = 1 by omega, List.drop_eq_getElem_cons h1]
        have : t[i] = c := by
          have := List.getElem?_eq_getElem h1
          rw [hc] at this
          exact (Option.some.inj this).symm
        simp [this]
      simp only [hc] at hres
      by_cases hend : c ∈ ends
      · rw [if_pos hend] at hres
        cases hres
        refine ⟨20, ?_⟩
        intro L m hL hm b r g s s1 v x37 x8 x54 x68 x79 x103 Q hw rl hon hrep hok hbad
        obtain ⟨L, rfl⟩ : ∃ L', L = L' + 1 := ⟨L - 1, by omega⟩
        obtain ⟨m, rfl⟩ : ∃ m', m = m' + 10 := ⟨m - 10, by omega⟩
        have hg := hon.get rl
        apply l_round
        ((repeat refine c_seq ?_); refine c_drawn ?_; (repeat (first | ((first | apply o_move rfl rfl | apply o_easy1 rfl rfl rfl | apply o_ld rfl rfl (by assumption) (by first | rfl | assumption)); conv => lhs; whnf) | refine o_no rfl ?_ | refine o_add rfl rfl rfl (by omega) (by omega) ?_ | refine o_sub rfl rfl rfl (by omega) (by omega) ?_ | refine o_mul rfl rfl rfl (by omega) (by omega) ?_ | refine o_sadd rfl rfl rfl (by omega) ?_ | refine o_seql_t rfl rfl rfl (by assumption) ?_ | refine o_seql_f rfl rfl rfl (by assumption) ?_ | refine o_ct rfl rfl rfl (by dsimp only [cmpP]; omega) ?_ | refine o_cf rfl rfl rfl (by dsimp only [cmpN]; omega) ?_ | (apply o_easy rfl rfl rfl; conv => lhs; whnf) | refine o_non rfl ?_)))
        refine o_slS2 (i := i) (j := i + 1) rfl rfl rfl rfl rfl rfl (by omega) (by omega) hone ?_
        refine o_call rfl rfl (contains_spec (m + 5) _ ends c s1) ?_
        rw [decide_eq_true hend]
        (repeat (first | ((first | apply o_move rfl rfl | apply o_easy1 rfl rfl rfl | apply o_ld rfl rfl (by assumption) (by first | rfl | assumption)); conv => lhs; whnf) | refine o_no rfl ?_ | refine o_add rfl rfl rfl (by omega) (by omega) ?_ | refine o_sub rfl rfl rfl (by omega) (by omega) ?_ | refine o_mul rfl rfl rfl (by omega) (by omega) ?_ | refine o_sadd rfl rfl rfl (by omega) ?_ | refine o_seql_t rfl rfl rfl (by assumption) ?_ | refine o_seql_f rfl rfl rfl (by assumption) ?_ | refine o_ct rfl rfl rfl (by dsimp only [cmpP]; omega) ?_ | refine o_cf rfl rfl rfl (by dsimp only [cmpN]; omega) ?_ | (apply o_easy rfl rfl rfl; conv => lhs; whnf) | refine o_non rfl ?_))
        (apply d_end rfl; (repeat (first | exact OutS.nil | exact GetS.hit | exact PutS.hit | apply GetS.miss rfl | apply PutS.miss rfl | apply OutS.cons | apply OutS.skip rfl)))
        ((repeat refine c_seq ?_); refine c_else rfl ?_)
        exact c_exit (hok _ _ _ _ _ _ _ _ _ _ rfl hi hon hrep hsm)
      · rw [if_neg hend] at hres
        have hl32 : (0:Nat) < 2 ^ 30 := by omega
        by_cases h92 : c.toNat = 92
        · rw [if_pos h92] at hres
          cases he : t[i + 1]? with
          | none =>
            simp only [he, Option.some.injEq] at hres
            subst hres
            have h2 : t.length ≤ i + 1 := by simpa using he
            refine ⟨20, ?_⟩
            intro L m hL hm b r g s s1 v x37 x8 x54 x68 x79 x103 Q hw rl hon hrep hok hbad
            obtain ⟨L, rfl⟩ : ∃ L', L = L' + 1 := ⟨L - 1, by omega⟩
            obtain ⟨m, rfl⟩ : ∃ m', m = m' + 10 := ⟨m - 10, by omega⟩
            have hg := hon.get rl
            apply l_round
            ((repeat refine c_seq ?_); refine c_drawn ?_; (repeat (first | ((first | apply o_move rfl rfl | apply o_easy1 rfl rfl rfl | apply o_ld rfl rfl (by assumption) (by first | rfl | assumption)); conv => lhs; whnf) | refine o_no rfl ?_ | refine o_add rfl rfl rfl (by omega) (by omega) ?_ | refine o_sub rfl rfl rfl (by omega) (by omega) ?_ | refine o_mul rfl rfl rfl (by omega) (by omega) ?_ | refine o_sadd rfl rfl rfl (by omega) ?_ | refine o_seql_t rfl rfl rfl (by assumption) ?_ | refine o_seql_f rfl rfl rfl (by assumption) ?_ | refine o_ct rfl rfl rfl (by dsimp only [cmpP]; omega) ?_ | refine o_cf rfl rfl rfl (by dsimp only [cmpN]; omega) ?_ | (apply o_easy rfl rfl rfl; conv => lhs; whnf) | refine o_non rfl ?_)))
            refine o_slS2 (i := i) (j := i + 1) rfl rfl rfl rfl rfl rfl (by omega) (by omega) hone ?_
            refine o_call rfl rfl (contains_spec (m + 5) _ ends c s1) ?_
            rw [decide_eq_false hend]
            (repeat (first | ((first | apply o_move rfl rfl | apply o_easy1 rfl rfl rfl | apply o_ld rfl rfl (by assumption) (by first | rfl | assumption)); conv => lhs; whnf) | refine o_no rfl ?_ | refine o_add rfl rfl rfl (by omega) (by omega) ?_ | refine o_sub rfl rfl rfl (by omega) (by omega) ?_ | refine o_mul rfl rfl rfl (by omega) (by omega) ?_ | refine o_sadd rfl rfl rfl (by omega) ?_ | refine o_seql_t rfl rfl rfl (by assumption) ?_ | refine o_seql_f rfl rfl rfl (by assumption) ?_ | refine o_ct rfl rfl rfl (by dsimp only [cmpP]; omega) ?_ | refine o_cf rfl rfl rfl (by dsimp only [cmpN]; omega) ?_ | (apply o_easy rfl rfl rfl; conv => lhs; whnf) | refine o_non rfl ?_))
            (apply d_end rfl; (repeat (first | exact OutS.nil | exact GetS.hit | exact PutS.hit | apply GetS.miss rfl | apply PutS.miss rfl | apply OutS.cons | apply OutS.skip rfl)))
            ((repeat refine c_seq ?_); refine c_if rfl ?_)
            refine c_skip ?_
            ((repeat refine c_seq ?_); refine c_block ?_)
            ((repeat refine c_seq ?_); refine c_region ?_; (repeat (first | ((first | apply o_move rfl rfl | apply o_easy1 rfl rfl rfl | apply o_ld rfl rfl (by assumption) (by first | rfl | assumption)); conv => lhs; whnf) | refine o_no rfl ?_ | refine o_add rfl rfl rfl (by omega) (by omega) ?_ | refine o_sub rfl rfl rfl (by omega) (by omega) ?_ | refine o_mul rfl rfl rfl (by omega) (by omega) ?_ | refine o_sadd rfl rfl rfl (by omega) ?_ | refine o_seql_t rfl rfl rfl (by assumption) ?_ | refine o_seql_f rfl rfl rfl (by assumption) ?_ | refine o_ct rfl rfl rfl (by dsimp only [cmpP]; omega) ?_ | refine o_cf rfl rfl rfl (by dsimp only [cmpN]; omega) ?_ | (apply o_easy rfl rfl rfl; conv => lhs; whnf) | refine o_non rfl ?_)); apply o_end; (repeat (first | exact OutS.nil | exact GetS.hit | exact PutS.hit | apply GetS.miss rfl | apply PutS.miss rfl | apply OutS.cons | apply OutS.skip rfl)))
            ((repeat refine c_seq ?_); refine c_region ?_; (repeat (first | ((first | apply o_move rfl rfl | apply o_easy1 rfl rfl rfl | apply o_ld rfl rfl (by assumption) (by first | rfl | assumption)); conv => lhs; whnf) | refine o_no rfl ?_ | refine o_add rfl rfl rfl (by omega) (by omega) ?_ | refine o_sub rfl rfl rfl (by omega) (by omega) ?_ | refine o_mul rfl rfl rfl (by omega) (by omega) ?_ | refine o_sadd rfl rfl rfl (by omega) ?_ | refine o_seql_t rfl rfl rfl (by assumption) ?_ | refine o_seql_f rfl rfl rfl (by assumption) ?_ | refine o_ct rfl rfl rfl (by dsimp only [cmpP]; omega) ?_ | refine o_cf rfl rfl rfl (by dsimp only [cmpN]; omega) ?_ | (apply o_easy rfl rfl rfl; conv => lhs; whnf) | refine o_non rfl ?_)))
            refine o_st rfl rfl rfl rfl hg rfl (lets_of (blt_no hw) (fun e => rfl)) (cs' := rd t (i + 1) gr) rfl ?_
            (apply o_end; (repeat (first | exact OutS.nil | exact GetS.hit | exact PutS.hit | apply GetS.miss rfl | apply PutS.miss rfl | apply OutS.cons | apply OutS.skip rfl)))
            have hgA := getCells_put (cs' := rd t (i + 1) gr) (g' := g) hg
            ((repeat refine c_seq ?_); refine c_region ?_; (repeat (first | ((first | apply o_move rfl rfl | apply o_easy1 rfl rfl rfl | apply o_ld rfl rfl (by assumption) (by first | rfl | assumption)); conv => lhs; whnf) | refine o_no rfl ?_ | refine o_add rfl rfl rfl (by omega) (by omega) ?_ | refine o_sub rfl rfl rfl (by omega) (by omega) ?_ | refine o_mul rfl rfl rfl (by omega) (by omega) ?_ | refine o_sadd rfl rfl rfl (by omega) ?_ | refine o_seql_t rfl rfl rfl (by assumption) ?_ | refine o_seql_f rfl rfl rfl (by assumption) ?_ | refine o_ct rfl rfl rfl (by dsimp only [cmpP]; omega) ?_ | refine o_cf rfl rfl rfl (by dsimp only [cmpN]; omega) ?_ | (apply o_easy rfl rfl rfl; conv => lhs; whnf) | refine o_non rfl ?_)))
            refine o_idxS (j := i) rfl rfl rfl rfl hc ?_
            (apply o_end; (repeat (first | exact OutS.nil | exact GetS.hit | exact PutS.hit | apply GetS.miss rfl | apply PutS.miss rfl | apply OutS.cons | apply OutS.skip rfl)))
            ((repeat refine c_seq ?_); refine c_block ?_)
            ((repeat refine c_seq ?_); refine c_region ?_; (repeat (first | ((first | apply o_move rfl rfl | apply o_easy1 rfl rfl rfl | apply o_ld rfl rfl (by assumption) (by first | rfl | assumption)); conv => lhs; whnf) | refine o_no rfl ?_ | refine o_add rfl rfl rfl (by omega) (by omega) ?_ | refine o_sub rfl rfl rfl (by omega) (by omega) ?_ | refine o_mul rfl rfl rfl (by omega) (by omega) ?_ | refine o_sadd rfl rfl rfl (by omega) ?_ | refine o_seql_t rfl rfl rfl (by assumption) ?_ | refine o_seql_f rfl rfl rfl (by assumption) ?_ | refine o_ct rfl rfl rfl (by dsimp only [cmpP]; omega) ?_ | refine o_cf rfl rfl rfl (by dsimp only [cmpN]; omega) ?_ | (apply o_easy rfl rfl rfl; conv => lhs; whnf) | refine o_non rfl ?_)); apply o_end; (repeat (first | exact OutS.nil | exact GetS.hit | exact PutS.hit | apply GetS.miss rfl | apply PutS.miss rfl | apply OutS.cons | apply OutS.skip rfl)))
            ((repeat refine c_seq ?_); refine c_if rfl ?_)
            ((repeat refine c_seq ?_); refine c_drawn ?_; (repeat (first | ((first | apply o_move rfl rfl | apply o_easy1 rfl rfl rfl | apply o_ld rfl rfl (by assumption) (by first | rfl | assumption)); conv => lhs; whnf) | refine o_no rfl ?_ | refine o_add rfl rfl rfl (by omega) (by omega) ?_ | refine o_sub rfl rfl rfl (by omega) (by omega) ?_ | refine o_mul rfl rfl rfl (by omega) (by omega) ?_ | refine o_sadd rfl rfl rfl (by omega) ?_ | refine o_seql_t rfl rfl rfl (by assumption) ?_ | refine o_seql_f rfl rfl rfl (by assumption) ?_ | refine o_ct rfl rfl rfl (by dsimp only [cmpP]; omega) ?_ | refine o_cf rfl rfl rfl (by dsimp only [cmpN]; omega) ?_ | (apply o_easy rfl rfl rfl; conv => lhs; whnf) | refine o_non rfl ?_)); apply d_end rfl; (repeat (first | exact OutS.nil | exact GetS.hit | exact PutS.hit | apply GetS.miss rfl | apply PutS.miss rfl | apply OutS.cons | apply OutS.skip rfl)))
            ((repeat refine c_seq ?_); refine c_if rfl ?_)
            ((repeat refine c_seq ?_); refine c_region ?_; (repeat (first | ((first | apply o_move rfl rfl | apply o_easy1 rfl rfl rfl | apply o_ld rfl rfl (by assumption) (by first | rfl | assumption)); conv => lhs; whnf) | refine o_no rfl ?_ | refine o_add rfl rfl rfl (by omega) (by omega) ?_ | refine o_sub rfl rfl rfl (by omega) (by omega) ?_ | refine o_mul rfl rfl rfl (by omega) (by omega) ?_ | refine o_sadd rfl rfl rfl (by omega) ?_ | refine o_seql_t rfl rfl rfl (by assumption) ?_ | refine o_seql_f rfl rfl rfl (by assumption) ?_ | refine o_ct rfl rfl rfl (by dsimp only [cmpP]; omega) ?_ | refine o_cf rfl rfl rfl (by dsimp only [cmpN]; omega) ?_ | (apply o_easy rfl rfl rfl; conv => lhs; whnf) | refine o_non rfl ?_)))
            refine o_panic rfl rfl ?_
            exact hbad i _ _ _ rfl (hon.putr (rd t (i + 1) gr) g)
          | some e =>
            simp only [he] at hres
            have h2 : i + 1 < t.length := lt_of_getElem? he
            have honee : (t.drop (i + 1)).take (i + 2 - (i + 1)) = [e] := by
              rw [show i + 2 - (i + 1) = 1 by omega, List.drop_eq_getElem_cons h2]
              have : t[i + 1] = e := by
                have := List.getElem?_eq_getElem h2
                rw [he] at this
                exact (Option.some.inj this).symm
              simp [this]
            obtain ⟨N, hN⟩ := ih (by omega) _ _ _ hres (by omega) (hsm.add (by omega) (Nat.le_refl 1))
            refine ⟨N + 20, ?_⟩
            intro L m hL hm b r g s s1 v x37 x8 x54 x68 x79 x103 Q hw rl hon hrep hok hbad
            obtain ⟨L, rfl⟩ : ∃ L', L = L' + 1 := ⟨L - 1, by omega⟩
            obtain ⟨m, rfl⟩ : ∃ m', m = m' + 10 := ⟨m - 10, by omega⟩
            have hg := hon.get rl
            apply l_round
            ((repeat refine c_seq ?_); refine c_drawn ?_; (repeat (first | ((first | apply o_move rfl rfl | apply o_easy1 rfl rfl rfl | apply o_ld rfl rfl (by assumption) (by first | rfl | assumption)); conv => lhs; whnf) | refine o_no rfl ?_ | refine o_add rfl rfl rfl (by omega) (by omega) ?_ | refine o_sub rfl rfl rfl (by omega) (by omega) ?_ | refine o_mul rfl rfl rfl (by omega) (by omega) ?_ | refine o_sadd rfl rfl rfl (by omega) ?_ | refine o_seql_t rfl rfl rfl (by assumption) ?_ | refine o_seql_f rfl rfl rfl (by assumption) ?_ | refine o_ct rfl rfl rfl (by dsimp only [cmpP]; omega) ?_ | refine o_cf rfl rfl rfl (by dsimp only [cmpN]; omega) ?_ | (apply o_easy rfl rfl rfl; conv => lhs; whnf) | refine o_non rfl ?_)))
            refine o_slS2 (i := i) (j := i + 1) rfl rfl rfl rfl rfl rfl (by omega) (by omega) hone ?_
            refine o_call rfl rfl (contains_spec (m + 5) _ ends c s1) ?_
            rw [decide_eq_false hend]
            (repeat (first | ((first | apply o_move rfl rfl | apply o_easy1 rfl rfl rfl | apply o_ld rfl rfl (by assumption) (by first | rfl | assumption)); conv => lhs; whnf) | refine o_no rfl ?_ | refine o_add rfl rfl rfl (by omega) (by omega) ?_ | refine o_sub rfl rfl rfl (by omega) (by omega) ?_ | refine o_mul rfl rfl rfl (by omega) (by omega) ?_ | refine o_sadd rfl rfl rfl (by omega) ?_ | refine o_seql_t rfl rfl rfl (by assumption) ?_ | refine o_seql_f rfl rfl rfl (by assumption) ?_ | refine o_ct rfl rfl rfl (by dsimp only [cmpP]; omega) ?_ | refine o_cf rfl rfl rfl (by dsimp only [cmpN]; omega) ?_ | (apply o_easy rfl rfl rfl; conv => lhs; whnf) | refine o_non rfl ?_))
            (apply d_end rfl; (repeat (first | exact OutS.nil | exact GetS.hit | exact PutS.hit | apply GetS.miss rfl | apply PutS.miss rfl | apply OutS.cons | apply OutS.skip rfl)))
            ((repeat refine c_seq ?_); refine c_if rfl ?_)
            refine c_skip ?_
            ((repeat refine c_seq ?_); refine c_block ?_)
            ((repeat refine c_seq ?_); refine c_region ?_; (repeat (first | ((first | apply o_move rfl rfl | apply o_easy1 rfl rfl rfl | apply o_ld rfl rfl (by assumption) (by first | rfl | assumption)); conv => lhs; whnf) | refine o_no rfl ?_ | refine o_add rfl rfl rfl (by omega) (by omega) ?_ | refine o_sub rfl rfl rfl (by omega) (by omega) ?_ | refine o_mul rfl rfl rfl (by omega) (by omega) ?_ | refine o_sadd rfl rfl rfl (by omega) ?_ | refine o_seql_t rfl rfl rfl (by assumption) ?_ | refine o_seql_f rfl rfl rfl (by assumption) ?_ | refine o_ct rfl rfl rfl (by dsimp only [cmpP]; omega) ?_ | refine o_cf rfl rfl rfl (by dsimp only [cmpN]; omega) ?_ | (apply o_easy rfl rfl rfl; conv => lhs; whnf) | refine o_non rfl ?_)); apply o_end; (repeat (first | exact OutS.nil | exact GetS.hit | exact PutS.hit | apply GetS.miss rfl | apply PutS.miss rfl | apply OutS.cons | apply OutS.skip rfl)))
            ((repeat refine c_seq ?_); refine c_region ?_; (repeat (first | ((first | apply o_move rfl rfl | apply o_easy1 rfl rfl rfl | apply o_ld rfl rfl (by assumption) (by first | rfl | assumption)); conv => lhs; whnf) | refine o_no rfl ?_ | refine o_add rfl rfl rfl (by omega) (by omega) ?_ | refine o_sub rfl rfl rfl (by omega) (by omega) ?_ | refine o_mul rfl rfl rfl (by omega) (by omega) ?_ | refine o_sadd rfl rfl rfl (by omega) ?_ | refine o_seql_t rfl rfl rfl (by assumption) ?_ | refine o_seql_f rfl rfl rfl (by assumption) ?_ | refine o_ct rfl rfl rfl (by dsimp only [cmpP]; omega) ?_ | refine o_cf rfl rfl rfl (by dsimp only [cmpN]; omega) ?_ | (apply o_easy rfl rfl rfl; conv => lhs; whnf) | refine o_non rfl ?_)))
            refine o_st rfl rfl rfl rfl hg rfl (lets_of (blt_no hw) (fun e => rfl)) (cs' := rd t (i + 1) gr) rfl ?_
            (apply o_end; (repeat (first | exact OutS.nil | exact GetS.hit | exact PutS.hit | apply GetS.miss rfl | apply PutS.miss rfl | apply OutS.cons | apply OutS.skip rfl)))
            have hgA := getCells_put (cs' := rd t (i + 1) gr) (g' := g) hg
            ((repeat refine c_seq ?_); refine c_region ?_; (repeat (first | ((first | apply o_move rfl rfl | apply o_easy1 rfl rfl rfl | apply o_ld rfl rfl (by assumption) (by first | rfl | assumption)); conv => lhs; whnf) | refine o_no rfl ?_ | refine o_add rfl rfl rfl (by omega) (by omega) ?_ | refine o_sub rfl rfl rfl (by omega) (by omega) ?_ | refine o_mul rfl rfl rfl (by omega) (by omega) ?_ | refine o_sadd rfl rfl rfl (by omega) ?_ | refine o_seql_t rfl rfl rfl (by assumption) ?_ | refine o_seql_f rfl rfl rfl (by assumption) ?_ | refine o_ct rfl rfl rfl (by dsimp only [cmpP]; omega) ?_ | refine o_cf rfl rfl rfl (by dsimp only [cmpN]; omega) ?_ | (apply o_easy rfl rfl rfl; conv => lhs; whnf) | refine o_non rfl ?_)))
            refine o_idxS (j := i) rfl rfl rfl rfl hc ?_
            (apply o_end; (repeat (first | exact OutS.nil | exact GetS.hit | exact PutS.hit | apply GetS.miss rfl | apply PutS.miss rfl | apply OutS.cons | apply OutS.skip rfl)))
            ((repeat refine c_seq ?_); refine c_block ?_)
            ((repeat refine c_seq ?_); refine c_region ?_; (repeat (first | ((first | apply o_move rfl rfl | apply o_easy1 rfl rfl rfl | apply o_ld rfl rfl (by assumption) (by first | rfl | assumption)); conv => lhs; whnf) | refine o_no rfl ?_ | refine o_add rfl rfl rfl (by omega) (by omega) ?_ | refine o_sub rfl rfl rfl (by omega) (by omega) ?_ | refine o_mul rfl rfl rfl (by omega) (by omega) ?_ | refine o_sadd rfl rfl rfl (by omega) ?_ | refine o_seql_t rfl rfl rfl (by assumption) ?_ | refine o_seql_f rfl rfl rfl (by assumption) ?_ | refine o_ct rfl rfl rfl (by dsimp only [cmpP]; omega) ?_ | refine o_cf rfl rfl rfl (by dsimp only [cmpN]; omega) ?_ | (apply o_easy rfl rfl rfl; conv => lhs; whnf) | refine o_non rfl ?_)); apply o_end; (repeat (first | exact OutS.nil | exact GetS.hit | exact PutS.hit | apply GetS.miss rfl | apply PutS.miss rfl | apply OutS.cons | apply OutS.skip rfl)))
            ((repeat refine c_seq ?_); refine c_if rfl ?_)
            ((repeat refine c_seq ?_); refine c_drawn ?_; (repeat (first | ((first | apply o_move rfl rfl | apply o_easy1 rfl rfl rfl | apply o_ld rfl rfl (by assumption) (by first | rfl | assumption)); conv => lhs; whnf) | refine o_no rfl ?_ | refine o_add rfl rfl rfl (by omega) (by omega) ?_ | refine o_sub rfl rfl rfl (by omega) (by omega) ?_ | refine o_mul rfl rfl rfl (by omega) (by omega) ?_ | refine o_sadd rfl rfl rfl (by omega) ?_ | refine o_seql_t rfl rfl rfl (by assumption) ?_ | refine o_seql_f rfl rfl rfl (by assumption) ?_ | refine o_ct rfl rfl rfl (by dsimp only [cmpP]; omega) ?_ | refine o_cf rfl rfl rfl (by dsimp only [cmpN]; omega) ?_ | (apply o_easy rfl rfl rfl; conv => lhs; whnf) | refine o_non rfl ?_)); apply d_end rfl; (repeat (first | exact OutS.nil | exact GetS.hit | exact PutS.hit | apply GetS.miss rfl | apply PutS.miss rfl | apply OutS.cons | apply OutS.skip rfl)))
            ((repeat refine c_seq ?_); refine c_else rfl ?_)
            refine c_skip ?_
            ((repeat refine c_seq ?_); refine c_region ?_; (repeat (first | ((first | apply o_move rfl rfl | apply o_easy1 rfl rfl rfl | apply o_ld rfl rfl (by assumption) (by first | rfl | assumption)); conv => lhs; whnf) | refine o_no rfl ?_ | refine o_add rfl rfl rfl (by omega) (by omega) ?_ | refine o_sub rfl rfl rfl (by omega) (by omega) ?_ | refine o_mul rfl rfl rfl (by omega) (by omega) ?_ | refine o_sadd rfl rfl rfl (by omega) ?_ | refine o_seql_t rfl rfl rfl (by assumption) ?_ | refine o_seql_f rfl rfl rfl (by assumption) ?_ | refine o_ct rfl rfl rfl (by dsimp only [cmpP]; omega) ?_ | refine o_cf rfl rfl rfl (by dsimp only [cmpN]; omega) ?_ | (apply o_easy rfl rfl rfl; conv => lhs; whnf) | refine o_non rfl ?_)))
            have hg2 := getCells_put (cs' := rd t (i + 1) gr) (g' := g) hg
            refine o_st rfl rfl rfl rfl hg2 rfl (lets_of (blt_no hw) (fun e => rfl)) (cs' := rd t (i + 2) gr) rfl ?_
            rw [Sg.put_put]
            (apply o_end; (repeat (first | exact OutS.nil | exact GetS.hit | exact PutS.hit | apply GetS.miss rfl | apply PutS.miss rfl | apply OutS.cons | apply OutS.skip rfl)))
            have hg3 := getCells_put (cs' := rd t (i + 2) gr) (g' := g) hg
            have hon3 := hon.putr (rd t (i + 2) gr) g
            have hrep3 : Rep s.heap.length (s1.put r (.cells (rd t (i + 2) gr) g)).heap v out := hrep.same (fun o ho _ => Sg.put_get _ _ _ (by omega))
            generalize s1.put r (.cells (rd t (i + 2) gr) g) = s3 at hg3 hon3 hrep3 ⊢
            ((repeat refine c_seq ?_); refine c_drawn ?_; (repeat (first | ((first | apply o_move rfl rfl | apply o_easy1 rfl rfl rfl | apply o_ld rfl rfl (by assumption) (by first | rfl | assumption)); conv => lhs; whnf) | refine o_no rfl ?_ | refine o_add rfl rfl rfl (by omega) (by omega) ?_ | refine o_sub rfl rfl rfl (by omega) (by omega) ?_ | refine o_mul rfl rfl rfl (by omega) (by omega) ?_ | refine o_sadd rfl rfl rfl (by omega) ?_ | refine o_seql_t rfl rfl rfl (by assumption) ?_ | refine o_seql_f rfl rfl rfl (by assumption) ?_ | refine o_ct rfl rfl rfl (by dsimp only [cmpP]; omega) ?_ | refine o_cf rfl rfl rfl (by dsimp only [cmpN]; omega) ?_ | (apply o_easy rfl rfl rfl; conv => lhs; whnf) | refine o_non rfl ?_)))
            refine o_move rfl hrep.defd rfl ?_
            (repeat (first | ((first | apply o_move rfl rfl | apply o_easy1 rfl rfl rfl | apply o_ld rfl rfl (by assumption) (by first | rfl | assumption)); conv => lhs; whnf) | refine o_no rfl ?_ | refine o_add rfl rfl rfl (by omega) (by omega) ?_ | refine o_sub rfl rfl rfl (by omega) (by omega) ?_ | refine o_mul rfl rfl rfl (by omega) (by omega) ?_ | refine o_sadd rfl rfl rfl (by omega) ?_ | refine o_seql_t rfl rfl rfl (by assumption) ?_ | refine o_seql_f rfl rfl rfl (by assumption) ?_ | refine o_ct rfl rfl rfl (by dsimp only [cmpP]; omega) ?_ | refine o_cf rfl rfl rfl (by dsimp only [cmpN]; omega) ?_ | (apply o_easy rfl rfl rfl; conv => lhs; whnf) | refine o_non rfl ?_))
            refine o_slS2 (i := i + 1) (j := i + 2) rfl rfl rfl rfl rfl rfl (by omega) (by omega) honee ?_
            (repeat (first | ((first | apply o_move rfl rfl | apply o_easy1 rfl rfl rfl | apply o_ld rfl rfl (by assumption) (by first | rfl | assumption)); conv => lhs; whnf) | refine o_no rfl ?_ | refine o_add rfl rfl rfl (by omega) (by omega) ?_ | refine o_sub rfl rfl rfl (by omega) (by omega) ?_ | refine o_mul rfl rfl rfl (by omega) (by omega) ?_ | refine o_sadd rfl rfl rfl (by omega) ?_ | refine o_seql_t rfl rfl rfl (by assumption) ?_ | refine o_seql_f rfl rfl rfl (by assumption) ?_ | refine o_ct rfl rfl rfl (by dsimp only [cmpP]; omega) ?_ | refine o_cf rfl rfl rfl (by dsimp only [cmpN]; omega) ?_ | (apply o_easy rfl rfl rfl; conv => lhs; whnf) | refine o_non rfl ?_))
            refine o_callw (l := [v, .agg (Tp.lit [e]).cells]) rfl (evAll2 hrep.defd rfl) ((add_spec (m + 9) b s3 s.heap.length v out (.lit [e]) hon3.len (by omega) hrep3 (by have := hsm.1; omega) (by simp [Tp.text]) (fun q hq => by have := hsm.2 q hq; omega)).mono ?_)
            rintro o s4 ⟨v', rfl, hrep4, hold4, hlen4, _⟩
            refine o_move rfl hrep4.defd rfl ?_
            (apply d_end rfl; (repeat (first | exact OutS.nil | exact GetS.hit | exact PutS.hit | apply GetS.miss rfl | apply PutS.miss rfl | apply OutS.cons | apply OutS.skip rfl)))
            exact hN L (m + 10) (by omega) (by omega) b r g s s4 v' _ _ _ _ _ _ Q hw rl (hon3.same hlen4 hold4) hrep4 hok hbad
        · rw [if_neg h92] at hres
          by_cases h36 : c.toNat = 36
          · rw [if_pos h36] at hres
            obtain ⟨ND, hND⟩ := hD k (by omega) i (i + 1)
            cases hd : dollarM t gr k i d (i + 1) with
            | none => simp [hd] at hres
            | some rd' =>
              cases rd' with
              | error a =>
                simp only [hd, Option.some.injEq] at hres
                subst hres
                refine ⟨ND + 20, ?_⟩
                intro L m hL hm b r g s s1 v x37 x8 x54 x68 x79 x103 Q hw rl hon hrep hok hbad
                obtain ⟨L, rfl⟩ : ∃ L', L = L' + 1 := ⟨L - 1, by omega⟩
                obtain ⟨m, rfl⟩ : ∃ m', m = m' + 10 := ⟨m - 10, by omega⟩
                have hg := hon.get rl
                apply l_round
                ((repeat refine c_seq ?_); refine c_drawn ?_; (repeat (first | ((first | apply o_move rfl rfl | apply o_easy1 rfl rfl rfl | apply o_ld rfl rfl (by assumption) (by first | rfl | assumption)); conv => lhs; whnf) | refine o_no rfl ?_ | refine o_add rfl rfl rfl (by omega) (by omega) ?_ | refine o_sub rfl rfl rfl (by omega) (by omega) ?_ | refine o_mul rfl rfl rfl (by omega) (by omega) ?_ | refine o_sadd rfl rfl rfl (by omega) ?_ | refine o_seql_t rfl rfl rfl (by assumption) ?_ | refine o_seql_f rfl rfl rfl (by assumption) ?_ | refine o_ct rfl rfl rfl (by dsimp only [cmpP]; omega) ?_ | refine o_cf rfl rfl rfl (by dsimp only [cmpN]; omega) ?_ | (apply o_easy rfl rfl rfl; conv => lhs; whnf) | refine o_non rfl ?_)))
                refine o_slS2 (i := i) (j := i + 1) rfl rfl rfl rfl rfl rfl (by omega) (by omega) hone ?_
                refine o_call rfl rfl (contains_spec (m + 5) _ ends c s1) ?_
                rw [decide_eq_false hend]
                (repeat (first | ((first | apply o_move rfl rfl | apply o_easy1 rfl rfl rfl | apply o_ld rfl rfl (by assumption) (by first | rfl | assumption)); conv => lhs; whnf) | refine o_no rfl ?_ | refine o_add rfl rfl rfl (by omega) (by omega) ?_ | refine o_sub rfl rfl rfl (by omega) (by omega) ?_ | refine o_mul rfl rfl rfl (by omega) (by omega) ?_ | refine o_sadd rfl rfl rfl (by omega) ?_ | refine o_seql_t rfl rfl rfl (by assumption) ?_ | refine o_seql_f rfl rfl rfl (by assumption) ?_ | refine o_ct rfl rfl rfl (by dsimp only [cmpP]; omega) ?_ | refine o_cf rfl rfl rfl (by dsimp only [cmpN]; omega) ?_ | (apply o_easy rfl rfl rfl; conv => lhs; whnf) | refine o_non rfl ?_))
                (apply d_end rfl; (repeat (first | exact OutS.nil | exact GetS.hit | exact PutS.hit | apply GetS.miss rfl | apply PutS.miss rfl | apply OutS.cons | apply OutS.skip rfl)))
                ((repeat refine c_seq ?_); refine c_if rfl ?_)
                refine c_skip ?_
                ((repeat refine c_seq ?_); refine c_block ?_)
                ((repeat refine c_seq ?_); refine c_region ?_; (repeat (first | ((first | apply o_move rfl rfl | apply o_easy1 rfl rfl rfl | apply o_ld rfl rfl (by assumption) (by first | rfl | assumption)); conv => lhs; whnf) | refine o_no rfl ?_ | refine o_add rfl rfl rfl (by omega) (by omega) ?_ | refine o_sub rfl rfl rfl (by omega) (by omega) ?_ | refine o_mul rfl rfl rfl (by omega) (by omega) ?_ | refine o_sadd rfl rfl rfl (by omega) ?_ | refine o_seql_t rfl rfl rfl (by assumption) ?_ | refine o_seql_f rfl rfl rfl (by assumption) ?_ | refine o_ct rfl rfl rfl (by dsimp only [cmpP]; omega) ?_ | refine o_cf rfl rfl rfl (by dsimp only [cmpN]; omega) ?_ | (apply o_easy rfl rfl rfl; conv => lhs; whnf) | refine o_non rfl ?_)); apply o_end; (repeat (first | exact OutS.nil | exact GetS.hit | exact PutS.hit | apply GetS.miss rfl | apply PutS.miss rfl | apply OutS.cons | apply OutS.skip rfl)))
                ((repeat refine c_seq ?_); refine c_region ?_; (repeat (first | ((first | apply o_move rfl rfl | apply o_easy1 rfl rfl rfl | apply o_ld rfl rfl (by assumption) (by first | rfl | assumption)); conv => lhs; whnf) | refine o_no rfl ?_ | refine o_add rfl rfl rfl (by omega) (by omega) ?_ | refine o_sub rfl rfl rfl (by omega) (by omega) ?_ | refine o_mul rfl rfl rfl (by omega) (by omega) ?_ | refine o_sadd rfl rfl rfl (by omega) ?_ | refine o_seql_t rfl rfl rfl (by assumption) ?_ | refine o_seql_f rfl rfl rfl (by assumption) ?_ | refine o_ct rfl rfl rfl (by dsimp only [cmpP]; omega) ?_ | refine o_cf rfl rfl rfl (by dsimp only [cmpN]; omega) ?_ | (apply o_easy rfl rfl rfl; conv => lhs; whnf) | refine o_non rfl ?_)))
                refine o_st rfl rfl rfl rfl hg rfl (lets_of (blt_no hw) (fun e => rfl)) (cs' := rd t (i + 1) gr) rfl ?_
                (apply o_end; (repeat (first | exact OutS.nil | exact GetS.hit | exact PutS.hit | apply GetS.miss rfl | apply PutS.miss rfl | apply OutS.cons | apply OutS.skip rfl)))
                have hgA := getCells_put (cs' := rd t (i + 1) gr) (g' := g) hg
                ((repeat refine c_seq ?_); refine c_region ?_; (repeat (first | ((first | apply o_move rfl rfl | apply o_easy1 rfl rfl rfl | apply o_ld rfl rfl (by assumption) (by first | rfl | assumption)); conv => lhs; whnf) | refine o_no rfl ?_ | refine o_add rfl rfl rfl (by omega) (by omega) ?_ | refine o_sub rfl rfl rfl (by omega) (by omega) ?_ | refine o_mul rfl rfl rfl (by omega) (by omega) ?_ | refine o_sadd rfl rfl rfl (by omega) ?_ | refine o_seql_t rfl rfl rfl (by assumption) ?_ | refine o_seql_f rfl rfl rfl (by assumption) ?_ | refine o_ct rfl rfl rfl (by dsimp only [cmpP]; omega) ?_ | refine o_cf rfl rfl rfl (by dsimp only [cmpN]; omega) ?_ | (apply o_easy rfl rfl rfl; conv => lhs; whnf) | refine o_non rfl ?_)))
                refine o_idxS (j := i) rfl rfl rfl rfl hc ?_
                (apply o_end; (repeat (first | exact OutS.nil | exact GetS.hit | exact PutS.hit | apply GetS.miss rfl | apply PutS.miss rfl | apply OutS.cons | apply OutS.skip rfl)))
                ((repeat refine c_seq ?_); refine c_block ?_)
                ((repeat refine c_seq ?_); refine c_region ?_; (repeat (first | ((first | apply o_move rfl rfl | apply o_easy1 rfl rfl rfl | apply o_ld rfl rfl (by assumption) (by first | rfl | assumption)); conv => lhs; whnf) | refine o_no rfl ?_ | refine o_add rfl rfl rfl (by omega) (by omega) ?_ | refine o_sub rfl rfl rfl (by omega) (by omega) ?_ | refine o_mul rfl rfl rfl (by omega) (by omega) ?_ | refine o_sadd rfl rfl rfl (by omega) ?_ | refine o_seql_t rfl rfl rfl (by assumption) ?_ | refine o_seql_f rfl rfl rfl (by assumption) ?_ | refine o_ct rfl rfl rfl (by dsimp only [cmpP]; omega) ?_ | refine o_cf rfl rfl rfl (by dsimp only [cmpN]; omega) ?_ | (apply o_easy rfl rfl rfl; conv => lhs; whnf) | refine o_non rfl ?_)); apply o_end; (repeat (first | exact OutS.nil | exact GetS.hit | exact PutS.hit | apply GetS.miss rfl | apply PutS.miss rfl | apply OutS.cons | apply OutS.skip rfl)))
                ((repeat refine c_seq ?_); refine c_else rfl ?_)
                ((repeat refine c_seq ?_); refine c_region ?_; (repeat (first | ((first | apply o_move rfl rfl | apply o_easy1 rfl rfl rfl | apply o_ld rfl rfl (by assumption) (by first | rfl | assumption)); conv => lhs; whnf) | refine o_no rfl ?_ | refine o_add rfl rfl rfl (by omega) (by omega) ?_ | refine o_sub rfl rfl rfl (by omega) (by omega) ?_ | refine o_mul rfl rfl rfl (by omega) (by omega) ?_ | refine o_sadd rfl rfl rfl (by omega) ?_ | refine o_seql_t rfl rfl rfl (by assumption) ?_ | refine o_seql_f rfl rfl rfl (by assumption) ?_ | refine o_ct rfl rfl rfl (by dsimp only [cmpP]; omega) ?_ | refine o_cf rfl rfl rfl (by dsimp only [cmpN]; omega) ?_ | (apply o_easy rfl rfl rfl; conv => lhs; whnf) | refine o_non rfl ?_)); apply o_end; (repeat (first | exact OutS.nil | exact GetS.hit | exact PutS.hit | apply GetS.miss rfl | apply PutS.miss rfl | apply OutS.cons | apply OutS.skip rfl)))
                ((repeat refine c_seq ?_); refine c_if rfl ?_)
                have hg2 := getCells_put (cs' := rd t (i + 1) gr) (g' := g) hg
                have hon2 := hon.putr (rd t (i + 1) gr) g
                ((repeat refine c_seq ?_); refine c_region ?_; (repeat (first | ((first | apply o_move rfl rfl | apply o_easy1 rfl rfl rfl | apply o_ld rfl rfl (by assumption) (by first | rfl | assumption)); conv => lhs; whnf) | refine o_no rfl ?_ | refine o_add rfl rfl rfl (by omega) (by omega) ?_ | refine o_sub rfl rfl rfl (by omega) (by omega) ?_ | refine o_mul rfl rfl rfl (by omega) (by omega) ?_ | refine o_sadd rfl rfl rfl (by omega) ?_ | refine o_seql_t rfl rfl rfl (by assumption) ?_ | refine o_seql_f rfl rfl rfl (by assumption) ?_ | refine o_ct rfl rfl rfl (by dsimp only [cmpP]; omega) ?_ | refine o_cf rfl rfl rfl (by dsimp only [cmpN]; omega) ?_ | (apply o_easy rfl rfl rfl; conv => lhs; whnf) | refine o_non rfl ?_)))
                refine o_move rfl hrep.defd rfl ?_
                (repeat (first | ((first | apply o_move rfl rfl | apply o_easy1 rfl rfl rfl | apply o_ld rfl rfl (by assumption) (by first | rfl | assumption)); conv => lhs; whnf) | refine o_no rfl ?_ | refine o_add rfl rfl rfl (by omega) (by omega) ?_ | refine o_sub rfl rfl rfl (by omega) (by omega) ?_ | refine o_mul rfl rfl rfl (by omega) (by omega) ?_ | refine o_sadd rfl rfl rfl (by omega) ?_ | refine o_seql_t rfl rfl rfl (by assumption) ?_ | refine o_seql_f rfl rfl rfl (by assumption) ?_ | refine o_ct rfl rfl rfl (by dsimp only [cmpP]; omega) ?_ | refine o_cf rfl rfl rfl (by dsimp only [cmpN]; omega) ?_ | (apply o_easy rfl rfl rfl; conv => lhs; whnf) | refine o_non rfl ?_))
                refine o_callw rfl rfl ((hND _ hd (by omega) (m + 10) (by omega) b r g _ hw hg2).mono ?_)
                rintro o s3 ⟨rfl, j, rfl⟩
                exact hbad a j _ _ rfl (hon2.putr (rd t j gr) g)
              | ok x =>
                obtain ⟨p, j⟩ := x
                simp only [hd] at hres
                have hge := (model_ge t gr k).2 _ _ _ _ _ hd
                by_cases hjt : j ≤ t.length
                · obtain ⟨N, hN⟩ := ih (by omega) _ _ _ hres hjt (hsm.add (by omega) hge.2)
                  refine ⟨N + ND + 20, ?_⟩
                  intro L m hL hm b r g s s1 v x37 x8 x54 x68 x79 x103 Q hw rl hon hrep hok hbad
                  obtain ⟨L, rfl⟩ : ∃ L', L = L' + 1 := ⟨L - 1, by omega⟩
                  obtain ⟨m, rfl⟩ : ∃ m', m = m' + 10 := ⟨m - 10, by omega⟩
                  have hg := hon.get rl
                  apply l_round
                  ((repeat refine c_seq ?_); refine c_drawn ?_; (repeat (first | ((first | apply o_move rfl rfl | apply o_easy1 rfl rfl rfl | apply o_ld rfl rfl (by assumption) (by first | rfl | assumption)); conv => lhs; whnf) | refine o_no rfl ?_ | refine o_add rfl rfl rfl (by omega) (by omega) ?_ | refine o_sub rfl rfl rfl (by omega) (by omega) ?_ | refine o_mul rfl rfl rfl (by omega) (by omega) ?_ | refine o_sadd rfl rfl rfl (by omega) ?_ | refine o_seql_t rfl rfl rfl (by assumption) ?_ | refine o_seql_f rfl rfl rfl (by assumption) ?_ | refine o_ct rfl rfl rfl (by dsimp only [cmpP]; omega) ?_ | refine o_cf rfl rfl rfl (by dsimp only [cmpN]; omega) ?_ | (apply o_easy rfl rfl rfl; conv => lhs; whnf) | refine o_non rfl ?_)))
                  refine o_slS2 (i := i) (j := i + 1) rfl rfl rfl rfl rfl rfl (by omega) (by omega) hone ?_
                  refine o_call rfl rfl (contains_spec (m + 5) _ ends c s1) ?_
                  rw [decide_eq_false hend]
                  (repeat (first | ((first | apply o_move rfl rfl | apply o_easy1 rfl rfl rfl | apply o_ld rfl rfl (by assumption) (by first | rfl | assumption)); conv => lhs; whnf) | refine o_no rfl ?_ | refine o_add rfl rfl rfl (by omega) (by omega) ?_ | refine o_sub rfl rfl rfl (by omega) (by omega) ?_ | refine o_mul rfl rfl rfl (by omega) (by omega) ?_ | refine o_sadd rfl rfl rfl (by omega) ?_ | refine o_seql_t rfl rfl rfl (by assumption) ?_ | refine o_seql_f rfl rfl rfl (by assumption) ?_ | refine o_ct rfl rfl rfl (by dsimp only [cmpP]; omega) ?_ | refine o_cf rfl rfl rfl (by dsimp only [cmpN]; omega) ?_ | (apply o_easy rfl rfl rfl; conv => lhs; whnf) | refine o_non rfl ?_))
                  (apply d_end rfl; (repeat (first | exact OutS.nil | exact GetS.hit | exact PutS.hit | apply GetS.miss rfl | apply PutS.miss rfl | apply OutS.cons | apply OutS.skip rfl)))
                  ((repeat refine c_seq ?_); refine c_if rfl ?_)
                  refine c_skip ?_
                  ((repeat refine c_seq ?_); refine c_block ?_)
                  ((repeat refine c_seq ?_); refine c_region ?_; (repeat (first | ((first | apply o_move rfl rfl | apply o_easy1 rfl rfl rfl | apply o_ld rfl rfl (by assumption) (by first | rfl | assumption)); conv => lhs; whnf) | refine o_no rfl ?_ | refine o_add rfl rfl rfl (by omega) (by omega) ?_ | refine o_sub rfl rfl rfl (by omega) (by omega) ?_ | refine o_mul rfl rfl rfl (by omega) (by omega) ?_ | refine o_sadd rfl rfl rfl (by omega) ?_ | refine o_seql_t rfl rfl rfl (by assumption) ?_ | refine o_seql_f rfl rfl rfl (by assumption) ?_ | refine o_ct rfl rfl rfl (by dsimp only [cmpP]; omega) ?_ | refine o_cf rfl rfl rfl (by dsimp only [cmpN]; omega) ?_ | (apply o_easy rfl rfl rfl; conv => lhs; whnf) | refine o_non rfl ?_)); apply o_end; (repeat (first | exact OutS.nil | exact GetS.hit | exact PutS.hit | apply GetS.miss rfl | apply PutS.miss rfl | apply OutS.cons | apply OutS.skip rfl)))
                  ((repeat refine c_seq ?_); refine c_region ?_; (repeat (first | ((first | apply o_move rfl rfl | apply o_easy1 rfl rfl rfl | apply o_ld rfl rfl (by assumption) (by first | rfl | assumption)); conv => lhs; whnf) | refine o_no rfl ?_ | refine o_add rfl rfl rfl (by omega) (by omega) ?_ | refine o_sub rfl rfl rfl (by omega) (by omega) ?_ | refine o_mul rfl rfl rfl (by omega) (by omega) ?_ | refine o_sadd rfl rfl rfl (by omega) ?_ | refine o_seql_t rfl rfl rfl (by assumption) ?_ | refine o_seql_f rfl rfl rfl (by assumption) ?_ | refine o_ct rfl rfl rfl (by dsimp only [cmpP]; omega) ?_ | refine o_cf rfl rfl rfl (by dsimp only [cmpN]; omega) ?_ | (apply o_easy rfl rfl rfl; conv => lhs; whnf) | refine o_non rfl ?_)))
                  refine o_st rfl rfl rfl rfl hg rfl (lets_of (blt_no hw) (fun e => rfl)) (cs' := rd t (i + 1) gr) rfl ?_
                  (apply o_end; (repeat (first | exact OutS.nil | exact GetS.hit | exact PutS.hit | apply GetS.miss rfl | apply PutS.miss rfl | apply OutS.cons | apply OutS.skip rfl)))
                  have hgA := getCells_put (cs' := rd t (i + 1) gr) (g' := g) hg
                  ((repeat refine c_seq ?_); refine c_region ?_; (repeat (first | ((first | apply o_move rfl rfl | apply o_easy1 rfl rfl rfl | apply o_ld rfl rfl (by assumption) (by first | rfl | assumption)); conv => lhs; whnf) | refine o_no rfl ?_ | refine o_add rfl rfl rfl (by omega) (by omega) ?_ | refine o_sub rfl rfl rfl (by omega) (by omega) ?_ | refine o_mul rfl rfl rfl (by omega) (by omega) ?_ | refine o_sadd rfl rfl rfl (by omega) ?_ | refine o_seql_t rfl rfl rfl (by assumption) ?_ | refine o_seql_f rfl rfl rfl (by assumption) ?_ | refine o_ct rfl rfl rfl (by dsimp only [cmpP]; omega) ?_ | refine o_cf rfl rfl rfl (by dsimp only [cmpN]; omega) ?_ | (apply o_easy rfl rfl rfl; conv => lhs; whnf) | refine o_non rfl ?_)))
                  refine o_idxS (j := i) rfl rfl rfl rfl hc ?_
                  (apply o_end; (repeat (first | exact OutS.nil | exact GetS.hit | exact PutS.hit | apply GetS.miss rfl | apply PutS.miss rfl | apply OutS.cons | apply OutS.skip rfl)))
                  ((repeat refine c_seq ?_); refine c_block ?_)
                  ((repeat refine c_seq ?_); refine c_region ?_; (repeat (first | ((first | apply o_move rfl rfl | apply o_easy1 rfl rfl rfl | apply o_ld rfl rfl (by assumption) (by first | rfl | assumption)); conv => lhs; whnf) | refine o_no rfl ?_ | refine o_add rfl rfl rfl (by omega) (by omega) ?_ | refine o_sub rfl rfl rfl (by omega) (by omega) ?_ | refine o_mul rfl rfl rfl (by omega) (by omega) ?_ | refine o_sadd rfl rfl rfl (by omega) ?_ | refine o_seql_t rfl rfl rfl (by assumption) ?_ | refine o_seql_f rfl rfl rfl (by assumption) ?_ | refine o_ct rfl rfl rfl (by dsimp only [cmpP]; omega) ?_ | refine o_cf rfl rfl rfl (by dsimp only [cmpN]; omega) ?_ | (apply o_easy rfl rfl rfl; conv => lhs; whnf) | refine o_non rfl ?_)); apply o_end; (repeat (first | exact OutS.nil | exact GetS.hit | exact PutS.hit | apply GetS.miss rfl | apply PutS.miss rfl | apply OutS.cons | apply OutS.skip rfl)))
                  ((repeat refine c_seq ?_); refine c_else rfl ?_)
                  ((repeat refine c_seq ?_); refine c_region ?_; (repeat (first | ((first | apply o_move rfl rfl | apply o_easy1 rfl rfl rfl | apply o_ld rfl rfl (by assumption) (by first | rfl | assumption)); conv => lhs; whnf) | refine o_no rfl ?_ | refine o_add rfl rfl rfl (by omega) (by omega) ?_ | refine o_sub rfl rfl rfl (by omega) (by omega) ?_ | refine o_mul rfl rfl rfl (by omega) (by omega) ?_ | refine o_sadd rfl rfl rfl (by omega) ?_ | refine o_seql_t rfl rfl rfl (by assumption) ?_ | refine o_seql_f rfl rfl rfl (by assumption) ?_ | refine o_ct rfl rfl rfl (by dsimp only [cmpP]; omega) ?_ | refine o_cf rfl rfl rfl (by dsimp only [cmpN]; omega) ?_ | (apply o_easy rfl rfl rfl; conv => lhs; whnf) | refine o_non rfl ?_)); apply o_end; (repeat (first | exact OutS.nil | exact GetS.hit | exact PutS.hit | apply GetS.miss rfl | apply PutS.miss rfl | apply OutS.cons | apply OutS.skip rfl)))
                  ((repeat refine c_seq ?_); refine c_if rfl ?_)
                  have hg2 := getCells_put (cs' := rd t (i + 1) gr) (g' := g) hg
                  have hon2 := hon.putr (rd t (i + 1) gr) g
                  ((repeat refine c_seq ?_); refine c_region ?_; (repeat (first | ((first | apply o_move rfl rfl | apply o_easy1 rfl rfl rfl | apply o_ld rfl rfl (by assumption) (by first | rfl | assumption)); conv => lhs; whnf) | refine o_no rfl ?_ | refine o_add rfl rfl rfl (by omega) (by omega) ?_ | refine o_sub rfl rfl rfl (by omega) (by omega) ?_ | refine o_mul rfl rfl rfl (by omega) (by omega) ?_ | refine o_sadd rfl rfl rfl (by omega) ?_ | refine o_seql_t rfl rfl rfl (by assumption) ?_ | refine o_seql_f rfl rfl rfl (by assumption) ?_ | refine o_ct rfl rfl rfl (by dsimp only [cmpP]; omega) ?_ | refine o_cf rfl rfl rfl (by dsimp only [cmpN]; omega) ?_ | (apply o_easy rfl rfl rfl; conv => lhs; whnf) | refine o_non rfl ?_)))
                  refine o_move rfl hrep.defd rfl ?_
                  (repeat (first | ((first | apply o_move rfl rfl | apply o_easy1 rfl rfl rfl | apply o_ld rfl rfl (by assumption) (by first | rfl | assumption)); conv => lhs; whnf) | refine o_no rfl ?_ | refine o_add rfl rfl rfl (by omega) (by omega) ?_ | refine o_sub rfl rfl rfl (by omega) (by omega) ?_ | refine o_mul rfl rfl rfl (by omega) (by omega) ?_ | refine o_sadd rfl rfl rfl (by omega) ?_ | refine o_seql_t rfl rfl rfl (by assumption) ?_ | refine o_seql_f rfl rfl rfl (by assumption) ?_ | refine o_ct rfl rfl rfl (by dsimp only [cmpP]; omega) ?_ | refine o_cf rfl rfl rfl (by dsimp only [cmpN]; omega) ?_ | (apply o_easy rfl rfl rfl; conv => lhs; whnf) | refine o_non rfl ?_))
                  refine o_callw rfl rfl ((hND _ hd (by omega) (m + 10) (by omega) b r g _ hw hg2).mono ?_)
                  rintro o s3 ⟨rfl, hs3, hj⟩
                  rw [Sg.put_put] at hs3
                  subst hs3
                  have hon3 := hon.putr (rd t j gr) g
                  have hrep3 : Rep s.heap.length (s1.put r (.cells (rd t j gr) g)).heap v out := hrep.same (fun o ho _ => Sg.put_get _ _ _ (by omega))
                  generalize s1.put r (.cells (rd t j gr) g) = s3 at hon3 hrep3 ⊢
                  refine o_callw (l := [v, .agg p.cells]) rfl (evAll2 hrep.defd rfl) ((add_spec (m + 9) b s3 s.heap.length v out p hon3.len (by omega) hrep3 (by have := hsm.1; omega) (by omega) (fun q hq => by have := hsm.2 q hq; omega)).mono ?_)
                  rintro o s4 ⟨v', rfl, hrep4, hold4, hlen4, _⟩
                  refine o_move rfl hrep4.defd rfl ?_
                  (apply o_end; (repeat (first | exact OutS.nil | exact GetS.hit | exact PutS.hit | apply GetS.miss rfl | apply PutS.miss rfl | apply OutS.cons | apply OutS.skip rfl)))
                  exact hN L (m + 10) (by omega) (by omega) b r g s s4 v' _ _ _ _ _ _ Q hw rl (hon3.same hlen4 hold4) hrep4 hok hbad
                · refine ⟨ND + 20, ?_⟩
                  intro L m hL hm b r g s s1 v x37 x8 x54 x68 x79 x103 Q hw rl hon hrep hok hbad
                  obtain ⟨L, rfl⟩ : ∃ L', L = L' + 1 := ⟨L - 1, by omega⟩
                  obtain ⟨m, rfl⟩ : ∃ m', m = m' + 10 := ⟨m - 10, by omega⟩
                  have hg := hon.get rl
                  apply l_round
                  ((repeat refine c_seq ?_); refine c_drawn ?_; (repeat (first | ((first | apply o_move rfl rfl | apply o_easy1 rfl rfl rfl | apply o_ld rfl rfl (by assumption) (by first | rfl | assumption)); conv => lhs; whnf) | refine o_no rfl ?_ | refine o_add rfl rfl rfl (by omega) (by omega) ?_ | refine o_sub rfl rfl rfl (by omega) (by omega) ?_ | refine o_mul rfl rfl rfl (by omega) (by omega) ?_ | refine o_sadd rfl rfl rfl (by omega) ?_ | refine o_seql_t rfl rfl rfl (by assumption) ?_ | refine o_seql_f rfl rfl rfl (by assumption) ?_ | refine o_ct rfl rfl rfl (by dsimp only [cmpP]; omega) ?_ | refine o_cf rfl rfl rfl (by dsimp only [cmpN]; omega) ?_ | (apply o_easy rfl rfl rfl; conv => lhs; whnf) | refine o_non rfl ?_)))
                  refine o_slS2 (i := i) (j := i + 1) rfl rfl rfl rfl rfl rfl (by omega) (by omega) hone ?_
                  refine o_call rfl rfl (contains_spec (m + 5) _ ends c s1) ?_
                  rw [decide_eq_false hend]
                  (repeat (first | ((first | apply o_move rfl rfl | apply o_easy1 rfl rfl rfl | apply o_ld rfl rfl (by assumption) (by first | rfl | assumption)); conv => lhs; whnf) | refine o_no rfl ?_ | refine o_add rfl rfl rfl (by omega) (by omega) ?_ | refine o_sub rfl rfl rfl (by omega) (by omega) ?_ | refine o_mul rfl rfl rfl (by omega) (by omega) ?_ | refine o_sadd rfl rfl rfl (by omega) ?_ | refine o_seql_t rfl rfl rfl (by assumption) ?_ | refine o_seql_f rfl rfl rfl (by assumption) ?_ | refine o_ct rfl rfl rfl (by dsimp only [cmpP]; omega) ?_ | refine o_cf rfl rfl rfl (by dsimp only [cmpN]; omega) ?_ | (apply o_easy rfl rfl rfl; conv => lhs; whnf) | refine o_non rfl ?_))
                  (apply d_end rfl; (repeat (first | exact OutS.nil | exact GetS.hit | exact PutS.hit | apply GetS.miss rfl | apply PutS.miss rfl | apply OutS.cons | apply OutS.skip rfl)))
                  ((repeat refine c_seq ?_); refine c_if rfl ?_)
                  refine c_skip ?_
                  ((repeat refine c_seq ?_); refine c_block ?_)
                  ((repeat refine c_seq ?_); refine c_region ?_; (repeat (first | ((first | apply o_move rfl rfl | apply o_easy1 rfl rfl rfl | apply o_ld rfl rfl (by assumption) (by first | rfl | assumption)); conv => lhs; whnf) | refine o_no rfl ?_ | refine o_add rfl rfl rfl (by omega) (by omega) ?_ | refine o_sub rfl rfl rfl (by omega) (by omega) ?_ | refine o_mul rfl rfl rfl (by omega) (by omega) ?_ | refine o_sadd rfl rfl rfl (by omega) ?_ | refine o_seql_t rfl rfl rfl (by assumption) ?_ | refine o_seql_f rfl rfl rfl (by assumption) ?_ | refine o_ct rfl rfl rfl (by dsimp only [cmpP]; omega) ?_ | refine o_cf rfl rfl rfl (by dsimp only [cmpN]; omega) ?_ | (apply o_easy rfl rfl rfl; conv => lhs; whnf) | refine o_non rfl ?_)); apply o_end; (repeat (first | exact OutS.nil | exact GetS.hit | exact PutS.hit | apply GetS.miss rfl | apply PutS.miss rfl | apply OutS.cons | apply OutS.skip rfl)))
                  ((repeat refine c_seq ?_); refine c_region ?_; (repeat (first | ((first | apply o_move rfl rfl | apply o_easy1 rfl rfl rfl | apply o_ld rfl rfl (by assumption) (by first | rfl | assumption)); conv => lhs; whnf) | refine o_no rfl ?_ | refine o_add rfl rfl rfl (by omega) (by omega) ?_ | refine o_sub rfl rfl rfl (by omega) (by omega) ?_ | refine o_mul rfl rfl rfl (by omega) (by omega) ?_ | refine o_sadd rfl rfl rfl (by omega) ?_ | refine o_seql_t rfl rfl rfl (by assumption) ?_ | refine o_seql_f rfl rfl rfl (by assumption) ?_ | refine o_ct rfl rfl rfl (by dsimp only [cmpP]; omega) ?_ | refine o_cf rfl rfl rfl (by dsimp only [cmpN]; omega) ?_ | (apply o_easy rfl rfl rfl; conv => lhs; whnf) | refine o_non rfl ?_)))
                  refine o_st rfl rfl rfl rfl hg rfl (lets_of (blt_no hw) (fun e => rfl)) (cs' := rd t (i + 1) gr) rfl ?_
                  (apply o_end; (repeat (first | exact OutS.nil | exact GetS.hit | exact PutS.hit | apply GetS.miss rfl | apply PutS.miss rfl | apply OutS.cons | apply OutS.skip rfl)))
                  have hgA := getCells_put (cs' := rd t (i + 1) gr) (g' := g) hg
                  ((repeat refine c_seq ?_); refine c_region ?_; (repeat (first | ((first | apply o_move rfl rfl | apply o_easy1 rfl rfl rfl | apply o_ld rfl rfl (by assumption) (by first | rfl | assumption)); conv => lhs; whnf) | refine o_no rfl ?_ | refine o_add rfl rfl rfl (by omega) (by omega) ?_ | refine o_sub rfl rfl rfl (by omega) (by omega) ?_ | refine o_mul rfl rfl rfl (by omega) (by omega) ?_ | refine o_sadd rfl rfl rfl (by omega) ?_ | refine o_seql_t rfl rfl rfl (by assumption) ?_ | refine o_seql_f rfl rfl rfl (by assumption) ?_ | refine o_ct rfl rfl rfl (by dsimp only [cmpP]; omega) ?_ | refine o_cf rfl rfl rfl (by dsimp only [cmpN]; omega) ?_ | (apply o_easy rfl rfl rfl; conv => lhs; whnf) | refine o_non rfl ?_)))
                  refine o_idxS (j := i) rfl rfl rfl rfl hc ?_
                  (apply o_end; (repeat (first | exact OutS.nil | exact GetS.hit | exact PutS.hit | apply GetS.miss rfl | apply PutS.miss rfl | apply OutS.cons | apply OutS.skip rfl)))
                  ((repeat refine c_seq ?_); refine c_block ?_)
                  ((repeat refine c_seq ?_); refine c_region ?_; (repeat (first | ((first | apply o_move rfl rfl | apply o_easy1 rfl rfl rfl | apply o_ld rfl rfl (by assumption) (by first | rfl | assumption)); conv => lhs; whnf) | refine o_no rfl ?_ | refine o_add rfl rfl rfl (by omega) (by omega) ?_ | refine o_sub rfl rfl rfl (by omega) (by omega) ?_ | refine o_mul rfl rfl rfl (by omega) (by omega) ?_ | refine o_sadd rfl rfl rfl (by omega) ?_ | refine o_seql_t rfl rfl rfl (by assumption) ?_ | refine o_seql_f rfl rfl rfl (by assumption) ?_ | refine o_ct rfl rfl rfl (by dsimp only [cmpP]; omega) ?_ | refine o_cf rfl rfl rfl (by dsimp only [cmpN]; omega) ?_ | (apply o_easy rfl rfl rfl; conv => lhs; whnf) | refine o_non rfl ?_)); apply o_end; (repeat (first | exact OutS.nil | exact GetS.hit | exact PutS.hit | apply GetS.miss rfl | apply PutS.miss rfl | apply OutS.cons | apply OutS.skip rfl)))
                  ((repeat refine c_seq ?_); refine c_else rfl ?_)
                  ((repeat refine c_seq ?_); refine c_region ?_; (repeat (first | ((first | apply o_move rfl rfl | apply o_easy1 rfl rfl rfl | apply o_ld rfl rfl (by assumption) (by first | rfl | assumption)); conv => lhs; whnf) | refine o_no rfl ?_ | refine o_add rfl rfl rfl (by omega) (by omega) ?_ | refine o_sub rfl rfl rfl (by omega) (by omega) ?_ | refine o_mul rfl rfl rfl (by omega) (by omega) ?_ | refine o_sadd rfl rfl rfl (by omega) ?_ | refine o_seql_t rfl rfl rfl (by assumption) ?_ | refine o_seql_f rfl rfl rfl (by assumption) ?_ | refine o_ct rfl rfl rfl (by dsimp only [cmpP]; omega) ?_ | refine o_cf rfl rfl rfl (by dsimp only [cmpN]; omega) ?_ | (apply o_easy rfl rfl rfl; conv => lhs; whnf) | refine o_non rfl ?_)); apply o_end; (repeat (first | exact OutS.nil | exact GetS.hit | exact PutS.hit | apply GetS.miss rfl | apply PutS.miss rfl | apply OutS.cons | apply OutS.skip rfl)))
                  ((repeat refine c_seq ?_); refine c_if rfl ?_)
                  have hg2 := getCells_put (cs' := rd t (i + 1) gr) (g' := g) hg
                  ((repeat refine c_seq ?_); refine c_region ?_; (repeat (first | ((first | apply o_move rfl rfl | apply o_easy1 rfl rfl rfl | apply o_ld rfl rfl (by assumption) (by first | rfl | assumption)); conv => lhs; whnf) | refine o_no rfl ?_ | refine o_add rfl rfl rfl (by omega) (by omega) ?_ | refine o_sub rfl rfl rfl (by omega) (by omega) ?_ | refine o_mul rfl rfl rfl (by omega) (by omega) ?_ | refine o_sadd rfl rfl rfl (by omega) ?_ | refine o_seql_t rfl rfl rfl (by assumption) ?_ | refine o_seql_f rfl rfl rfl (by assumption) ?_ | refine o_ct rfl rfl rfl (by dsimp only [cmpP]; omega) ?_ | refine o_cf rfl rfl rfl (by dsimp only [cmpN]; omega) ?_ | (apply o_easy rfl rfl rfl; conv => lhs; whnf) | refine o_non rfl ?_)))
                  refine o_move rfl hrep.defd rfl ?_
                  (repeat (first | ((first | apply o_move rfl rfl | apply o_easy1 rfl rfl rfl | apply o_ld rfl rfl (by assumption) (by first | rfl | assumption)); conv => lhs; whnf) | refine o_no rfl ?_ | refine o_add rfl rfl rfl (by omega) (by omega) ?_ | refine o_sub rfl rfl rfl (by omega) (by omega) ?_ | refine o_mul rfl rfl rfl (by omega) (by omega) ?_ | refine o_sadd rfl rfl rfl (by omega) ?_ | refine o_seql_t rfl rfl rfl (by assumption) ?_ | refine o_seql_f rfl rfl rfl (by assumption) ?_ | refine o_ct rfl rfl rfl (by dsimp only [cmpP]; omega) ?_ | refine o_cf rfl rfl rfl (by dsimp only [cmpN]; omega) ?_ | (apply o_easy rfl rfl rfl; conv => lhs; whnf) | refine o_non rfl ?_))
                  refine o_callw rfl rfl ((hND _ hd (by omega) (m + 10) (by omega) b r g _ hw hg2).mono ?_)
                  rintro o s3 ⟨rfl, hs3, hj⟩
                  exact absurd hj hjt
          · rw [if_neg h36] at hres
            obtain ⟨N, hN⟩ := ih (by omega) _ _ _ hres (by omega) (hsm.add (by omega) (Nat.le_refl 1))
            refine ⟨N + 20, ?_⟩
            intro L m hL hm b r g s s1 v x37 x8 x54 x68 x79 x103 Q hw rl hon hrep hok hbad
            obtain ⟨L, rfl⟩ : ∃ L', L = L' + 1 := ⟨L - 1, by omega⟩
            obtain ⟨m, rfl⟩ : ∃ m', m = m' + 10 := ⟨m - 10, by omega⟩
            have hg := hon.get rl
            apply l_round
            ((repeat refine c_seq ?_); refine c_drawn ?_; (repeat (first | ((first | apply o_move rfl rfl | apply o_easy1 rfl rfl rfl | apply o_ld rfl rfl (by assumption) (by first | rfl | assumption)); conv => lhs; whnf) | refine o_no rfl ?_ | refine o_add rfl rfl rfl (by omega) (by omega) ?_ | refine o_sub rfl rfl rfl (by omega) (by omega) ?_ | refine o_mul rfl rfl rfl (by omega) (by omega) ?_ | refine o_sadd rfl rfl rfl (by omega) ?_ | refine o_seql_t rfl rfl rfl (by assumption) ?_ | refine o_seql_f rfl rfl rfl (by assumption) ?_ | refine o_ct rfl rfl rfl (by dsimp only [cmpP]; omega) ?_ | refine o_cf rfl rfl rfl (by dsimp only [cmpN]; omega) ?_ | (apply o_easy rfl rfl rfl; conv => lhs; whnf) | refine o_non rfl ?_)))
            refine o_slS2 (i := i) (j := i + 1) rfl rfl rfl rfl rfl rfl (by omega) (by omega) hone ?_
            refine o_call rfl rfl (contains_spec (m + 5) _ ends c s1) ?_
            rw [decide_eq_false hend]
            (repeat (first | ((first | apply o_move rfl rfl | apply o_easy1 rfl rfl rfl | apply o_ld rfl rfl (by assumption) (by first | rfl | assumption)); conv => lhs; whnf) | refine o_no rfl ?_ | refine o_add rfl rfl rfl (by omega) (by omega) ?_ | refine o_sub rfl rfl rfl (by omega) (by omega) ?_ | refine o_mul rfl rfl rfl (by omega) (by omega) ?_ | refine o_sadd rfl rfl rfl (by omega) ?_ | refine o_seql_t rfl rfl rfl (by assumption) ?_ | refine o_seql_f rfl rfl rfl (by assumption) ?_ | refine o_ct rfl rfl rfl (by dsimp only [cmpP]; omega) ?_ | refine o_cf rfl rfl rfl (by dsimp only [cmpN]; omega) ?_ | (apply o_easy rfl rfl rfl; conv => lhs; whnf) | refine o_non rfl ?_))
            (apply d_end rfl; (repeat (first | exact OutS.nil | exact GetS.hit | exact PutS.hit | apply GetS.miss rfl | apply PutS.miss rfl | apply OutS.cons | apply OutS.skip rfl)))
            ((repeat refine c_seq ?_); refine c_if rfl ?_)
            refine c_skip ?_
            ((repeat refine c_seq ?_); refine c_block ?_)
            ((repeat refine c_seq ?_); refine c_region ?_; (repeat (first | ((first | apply o_move rfl rfl | apply o_easy1 rfl rfl rfl | apply o_ld rfl rfl (by assumption) (by first | rfl | assumption)); conv => lhs; whnf) | refine o_no rfl ?_ | refine o_add rfl rfl rfl (by omega) (by omega) ?_ | refine o_sub rfl rfl rfl (by omega) (by omega) ?_ | refine o_mul rfl rfl rfl (by omega) (by omega) ?_ | refine o_sadd rfl rfl rfl (by omega) ?_ | refine o_seql_t rfl rfl rfl (by assumption) ?_ | refine o_seql_f rfl rfl rfl (by assumption) ?_ | refine o_ct rfl rfl rfl (by dsimp only [cmpP]; omega) ?_ | refine o_cf rfl rfl rfl (by dsimp only [cmpN]; omega) ?_ | (apply o_easy rfl rfl rfl; conv => lhs; whnf) | refine o_non rfl ?_)); apply o_end; (repeat (first | exact OutS.nil | exact GetS.hit | exact PutS.hit | apply GetS.miss rfl | apply PutS.miss rfl | apply OutS.cons | apply OutS.skip rfl)))
            ((repeat refine c_seq ?_); refine c_region ?_; (repeat (first | ((first | apply o_move rfl rfl | apply o_easy1 rfl rfl rfl | apply o_ld rfl rfl (by assumption) (by first | rfl | assumption)); conv => lhs; whnf) | refine o_no rfl ?_ | refine o_add rfl rfl rfl (by omega) (by omega) ?_ | refine o_sub rfl rfl rfl (by omega) (by omega) ?_ | refine o_mul rfl rfl rfl (by omega) (by omega) ?_ | refine o_sadd rfl rfl rfl (by omega) ?_ | refine o_seql_t rfl rfl rfl (by assumption) ?_ | refine o_seql_f rfl rfl rfl (by assumption) ?_ | refine o_ct rfl rfl rfl (by dsimp only [cmpP]; omega) ?_ | refine o_cf rfl rfl rfl (by dsimp only [cmpN]; omega) ?_ | (apply o_easy rfl rfl rfl; conv => lhs; whnf) | refine o_non rfl ?_)))
            refine o_st rfl rfl rfl rfl hg rfl (lets_of (blt_no hw) (fun e => rfl)) (cs' := rd t (i + 1) gr) rfl ?_
            (apply o_end; (repeat (first | exact OutS.nil | exact GetS.hit | exact PutS.hit | apply GetS.miss rfl | apply PutS.miss rfl | apply OutS.cons | apply OutS.skip rfl)))
            have hgA := getCells_put (cs' := rd t (i + 1) gr) (g' := g) hg
            ((repeat refine c_seq ?_); refine c_region ?_; (repeat (first | ((first | apply o_move rfl rfl | apply o_easy1 rfl rfl rfl | apply o_ld rfl rfl (by assumption) (by first | rfl | assumption)); conv => lhs; whnf) | refine o_no rfl ?_ | refine o_add rfl rfl rfl (by omega) (by omega) ?_ | refine o_sub rfl rfl rfl (by omega) (by omega) ?_ | refine o_mul rfl rfl rfl (by omega) (by omega) ?_ | refine o_sadd rfl rfl rfl (by omega) ?_ | refine o_seql_t rfl rfl rfl (by assumption) ?_ | refine o_seql_f rfl rfl rfl (by assumption) ?_ | refine o_ct rfl rfl rfl (by dsimp only [cmpP]; omega) ?_ | refine o_cf rfl rfl rfl (by dsimp only [cmpN]; omega) ?_ | (apply o_easy rfl rfl rfl; conv => lhs; whnf) | refine o_non rfl ?_)))
            refine o_idxS (j := i) rfl rfl rfl rfl hc ?_
            (apply o_end; (repeat (first | exact OutS.nil | exact GetS.hit | exact PutS.hit | apply GetS.miss rfl | apply PutS.miss rfl | apply OutS.cons | apply OutS.skip rfl)))
            ((repeat refine c_seq ?_); refine c_block ?_)
            ((repeat refine c_seq ?_); refine c_region ?_; (repeat (first | ((first | apply o_move rfl rfl | apply o_easy1 rfl rfl rfl | apply o_ld rfl rfl (by assumption) (by first | rfl | assumption)); conv => lhs; whnf) | refine o_no rfl ?_ | refine o_add rfl rfl rfl (by omega) (by omega) ?_ | refine o_sub rfl rfl rfl (by omega) (by omega) ?_ | refine o_mul rfl rfl rfl (by omega) (by omega) ?_ | refine o_sadd rfl rfl rfl (by omega) ?_ | refine o_seql_t rfl rfl rfl (by assumption) ?_ | refine o_seql_f rfl rfl rfl (by assumption) ?_ | refine o_ct rfl rfl rfl (by dsimp only [cmpP]; omega) ?_ | refine o_cf rfl rfl rfl (by dsimp only [cmpN]; omega) ?_ | (apply o_easy rfl rfl rfl; conv => lhs; whnf) | refine o_non rfl ?_)); apply o_end; (repeat (first | exact OutS.nil | exact GetS.hit | exact PutS.hit | apply GetS.miss rfl | apply PutS.miss rfl | apply OutS.cons | apply OutS.skip rfl)))
            ((repeat refine c_seq ?_); refine c_else rfl ?_)
            ((repeat refine c_seq ?_); refine c_region ?_; (repeat (first | ((first | apply o_move rfl rfl | apply o_easy1 rfl rfl rfl | apply o_ld rfl rfl (by assumption) (by first | rfl | assumption)); conv => lhs; whnf) | refine o_no rfl ?_ | refine o_add rfl rfl rfl (by omega) (by omega) ?_ | refine o_sub rfl rfl rfl (by omega) (by omega) ?_ | refine o_mul rfl rfl rfl (by omega) (by omega) ?_ | refine o_sadd rfl rfl rfl (by omega) ?_ | refine o_seql_t rfl rfl rfl (by assumption) ?_ | refine o_seql_f rfl rfl rfl (by assumption) ?_ | refine o_ct rfl rfl rfl (by dsimp only [cmpP]; omega) ?_ | refine o_cf rfl rfl rfl (by dsimp only [cmpN]; omega) ?_ | (apply o_easy rfl rfl rfl; conv => lhs; whnf) | refine o_non rfl ?_)); apply o_end; (repeat (first | exact OutS.nil | exact GetS.hit | exact PutS.hit | apply GetS.miss rfl | apply PutS.miss rfl | apply OutS.cons | apply OutS.skip rfl)))
            ((repeat refine c_seq ?_); refine c_else rfl ?_)
            have hg3 := getCells_put (cs' := rd t (i + 1) gr) (g' := g) hg
            have hon3 := hon.putr (rd t (i + 1) gr) g
            have hrep3 : Rep s.heap.length (s1.put r (.cells (rd t (i + 1) gr) g)).heap v out := hrep.same (fun o ho _ => Sg.put_get _ _ _ (by omega))
            generalize s1.put r (.cells (rd t (i + 1) gr) g) = s3 at hg3 hon3 hrep3 ⊢
            ((repeat refine c_seq ?_); refine c_drawn ?_; (repeat (first | ((first | apply o_move rfl rfl | apply o_easy1 rfl rfl rfl | apply o_ld rfl rfl (by assumption) (by first | rfl | assumption)); conv => lhs; whnf) | refine o_no rfl ?_ | refine o_add rfl rfl rfl (by omega) (by omega) ?_ | refine o_sub rfl rfl rfl (by omega) (by omega) ?_ | refine o_mul rfl rfl rfl (by omega) (by omega) ?_ | refine o_sadd rfl rfl rfl (by omega) ?_ | refine o_seql_t rfl rfl rfl (by assumption) ?_ | refine o_seql_f rfl rfl rfl (by assumption) ?_ | refine o_ct rfl rfl rfl (by dsimp only [cmpP]; omega) ?_ | refine o_cf rfl rfl rfl (by dsimp only [cmpN]; omega) ?_ | (apply o_easy rfl rfl rfl; conv => lhs; whnf) | refine o_non rfl ?_)))
            refine o_move rfl hrep.defd rfl ?_
            (repeat (first | ((first | apply o_move rfl rfl | apply o_easy1 rfl rfl rfl | apply o_ld rfl rfl (by assumption) (by first | rfl | assumption)); conv => lhs; whnf) | refine o_no rfl ?_ | refine o_add rfl rfl rfl (by omega) (by omega) ?_ | refine o_sub rfl rfl rfl (by omega) (by omega) ?_ | refine o_mul rfl rfl rfl (by omega) (by omega) ?_ | refine o_sadd rfl rfl rfl (by omega) ?_ | refine o_seql_t rfl rfl rfl (by assumption) ?_ | refine o_seql_f rfl rfl rfl (by assumption) ?_ | refine o_ct rfl rfl rfl (by dsimp only [cmpP]; omega) ?_ | refine o_cf rfl rfl rfl (by dsimp only [cmpN]; omega) ?_ | (apply o_easy rfl rfl rfl; conv => lhs; whnf) | refine o_non rfl ?_))
            refine o_slS2 (i := i) (j := i + 1) rfl rfl rfl rfl rfl rfl (by omega) (by omega) hone ?_
            (repeat (first | ((first | apply o_move rfl rfl | apply o_easy1 rfl rfl rfl | apply o_ld rfl rfl (by assumption) (by first | rfl | assumption)); conv => lhs; whnf) | refine o_no rfl ?_ | refine o_add rfl rfl rfl (by omega) (by omega) ?_ | refine o_sub rfl rfl rfl (by omega) (by omega) ?_ | refine o_mul rfl rfl rfl (by omega) (by omega) ?_ | refine o_sadd rfl rfl rfl (by omega) ?_ | refine o_seql_t rfl rfl rfl (by assumption) ?_ | refine o_seql_f rfl rfl rfl (by assumption) ?_ | refine o_ct rfl rfl rfl (by dsimp only [cmpP]; omega) ?_ | refine o_cf rfl rfl rfl (by dsimp only [cmpN]; omega) ?_ | (apply o_easy rfl rfl rfl; conv => lhs; whnf) | refine o_non rfl ?_))
            refine o_callw (l := [v, .agg (Tp.lit [c]).cells]) rfl (evAll2 hrep.defd rfl) ((add_spec (m + 9) b s3 s.heap.length v out (.lit [c]) hon3.len (by omega) hrep3 (by have := hsm.1; omega) (by simp [Tp.text]) (fun q hq => by have := hsm.2 q hq; omega)).mono ?_)
            rintro o s4 ⟨v', rfl, hrep4, hold4, hlen4, _⟩
            refine o_move rfl hrep4.defd rfl ?_
            (apply d_end rfl; (repeat (first | exact OutS.nil | exact GetS.hit | exact PutS.hit | apply GetS.miss rfl | apply PutS.miss rfl | apply OutS.cons | apply OutS.skip rfl)))
            exact hN L (m + 10) (by omega) (by omega) b r g s s4 v' _ _ _ _ _ _ Q hw rl (hon3.same hlen4 hold4) hrep4 hok hbad


end Go.Tpl

namespace Go.Tpl
open Go Go.Am Go.Proofs

theorem chunk_avs : ∀ (l : List Tp), chunk l.length (some 5) (flatAll (avs l)) = some (avs l)
  | [] => by simp [avs, flatAll, chunk]
  | p :: r => by
    have h := cells_len p
    have ih := chunk_avs r
    have hle : Nat.ble 5 (p.cells ++ flatAll (avs r)).length = true := ble_of (by simp [h])
    have hd : (p.cells ++ flatAll (avs r)).drop 5 = flatAll (avs r) := by rw [← h]; exact List.drop_left
    have htk : (p.cells ++ flatAll (avs r)).take 5 = p.cells := by rw [← h]; exact List.take_left
    simp only [avs, flatAll, AV.flat, List.length_cons, chunk, hle, if_true, hd, ih, Option.bind_some, htk]

theorem lay_rep {h : List AObj} {b : Nat} {v : AV} {l : List Tp} (hr : Rep b h v l) : layOne h b (some (some 5)) v = some (.vec (avs l) .shut) := by
  rcases hr with ⟨rfl, rfl⟩ | ⟨_, o, g, rfl, hc, ho⟩
  · simp [layOne, AV.weak, avs]
  · exact layOne_ms ho hc (chunk_avs l)

theorem parts_ok (t : List UInt8) (gr : Int) (ht : t.length < 2 ^ 30) : ∀ n, PartsOk t gr n := by
  intro n
  induction n using Nat.strongRecOn with
  | _ n ih =>
    intro ends d i
    have hD : ∀ k, k < n → ∀ at' i, ∃ N, DollarAt t gr k at' d i N := by
      intro k hk at' i
      cases k with
      | zero => exact ⟨0, fun res h => by simp [dollarM] at h⟩
      | succ k => exact dollar_ok t gr k ht (ih k (by omega)) at' d i
    cases hp : partsM t gr n ends d i [] with
    | none => exact ⟨0, fun res h => by rw [hp] at h; cases h⟩
    | some res0 =>
      by_cases hi : i ≤ t.length
      · obtain ⟨N, hN⟩ := parts_loop t gr ht n ends d hD n (Nat.le_refl n) i [] res0 hp hi ⟨Nat.zero_le _, fun q hq => by simp at hq⟩
        refine ⟨N + 5, ?_⟩
        intro res hres _ m hm b r g s hw hg
        rw [hp] at hres
        cases hres
        obtain ⟨m, rfl⟩ : ∃ m', m = m' + 1 := ⟨m - 1, by omega⟩
        have hr := getCells_lt hg
        (apply f_wp rfl rfl; (repeat (first | exact Shape.nil | (apply Shape.cons; conv => lhs; whnf))))
        ((repeat refine c_seq ?_); refine c_region ?_; (repeat (first | ((first | apply o_move rfl rfl | apply o_easy1 rfl rfl rfl | apply o_ld rfl rfl (by assumption) (by first | rfl | assumption)); conv => lhs; whnf) | refine o_no rfl ?_ | refine o_add rfl rfl rfl (by omega) (by omega) ?_ | refine o_sub rfl rfl rfl (by omega) (by omega) ?_ | refine o_mul rfl rfl rfl (by omega) (by omega) ?_ | refine o_sadd rfl rfl rfl (by omega) ?_ | refine o_seql_t rfl rfl rfl (by assumption) ?_ | refine o_seql_f rfl rfl rfl (by assumption) ?_ | refine o_ct rfl rfl rfl (by dsimp only [cmpP]; omega) ?_ | refine o_cf rfl rfl rfl (by dsimp only [cmpN]; omega) ?_ | (apply o_easy rfl rfl rfl; conv => lhs; whnf) | refine o_non rfl ?_)); apply o_end; (repeat (first | exact OutS.nil | exact GetS.hit | exact PutS.hit | apply GetS.miss rfl | apply PutS.miss rfl | apply OutS.cons | apply OutS.skip rfl)))
        ((repeat refine c_seq ?_); refine c_region ?_; (repeat (first | ((first | apply o_move rfl rfl | apply o_easy1 rfl rfl rfl | apply o_ld rfl rfl (by assumption) (by first | rfl | assumption)); conv => lhs; whnf) | refine o_no rfl ?_ | refine o_add rfl rfl rfl (by omega) (by omega) ?_ | refine o_sub rfl rfl rfl (by omega) (by omega) ?_ | refine o_mul rfl rfl rfl (by omega) (by omega) ?_ | refine o_sadd rfl rfl rfl (by omega) ?_ | refine o_seql_t rfl rfl rfl (by assumption) ?_ | refine o_seql_f rfl rfl rfl (by assumption) ?_ | refine o_ct rfl rfl rfl (by dsimp only [cmpP]; omega) ?_ | refine o_cf rfl rfl rfl (by dsimp only [cmpN]; omega) ?_ | (apply o_easy rfl rfl rfl; conv => lhs; whnf) | refine o_non rfl ?_)); apply o_end; (repeat (first | exact OutS.nil | exact GetS.hit | exact PutS.hit | apply GetS.miss rfl | apply PutS.miss rfl | apply OutS.cons | apply OutS.skip rfl)))
        ((repeat refine c_seq ?_); refine c_block ?_)
        refine c_loop (x := lp14_0) ?_
        refine hN m m (by omega) (by omega) (b.into .eff s) r g s s .nilsl _ _ _ _ _ _ _ hw hr (On.refl hg) (.inl ⟨rfl, rfl⟩) ?_ ?_
        · intro out' j v' s2 y37 y8 y54 y68 y79 y103 he hj hon hrep hsm
          subst he
          ((repeat refine c_seq ?_); refine c_region ?_; (repeat (first | ((first | apply o_move rfl rfl | apply o_easy1 rfl rfl rfl | apply o_ld rfl rfl (by assumption) (by first | rfl | assumption)); conv => lhs; whnf) | refine o_no rfl ?_ | refine o_add rfl rfl rfl (by omega) (by omega) ?_ | refine o_sub rfl rfl rfl (by omega) (by omega) ?_ | refine o_mul rfl rfl rfl (by omega) (by omega) ?_ | refine o_sadd rfl rfl rfl (by omega) ?_ | refine o_seql_t rfl rfl rfl (by assumption) ?_ | refine o_seql_f rfl rfl rfl (by assumption) ?_ | refine o_ct rfl rfl rfl (by dsimp only [cmpP]; omega) ?_ | refine o_cf rfl rfl rfl (by dsimp only [cmpN]; omega) ?_ | (apply o_easy rfl rfl rfl; conv => lhs; whnf) | refine o_non rfl ?_)))
          refine o_move rfl hrep.defd rfl ?_
          refine o_move rfl hrep.defd rfl ?_
          (apply o_end; (repeat (first | exact OutS.nil | exact GetS.hit | exact PutS.hit | apply GetS.miss rfl | apply PutS.miss rfl | apply OutS.cons | apply OutS.skip rfl)))
          refine c_ret ?_
          refine fin_ret (.inl rfl) (read_tmp hrep.defd read_nil) (leave_eff (lay_cons (lay_rep hrep) lay_nil) ?_) ⟨rfl, hon.trunc, hj⟩
          simp [AV.oldAll, AV.old, avs_old]
        · intro a j pers s2 he hon
          subst he
          exact fin_panic (leave_eff (lay_cons rfl lay_nil) rfl) ⟨rfl, j, hon.trunc⟩
      · exact ⟨0, fun res h h' => absurd h' hi⟩

end Go.Tpl

namespace Go.Tpl
open Go Go.Am Go.Proofs

theorem bytesOf_cells : ∀ l : List UInt8, bytesOf (Am.byteCells l) = some l
  | [] => rfl
  | c :: r => by
    have ih := bytesOf_cells r
    simp only [Am.byteCells, List.map_cons, bytesOf] at ih ⊢
    rw [ih]
    simp

/-- what Parse comes to -/
def parseV : PRes → AV
  | .ok (l, _) => .tup [.vec (avs l) .shut, .int .i64 0, .int .i64 0]
  | .error a => .tup [.vec [] .shut, .int .i64 50, .int .i64 a]

theorem parse_spec (t : List UInt8) (gr : Int) (ht : t.length < 2 ^ 30) (n : Nat) (res : PRes) (hres : partsM t gr n [] 1 0 [] = some res) : ∃ N, ∀ m, N ≤ m → ∀ b s a0 a2, a0.weak = .vec (Am.byteCells t) .shut → a2.weak = .vec [] .shut →
    callF T m b 8 [a0, .int .i64 gr, a2] s = some (.ret (parseV res), s) := by
  obtain ⟨N, hN⟩ := parts_ok t gr ht n [] 1 0
  refine ⟨N + 5, ?_⟩
  intro m hm b s a0 a2 h0 h2
  obtain ⟨m, rfl⟩ : ∃ m', m = m' + 1 := ⟨m - 1, by omega⟩
  suffices h : OkF (callF T (m + 1) b 8 [a0, .int .i64 gr, a2] s) (fun o s' => o = .ret (parseV res) ∧ s' = s) by
    obtain ⟨o, s', h1, rfl, rfl⟩ := h.ok
    exact h1
  have hw0 : AV.weakAll [a0, .int .i64 gr, a2] = [.vec (Am.byteCells t) .shut, .int .i64 gr, .vec [] .shut] := by
    simp only [AV.weakAll, h0, h2]
    rfl
  apply f_wp rfl rfl
  · show Shape (bindArgs (AV.weakAll [a0, .int .i64 gr, a2]) _) _
    rw [hw0]
    repeat (first | exact Shape.nil | (apply Shape.cons; (conv => lhs; whnf)))
  ((repeat refine c_seq ?_); refine c_region ?_; (repeat (first | ((first | apply o_move rfl rfl | apply o_easy1 rfl rfl rfl | apply o_ld rfl rfl (by assumption) (by first | rfl | assumption)); conv => lhs; whnf) | refine o_no rfl ?_ | refine o_add rfl rfl rfl (by omega) (by omega) ?_ | refine o_sub rfl rfl rfl (by omega) (by omega) ?_ | refine o_mul rfl rfl rfl (by omega) (by omega) ?_ | refine o_sadd rfl rfl rfl (by omega) ?_ | refine o_seql_t rfl rfl rfl (by assumption) ?_ | refine o_seql_f rfl rfl rfl (by assumption) ?_ | refine o_ct rfl rfl rfl (by dsimp only [cmpP]; omega) ?_ | refine o_cf rfl rfl rfl (by dsimp only [cmpN]; omega) ?_ | (apply o_easy rfl rfl rfl; conv => lhs; whnf) | refine o_non rfl ?_)))
  refine o_alloc rfl ?_
  refine o_alloc rfl ?_
  refine o_alloc rfl ?_
  (apply o_end; (repeat (first | exact OutS.nil | exact GetS.hit | exact PutS.hit | apply GetS.miss rfl | apply PutS.miss rfl | apply OutS.cons | apply OutS.skip rfl)))
  ((repeat refine c_seq ?_); refine c_region ?_; (repeat (first | ((first | apply o_move rfl rfl | apply o_easy1 rfl rfl rfl | apply o_ld rfl rfl (by assumption) (by first | rfl | assumption)); conv => lhs; whnf) | refine o_no rfl ?_ | refine o_add rfl rfl rfl (by omega) (by omega) ?_ | refine o_sub rfl rfl rfl (by omega) (by omega) ?_ | refine o_mul rfl rfl rfl (by omega) (by omega) ?_ | refine o_sadd rfl rfl rfl (by omega) ?_ | refine o_seql_t rfl rfl rfl (by assumption) ?_ | refine o_seql_f rfl rfl rfl (by assumption) ?_ | refine o_ct rfl rfl rfl (by dsimp only [cmpP]; omega) ?_ | refine o_cf rfl rfl rfl (by dsimp only [cmpN]; omega) ?_ | (apply o_easy rfl rfl rfl; conv => lhs; whnf) | refine o_non rfl ?_)))
  refine o_bs rfl rfl (bytesOf_cells t) ?_
  (repeat (first | ((first | apply o_move rfl rfl | apply o_easy1 rfl rfl rfl | apply o_ld rfl rfl (by assumption) (by first | rfl | assumption)); conv => lhs; whnf) | refine o_no rfl ?_ | refine o_add rfl rfl rfl (by omega) (by omega) ?_ | refine o_sub rfl rfl rfl (by omega) (by omega) ?_ | refine o_mul rfl rfl rfl (by omega) (by omega) ?_ | refine o_sadd rfl rfl rfl (by omega) ?_ | refine o_seql_t rfl rfl rfl (by assumption) ?_ | refine o_seql_f rfl rfl rfl (by assumption) ?_ | refine o_ct rfl rfl rfl (by dsimp only [cmpP]; omega) ?_ | refine o_cf rfl rfl rfl (by dsimp only [cmpN]; omega) ?_ | (apply o_easy rfl rfl rfl; conv => lhs; whnf) | refine o_non rfl ?_))
  refine o_box (v := .agg (rd t 0 gr)) (l := rd t 0 gr) rfl rfl rfl ?_
  (repeat (first | ((first | apply o_move rfl rfl | apply o_easy1 rfl rfl rfl | apply o_ld rfl rfl (by assumption) (by first | rfl | assumption)); conv => lhs; whnf) | refine o_no rfl ?_ | refine o_add rfl rfl rfl (by omega) (by omega) ?_ | refine o_sub rfl rfl rfl (by omega) (by omega) ?_ | refine o_mul rfl rfl rfl (by omega) (by omega) ?_ | refine o_sadd rfl rfl rfl (by omega) ?_ | refine o_seql_t rfl rfl rfl (by assumption) ?_ | refine o_seql_f rfl rfl rfl (by assumption) ?_ | refine o_ct rfl rfl rfl (by dsimp only [cmpP]; omega) ?_ | refine o_cf rfl rfl rfl (by dsimp only [cmpN]; omega) ?_ | (apply o_easy rfl rfl rfl; conv => lhs; whnf) | refine o_non rfl ?_))
  (apply o_end; (repeat (first | exact OutS.nil | exact GetS.hit | exact PutS.hit | apply GetS.miss rfl | apply PutS.miss rfl | apply OutS.cons | apply OutS.skip rfl)))
  ((repeat refine c_seq ?_); refine c_region ?_; (repeat (first | ((first | apply o_move rfl rfl | apply o_easy1 rfl rfl rfl | apply o_ld rfl rfl (by assumption) (by first | rfl | assumption)); conv => lhs; whnf) | refine o_no rfl ?_ | refine o_add rfl rfl rfl (by omega) (by omega) ?_ | refine o_sub rfl rfl rfl (by omega) (by omega) ?_ | refine o_mul rfl rfl rfl (by omega) (by omega) ?_ | refine o_sadd rfl rfl rfl (by omega) ?_ | refine o_seql_t rfl rfl rfl (by assumption) ?_ | refine o_seql_f rfl rfl rfl (by assumption) ?_ | refine o_ct rfl rfl rfl (by dsimp only [cmpP]; omega) ?_ | refine o_cf rfl rfl rfl (by dsimp only [cmpN]; omega) ?_ | (apply o_easy rfl rfl rfl; conv => lhs; whnf) | refine o_non rfl ?_)))
  refine o_defer rfl rfl rfl rfl rfl ?_
  (apply o_end; (repeat (first | exact OutS.nil | exact GetS.hit | exact PutS.hit | apply GetS.miss rfl | apply PutS.miss rfl | apply OutS.cons | apply OutS.skip rfl)))
  ((repeat refine c_seq ?_); refine c_region ?_; (repeat (first | ((first | apply o_move rfl rfl | apply o_easy1 rfl rfl rfl | apply o_ld rfl rfl (by assumption) (by first | rfl | assumption)); conv => lhs; whnf) | refine o_no rfl ?_ | refine o_add rfl rfl rfl (by omega) (by omega) ?_ | refine o_sub rfl rfl rfl (by omega) (by omega) ?_ | refine o_mul rfl rfl rfl (by omega) (by omega) ?_ | refine o_sadd rfl rfl rfl (by omega) ?_ | refine o_seql_t rfl rfl rfl (by assumption) ?_ | refine o_seql_f rfl rfl rfl (by assumption) ?_ | refine o_ct rfl rfl rfl (by dsimp only [cmpP]; omega) ?_ | refine o_cf rfl rfl rfl (by dsimp only [cmpN]; omega) ?_ | (apply o_easy rfl rfl rfl; conv => lhs; whnf) | refine o_non rfl ?_)))
  have hA := getCells_push (.cells (rd t 0 gr) 0) (getCells_push (.cells [.int .i64 0] 0) (getCells_push (.cells [.int .i64 0] 0) (getCells_new s [.nilsl] 0)))
  have hB := getCells_push (.cells (rd t 0 gr) 0) (getCells_push (.cells [.int .i64 0] 0) (getCells_new (s.push (.cells [.nilsl] 0)) [.int .i64 0] 0))
  have hC := getCells_push (.cells (rd t 0 gr) 0) (getCells_new ((s.push (.cells [.nilsl] 0)).push (.cells [.int .i64 0] 0)) [.int .i64 0] 0)
  have hR := getCells_new (((s.push (.cells [.nilsl] 0)).push (.cells [.int .i64 0] 0)).push (.cells [.int .i64 0] 0)) (rd t 0 gr) 0
  have lA : s.heap.length < (s.push (.cells [.nilsl] 0)).heap.length := by rw [Sg.push_len]; omega
  have lB : (s.push (.cells [.nilsl] 0)).heap.length < ((s.push (.cells [.nilsl] 0)).push (.cells [.int .i64 0] 0)).heap.length := by rw [Sg.push_len (s.push _)]; omega
  have lC : ((s.push (.cells [.nilsl] 0)).push (.cells [.int .i64 0] 0)).heap.length < (((s.push (.cells [.nilsl] 0)).push (.cells [.int .i64 0] 0)).push (.cells [.int .i64 0] 0)).heap.length := by rw [Sg.push_len ((s.push _).push _)]; omega
  generalize ((((s.push (.cells [.nilsl] 0)).push (.cells [.int .i64 0] 0)).push (.cells [.int .i64 0] 0)).push (.cells (rd t 0 gr) 0)) = s1 at hA hB hC hR ⊢
  generalize (((s.push (.cells [.nilsl] 0)).push (.cells [.int .i64 0] 0)).push (.cells [.int .i64 0] 0)).heap.length = R at hR lC ⊢
  generalize ((s.push (.cells [.nilsl] 0)).push (.cells [.int .i64 0] 0)).heap.length = C at hC lB lC ⊢
  generalize (s.push (.cells [.nilsl] 0)).heap.length = B at hB lA lB ⊢
  have hcall := hN res hres (Nat.zero_le _) m (by omega) (b.into .pure s) R 0 s1 (by show s.heap.length ≤ R; omega) hR
  refine o_callw (l := [.ptr R 0 0, .str [], .int .i64 ((1 : Nat) : Int)]) rfl rfl (hcall.mono ?_)
  cases res with
  | ok x =>
    obtain ⟨l, j⟩ := x
    rintro o s2 ⟨rfl, rfl, hj⟩
    have hA1 := getCells_put_ne (i := R) (o := .cells (rd t j gr) 0) (by omega) hA
    have hB1 := getCells_put_ne (i := R) (o := .cells (rd t j gr) 0) (by omega) hB
    have hC1 := getCells_put_ne (i := R) (o := .cells (rd t j gr) 0) (by omega) hC
    generalize s1.put R (.cells (rd t j gr) 0) = s2 at hA1 hB1 hC1 ⊢
    refine o_st rfl rfl rfl rfl hA1 rfl (lets_of (blt_no (by show s.heap.length ≤ s.heap.length; omega)) (fun e => old_vec e l)) (cs' := [.vec (avs l) .shut]) rfl ?_
    have hA2 := getCells_put (cs' := [.vec (avs l) .shut]) (g' := 0) hA1
    have hB2 := getCells_put_ne (i := s.heap.length) (o := .cells [.vec (avs l) .shut] 0) (by omega) hB1
    have hC2 := getCells_put_ne (i := s.heap.length) (o := .cells [.vec (avs l) .shut] 0) (by omega) hC1
    refine o_st rfl rfl rfl rfl hB2 rfl (lets_of (blt_no (by show s.heap.length ≤ B; omega)) (fun e => rfl)) (cs' := [.int .i64 0]) rfl ?_
    have hA3 := getCells_put_ne (i := B) (o := .cells [.int .i64 0] 0) (by omega) hA2
    have hB3 := getCells_put (cs' := [.int .i64 0]) (g' := 0) hB2
    have hC3 := getCells_put_ne (i := B) (o := .cells [.int .i64 0] 0) (by omega) hC2
    refine o_st rfl rfl rfl rfl hC3 rfl (lets_of (blt_no (by show s.heap.length ≤ C; omega)) (fun e => rfl)) (cs' := [.int .i64 0]) rfl ?_
    have hA4 := getCells_put_ne (i := C) (o := .cells [.int .i64 0] 0) (by omega) hA3
    have hB4 := getCells_put_ne (i := C) (o := .cells [.int .i64 0] 0) (by omega) hB3
    have hC4 := getCells_put (cs' := [.int .i64 0]) (g' := 0) hC3
    generalize ((s2.put s.heap.length (.cells [.vec (avs l) .shut] 0)).put B (.cells [.int .i64 0] 0)).put C (.cells [.int .i64 0] 0) = s3 at hA4 hB4 hC4 ⊢
    (apply o_end; (repeat (first | exact OutS.nil | exact GetS.hit | exact PutS.hit | apply GetS.miss rfl | apply PutS.miss rfl | apply OutS.cons | apply OutS.skip rfl)))
    refine c_ret (fin_def (.inl ⟨rfl, rfl⟩) ?_)
    apply d_wp rfl rfl
    · repeat (first | exact Shape.nil | (apply Shape.cons; (conv => lhs; whnf)))
    refine c_seq (c_region ?_)
    refine o_recq rfl ?_
    (apply o_end; (repeat (first | exact OutS.nil | exact GetS.hit | exact PutS.hit | apply GetS.miss rfl | apply PutS.miss rfl | apply OutS.cons | apply OutS.skip rfl)))
    ((repeat refine c_seq ?_); refine c_block ?_)
    ((repeat refine c_seq ?_); refine c_region ?_; (repeat (first | ((first | apply o_move rfl rfl | apply o_easy1 rfl rfl rfl | apply o_ld rfl rfl (by assumption) (by first | rfl | assumption)); conv => lhs; whnf) | refine o_no rfl ?_ | refine o_add rfl rfl rfl (by omega) (by omega) ?_ | refine o_sub rfl rfl rfl (by omega) (by omega) ?_ | refine o_mul rfl rfl rfl (by omega) (by omega) ?_ | refine o_sadd rfl rfl rfl (by omega) ?_ | refine o_seql_t rfl rfl rfl (by assumption) ?_ | refine o_seql_f rfl rfl rfl (by assumption) ?_ | refine o_ct rfl rfl rfl (by dsimp only [cmpP]; omega) ?_ | refine o_cf rfl rfl rfl (by dsimp only [cmpN]; omega) ?_ | (apply o_easy rfl rfl rfl; conv => lhs; whnf) | refine o_non rfl ?_)); apply o_end; (repeat (first | exact OutS.nil | exact GetS.hit | exact PutS.hit | apply GetS.miss rfl | apply PutS.miss rfl | apply OutS.cons | apply OutS.skip rfl)))
    ((repeat refine c_seq ?_); refine c_if rfl ?_)
    ((repeat refine c_seq ?_); refine c_region ?_; (repeat (first | ((first | apply o_move rfl rfl | apply o_easy1 rfl rfl rfl | apply o_ld rfl rfl (by assumption) (by first | rfl | assumption)); conv => lhs; whnf) | refine o_no rfl ?_ | refine o_add rfl rfl rfl (by omega) (by omega) ?_ | refine o_sub rfl rfl rfl (by omega) (by omega) ?_ | refine o_mul rfl rfl rfl (by omega) (by omega) ?_ | refine o_sadd rfl rfl rfl (by omega) ?_ | refine o_seql_t rfl rfl rfl (by assumption) ?_ | refine o_seql_f rfl rfl rfl (by assumption) ?_ | refine o_ct rfl rfl rfl (by dsimp only [cmpP]; omega) ?_ | refine o_cf rfl rfl rfl (by dsimp only [cmpN]; omega) ?_ | (apply o_easy rfl rfl rfl; conv => lhs; whnf) | refine o_non rfl ?_)); apply o_end; (repeat (first | exact OutS.nil | exact GetS.hit | exact PutS.hit | apply GetS.miss rfl | apply PutS.miss rfl | apply OutS.cons | apply OutS.skip rfl)))
    refine ⟨.inl rfl, rfl, rfl, ?_⟩
    exact end_ret (read_cell rfl hA4 rfl (read_cell rfl hB4 rfl (read_cell rfl hC4 rfl read_nil))) (leave_pure (lay_cons rfl (lay_cons rfl (lay_cons rfl lay_nil))) (by simp [AV.oldAll, AV.old, AV.weak, avs_old])) ⟨rfl, rfl⟩
  | error a =>
    rintro o s2 ⟨rfl, j, rfl⟩
    have hA1 := getCells_put_ne (i := R) (o := .cells (rd t j gr) 0) (by omega) hA
    have hB1 := getCells_put_ne (i := R) (o := .cells (rd t j gr) 0) (by omega) hB
    have hC1 := getCells_put_ne (i := R) (o := .cells (rd t j gr) 0) (by omega) hC
    generalize s1.put R (.cells (rd t j gr) 0) = s2 at hA1 hB1 hC1 ⊢
    refine fin_def (.inr ⟨_, rfl, rfl⟩) ?_
    apply d_wp rfl rfl
    · repeat (first | exact Shape.nil | (apply Shape.cons; (conv => lhs; whnf)))
    refine c_seq (c_region ?_)
    refine o_rec rfl ?_
    (apply o_end; (repeat (first | exact OutS.nil | exact GetS.hit | exact PutS.hit | apply GetS.miss rfl | apply PutS.miss rfl | apply OutS.cons | apply OutS.skip rfl)))
    ((repeat refine c_seq ?_); refine c_block ?_)
    ((repeat refine c_seq ?_); refine c_region ?_; (repeat (first | ((first | apply o_move rfl rfl | apply o_easy1 rfl rfl rfl | apply o_ld rfl rfl (by assumption) (by first | rfl | assumption)); conv => lhs; whnf) | refine o_no rfl ?_ | refine o_add rfl rfl rfl (by omega) (by omega) ?_ | refine o_sub rfl rfl rfl (by omega) (by omega) ?_ | refine o_mul rfl rfl rfl (by omega) (by omega) ?_ | refine o_sadd rfl rfl rfl (by omega) ?_ | refine o_seql_t rfl rfl rfl (by assumption) ?_ | refine o_seql_f rfl rfl rfl (by assumption) ?_ | refine o_ct rfl rfl rfl (by dsimp only [cmpP]; omega) ?_ | refine o_cf rfl rfl rfl (by dsimp only [cmpN]; omega) ?_ | (apply o_easy rfl rfl rfl; conv => lhs; whnf) | refine o_non rfl ?_)); apply o_end; (repeat (first | exact OutS.nil | exact GetS.hit | exact PutS.hit | apply GetS.miss rfl | apply PutS.miss rfl | apply OutS.cons | apply OutS.skip rfl)))
    ((repeat refine c_seq ?_); refine c_else rfl ?_)
    ((repeat refine c_seq ?_); refine c_region ?_; (repeat (first | ((first | apply o_move rfl rfl | apply o_easy1 rfl rfl rfl | apply o_ld rfl rfl (by assumption) (by first | rfl | assumption)); conv => lhs; whnf) | refine o_no rfl ?_ | refine o_add rfl rfl rfl (by omega) (by omega) ?_ | refine o_sub rfl rfl rfl (by omega) (by omega) ?_ | refine o_mul rfl rfl rfl (by omega) (by omega) ?_ | refine o_sadd rfl rfl rfl (by omega) ?_ | refine o_seql_t rfl rfl rfl (by assumption) ?_ | refine o_seql_f rfl rfl rfl (by assumption) ?_ | refine o_ct rfl rfl rfl (by dsimp only [cmpP]; omega) ?_ | refine o_cf rfl rfl rfl (by dsimp only [cmpN]; omega) ?_ | (apply o_easy rfl rfl rfl; conv => lhs; whnf) | refine o_non rfl ?_)); apply o_end; (repeat (first | exact OutS.nil | exact GetS.hit | exact PutS.hit | apply GetS.miss rfl | apply PutS.miss rfl | apply OutS.cons | apply OutS.skip rfl)))
    ((repeat refine c_seq ?_); refine c_if rfl ?_)
    ((repeat refine c_seq ?_); refine c_region ?_; (repeat (first | ((first | apply o_move rfl rfl | apply o_easy1 rfl rfl rfl | apply o_ld rfl rfl (by assumption) (by first | rfl | assumption)); conv => lhs; whnf) | refine o_no rfl ?_ | refine o_add rfl rfl rfl (by omega) (by omega) ?_ | refine o_sub rfl rfl rfl (by omega) (by omega) ?_ | refine o_mul rfl rfl rfl (by omega) (by omega) ?_ | refine o_sadd rfl rfl rfl (by omega) ?_ | refine o_seql_t rfl rfl rfl (by assumption) ?_ | refine o_seql_f rfl rfl rfl (by assumption) ?_ | refine o_ct rfl rfl rfl (by dsimp only [cmpP]; omega) ?_ | refine o_cf rfl rfl rfl (by dsimp only [cmpN]; omega) ?_ | (apply o_easy rfl rfl rfl; conv => lhs; whnf) | refine o_non rfl ?_)); apply o_end; (repeat (first | exact OutS.nil | exact GetS.hit | exact PutS.hit | apply GetS.miss rfl | apply PutS.miss rfl | apply OutS.cons | apply OutS.skip rfl)))
    ((repeat refine c_seq ?_); refine c_region ?_; (repeat (first | ((first | apply o_move rfl rfl | apply o_easy1 rfl rfl rfl | apply o_ld rfl rfl (by assumption) (by first | rfl | assumption)); conv => lhs; whnf) | refine o_no rfl ?_ | refine o_add rfl rfl rfl (by omega) (by omega) ?_ | refine o_sub rfl rfl rfl (by omega) (by omega) ?_ | refine o_mul rfl rfl rfl (by omega) (by omega) ?_ | refine o_sadd rfl rfl rfl (by omega) ?_ | refine o_seql_t rfl rfl rfl (by assumption) ?_ | refine o_seql_f rfl rfl rfl (by assumption) ?_ | refine o_ct rfl rfl rfl (by dsimp only [cmpP]; omega) ?_ | refine o_cf rfl rfl rfl (by dsimp only [cmpN]; omega) ?_ | (apply o_easy rfl rfl rfl; conv => lhs; whnf) | refine o_non rfl ?_)))
    refine o_st rfl rfl rfl rfl hA1 rfl (lets_of (blt_no (by show s.heap.length ≤ s.heap.length; omega)) (fun e => rfl)) (cs' := [.nilsl]) rfl ?_
    have hA2 := getCells_put (cs' := [.nilsl]) (g' := 0) hA1
    have hB2 := getCells_put_ne (i := s.heap.length) (o := .cells [.nilsl] 0) (by omega) hB1
    have hC2 := getCells_put_ne (i := s.heap.length) (o := .cells [.nilsl] 0) (by omega) hC1
    refine o_st rfl rfl rfl rfl hB2 rfl (lets_of (blt_no (by show s.heap.length ≤ B; omega)) (fun e => rfl)) (cs' := [.int .i64 50]) rfl ?_
    have hA3 := getCells_put_ne (i := B) (o := .cells [.int .i64 50] 0) (by omega) hA2
    have hB3 := getCells_put (cs' := [.int .i64 50]) (g' := 0) hB2
    have hC3 := getCells_put_ne (i := B) (o := .cells [.int .i64 50] 0) (by omega) hC2
    refine o_st rfl rfl rfl rfl hC3 rfl (lets_of (blt_no (by show s.heap.length ≤ C; omega)) (fun e => rfl)) (cs' := [.int .i64 a]) rfl ?_
    have hA4 := getCells_put_ne (i := C) (o := .cells [.int .i64 a] 0) (by omega) hA3
    have hB4 := getCells_put_ne (i := C) (o := .cells [.int .i64 a] 0) (by omega) hB3
    have hC4 := getCells_put (cs' := [.int .i64 a]) (g' := 0) hC3
    (apply o_end; (repeat (first | exact OutS.nil | exact GetS.hit | exact PutS.hit | apply GetS.miss rfl | apply PutS.miss rfl | apply OutS.cons | apply OutS.skip rfl)))
    refine ⟨.inl rfl, rfl, rfl, ?_⟩
    exact end_ret (read_cell rfl hA4 rfl (read_cell rfl hB4 rfl (read_cell rfl hC4 rfl read_nil))) (leave_pure (lay_cons rfl (lay_cons rfl (lay_cons rfl lay_nil))) (by simp [AV.oldAll, AV.old, AV.weak])) ⟨rfl, rfl⟩

end Go.Tpl

namespace Go.Tpl
open Go Go.Am Go.Proofs

/-- what a group matched -/
def grp (subj : List UInt8) (spans : List (Int × Int)) (n : Int) : Option (List UInt8) :=
  if 0 ≤ n then match spans[n.toNat]? with
    | some (f, t) => if 0 ≤ f ∧ f ≤ t ∧ t ≤ subj.length then some ((subj.drop f.toNat).take (t.toNat - f.toNat)) else none
    | none => none
  else none

mutual
/-- a part's text -/
def expT (subj : List UInt8) (spans : List (Int × Int)) : Tp → List UInt8
  | .lit t => t
  | .group n => (grp subj spans n).getD []
  | .els n no => match grp subj spans n with
    | some x => x
    | none => expL subj spans no
  | .ifs n yes no => match grp subj spans n with
    | some _ => expL subj spans yes
    | none => expL subj spans no
/-- a template's text -/
def expL (subj : List UInt8) (spans : List (Int × Int)) : List Tp → List UInt8
  | [] => []
  | p :: r => expT subj spans p ++ expL subj spans r
end

def spAV (spans : List (Int × Int)) : List AV := spans.map fun x => .agg [.int .i64 x.1, .int .i64 x.2]

/-- how bytes that are gathered lie -/
def RepB (t0 : Nat) (s : Sg) (v : AV) (l : List UInt8) : Prop :=
  (l = [] ∧ v = .nilsl) ∨ ∃ i n, v = .vec (Am.byteCells l) (.tok i n) ∧ s.toks[i]? = some n ∧ t0 ≤ i

theorem RepB.defd {t0 : Nat} {s : Sg} {v : AV} {l : List UInt8} (hr : RepB t0 s v l) : v.def? = some v := by
  rcases hr with ⟨_, rfl⟩ | ⟨i, n, rfl, _⟩ <;> rfl

theorem RepB.same {t0 : Nat} {s s' : Sg} {v : AV} {l : List UInt8} (hr : RepB t0 s v l) (h : s'.toks = s.toks) : RepB t0 s' v l := by
  rcases hr with h1 | ⟨i, n, h1, h2, h3⟩
  · exact .inl h1
  · exact .inr ⟨i, n, h1, by rw [h]; exact h2, h3⟩

theorem bc_app (a b : List UInt8) : Am.byteCells (a ++ b) = Am.byteCells a ++ Am.byteCells b := by simp [Am.byteCells]
theorem bc_nil (a : List UInt8) : Am.byteCells a = [] ↔ a = [] := by simp [Am.byteCells]

/-- an append of bytes -/
theorem o_appB {call : CallFn} {b : Bar} {g : Option (Nat × Bool)} {r : List AOper} {loc : Env} {fr : Fr} {s : Sg} {Q : Ex → Env → Fr → Sg → Prop} {x y : AOpd} {t t0 : Nat} {v u : AV} {l p : List UInt8} (hg : wantedA loc fr.pers g = some true) (hx : x.ev loc fr.pers = some v) (hv : RepB t0 s v l) (hbt : b.t ≤ t0) (ht0 : t0 ≤ s.toks.length) (hy : y.ev loc fr.pers = some u) (hu : elemsOf s.heap none u = some (Am.byteCells p)) (hl : l.length + p.length ≤ 2 ^ 40)
    (hr : ∀ v' s', RepB t0 s' v' (l ++ p) → s'.heap = s.heap → s.toks.length ≤ s'.toks.length → OkO call b r ((t, v') :: loc) fr s' Q) : OkO call b (⟨some t, .e (.append false none 1 x y), g⟩ :: r) loc fr s Q := by
  by_cases hp : p = []
  · subst hp
    refine o_app_none hg hx ?_ hy hu (by simp [Am.byteCells]) (hr v s (by simpa using hv) rfl (Nat.le_refl _))
    rcases hv with ⟨_, rfl⟩ | ⟨i, n, rfl, _⟩
    · exact .inl rfl
    · exact .inr ⟨_, _, rfl⟩
  · have hne : Am.byteCells p ≠ [] := fun e => hp ((bc_nil p).mp e)
    have hs : (allSize ((none : Option Nat).getD 1) (Am.byteCells p) && allOneAll (Am.byteCells p)) = true := by
      rw [Bool.and_eq_true]
      exact ⟨Am.byteCells_size p, Am.byteCells_one p⟩
    rcases hv with ⟨rfl, rfl⟩ | ⟨i, n, rfl, hn, hi⟩
    · refine o_app_first hg hx hy hu hs hne (ble_of (by rw [Am.byteCells_length]; simp [limit] at hl ⊢; omega)) (hr _ _ (.inr ⟨s.toks.length, 0, rfl, by simp, ht0⟩) rfl (by simp))
    · refine o_app_tok hg hx hy hu hs (Am.byteCells_size l) hne (ble_of (by rw [Am.byteCells_length, Am.byteCells_length]; simp only [limit]; omega)) (blt_no (by omega)) hn (hr _ _ (.inr ⟨i, n + 1, by rw [bc_app], ?_, hi⟩) rfl (by simp [length_setAt]))
      have := lt_of_getElem? hn
      simp [getElem?_setAt, this]

end Go.Tpl

namespace Go.Tpl
open Go Go.Am Go.Proofs

/-- Expand's temporaries -/
abbrev fr9 (l subj spans : AV) (k len : Nat) (x16 x9 x11 x29 x12 x52 x59 x66 x78 v x10 : AV) : Fr :=
  ⟨[(0, l), (1, subj), (2, spans), (6, .nilsl), (15, .int .i64 k), (14, .int .i64 len), (16, x16), (13, l), (9, x9), (11, x11), (29, x29), (12, x12), (52, x52), (59, x59), (66, x66), (78, x78), (7, v), (10, x10)], [], .off⟩

/-- what a call of Expand comes to -/
def ExpAt (subj : List UInt8) (spans : List (Int × Int)) (l : List Tp) (N : Nat) : Prop :=
  (expL subj spans l).length < 2 ^ 39 → ∀ m, N ≤ m → ∀ b s a0 a1 a2, a0.weak = .vec (avs l) .shut → a1.weak = .vec (Am.byteCells subj) .shut → a2.weak = .vec (spAV spans) .shut →
    callF T m b 9 [a0, a1, a2] s = some (.ret (.vec (Am.byteCells (expL subj spans l)) .shut), s)

def PSub (subj : List UInt8) (spans : List (Int × Int)) : Tp → Nat → Prop
  | .lit _, _ => True
  | .group _, _ => True
  | .els _ no, N => ExpAt subj spans no N
  | .ifs _ yes no, N => ExpAt subj spans yes N ∧ ExpAt subj spans no N

/-- a part of function 9 -/
def tail9 : ACode := .seq (.block 2 (.seq (.region [⟨(some 60), .v (.fieldAddr 0 none (.tmp 9)), none⟩, ⟨(some 61), .v (.load none (.tmp 60)), none⟩, ⟨(some 62), .v (.bin .eql (.tmp 61) (.const (.int .i64 1))), none⟩, ⟨(some 59), .v (.move (.tmp 62)), none⟩] [59]) (.cond (.tmp 59) (.region [⟨(some 63), .v (.fieldAddr 1 none (.tmp 9)), none⟩, ⟨(some 64), .v (.load none (.tmp 63)), none⟩, ⟨(some 65), .v (.conv .strBytes (.tmp 64)), none⟩, ⟨(some 10), .v (.move (.tmp 65)), none⟩] [10]) (.seq (.region [⟨(some 67), .v (.fieldAddr 0 none (.tmp 9)), none⟩, ⟨(some 68), .v (.load none (.tmp 67)), none⟩, ⟨(some 69), .v (.bin .eql (.tmp 68) (.const (.int .i64 4))), none⟩, ⟨(some 70), .v (.move (.tmp 69)), none⟩, ⟨(some 71), .v (.move (.tmp 11)), (some (70, true))⟩, ⟨(some 72), .v (.pick (.tmp 70) (.tmp 71) (.const (.bool false))), none⟩, ⟨(some 66), .v (.move (.tmp 72)), none⟩] [66]) (.cond (.tmp 66) (.region [⟨(some 73), .v (.fieldAddr 3 none (.tmp 9)), none⟩, ⟨(some 74), .v (.load none (.tmp 73)), none⟩, ⟨(some 75), .v (.move (.tmp 1)), none⟩, ⟨(some 76), .v (.move (.tmp 2)), none⟩, ⟨(some 77), .call 9 [(.tmp 74), (.tmp 75), (.tmp 76)], none⟩, ⟨(some 10), .v (.move (.tmp 77)), none⟩] [10]) (.seq (.region [⟨(some 79), .v (.fieldAddr 0 none (.tmp 9)), none⟩, ⟨(some 80), .v (.load none (.tmp 79)), none⟩, ⟨(some 81), .v (.bin .eql (.tmp 80) (.const (.int .i64 4))), none⟩, ⟨(some 82), .v (.move (.tmp 81)), none⟩, ⟨(some 83), .v (.fieldAddr 0 none (.tmp 9)), (some (82, false))⟩, ⟨(some 84), .v (.load none (.tmp 83)), (some (82, false))⟩, ⟨(some 85), .v (.bin .eql (.tmp 84) (.const (.int .i64 3))), (some (82, false))⟩, ⟨(some 86), .v (.move (.tmp 85)), (some (82, false))⟩, ⟨(some 87), .v (.move (.tmp 11)), (some (86, true))⟩, ⟨(some 88), .v (.un .not (.tmp 87)), (some (86, true))⟩, ⟨(some 89), .v (.pick (.tmp 86) (.tmp 88) (.const (.bool false))), (some (82, false))⟩, ⟨(some 90), .v (.pick (.tmp 82) (.const (.bool true)) (.tmp 89)), none⟩, ⟨(some 78), .v (.move (.tmp 90)), none⟩] [78]) (.cond (.tmp 78) (.region [⟨(some 91), .v (.fieldAddr 4 none (.tmp 9)), none⟩, ⟨(some 92), .v (.load none (.tmp 91)), none⟩, ⟨(some 93), .v (.move (.tmp 1)), none⟩, ⟨(some 94), .v (.move (.tmp 2)), none⟩, ⟨(some 95), .call 9 [(.tmp 92), (.tmp 93), (.tmp 94)], none⟩, ⟨(some 10), .v (.move (.tmp 95)), none⟩] [10]) (.skip)))))))) (.region [⟨(some 96), .v (.move (.tmp 7)), none⟩, ⟨(some 97), .v (.move (.tmp 10)), none⟩, ⟨(some 98), .e (.append false none 1 (.tmp 96) (.tmp 97)), none⟩, ⟨(some 7), .v (.move (.tmp 98)), none⟩] [7])

abbrev Tp.num : Tp → Int
  | .lit _ => 0
  | .group n => n
  | .els n _ => n
  | .ifs n _ _ => n

/-- what the text of a part lies as ahead of the switch: the group's -/
def Pc (x10 : AV) (o : Option (List UInt8)) : Prop := match o with
  | none => x10 = .nilsl
  | some q => ∃ tl, x10 = .vec (Am.byteCells q) tl

theorem exp_tail (m : Nat) (b : Bar) (subj : List UInt8) (spans : List (Int × Int)) (l : AV) (k len : Nat) (p : Tp) (N t0 : Nat) (hN : PSub subj spans p N) (hm : N ≤ m) (acc : List UInt8) (hlen : (acc ++ expT subj spans p).length < 2 ^ 39) (hbt : b.t ≤ t0)
    (i9 : Nat) (x16 x29 x12 x52 x59 x66 x78 v x10 : AV) (s : Sg) (hc : getCells s.heap i9 0 = some p.cells) (ht0 : t0 ≤ s.toks.length) (hv : RepB t0 s v acc) (hx : Pc x10 (grp subj spans p.num)) {Q : Ex → Fr → Sg → Prop}
    (hq : ∀ y59 y66 y78 v' y10 s', RepB t0 s' v' (acc ++ expT subj spans p) → s'.heap.length = s.heap.length → t0 ≤ s'.toks.length → Q .normal (fr9 l (.vec (Am.byteCells subj) .shut) (.vec (spAV spans) .shut) k len x16 (.ptr i9 0 0) (.bool (grp subj spans p.num).isSome) x29 x12 x52 y59 y66 y78 v' y10) s') :
    OkC (loopN m) (callF T m) b tail9 (fr9 l (.vec (Am.byteCells subj) .shut) (.vec (spAV spans) .shut) k len x16 (.ptr i9 0 0) (.bool (grp subj spans p.num).isSome) x29 x12 x52 x59 x66 x78 v x10) s Q := by
  cases p with
  | lit t =>
    simp only [Tp.cells] at hc
    ((repeat refine c_seq ?_); refine c_block ?_)
    ((repeat refine c_seq ?_); refine c_region ?_; (repeat (first | ((first | apply o_move rfl rfl | apply o_easy1 rfl rfl rfl | apply o_ld rfl rfl (by assumption) (by first | rfl | assumption)); conv => lhs; whnf) | refine o_no rfl ?_ | refine o_add rfl rfl rfl (by omega) (by omega) ?_ | refine o_sub rfl rfl rfl (by omega) (by omega) ?_ | refine o_mul rfl rfl rfl (by omega) (by omega) ?_ | refine o_sadd rfl rfl rfl (by omega) ?_ | refine o_seql_t rfl rfl rfl (by assumption) ?_ | refine o_seql_f rfl rfl rfl (by assumption) ?_ | refine o_ct rfl rfl rfl (by dsimp only [cmpP]; omega) ?_ | refine o_cf rfl rfl rfl (by dsimp only [cmpN]; omega) ?_ | (apply o_easy rfl rfl rfl; conv => lhs; whnf) | refine o_non rfl ?_)); apply o_end; (repeat (first | exact OutS.nil | exact GetS.hit | exact PutS.hit | apply GetS.miss rfl | apply PutS.miss rfl | apply OutS.cons | apply OutS.skip rfl)))
    ((repeat refine c_seq ?_); refine c_if rfl ?_)
    ((repeat refine c_seq ?_); refine c_region ?_; (repeat (first | ((first | apply o_move rfl rfl | apply o_easy1 rfl rfl rfl | apply o_ld rfl rfl (by assumption) (by first | rfl | assumption)); conv => lhs; whnf) | refine o_no rfl ?_ | refine o_add rfl rfl rfl (by omega) (by omega) ?_ | refine o_sub rfl rfl rfl (by omega) (by omega) ?_ | refine o_mul rfl rfl rfl (by omega) (by omega) ?_ | refine o_sadd rfl rfl rfl (by omega) ?_ | refine o_seql_t rfl rfl rfl (by assumption) ?_ | refine o_seql_f rfl rfl rfl (by assumption) ?_ | refine o_ct rfl rfl rfl (by dsimp only [cmpP]; omega) ?_ | refine o_cf rfl rfl rfl (by dsimp only [cmpN]; omega) ?_ | (apply o_easy rfl rfl rfl; conv => lhs; whnf) | refine o_non rfl ?_)); apply o_end; (repeat (first | exact OutS.nil | exact GetS.hit | exact PutS.hit | apply GetS.miss rfl | apply PutS.miss rfl | apply OutS.cons | apply OutS.skip rfl)))
    ((repeat refine c_seq ?_); refine c_region ?_; (repeat (first | ((first | apply o_move rfl rfl | apply o_easy1 rfl rfl rfl | apply o_ld rfl rfl (by assumption) (by first | rfl | assumption)); conv => lhs; whnf) | refine o_no rfl ?_ | refine o_add rfl rfl rfl (by omega) (by omega) ?_ | refine o_sub rfl rfl rfl (by omega) (by omega) ?_ | refine o_mul rfl rfl rfl (by omega) (by omega) ?_ | refine o_sadd rfl rfl rfl (by omega) ?_ | refine o_seql_t rfl rfl rfl (by assumption) ?_ | refine o_seql_f rfl rfl rfl (by assumption) ?_ | refine o_ct rfl rfl rfl (by dsimp only [cmpP]; omega) ?_ | refine o_cf rfl rfl rfl (by dsimp only [cmpN]; omega) ?_ | (apply o_easy rfl rfl rfl; conv => lhs; whnf) | refine o_non rfl ?_)))
    refine o_move rfl hv.defd rfl ?_
    (repeat (first | ((first | apply o_move rfl rfl | apply o_easy1 rfl rfl rfl | apply o_ld rfl rfl (by assumption) (by first | rfl | assumption)); conv => lhs; whnf) | refine o_no rfl ?_ | refine o_add rfl rfl rfl (by omega) (by omega) ?_ | refine o_sub rfl rfl rfl (by omega) (by omega) ?_ | refine o_mul rfl rfl rfl (by omega) (by omega) ?_ | refine o_sadd rfl rfl rfl (by omega) ?_ | refine o_seql_t rfl rfl rfl (by assumption) ?_ | refine o_seql_f rfl rfl rfl (by assumption) ?_ | refine o_ct rfl rfl rfl (by dsimp only [cmpP]; omega) ?_ | refine o_cf rfl rfl rfl (by dsimp only [cmpN]; omega) ?_ | (apply o_easy rfl rfl rfl; conv => lhs; whnf) | refine o_non rfl ?_))
    refine o_appB (p := t) rfl hv.defd hv hbt ht0 rfl rfl (by simp [expT] at hlen; omega) fun v' s' hv' hh ht => ?_
    refine o_move rfl hv'.defd rfl ?_
    (apply o_end; (repeat (first | exact OutS.nil | exact GetS.hit | exact PutS.hit | apply GetS.miss rfl | apply PutS.miss rfl | apply OutS.cons | apply OutS.skip rfl)))
    exact hq _ _ _ _ _ _ hv' (by rw [hh]) (by omega)
  | group n =>
    simp only [Tp.cells] at hc
    simp only [Tp.num] at hx hq ⊢
    simp only [expT] at hlen hq
    cases hg : grp subj spans n with
    | none =>
      simp only [hg, Pc, Option.getD_none, Option.isSome_none, List.length_append, List.length_nil] at hx hq hlen ⊢
      subst hx
      ((repeat refine c_seq ?_); refine c_block ?_)
      ((repeat refine c_seq ?_); refine c_region ?_; (repeat (first | ((first | apply o_move rfl rfl | apply o_easy1 rfl rfl rfl | apply o_ld rfl rfl (by assumption) (by first | rfl | assumption)); conv => lhs; whnf) | refine o_no rfl ?_ | refine o_add rfl rfl rfl (by omega) (by omega) ?_ | refine o_sub rfl rfl rfl (by omega) (by omega) ?_ | refine o_mul rfl rfl rfl (by omega) (by omega) ?_ | refine o_sadd rfl rfl rfl (by omega) ?_ | refine o_seql_t rfl rfl rfl (by assumption) ?_ | refine o_seql_f rfl rfl rfl (by assumption) ?_ | refine o_ct rfl rfl rfl (by dsimp only [cmpP]; omega) ?_ | refine o_cf rfl rfl rfl (by dsimp only [cmpN]; omega) ?_ | (apply o_easy rfl rfl rfl; conv => lhs; whnf) | refine o_non rfl ?_)); apply o_end; (repeat (first | exact OutS.nil | exact GetS.hit | exact PutS.hit | apply GetS.miss rfl | apply PutS.miss rfl | apply OutS.cons | apply OutS.skip rfl)))
      ((repeat refine c_seq ?_); refine c_else rfl ?_)
      ((repeat refine c_seq ?_); refine c_region ?_; (repeat (first | ((first | apply o_move rfl rfl | apply o_easy1 rfl rfl rfl | apply o_ld rfl rfl (by assumption) (by first | rfl | assumption)); conv => lhs; whnf) | refine o_no rfl ?_ | refine o_add rfl rfl rfl (by omega) (by omega) ?_ | refine o_sub rfl rfl rfl (by omega) (by omega) ?_ | refine o_mul rfl rfl rfl (by omega) (by omega) ?_ | refine o_sadd rfl rfl rfl (by omega) ?_ | refine o_seql_t rfl rfl rfl (by assumption) ?_ | refine o_seql_f rfl rfl rfl (by assumption) ?_ | refine o_ct rfl rfl rfl (by dsimp only [cmpP]; omega) ?_ | refine o_cf rfl rfl rfl (by dsimp only [cmpN]; omega) ?_ | (apply o_easy rfl rfl rfl; conv => lhs; whnf) | refine o_non rfl ?_)); apply o_end; (repeat (first | exact OutS.nil | exact GetS.hit | exact PutS.hit | apply GetS.miss rfl | apply PutS.miss rfl | apply OutS.cons | apply OutS.skip rfl)))
      ((repeat refine c_seq ?_); refine c_else rfl ?_)
      ((repeat refine c_seq ?_); refine c_region ?_; (repeat (first | ((first | apply o_move rfl rfl | apply o_easy1 rfl rfl rfl | apply o_ld rfl rfl (by assumption) (by first | rfl | assumption)); conv => lhs; whnf) | refine o_no rfl ?_ | refine o_add rfl rfl rfl (by omega) (by omega) ?_ | refine o_sub rfl rfl rfl (by omega) (by omega) ?_ | refine o_mul rfl rfl rfl (by omega) (by omega) ?_ | refine o_sadd rfl rfl rfl (by omega) ?_ | refine o_seql_t rfl rfl rfl (by assumption) ?_ | refine o_seql_f rfl rfl rfl (by assumption) ?_ | refine o_ct rfl rfl rfl (by dsimp only [cmpP]; omega) ?_ | refine o_cf rfl rfl rfl (by dsimp only [cmpN]; omega) ?_ | (apply o_easy rfl rfl rfl; conv => lhs; whnf) | refine o_non rfl ?_)); apply o_end; (repeat (first | exact OutS.nil | exact GetS.hit | exact PutS.hit | apply GetS.miss rfl | apply PutS.miss rfl | apply OutS.cons | apply OutS.skip rfl)))
      ((repeat refine c_seq ?_); refine c_else rfl ?_)
      refine c_skip ?_
      ((repeat refine c_seq ?_); refine c_region ?_; (repeat (first | ((first | apply o_move rfl rfl | apply o_easy1 rfl rfl rfl | apply o_ld rfl rfl (by assumption) (by first | rfl | assumption)); conv => lhs; whnf) | refine o_no rfl ?_ | refine o_add rfl rfl rfl (by omega) (by omega) ?_ | refine o_sub rfl rfl rfl (by omega) (by omega) ?_ | refine o_mul rfl rfl rfl (by omega) (by omega) ?_ | refine o_sadd rfl rfl rfl (by omega) ?_ | refine o_seql_t rfl rfl rfl (by assumption) ?_ | refine o_seql_f rfl rfl rfl (by assumption) ?_ | refine o_ct rfl rfl rfl (by dsimp only [cmpP]; omega) ?_ | refine o_cf rfl rfl rfl (by dsimp only [cmpN]; omega) ?_ | (apply o_easy rfl rfl rfl; conv => lhs; whnf) | refine o_non rfl ?_)))
      refine o_move rfl hv.defd rfl ?_
      (repeat (first | ((first | apply o_move rfl rfl | apply o_easy1 rfl rfl rfl | apply o_ld rfl rfl (by assumption) (by first | rfl | assumption)); conv => lhs; whnf) | refine o_no rfl ?_ | refine o_add rfl rfl rfl (by omega) (by omega) ?_ | refine o_sub rfl rfl rfl (by omega) (by omega) ?_ | refine o_mul rfl rfl rfl (by omega) (by omega) ?_ | refine o_sadd rfl rfl rfl (by omega) ?_ | refine o_seql_t rfl rfl rfl (by assumption) ?_ | refine o_seql_f rfl rfl rfl (by assumption) ?_ | refine o_ct rfl rfl rfl (by dsimp only [cmpP]; omega) ?_ | refine o_cf rfl rfl rfl (by dsimp only [cmpN]; omega) ?_ | (apply o_easy rfl rfl rfl; conv => lhs; whnf) | refine o_non rfl ?_))
      refine o_appB (p := []) rfl hv.defd hv hbt ht0 rfl rfl (by simp; omega) fun v' s' hv' hh ht => ?_
      refine o_move rfl hv'.defd rfl ?_
      (apply o_end; (repeat (first | exact OutS.nil | exact GetS.hit | exact PutS.hit | apply GetS.miss rfl | apply PutS.miss rfl | apply OutS.cons | apply OutS.skip rfl)))
      exact hq _ _ _ _ _ _ hv' (by rw [hh]) (by omega)
    | some q =>
      simp only [hg, Pc, Option.getD_some, Option.isSome_some, List.length_append] at hx hq hlen ⊢
      obtain ⟨tl, rfl⟩ := hx
      ((repeat refine c_seq ?_); refine c_block ?_)
      ((repeat refine c_seq ?_); refine c_region ?_; (repeat (first | ((first | apply o_move rfl rfl | apply o_easy1 rfl rfl rfl | apply o_ld rfl rfl (by assumption) (by first | rfl | assumption)); conv => lhs; whnf) | refine o_no rfl ?_ | refine o_add rfl rfl rfl (by omega) (by omega) ?_ | refine o_sub rfl rfl rfl (by omega) (by omega) ?_ | refine o_mul rfl rfl rfl (by omega) (by omega) ?_ | refine o_sadd rfl rfl rfl (by omega) ?_ | refine o_seql_t rfl rfl rfl (by assumption) ?_ | refine o_seql_f rfl rfl rfl (by assumption) ?_ | refine o_ct rfl rfl rfl (by dsimp only [cmpP]; omega) ?_ | refine o_cf rfl rfl rfl (by dsimp only [cmpN]; omega) ?_ | (apply o_easy rfl rfl rfl; conv => lhs; whnf) | refine o_non rfl ?_)); apply o_end; (repeat (first | exact OutS.nil | exact GetS.hit | exact PutS.hit | apply GetS.miss rfl | apply PutS.miss rfl | apply OutS.cons | apply OutS.skip rfl)))
      ((repeat refine c_seq ?_); refine c_else rfl ?_)
      ((repeat refine c_seq ?_); refine c_region ?_; (repeat (first | ((first | apply o_move rfl rfl | apply o_easy1 rfl rfl rfl | apply o_ld rfl rfl (by assumption) (by first | rfl | assumption)); conv => lhs; whnf) | refine o_no rfl ?_ | refine o_add rfl rfl rfl (by omega) (by omega) ?_ | refine o_sub rfl rfl rfl (by omega) (by omega) ?_ | refine o_mul rfl rfl rfl (by omega) (by omega) ?_ | refine o_sadd rfl rfl rfl (by omega) ?_ | refine o_seql_t rfl rfl rfl (by assumption) ?_ | refine o_seql_f rfl rfl rfl (by assumption) ?_ | refine o_ct rfl rfl rfl (by dsimp only [cmpP]; omega) ?_ | refine o_cf rfl rfl rfl (by dsimp only [cmpN]; omega) ?_ | (apply o_easy rfl rfl rfl; conv => lhs; whnf) | refine o_non rfl ?_)); apply o_end; (repeat (first | exact OutS.nil | exact GetS.hit | exact PutS.hit | apply GetS.miss rfl | apply PutS.miss rfl | apply OutS.cons | apply OutS.skip rfl)))
      ((repeat refine c_seq ?_); refine c_else rfl ?_)
      ((repeat refine c_seq ?_); refine c_region ?_; (repeat (first | ((first | apply o_move rfl rfl | apply o_easy1 rfl rfl rfl | apply o_ld rfl rfl (by assumption) (by first | rfl | assumption)); conv => lhs; whnf) | refine o_no rfl ?_ | refine o_add rfl rfl rfl (by omega) (by omega) ?_ | refine o_sub rfl rfl rfl (by omega) (by omega) ?_ | refine o_mul rfl rfl rfl (by omega) (by omega) ?_ | refine o_sadd rfl rfl rfl (by omega) ?_ | refine o_seql_t rfl rfl rfl (by assumption) ?_ | refine o_seql_f rfl rfl rfl (by assumption) ?_ | refine o_ct rfl rfl rfl (by dsimp only [cmpP]; omega) ?_ | refine o_cf rfl rfl rfl (by dsimp only [cmpN]; omega) ?_ | (apply o_easy rfl rfl rfl; conv => lhs; whnf) | refine o_non rfl ?_)); apply o_end; (repeat (first | exact OutS.nil | exact GetS.hit | exact PutS.hit | apply GetS.miss rfl | apply PutS.miss rfl | apply OutS.cons | apply OutS.skip rfl)))
      ((repeat refine c_seq ?_); refine c_else rfl ?_)
      refine c_skip ?_
      ((repeat refine c_seq ?_); refine c_region ?_; (repeat (first | ((first | apply o_move rfl rfl | apply o_easy1 rfl rfl rfl | apply o_ld rfl rfl (by assumption) (by first | rfl | assumption)); conv => lhs; whnf) | refine o_no rfl ?_ | refine o_add rfl rfl rfl (by omega) (by omega) ?_ | refine o_sub rfl rfl rfl (by omega) (by omega) ?_ | refine o_mul rfl rfl rfl (by omega) (by omega) ?_ | refine o_sadd rfl rfl rfl (by omega) ?_ | refine o_seql_t rfl rfl rfl (by assumption) ?_ | refine o_seql_f rfl rfl rfl (by assumption) ?_ | refine o_ct rfl rfl rfl (by dsimp only [cmpP]; omega) ?_ | refine o_cf rfl rfl rfl (by dsimp only [cmpN]; omega) ?_ | (apply o_easy rfl rfl rfl; conv => lhs; whnf) | refine o_non rfl ?_)))
      refine o_move rfl hv.defd rfl ?_
      (repeat (first | ((first | apply o_move rfl rfl | apply o_easy1 rfl rfl rfl | apply o_ld rfl rfl (by assumption) (by first | rfl | assumption)); conv => lhs; whnf) | refine o_no rfl ?_ | refine o_add rfl rfl rfl (by omega) (by omega) ?_ | refine o_sub rfl rfl rfl (by omega) (by omega) ?_ | refine o_mul rfl rfl rfl (by omega) (by omega) ?_ | refine o_sadd rfl rfl rfl (by omega) ?_ | refine o_seql_t rfl rfl rfl (by assumption) ?_ | refine o_seql_f rfl rfl rfl (by assumption) ?_ | refine o_ct rfl rfl rfl (by dsimp only [cmpP]; omega) ?_ | refine o_cf rfl rfl rfl (by dsimp only [cmpN]; omega) ?_ | (apply o_easy rfl rfl rfl; conv => lhs; whnf) | refine o_non rfl ?_))
      refine o_appB (p := q) rfl hv.defd hv hbt ht0 rfl rfl (by omega) fun v' s' hv' hh ht => ?_
      refine o_move rfl hv'.defd rfl ?_
      (apply o_end; (repeat (first | exact OutS.nil | exact GetS.hit | exact PutS.hit | apply GetS.miss rfl | apply PutS.miss rfl | apply OutS.cons | apply OutS.skip rfl)))
      exact hq _ _ _ _ _ _ hv' (by rw [hh]) (by omega)
  | els n no =>
    simp only [Tp.cells] at hc
    simp only [Tp.num] at hx hq ⊢
    simp only [expT] at hlen hq
    cases hg : grp subj spans n with
    | none =>
      simp only [hg, Pc, Option.isSome_none, List.length_append] at hx hq hlen ⊢
      subst hx
      ((repeat refine c_seq ?_); refine c_block ?_)
      ((repeat refine c_seq ?_); refine c_region ?_; (repeat (first | ((first | apply o_move rfl rfl | apply o_easy1 rfl rfl rfl | apply o_ld rfl rfl (by assumption) (by first | rfl | assumption)); conv => lhs; whnf) | refine o_no rfl ?_ | refine o_add rfl rfl rfl (by omega) (by omega) ?_ | refine o_sub rfl rfl rfl (by omega) (by omega) ?_ | refine o_mul rfl rfl rfl (by omega) (by omega) ?_ | refine o_sadd rfl rfl rfl (by omega) ?_ | refine o_seql_t rfl rfl rfl (by assumption) ?_ | refine o_seql_f rfl rfl rfl (by assumption) ?_ | refine o_ct rfl rfl rfl (by dsimp only [cmpP]; omega) ?_ | refine o_cf rfl rfl rfl (by dsimp only [cmpN]; omega) ?_ | (apply o_easy rfl rfl rfl; conv => lhs; whnf) | refine o_non rfl ?_)); apply o_end; (repeat (first | exact OutS.nil | exact GetS.hit | exact PutS.hit | apply GetS.miss rfl | apply PutS.miss rfl | apply OutS.cons | apply OutS.skip rfl)))
      ((repeat refine c_seq ?_); refine c_else rfl ?_)
      ((repeat refine c_seq ?_); refine c_region ?_; (repeat (first | ((first | apply o_move rfl rfl | apply o_easy1 rfl rfl rfl | apply o_ld rfl rfl (by assumption) (by first | rfl | assumption)); conv => lhs; whnf) | refine o_no rfl ?_ | refine o_add rfl rfl rfl (by omega) (by omega) ?_ | refine o_sub rfl rfl rfl (by omega) (by omega) ?_ | refine o_mul rfl rfl rfl (by omega) (by omega) ?_ | refine o_sadd rfl rfl rfl (by omega) ?_ | refine o_seql_t rfl rfl rfl (by assumption) ?_ | refine o_seql_f rfl rfl rfl (by assumption) ?_ | refine o_ct rfl rfl rfl (by dsimp only [cmpP]; omega) ?_ | refine o_cf rfl rfl rfl (by dsimp only [cmpN]; omega) ?_ | (apply o_easy rfl rfl rfl; conv => lhs; whnf) | refine o_non rfl ?_)); apply o_end; (repeat (first | exact OutS.nil | exact GetS.hit | exact PutS.hit | apply GetS.miss rfl | apply PutS.miss rfl | apply OutS.cons | apply OutS.skip rfl)))
      ((repeat refine c_seq ?_); refine c_else rfl ?_)
      ((repeat refine c_seq ?_); refine c_region ?_; (repeat (first | ((first | apply o_move rfl rfl | apply o_easy1 rfl rfl rfl | apply o_ld rfl rfl (by assumption) (by first | rfl | assumption)); conv => lhs; whnf) | refine o_no rfl ?_ | refine o_add rfl rfl rfl (by omega) (by omega) ?_ | refine o_sub rfl rfl rfl (by omega) (by omega) ?_ | refine o_mul rfl rfl rfl (by omega) (by omega) ?_ | refine o_sadd rfl rfl rfl (by omega) ?_ | refine o_seql_t rfl rfl rfl (by assumption) ?_ | refine o_seql_f rfl rfl rfl (by assumption) ?_ | refine o_ct rfl rfl rfl (by dsimp only [cmpP]; omega) ?_ | refine o_cf rfl rfl rfl (by dsimp only [cmpN]; omega) ?_ | (apply o_easy rfl rfl rfl; conv => lhs; whnf) | refine o_non rfl ?_)); apply o_end; (repeat (first | exact OutS.nil | exact GetS.hit | exact PutS.hit | apply GetS.miss rfl | apply PutS.miss rfl | apply OutS.cons | apply OutS.skip rfl)))
      ((repeat refine c_seq ?_); refine c_if rfl ?_)
      ((repeat refine c_seq ?_); refine c_region ?_; (repeat (first | ((first | apply o_move rfl rfl | apply o_easy1 rfl rfl rfl | apply o_ld rfl rfl (by assumption) (by first | rfl | assumption)); conv => lhs; whnf) | refine o_no rfl ?_ | refine o_add rfl rfl rfl (by omega) (by omega) ?_ | refine o_sub rfl rfl rfl (by omega) (by omega) ?_ | refine o_mul rfl rfl rfl (by omega) (by omega) ?_ | refine o_sadd rfl rfl rfl (by omega) ?_ | refine o_seql_t rfl rfl rfl (by assumption) ?_ | refine o_seql_f rfl rfl rfl (by assumption) ?_ | refine o_ct rfl rfl rfl (by dsimp only [cmpP]; omega) ?_ | refine o_cf rfl rfl rfl (by dsimp only [cmpN]; omega) ?_ | (apply o_easy rfl rfl rfl; conv => lhs; whnf) | refine o_non rfl ?_)))
      refine o_call rfl rfl (hN (by omega) m hm b s (.vec (avs no) .shut) _ _ rfl rfl rfl) ?_
      (repeat (first | ((first | apply o_move rfl rfl | apply o_easy1 rfl rfl rfl | apply o_ld rfl rfl (by assumption) (by first | rfl | assumption)); conv => lhs; whnf) | refine o_no rfl ?_ | refine o_add rfl rfl rfl (by omega) (by omega) ?_ | refine o_sub rfl rfl rfl (by omega) (by omega) ?_ | refine o_mul rfl rfl rfl (by omega) (by omega) ?_ | refine o_sadd rfl rfl rfl (by omega) ?_ | refine o_seql_t rfl rfl rfl (by assumption) ?_ | refine o_seql_f rfl rfl rfl (by assumption) ?_ | refine o_ct rfl rfl rfl (by dsimp only [cmpP]; omega) ?_ | refine o_cf rfl rfl rfl (by dsimp only [cmpN]; omega) ?_ | (apply o_easy rfl rfl rfl; conv => lhs; whnf) | refine o_non rfl ?_))
      (apply o_end; (repeat (first | exact OutS.nil | exact GetS.hit | exact PutS.hit | apply GetS.miss rfl | apply PutS.miss rfl | apply OutS.cons | apply OutS.skip rfl)))
      ((repeat refine c_seq ?_); refine c_region ?_; (repeat (first | ((first | apply o_move rfl rfl | apply o_easy1 rfl rfl rfl | apply o_ld rfl rfl (by assumption) (by first | rfl | assumption)); conv => lhs; whnf) | refine o_no rfl ?_ | refine o_add rfl rfl rfl (by omega) (by omega) ?_ | refine o_sub rfl rfl rfl (by omega) (by omega) ?_ | refine o_mul rfl rfl rfl (by omega) (by omega) ?_ | refine o_sadd rfl rfl rfl (by omega) ?_ | refine o_seql_t rfl rfl rfl (by assumption) ?_ | refine o_seql_f rfl rfl rfl (by assumption) ?_ | refine o_ct rfl rfl rfl (by dsimp only [cmpP]; omega) ?_ | refine o_cf rfl rfl rfl (by dsimp only [cmpN]; omega) ?_ | (apply o_easy rfl rfl rfl; conv => lhs; whnf) | refine o_non rfl ?_)))
      refine o_move rfl hv.defd rfl ?_
      (repeat (first | ((first | apply o_move rfl rfl | apply o_easy1 rfl rfl rfl | apply o_ld rfl rfl (by assumption) (by first | rfl | assumption)); conv => lhs; whnf) | refine o_no rfl ?_ | refine o_add rfl rfl rfl (by omega) (by omega) ?_ | refine o_sub rfl rfl rfl (by omega) (by omega) ?_ | refine o_mul rfl rfl rfl (by omega) (by omega) ?_ | refine o_sadd rfl rfl rfl (by omega) ?_ | refine o_seql_t rfl rfl rfl (by assumption) ?_ | refine o_seql_f rfl rfl rfl (by assumption) ?_ | refine o_ct rfl rfl rfl (by dsimp only [cmpP]; omega) ?_ | refine o_cf rfl rfl rfl (by dsimp only [cmpN]; omega) ?_ | (apply o_easy rfl rfl rfl; conv => lhs; whnf) | refine o_non rfl ?_))
      refine o_appB (p := expL subj spans no) rfl hv.defd hv hbt ht0 rfl rfl (by omega) fun v' s' hv' hh ht => ?_
      refine o_move rfl hv'.defd rfl ?_
      (apply o_end; (repeat (first | exact OutS.nil | exact GetS.hit | exact PutS.hit | apply GetS.miss rfl | apply PutS.miss rfl | apply OutS.cons | apply OutS.skip rfl)))
      exact hq _ _ _ _ _ _ hv' (by rw [hh]) (by omega)
    | some q =>
      simp only [hg, Pc, Option.isSome_some, List.length_append] at hx hq hlen ⊢
      obtain ⟨tl, rfl⟩ := hx
      ((repeat refine c_seq ?_); refine c_block ?_)
      ((repeat refine c_seq ?_); refine c_region ?_; (repeat (first | ((first | apply o_move rfl rfl | apply o_easy1 rfl rfl rfl | apply o_ld rfl rfl (by assumption) (by first | rfl | assumption)); conv => lhs; whnf) | refine o_no rfl ?_ | refine o_add rfl rfl rfl (by omega) (by omega) ?_ | refine o_sub rfl rfl rfl (by omega) (by omega) ?_ | refine o_mul rfl rfl rfl (by omega) (by omega) ?_ | refine o_sadd rfl rfl rfl (by omega) ?_ | refine o_seql_t rfl rfl rfl (by assumption) ?_ | refine o_seql_f rfl rfl rfl (by assumption) ?_ | refine o_ct rfl rfl rfl (by dsimp only [cmpP]; omega) ?_ | refine o_cf rfl rfl rfl (by dsimp only [cmpN]; omega) ?_ | (apply o_easy rfl rfl rfl; conv => lhs; whnf) | refine o_non rfl ?_)); apply o_end; (repeat (first | exact OutS.nil | exact GetS.hit | exact PutS.hit | apply GetS.miss rfl | apply PutS.miss rfl | apply OutS.cons | apply OutS.skip rfl)))
      ((repeat refine c_seq ?_); refine c_else rfl ?_)
      ((repeat refine c_seq ?_); refine c_region ?_; (repeat (first | ((first | apply o_move rfl rfl | apply o_easy1 rfl rfl rfl | apply o_ld rfl rfl (by assumption) (by first | rfl | assumption)); conv => lhs; whnf) | refine o_no rfl ?_ | refine o_add rfl rfl rfl (by omega) (by omega) ?_ | refine o_sub rfl rfl rfl (by omega) (by omega) ?_ | refine o_mul rfl rfl rfl (by omega) (by omega) ?_ | refine o_sadd rfl rfl rfl (by omega) ?_ | refine o_seql_t rfl rfl rfl (by assumption) ?_ | refine o_seql_f rfl rfl rfl (by assumption) ?_ | refine o_ct rfl rfl rfl (by dsimp only [cmpP]; omega) ?_ | refine o_cf rfl rfl rfl (by dsimp only [cmpN]; omega) ?_ | (apply o_easy rfl rfl rfl; conv => lhs; whnf) | refine o_non rfl ?_)); apply o_end; (repeat (first | exact OutS.nil | exact GetS.hit | exact PutS.hit | apply GetS.miss rfl | apply PutS.miss rfl | apply OutS.cons | apply OutS.skip rfl)))
      ((repeat refine c_seq ?_); refine c_else rfl ?_)
      ((repeat refine c_seq ?_); refine c_region ?_; (repeat (first | ((first | apply o_move rfl rfl | apply o_easy1 rfl rfl rfl | apply o_ld rfl rfl (by assumption) (by first | rfl | assumption)); conv => lhs; whnf) | refine o_no rfl ?_ | refine o_add rfl rfl rfl (by omega) (by omega) ?_ | refine o_sub rfl rfl rfl (by omega) (by omega) ?_ | refine o_mul rfl rfl rfl (by omega) (by omega) ?_ | refine o_sadd rfl rfl rfl (by omega) ?_ | refine o_seql_t rfl rfl rfl (by assumption) ?_ | refine o_seql_f rfl rfl rfl (by assumption) ?_ | refine o_ct rfl rfl rfl (by dsimp only [cmpP]; omega) ?_ | refine o_cf rfl rfl rfl (by dsimp only [cmpN]; omega) ?_ | (apply o_easy rfl rfl rfl; conv => lhs; whnf) | refine o_non rfl ?_)); apply o_end; (repeat (first | exact OutS.nil | exact GetS.hit | exact PutS.hit | apply GetS.miss rfl | apply PutS.miss rfl | apply OutS.cons | apply OutS.skip rfl)))
      ((repeat refine c_seq ?_); refine c_else rfl ?_)
      refine c_skip ?_
      ((repeat refine c_seq ?_); refine c_region ?_; (repeat (first | ((first | apply o_move rfl rfl | apply o_easy1 rfl rfl rfl | apply o_ld rfl rfl (by assumption) (by first | rfl | assumption)); conv => lhs; whnf) | refine o_no rfl ?_ | refine o_add rfl rfl rfl (by omega) (by omega) ?_ | refine o_sub rfl rfl rfl (by omega) (by omega) ?_ | refine o_mul rfl rfl rfl (by omega) (by omega) ?_ | refine o_sadd rfl rfl rfl (by omega) ?_ | refine o_seql_t rfl rfl rfl (by assumption) ?_ | refine o_seql_f rfl rfl rfl (by assumption) ?_ | refine o_ct rfl rfl rfl (by dsimp only [cmpP]; omega) ?_ | refine o_cf rfl rfl rfl (by dsimp only [cmpN]; omega) ?_ | (apply o_easy rfl rfl rfl; conv => lhs; whnf) | refine o_non rfl ?_)))
      refine o_move rfl hv.defd rfl ?_
      (repeat (first | ((first | apply o_move rfl rfl | apply o_easy1 rfl rfl rfl | apply o_ld rfl rfl (by assumption) (by first | rfl | assumption)); conv => lhs; whnf) | refine o_no rfl ?_ | refine o_add rfl rfl rfl (by omega) (by omega) ?_ | refine o_sub rfl rfl rfl (by omega) (by omega) ?_ | refine o_mul rfl rfl rfl (by omega) (by omega) ?_ | refine o_sadd rfl rfl rfl (by omega) ?_ | refine o_seql_t rfl rfl rfl (by assumption) ?_ | refine o_seql_f rfl rfl rfl (by assumption) ?_ | refine o_ct rfl rfl rfl (by dsimp only [cmpP]; omega) ?_ | refine o_cf rfl rfl rfl (by dsimp only [cmpN]; omega) ?_ | (apply o_easy rfl rfl rfl; conv => lhs; whnf) | refine o_non rfl ?_))
      refine o_appB (p := q) rfl hv.defd hv hbt ht0 rfl rfl (by omega) fun v' s' hv' hh ht => ?_
      refine o_move rfl hv'.defd rfl ?_
      (apply o_end; (repeat (first | exact OutS.nil | exact GetS.hit | exact PutS.hit | apply GetS.miss rfl | apply PutS.miss rfl | apply OutS.cons | apply OutS.skip rfl)))
      exact hq _ _ _ _ _ _ hv' (by rw [hh]) (by omega)
  | ifs n yes no =>
    simp only [Tp.cells] at hc
    simp only [Tp.num] at hx hq ⊢
    simp only [expT] at hlen hq
    cases hg : grp subj spans n with
    | none =>
      simp only [hg, Pc, Option.isSome_none, List.length_append] at hx hq hlen ⊢
      subst hx
      ((repeat refine c_seq ?_); refine c_block ?_)
      ((repeat refine c_seq ?_); refine c_region ?_; (repeat (first | ((first | apply o_move rfl rfl | apply o_easy1 rfl rfl rfl | apply o_ld rfl rfl (by assumption) (by first | rfl | assumption)); conv => lhs; whnf) | refine o_no rfl ?_ | refine o_add rfl rfl rfl (by omega) (by omega) ?_ | refine o_sub rfl rfl rfl (by omega) (by omega) ?_ | refine o_mul rfl rfl rfl (by omega) (by omega) ?_ | refine o_sadd rfl rfl rfl (by omega) ?_ | refine o_seql_t rfl rfl rfl (by assumption) ?_ | refine o_seql_f rfl rfl rfl (by assumption) ?_ | refine o_ct rfl rfl rfl (by dsimp only [cmpP]; omega) ?_ | refine o_cf rfl rfl rfl (by dsimp only [cmpN]; omega) ?_ | (apply o_easy rfl rfl rfl; conv => lhs; whnf) | refine o_non rfl ?_)); apply o_end; (repeat (first | exact OutS.nil | exact GetS.hit | exact PutS.hit | apply GetS.miss rfl | apply PutS.miss rfl | apply OutS.cons | apply OutS.skip rfl)))
      ((repeat refine c_seq ?_); refine c_else rfl ?_)
      ((repeat refine c_seq ?_); refine c_region ?_; (repeat (first | ((first | apply o_move rfl rfl | apply o_easy1 rfl rfl rfl | apply o_ld rfl rfl (by assumption) (by first | rfl | assumption)); conv => lhs; whnf) | refine o_no rfl ?_ | refine o_add rfl rfl rfl (by omega) (by omega) ?_ | refine o_sub rfl rfl rfl (by omega) (by omega) ?_ | refine o_mul rfl rfl rfl (by omega) (by omega) ?_ | refine o_sadd rfl rfl rfl (by omega) ?_ | refine o_seql_t rfl rfl rfl (by assumption) ?_ | refine o_seql_f rfl rfl rfl (by assumption) ?_ | refine o_ct rfl rfl rfl (by dsimp only [cmpP]; omega) ?_ | refine o_cf rfl rfl rfl (by dsimp only [cmpN]; omega) ?_ | (apply o_easy rfl rfl rfl; conv => lhs; whnf) | refine o_non rfl ?_)); apply o_end; (repeat (first | exact OutS.nil | exact GetS.hit | exact PutS.hit | apply GetS.miss rfl | apply PutS.miss rfl | apply OutS.cons | apply OutS.skip rfl)))
      ((repeat refine c_seq ?_); refine c_else rfl ?_)
      ((repeat refine c_seq ?_); refine c_region ?_; (repeat (first | ((first | apply o_move rfl rfl | apply o_easy1 rfl rfl rfl | apply o_ld rfl rfl (by assumption) (by first | rfl | assumption)); conv => lhs; whnf) | refine o_no rfl ?_ | refine o_add rfl rfl rfl (by omega) (by omega) ?_ | refine o_sub rfl rfl rfl (by omega) (by omega) ?_ | refine o_mul rfl rfl rfl (by omega) (by omega) ?_ | refine o_sadd rfl rfl rfl (by omega) ?_ | refine o_seql_t rfl rfl rfl (by assumption) ?_ | refine o_seql_f rfl rfl rfl (by assumption) ?_ | refine o_ct rfl rfl rfl (by dsimp only [cmpP]; omega) ?_ | refine o_cf rfl rfl rfl (by dsimp only [cmpN]; omega) ?_ | (apply o_easy rfl rfl rfl; conv => lhs; whnf) | refine o_non rfl ?_)); apply o_end; (repeat (first | exact OutS.nil | exact GetS.hit | exact PutS.hit | apply GetS.miss rfl | apply PutS.miss rfl | apply OutS.cons | apply OutS.skip rfl)))
      ((repeat refine c_seq ?_); refine c_if rfl ?_)
      ((repeat refine c_seq ?_); refine c_region ?_; (repeat (first | ((first | apply o_move rfl rfl | apply o_easy1 rfl rfl rfl | apply o_ld rfl rfl (by assumption) (by first | rfl | assumption)); conv => lhs; whnf) | refine o_no rfl ?_ | refine o_add rfl rfl rfl (by omega) (by omega) ?_ | refine o_sub rfl rfl rfl (by omega) (by omega) ?_ | refine o_mul rfl rfl rfl (by omega) (by omega) ?_ | refine o_sadd rfl rfl rfl (by omega) ?_ | refine o_seql_t rfl rfl rfl (by assumption) ?_ | refine o_seql_f rfl rfl rfl (by assumption) ?_ | refine o_ct rfl rfl rfl (by dsimp only [cmpP]; omega) ?_ | refine o_cf rfl rfl rfl (by dsimp only [cmpN]; omega) ?_ | (apply o_easy rfl rfl rfl; conv => lhs; whnf) | refine o_non rfl ?_)))
      refine o_call rfl rfl (hN.2 (by omega) m hm b s (.vec (avs no) .shut) _ _ rfl rfl rfl) ?_
      (repeat (first | ((first | apply o_move rfl rfl | apply o_easy1 rfl rfl rfl | apply o_ld rfl rfl (by assumption) (by first | rfl | assumption)); conv => lhs; whnf) | refine o_no rfl ?_ | refine o_add rfl rfl rfl (by omega) (by omega) ?_ | refine o_sub rfl rfl rfl (by omega) (by omega) ?_ | refine o_mul rfl rfl rfl (by omega) (by omega) ?_ | refine o_sadd rfl rfl rfl (by omega) ?_ | refine o_seql_t rfl rfl rfl (by assumption) ?_ | refine o_seql_f rfl rfl rfl (by assumption) ?_ | refine o_ct rfl rfl rfl (by dsimp only [cmpP]; omega) ?_ | refine o_cf rfl rfl rfl (by dsimp only [cmpN]; omega) ?_ | (apply o_easy rfl rfl rfl; conv => lhs; whnf) | refine o_non rfl ?_))
      (apply o_end; (repeat (first | exact OutS.nil | exact GetS.hit | exact PutS.hit | apply GetS.miss rfl | apply PutS.miss rfl | apply OutS.cons | apply OutS.skip rfl)))
      ((repeat refine c_seq ?_); refine c_region ?_; (repeat (first | ((first | apply o_move rfl rfl | apply o_easy1 rfl rfl rfl | apply o_ld rfl rfl (by assumption) (by first | rfl | assumption)); conv => lhs; whnf) | refine o_no rfl ?_ | refine o_add rfl rfl rfl (by omega) (by omega) ?_ | refine o_sub rfl rfl rfl (by omega) (by omega) ?_ | refine o_mul rfl rfl rfl (by omega) (by omega) ?_ | refine o_sadd rfl rfl rfl (by omega) ?_ | refine o_seql_t rfl rfl rfl (by assumption) ?_ | refine o_seql_f rfl rfl rfl (by assumption) ?_ | refine o_ct rfl rfl rfl (by dsimp only [cmpP]; omega) ?_ | refine o_cf rfl rfl rfl (by dsimp only [cmpN]; omega) ?_ | (apply o_easy rfl rfl rfl; conv => lhs; whnf) | refine o_non rfl ?_)))
      refine o_move rfl hv.defd rfl ?_
      (repeat (first | ((first | apply o_move rfl rfl | apply o_easy1 rfl rfl rfl | apply o_ld rfl rfl (by assumption) (by first | rfl | assumption)); conv => lhs; whnf) | refine o_no rfl ?_ | refine o_add rfl rfl rfl (by omega) (by omega) ?_ | refine o_sub rfl rfl rfl (by omega) (by omega) ?_ | refine o_mul rfl rfl rfl (by omega) (by omega) ?_ | refine o_sadd rfl rfl rfl (by omega) ?_ | refine o_seql_t rfl rfl rfl (by assumption) ?_ | refine o_seql_f rfl rfl rfl (by assumption) ?_ | refine o_ct rfl rfl rfl (by dsimp only [cmpP]; omega) ?_ | refine o_cf rfl rfl rfl (by dsimp only [cmpN]; omega) ?_ | (apply o_easy rfl rfl rfl; conv => lhs; whnf) | refine o_non rfl ?_))
      refine o_appB (p := expL subj spans no) rfl hv.defd hv hbt ht0 rfl rfl (by omega) fun v' s' hv' hh ht => ?_
      refine o_move rfl hv'.defd rfl ?_
      (apply o_end; (repeat (first | exact OutS.nil | exact GetS.hit | exact PutS.hit | apply GetS.miss rfl | apply PutS.miss rfl | apply OutS.cons | apply OutS.skip rfl)))
      exact hq _ _ _ _ _ _ hv' (by rw [hh]) (by omega)
    | some q =>
      simp only [hg, Pc, Option.isSome_some, List.length_append] at hx hq hlen ⊢
      obtain ⟨tl, rfl⟩ := hx
      ((repeat refine c_seq ?_); refine c_block ?_)
      ((repeat refine c_seq ?_); refine c_region ?_; (repeat (first | ((first | apply o_move rfl rfl | apply o_easy1 rfl rfl rfl | apply o_ld rfl rfl (by assumption) (by first | rfl | assumption)); conv => lhs; whnf) | refine o_no rfl ?_ | refine o_add rfl rfl rfl (by omega) (by omega) ?_ | refine o_sub rfl rfl rfl (by omega) (by omega) ?_ | refine o_mul rfl rfl rfl (by omega) (by omega) ?_ | refine o_sadd rfl rfl rfl (by omega) ?_ | refine o_seql_t rfl rfl rfl (by assumption) ?_ | refine o_seql_f rfl rfl rfl (by assumption) ?_ | refine o_ct rfl rfl rfl (by dsimp only [cmpP]; omega) ?_ | refine o_cf rfl rfl rfl (by dsimp only [cmpN]; omega) ?_ | (apply o_easy rfl rfl rfl; conv => lhs; whnf) | refine o_non rfl ?_)); apply o_end; (repeat (first | exact OutS.nil | exact GetS.hit | exact PutS.hit | apply GetS.miss rfl | apply PutS.miss rfl | apply OutS.cons | apply OutS.skip rfl)))
      ((repeat refine c_seq ?_); refine c_else rfl ?_)
      ((repeat refine c_seq ?_); refine c_region ?_; (repeat (first | ((first | apply o_move rfl rfl | apply o_easy1 rfl rfl rfl | apply o_ld rfl rfl (by assumption) (by first | rfl | assumption)); conv => lhs; whnf) | refine o_no rfl ?_ | refine o_add rfl rfl rfl (by omega) (by omega) ?_ | refine o_sub rfl rfl rfl (by omega) (by omega) ?_ | refine o_mul rfl rfl rfl (by omega) (by omega) ?_ | refine o_sadd rfl rfl rfl (by omega) ?_ | refine o_seql_t rfl rfl rfl (by assumption) ?_ | refine o_seql_f rfl rfl rfl (by assumption) ?_ | refine o_ct rfl rfl rfl (by dsimp only [cmpP]; omega) ?_ | refine o_cf rfl rfl rfl (by dsimp only [cmpN]; omega) ?_ | (apply o_easy rfl rfl rfl; conv => lhs; whnf) | refine o_non rfl ?_)); apply o_end; (repeat (first | exact OutS.nil | exact GetS.hit | exact PutS.hit | apply GetS.miss rfl | apply PutS.miss rfl | apply OutS.cons | apply OutS.skip rfl)))
      ((repeat refine c_seq ?_); refine c_if rfl ?_)
      ((repeat refine c_seq ?_); refine c_region ?_; (repeat (first | ((first | apply o_move rfl rfl | apply o_easy1 rfl rfl rfl | apply o_ld rfl rfl (by assumption) (by first | rfl | assumption)); conv => lhs; whnf) | refine o_no rfl ?_ | refine o_add rfl rfl rfl (by omega) (by omega) ?_ | refine o_sub rfl rfl rfl (by omega) (by omega) ?_ | refine o_mul rfl rfl rfl (by omega) (by omega) ?_ | refine o_sadd rfl rfl rfl (by omega) ?_ | refine o_seql_t rfl rfl rfl (by assumption) ?_ | refine o_seql_f rfl rfl rfl (by assumption) ?_ | refine o_ct rfl rfl rfl (by dsimp only [cmpP]; omega) ?_ | refine o_cf rfl rfl rfl (by dsimp only [cmpN]; omega) ?_ | (apply o_easy rfl rfl rfl; conv => lhs; whnf) | refine o_non rfl ?_)))
      refine o_call rfl rfl (hN.1 (by omega) m hm b s (.vec (avs yes) .shut) _ _ rfl rfl rfl) ?_
      (repeat (first | ((first | apply o_move rfl rfl | apply o_easy1 rfl rfl rfl | apply o_ld rfl rfl (by assumption) (by first | rfl | assumption)); conv => lhs; whnf) | refine o_no rfl ?_ | refine o_add rfl rfl rfl (by omega) (by omega) ?_ | refine o_sub rfl rfl rfl (by omega) (by omega) ?_ | refine o_mul rfl rfl rfl (by omega) (by omega) ?_ | refine o_sadd rfl rfl rfl (by omega) ?_ | refine o_seql_t rfl rfl rfl (by assumption) ?_ | refine o_seql_f rfl rfl rfl (by assumption) ?_ | refine o_ct rfl rfl rfl (by dsimp only [cmpP]; omega) ?_ | refine o_cf rfl rfl rfl (by dsimp only [cmpN]; omega) ?_ | (apply o_easy rfl rfl rfl; conv => lhs; whnf) | refine o_non rfl ?_))
      (apply o_end; (repeat (first | exact OutS.nil | exact GetS.hit | exact PutS.hit | apply GetS.miss rfl | apply PutS.miss rfl | apply OutS.cons | apply OutS.skip rfl)))
      ((repeat refine c_seq ?_); refine c_region ?_; (repeat (first | ((first | apply o_move rfl rfl | apply o_easy1 rfl rfl rfl | apply o_ld rfl rfl (by assumption) (by first | rfl | assumption)); conv => lhs; whnf) | refine o_no rfl ?_ | refine o_add rfl rfl rfl (by omega) (by omega) ?_ | refine o_sub rfl rfl rfl (by omega) (by omega) ?_ | refine o_mul rfl rfl rfl (by omega) (by omega) ?_ | refine o_sadd rfl rfl rfl (by omega) ?_ | refine o_seql_t rfl rfl rfl (by assumption) ?_ | refine o_seql_f rfl rfl rfl (by assumption) ?_ | refine o_ct rfl rfl rfl (by dsimp only [cmpP]; omega) ?_ | refine o_cf rfl rfl rfl (by dsimp only [cmpN]; omega) ?_ | (apply o_easy rfl rfl rfl; conv => lhs; whnf) | refine o_non rfl ?_)))
      refine o_move rfl hv.defd rfl ?_
      (repeat (first | ((first | apply o_move rfl rfl | apply o_easy1 rfl rfl rfl | apply o_ld rfl rfl (by assumption) (by first | rfl | assumption)); conv => lhs; whnf) | refine o_no rfl ?_ | refine o_add rfl rfl rfl (by omega) (by omega) ?_ | refine o_sub rfl rfl rfl (by omega) (by omega) ?_ | refine o_mul rfl rfl rfl (by omega) (by omega) ?_ | refine o_sadd rfl rfl rfl (by omega) ?_ | refine o_seql_t rfl rfl rfl (by assumption) ?_ | refine o_seql_f rfl rfl rfl (by assumption) ?_ | refine o_ct rfl rfl rfl (by dsimp only [cmpP]; omega) ?_ | refine o_cf rfl rfl rfl (by dsimp only [cmpN]; omega) ?_ | (apply o_easy rfl rfl rfl; conv => lhs; whnf) | refine o_non rfl ?_))
      refine o_appB (p := expL subj spans yes) rfl hv.defd hv hbt ht0 rfl rfl (by omega) fun v' s' hv' hh ht => ?_
      refine o_move rfl hv'.defd rfl ?_
      (apply o_end; (repeat (first | exact OutS.nil | exact GetS.hit | exact PutS.hit | apply GetS.miss rfl | apply PutS.miss rfl | apply OutS.cons | apply OutS.skip rfl)))
      exact hq _ _ _ _ _ _ hv' (by rw [hh]) (by omega)


/-- why a group matched nothing -/
theorem grp_cases (subj : List UInt8) (spans : List (Int × Int)) (n : Int) :
    (n < 0 ∧ grp subj spans n = none) ∨ ((spans.length : Int) ≤ n ∧ grp subj spans n = none) ∨ ∃ f t, 0 ≤ n ∧ n < spans.length ∧ spans[n.toNat]? = some (f, t) ∧
      ((f < 0 ∧ grp subj spans n = none) ∨ (0 ≤ f ∧ t < f ∧ grp subj spans n = none) ∨ (0 ≤ f ∧ f ≤ t ∧ (subj.length : Int) < t ∧ grp subj spans n = none) ∨ (0 ≤ f ∧ f ≤ t ∧ t ≤ subj.length ∧ grp subj spans n = some ((subj.drop f.toNat).take (t.toNat - f.toNat)))) := by
  by_cases h0 : n < 0
  · exact .inl ⟨h0, by simp only [grp]; rw [if_neg (by omega)]⟩
  · by_cases h1 : (spans.length : Int) ≤ n
    · refine .inr (.inl ⟨h1, ?_⟩)
      simp only [grp]
      rw [if_pos (by omega), List.getElem?_eq_none (by omega)]
    · obtain ⟨⟨f, t⟩, hx⟩ : ∃ x, spans[n.toNat]? = some x := ⟨spans[n.toNat]'(by omega), List.getElem?_eq_getElem (by omega)⟩
      refine .inr (.inr ⟨f, t, by omega, by omega, hx, ?_⟩)
      simp only [grp, hx]
      rw [if_pos (by omega)]
      by_cases h2 : f < 0
      · exact .inl ⟨h2, if_neg (by omega)⟩
      · by_cases h3 : t < f
        · exact .inr (.inl ⟨by omega, h3, if_neg (by omega)⟩)
        · by_cases h4 : (subj.length : Int) < t
          · exact .inr (.inr (.inl ⟨by omega, by omega, h4, if_neg (by omega)⟩))
          · exact .inr (.inr (.inr ⟨by omega, by omega, by omega, if_pos ⟨by omega, by omega, by omega⟩⟩))

theorem spAV_get {spans : List (Int × Int)} {j : Nat} {f t : Int} (h : spans[j]? = some (f, t)) : (spAV spans)[j]? = some (.agg [.int .i64 f, .int .i64 t]) := by simp [spAV, h]
theorem spAV_len (spans : List (Int × Int)) : (spAV spans).length = spans.length := by simp [spAV]

end Go.Tpl

namespace Go.Tpl
open Go Go.Am Go.Proofs

theorem exp_tail' (m : Nat) (b : Bar) (subj : List UInt8) (spans : List (Int × Int)) (l : AV) (k len : Nat) (p : Tp) (N t0 : Nat) (hN : PSub subj spans p N) (hm : N ≤ m) (acc : List UInt8) (hlen : (acc ++ expT subj spans p).length < 2 ^ 39) (hbt : b.t ≤ t0)
    (i9 : Nat) (x16 x29 x12 x52 x59 x66 x78 v x10 : AV) (s : Sg) (hc : getCells s.heap i9 0 = some p.cells) (ht0 : t0 ≤ s.toks.length) (hv : RepB t0 s v acc) (o : Option (List UInt8)) (ho : grp subj spans p.num = o) (hx : Pc x10 o) (bo : Bool) (hbo : o.isSome = bo) {Q : Ex → Fr → Sg → Prop}
    (hq : ∀ y59 y66 y78 v' y10 s', RepB t0 s' v' (acc ++ expT subj spans p) → s'.heap.length = s.heap.length → t0 ≤ s'.toks.length → Q .normal (fr9 l (.vec (Am.byteCells subj) .shut) (.vec (spAV spans) .shut) k len x16 (.ptr i9 0 0) (.bool bo) x29 x12 x52 y59 y66 y78 v' y10) s') :
    OkC (loopN m) (callF T m) b tail9 (fr9 l (.vec (Am.byteCells subj) .shut) (.vec (spAV spans) .shut) k len x16 (.ptr i9 0 0) (.bool bo) x29 x12 x52 x59 x66 x78 v x10) s Q := by
  subst hbo ho
  exact exp_tail m b subj spans l k len p N t0 hN hm acc hlen hbt i9 x16 x29 x12 x52 x59 x66 x78 v x10 s hc ht0 hv hx hq

/-- the loop 0 of function 9 -/
def lp9_0 : ACode := .seq (.region [⟨(some 16), .v (.bin .lss (.tmp 15) (.tmp 14)), none⟩] [16]) (.seq (.cond (.tmp 16) (.skip) (.exit 0)) (.seq (.block 1 (.seq (.region [⟨(some 17), .v (.indexAddrS (some 5) (.tmp 13) (.tmp 15)), none⟩, ⟨(some 18), .v (.load (some 5) (.tmp 17)), none⟩, ⟨(some 9), .e (.alloc [(.int .i64 0), (.str []), (.int .i64 0), .nilsl, .nilsl]), none⟩, ⟨none, .e (.store 5 (.tmp 9) (.tmp 18)), none⟩] [9]) (.seq (.region [⟨(some 10), .v (.move (.const .nilsl)), none⟩] [10]) (.seq (.region [⟨(some 19), .v (.fieldAddr 2 none (.tmp 9)), none⟩, ⟨(some 20), .v (.load none (.tmp 19)), none⟩, ⟨(some 21), .v (.bin .geq (.tmp 20) (.const (.int .i64 0))), none⟩, ⟨(some 22), .v (.move (.tmp 21)), none⟩, ⟨(some 23), .v (.fieldAddr 2 none (.tmp 9)), (some (22, true))⟩, ⟨(some 24), .v (.load none (.tmp 23)), (some (22, true))⟩, ⟨(some 25), .v (.move (.tmp 2)), (some (22, true))⟩, ⟨(some 26), .v (.len 1 (.tmp 25)), (some (22, true))⟩, ⟨(some 27), .v (.bin .lss (.tmp 24) (.tmp 26)), (some (22, true))⟩, ⟨(some 28), .v (.pick (.tmp 22) (.tmp 27) (.const (.bool false))), none⟩, ⟨(some 11), .v (.move (.tmp 28)), none⟩] [11]) (.seq (.seq (.region [⟨(some 29), .v (.move (.tmp 11)), none⟩] [29]) (.cond (.tmp 29) (.seq (.region [⟨(some 30), .v (.move (.tmp 2)), none⟩, ⟨(some 31), .v (.fieldAddr 2 none (.tmp 9)), none⟩, ⟨(some 32), .v (.load none (.tmp 31)), none⟩, ⟨(some 33), .v (.indexAddrS (some 2) (.tmp 30) (.tmp 32)), none⟩, ⟨(some 34), .v (.load (some 2) (.tmp 33)), none⟩, ⟨(some 12), .e (.alloc [(.int .i64 0), (.int .i64 0)]), none⟩, ⟨none, .e (.store 2 (.tmp 12) (.tmp 34)), none⟩] [12]) (.seq (.region [⟨(some 35), .v (.fieldAddr 0 none (.tmp 12)), none⟩, ⟨(some 36), .v (.load none (.tmp 35)), none⟩, ⟨(some 37), .v (.bin .geq (.tmp 36) (.const (.int .i64 0))), none⟩, ⟨(some 38), .v (.move (.tmp 37)), none⟩, ⟨(some 39), .v (.fieldAddr 0 none (.tmp 12)), (some (38, true))⟩, ⟨(some 40), .v (.load none (.tmp 39)), (some (38, true))⟩, ⟨(some 41), .v (.fieldAddr 1 none (.tmp 12)), (some (38, true))⟩, ⟨(some 42), .v (.load none (.tmp 41)), (some (38, true))⟩, ⟨(some 43), .v (.bin .leq (.tmp 40) (.tmp 42)), (some (38, true))⟩, ⟨(some 44), .v (.pick (.tmp 38) (.tmp 43) (.const (.bool false))), none⟩, ⟨(some 45), .v (.move (.tmp 44)), none⟩, ⟨(some 46), .v (.fieldAddr 1 none (.tmp 12)), (some (45, true))⟩, ⟨(some 47), .v (.load none (.tmp 46)), (some (45, true))⟩, ⟨(some 48), .v (.move (.tmp 1)), (some (45, true))⟩, ⟨(some 49), .v (.len 1 (.tmp 48)), (some (45, true))⟩, ⟨(some 50), .v (.bin .leq (.tmp 47) (.tmp 49)), (some (45, true))⟩, ⟨(some 51), .v (.pick (.tmp 45) (.tmp 50) (.const (.bool false))), none⟩, ⟨(some 11), .v (.move (.tmp 51)), none⟩] [11]) (.seq (.region [⟨(some 52), .v (.move (.tmp 11)), none⟩] [52]) (.cond (.tmp 52) (.region [⟨(some 53), .v (.move (.tmp 1)), none⟩, ⟨(some 54), .v (.fieldAddr 0 none (.tmp 12)), none⟩, ⟨(some 55), .v (.load none (.tmp 54)), none⟩, ⟨(some 56), .v (.fieldAddr 1 none (.tmp 12)), none⟩, ⟨(some 57), .v (.load none (.tmp 56)), none⟩, ⟨(some 58), .v (.slice 1 (.tmp 53) (some (.tmp 55)) (some (.tmp 57)) none), none⟩, ⟨(some 10), .v (.move (.tmp 58)), none⟩] [10]) (.skip))))) (.skip))) (.seq (.block 2 (.seq (.region [⟨(some 60), .v (.fieldAddr 0 none (.tmp 9)), none⟩, ⟨(some 61), .v (.load none (.tmp 60)), none⟩, ⟨(some 62), .v (.bin .eql (.tmp 61) (.const (.int .i64 1))), none⟩, ⟨(some 59), .v (.move (.tmp 62)), none⟩] [59]) (.cond (.tmp 59) (.region [⟨(some 63), .v (.fieldAddr 1 none (.tmp 9)), none⟩, ⟨(some 64), .v (.load none (.tmp 63)), none⟩, ⟨(some 65), .v (.conv .strBytes (.tmp 64)), none⟩, ⟨(some 10), .v (.move (.tmp 65)), none⟩] [10]) (.seq (.region [⟨(some 67), .v (.fieldAddr 0 none (.tmp 9)), none⟩, ⟨(some 68), .v (.load none (.tmp 67)), none⟩, ⟨(some 69), .v (.bin .eql (.tmp 68) (.const (.int .i64 4))), none⟩, ⟨(some 70), .v (.move (.tmp 69)), none⟩, ⟨(some 71), .v (.move (.tmp 11)), (some (70, true))⟩, ⟨(some 72), .v (.pick (.tmp 70) (.tmp 71) (.const (.bool false))), none⟩, ⟨(some 66), .v (.move (.tmp 72)), none⟩] [66]) (.cond (.tmp 66) (.region [⟨(some 73), .v (.fieldAddr 3 none (.tmp 9)), none⟩, ⟨(some 74), .v (.load none (.tmp 73)), none⟩, ⟨(some 75), .v (.move (.tmp 1)), none⟩, ⟨(some 76), .v (.move (.tmp 2)), none⟩, ⟨(some 77), .call 9 [(.tmp 74), (.tmp 75), (.tmp 76)], none⟩, ⟨(some 10), .v (.move (.tmp 77)), none⟩] [10]) (.seq (.region [⟨(some 79), .v (.fieldAddr 0 none (.tmp 9)), none⟩, ⟨(some 80), .v (.load none (.tmp 79)), none⟩, ⟨(some 81), .v (.bin .eql (.tmp 80) (.const (.int .i64 4))), none⟩, ⟨(some 82), .v (.move (.tmp 81)), none⟩, ⟨(some 83), .v (.fieldAddr 0 none (.tmp 9)), (some (82, false))⟩, ⟨(some 84), .v (.load none (.tmp 83)), (some (82, false))⟩, ⟨(some 85), .v (.bin .eql (.tmp 84) (.const (.int .i64 3))), (some (82, false))⟩, ⟨(some 86), .v (.move (.tmp 85)), (some (82, false))⟩, ⟨(some 87), .v (.move (.tmp 11)), (some (86, true))⟩, ⟨(some 88), .v (.un .not (.tmp 87)), (some (86, true))⟩, ⟨(some 89), .v (.pick (.tmp 86) (.tmp 88) (.const (.bool false))), (some (82, false))⟩, ⟨(some 90), .v (.pick (.tmp 82) (.const (.bool true)) (.tmp 89)), none⟩, ⟨(some 78), .v (.move (.tmp 90)), none⟩] [78]) (.cond (.tmp 78) (.region [⟨(some 91), .v (.fieldAddr 4 none (.tmp 9)), none⟩, ⟨(some 92), .v (.load none (.tmp 91)), none⟩, ⟨(some 93), .v (.move (.tmp 1)), none⟩, ⟨(some 94), .v (.move (.tmp 2)), none⟩, ⟨(some 95), .call 9 [(.tmp 92), (.tmp 93), (.tmp 94)], none⟩, ⟨(some 10), .v (.move (.tmp 95)), none⟩] [10]) (.skip)))))))) (.region [⟨(some 96), .v (.move (.tmp 7)), none⟩, ⟨(some 97), .v (.move (.tmp 10)), none⟩, ⟨(some 98), .e (.append false none 1 (.tmp 96) (.tmp 97)), none⟩, ⟨(some 7), .v (.move (.tmp 98)), none⟩] [7]))))))) (.region [⟨(some 99), .v (.bin .add (.tmp 15) (.const (.int .i64 1))), none⟩, ⟨(some 15), .v (.move (.tmp 99)), none⟩] [15])))

theorem cells_n (p : Tp) : partOf p.cells 2 none = some (.int .i64 p.num) := by cases p <;> rfl

theorem avs_get : ∀ {l : List Tp} {j : Nat} {p : Tp}, l[j]? = some p → (avs l)[j]? = some (.agg p.cells)
  | [], j, p, h => by simp at h
  | q :: r, 0, p, h => by simp at h; subst h; simp [avs]
  | q :: r, j + 1, p, h => by simp at h; simp [avs, avs_get h]

theorem expL_app (subj : List UInt8) (spans : List (Int × Int)) : ∀ a b : List Tp, expL subj spans (a ++ b) = expL subj spans a ++ expL subj spans b
  | [], b => by simp [expL]
  | p :: r, b => by simp [expL, expL_app subj spans r b]

set_option maxHeartbeats 1000000 in
theorem exp_loop (m : Nat) (b : Bar) (subj : List UInt8) (spans : List (Int × Int)) (l : List Tp) (N t0 : Nat) (hN : ∀ p ∈ l, PSub subj spans p N) (hm : N ≤ m) (hlen : (expL subj spans l).length < 2 ^ 39) (hll : l.length < 2 ^ 40) (hsl : subj.length < 2 ^ 40) (hbt : b.t ≤ t0) {Q : Ex → Fr → Sg → Prop}
    (hq : ∀ k x16 x9 x11 x29 x12 x52 x59 x66 x78 v x10 s', RepB t0 s' v (expL subj spans l) → Q (.exit 0) (fr9 (.vec (avs l) .shut) (.vec (Am.byteCells subj) .shut) (.vec (spAV spans) .shut) k l.length x16 x9 x11 x29 x12 x52 x59 x66 x78 v x10) s') :
    ∀ (rest done : List Tp) (k L : Nat) (x16 x9 x11 x29 x12 x52 x59 x66 x78 v x10 : AV) (s : Sg), l = done ++ rest → k = done.length → rest.length + 1 ≤ L → b.w ≤ s.heap.length → t0 ≤ s.toks.length → RepB t0 s v (expL subj spans done) →
    OkL L (fun fr s => ACode.run (loopN m) (callF T m) b lp9_0 fr s) (fr9 (.vec (avs l) .shut) (.vec (Am.byteCells subj) .shut) (.vec (spAV spans) .shut) k l.length x16 x9 x11 x29 x12 x52 x59 x66 x78 v x10) s Q := by
  intro rest
  induction rest with
  | nil =>
    intro done k L x16 x9 x11 x29 x12 x52 x59 x66 x78 v x10 s hl hk hL hw ht0 hv
    obtain ⟨L, rfl⟩ : ∃ L', L = L' + 1 := ⟨L - 1, by omega⟩
    have hkl : k = l.length := by rw [hl, hk]; simp
    apply l_round
    ((repeat refine c_seq ?_); refine c_region ?_; (repeat (first | ((first | apply o_move rfl rfl | apply o_easy1 rfl rfl rfl | apply o_ld rfl rfl (by assumption) (by first | rfl | assumption)); conv => lhs; whnf) | refine o_no rfl ?_ | refine o_add rfl rfl rfl (by omega) (by omega) ?_ | refine o_sub rfl rfl rfl (by omega) (by omega) ?_ | refine o_mul rfl rfl rfl (by omega) (by omega) ?_ | refine o_sadd rfl rfl rfl (by omega) ?_ | refine o_seql_t rfl rfl rfl (by assumption) ?_ | refine o_seql_f rfl rfl rfl (by assumption) ?_ | refine o_ct rfl rfl rfl (by dsimp only [cmpP]; omega) ?_ | refine o_cf rfl rfl rfl (by dsimp only [cmpN]; omega) ?_ | (apply o_easy rfl rfl rfl; conv => lhs; whnf) | refine o_non rfl ?_)); apply o_end; (repeat (first | exact OutS.nil | exact GetS.hit | exact PutS.hit | apply GetS.miss rfl | apply PutS.miss rfl | apply OutS.cons | apply OutS.skip rfl)))
    ((repeat refine c_seq ?_); refine c_else rfl ?_)
    refine c_exit (hq _ _ _ _ _ _ _ _ _ _ _ _ _ ?_)
    rw [hl, List.append_nil]
    exact hv
  | cons p rest ih =>
    intro done k L x16 x9 x11 x29 x12 x52 x59 x66 x78 v x10 s hl hk hL hw ht0 hv
    obtain ⟨L, rfl⟩ : ∃ L', L = L' + 1 := ⟨L - 1, by omega⟩
    have hkl : k < l.length := by rw [hl, hk]; simp
    have hget : l[k]? = some p := by rw [hl, hk]; simp
    have hlen2 : (expL subj spans done ++ expT subj spans p).length < 2 ^ 39 := by
      have : (expL subj spans l).length = (expL subj spans done ++ expT subj spans p).length + (expL subj spans rest).length := by
        rw [hl, expL_app]; simp [expL]; omega
      omega
    have hNp := hN p (by rw [hl]; simp)
    have hck := cells_n p
    have hc0 := getCells_new s zc 0
    have hc := getCells_put (cs' := p.cells) (g' := 0) hc0
    have hv2 : RepB t0 ((s.push (.cells zc 0)).put s.heap.length (.cells p.cells 0)) v (expL subj spans done) := hv.same rfl
    have ht2 : t0 ≤ ((s.push (.cells zc 0)).put s.heap.length (.cells p.cells 0)).toks.length := ht0
    have hw2 : b.w ≤ ((s.push (.cells zc 0)).put s.heap.length (.cells p.cells 0)).heap.length := by rw [Sg.put_len, Sg.push_len]; omega
    apply l_round
    ((repeat refine c_seq ?_); refine c_region ?_; (repeat (first | ((first | apply o_move rfl rfl | apply o_easy1 rfl rfl rfl | apply o_ld rfl rfl (by assumption) (by first | rfl | assumption)); conv => lhs; whnf) | refine o_no rfl ?_ | refine o_add rfl rfl rfl (by omega) (by omega) ?_ | refine o_sub rfl rfl rfl (by omega) (by omega) ?_ | refine o_mul rfl rfl rfl (by omega) (by omega) ?_ | refine o_sadd rfl rfl rfl (by omega) ?_ | refine o_seql_t rfl rfl rfl (by assumption) ?_ | refine o_seql_f rfl rfl rfl (by assumption) ?_ | refine o_ct rfl rfl rfl (by dsimp only [cmpP]; omega) ?_ | refine o_cf rfl rfl rfl (by dsimp only [cmpN]; omega) ?_ | (apply o_easy rfl rfl rfl; conv => lhs; whnf) | refine o_non rfl ?_)); apply o_end; (repeat (first | exact OutS.nil | exact GetS.hit | exact PutS.hit | apply GetS.miss rfl | apply PutS.miss rfl | apply OutS.cons | apply OutS.skip rfl)))
    ((repeat refine c_seq ?_); refine c_if rfl ?_)
    refine c_skip ?_
    ((repeat refine c_seq ?_); refine c_block ?_)
    ((repeat refine c_seq ?_); refine c_region ?_; (repeat (first | ((first | apply o_move rfl rfl | apply o_easy1 rfl rfl rfl | apply o_ld rfl rfl (by assumption) (by first | rfl | assumption)); conv => lhs; whnf) | refine o_no rfl ?_ | refine o_add rfl rfl rfl (by omega) (by omega) ?_ | refine o_sub rfl rfl rfl (by omega) (by omega) ?_ | refine o_mul rfl rfl rfl (by omega) (by omega) ?_ | refine o_sadd rfl rfl rfl (by omega) ?_ | refine o_seql_t rfl rfl rfl (by assumption) ?_ | refine o_seql_f rfl rfl rfl (by assumption) ?_ | refine o_ct rfl rfl rfl (by dsimp only [cmpP]; omega) ?_ | refine o_cf rfl rfl rfl (by dsimp only [cmpN]; omega) ?_ | (apply o_easy rfl rfl rfl; conv => lhs; whnf) | refine o_non rfl ?_)))
    refine o_ixvec (j := k) rfl rfl rfl rfl (avs_get hget) (beq_of (cells_len p)) ?_
    refine o_ldpin rfl rfl (beq_of (cells_len p)) ?_
    refine o_alloc rfl ?_
    refine o_st (v := .agg p.cells) rfl rfl rfl (stored_av p) hc0 (beq_of (cells_len p)) (lets_of (blt_no hw) (fun e => cells_old e p)) (cs' := p.cells) (wr_all p) ?_
    (apply o_end; (repeat (first | exact OutS.nil | exact GetS.hit | exact PutS.hit | apply GetS.miss rfl | apply PutS.miss rfl | apply OutS.cons | apply OutS.skip rfl)))
    generalize (s.push (.cells zc 0)).put s.heap.length (.cells p.cells 0) = s2 at hc hv2 ht2 hw2 ⊢
    generalize s.heap.length = i9 at hc ⊢
    ((repeat refine c_seq ?_); refine c_region ?_; (repeat (first | ((first | apply o_move rfl rfl | apply o_easy1 rfl rfl rfl | apply o_ld rfl rfl (by assumption) (by first | rfl | assumption)); conv => lhs; whnf) | refine o_no rfl ?_ | refine o_add rfl rfl rfl (by omega) (by omega) ?_ | refine o_sub rfl rfl rfl (by omega) (by omega) ?_ | refine o_mul rfl rfl rfl (by omega) (by omega) ?_ | refine o_sadd rfl rfl rfl (by omega) ?_ | refine o_seql_t rfl rfl rfl (by assumption) ?_ | refine o_seql_f rfl rfl rfl (by assumption) ?_ | refine o_ct rfl rfl rfl (by dsimp only [cmpP]; omega) ?_ | refine o_cf rfl rfl rfl (by dsimp only [cmpN]; omega) ?_ | (apply o_easy rfl rfl rfl; conv => lhs; whnf) | refine o_non rfl ?_)); apply o_end; (repeat (first | exact OutS.nil | exact GetS.hit | exact PutS.hit | apply GetS.miss rfl | apply PutS.miss rfl | apply OutS.cons | apply OutS.skip rfl)))
    have hsp := spAV_len spans
    have hsl' := Am.byteCells_length subj
    rcases grp_cases subj spans p.num with ⟨h1, hg⟩ | ⟨h1, hg⟩ | ⟨f, t, h0, h1, hxs, hg⟩
    · ((repeat refine c_seq ?_); refine c_region ?_; (repeat (first | ((first | apply o_move rfl rfl | apply o_easy1 rfl rfl rfl | apply o_ld rfl rfl (by assumption) (by first | rfl | assumption)); conv => lhs; whnf) | refine o_no rfl ?_ | refine o_add rfl rfl rfl (by omega) (by omega) ?_ | refine o_sub rfl rfl rfl (by omega) (by omega) ?_ | refine o_mul rfl rfl rfl (by omega) (by omega) ?_ | refine o_sadd rfl rfl rfl (by omega) ?_ | refine o_seql_t rfl rfl rfl (by assumption) ?_ | refine o_seql_f rfl rfl rfl (by assumption) ?_ | refine o_ct rfl rfl rfl (by dsimp only [cmpP]; omega) ?_ | refine o_cf rfl rfl rfl (by dsimp only [cmpN]; omega) ?_ | (apply o_easy rfl rfl rfl; conv => lhs; whnf) | refine o_non rfl ?_)); apply o_end; (repeat (first | exact OutS.nil | exact GetS.hit | exact PutS.hit | apply GetS.miss rfl | apply PutS.miss rfl | apply OutS.cons | apply OutS.skip rfl)))
      ((repeat refine c_seq ?_); refine c_region ?_; (repeat (first | ((first | apply o_move rfl rfl | apply o_easy1 rfl rfl rfl | apply o_ld rfl rfl (by assumption) (by first | rfl | assumption)); conv => lhs; whnf) | refine o_no rfl ?_ | refine o_add rfl rfl rfl (by omega) (by omega) ?_ | refine o_sub rfl rfl rfl (by omega) (by omega) ?_ | refine o_mul rfl rfl rfl (by omega) (by omega) ?_ | refine o_sadd rfl rfl rfl (by omega) ?_ | refine o_seql_t rfl rfl rfl (by assumption) ?_ | refine o_seql_f rfl rfl rfl (by assumption) ?_ | refine o_ct rfl rfl rfl (by dsimp only [cmpP]; omega) ?_ | refine o_cf rfl rfl rfl (by dsimp only [cmpN]; omega) ?_ | (apply o_easy rfl rfl rfl; conv => lhs; whnf) | refine o_non rfl ?_)); apply o_end; (repeat (first | exact OutS.nil | exact GetS.hit | exact PutS.hit | apply GetS.miss rfl | apply PutS.miss rfl | apply OutS.cons | apply OutS.skip rfl)))
      ((repeat refine c_seq ?_); refine c_else rfl ?_)
      refine c_skip ?_
      refine exp_tail' m b subj spans _ k l.length p N t0 hNp hm _ hlen2 hbt i9 _ _ _ _ _ _ _ _ .nilsl s2 hc ht2 hv2 none hg rfl false rfl ?_
      intro y59 y66 y78 v' y10 s' hv' hh' ht'
      ((repeat refine c_seq ?_); refine c_region ?_; (repeat (first | ((first | apply o_move rfl rfl | apply o_easy1 rfl rfl rfl | apply o_ld rfl rfl (by assumption) (by first | rfl | assumption)); conv => lhs; whnf) | refine o_no rfl ?_ | refine o_add rfl rfl rfl (by omega) (by omega) ?_ | refine o_sub rfl rfl rfl (by omega) (by omega) ?_ | refine o_mul rfl rfl rfl (by omega) (by omega) ?_ | refine o_sadd rfl rfl rfl (by omega) ?_ | refine o_seql_t rfl rfl rfl (by assumption) ?_ | refine o_seql_f rfl rfl rfl (by assumption) ?_ | refine o_ct rfl rfl rfl (by dsimp only [cmpP]; omega) ?_ | refine o_cf rfl rfl rfl (by dsimp only [cmpN]; omega) ?_ | (apply o_easy rfl rfl rfl; conv => lhs; whnf) | refine o_non rfl ?_)); apply o_end; (repeat (first | exact OutS.nil | exact GetS.hit | exact PutS.hit | apply GetS.miss rfl | apply PutS.miss rfl | apply OutS.cons | apply OutS.skip rfl)))
      exact ih (done ++ [p]) (k + 1) L _ _ _ _ _ _ _ _ _ _ _ s' (by rw [hl]; simp) (by simp [hk]) (by simp at hL ⊢; omega) (by omega) ht' (by rw [expL_app]; simpa [expL] using hv')
    · by_cases h0 : 0 ≤ p.num
      · ((repeat refine c_seq ?_); refine c_region ?_; (repeat (first | ((first | apply o_move rfl rfl | apply o_easy1 rfl rfl rfl | apply o_ld rfl rfl (by assumption) (by first | rfl | assumption)); conv => lhs; whnf) | refine o_no rfl ?_ | refine o_add rfl rfl rfl (by omega) (by omega) ?_ | refine o_sub rfl rfl rfl (by omega) (by omega) ?_ | refine o_mul rfl rfl rfl (by omega) (by omega) ?_ | refine o_sadd rfl rfl rfl (by omega) ?_ | refine o_seql_t rfl rfl rfl (by assumption) ?_ | refine o_seql_f rfl rfl rfl (by assumption) ?_ | refine o_ct rfl rfl rfl (by dsimp only [cmpP]; omega) ?_ | refine o_cf rfl rfl rfl (by dsimp only [cmpN]; omega) ?_ | (apply o_easy rfl rfl rfl; conv => lhs; whnf) | refine o_non rfl ?_)); apply o_end; (repeat (first | exact OutS.nil | exact GetS.hit | exact PutS.hit | apply GetS.miss rfl | apply PutS.miss rfl | apply OutS.cons | apply OutS.skip rfl)))
        ((repeat refine c_seq ?_); refine c_region ?_; (repeat (first | ((first | apply o_move rfl rfl | apply o_easy1 rfl rfl rfl | apply o_ld rfl rfl (by assumption) (by first | rfl | assumption)); conv => lhs; whnf) | refine o_no rfl ?_ | refine o_add rfl rfl rfl (by omega) (by omega) ?_ | refine o_sub rfl rfl rfl (by omega) (by omega) ?_ | refine o_mul rfl rfl rfl (by omega) (by omega) ?_ | refine o_sadd rfl rfl rfl (by omega) ?_ | refine o_seql_t rfl rfl rfl (by assumption) ?_ | refine o_seql_f rfl rfl rfl (by assumption) ?_ | refine o_ct rfl rfl rfl (by dsimp only [cmpP]; omega) ?_ | refine o_cf rfl rfl rfl (by dsimp only [cmpN]; omega) ?_ | (apply o_easy rfl rfl rfl; conv => lhs; whnf) | refine o_non rfl ?_)); apply o_end; (repeat (first | exact OutS.nil | exact GetS.hit | exact PutS.hit | apply GetS.miss rfl | apply PutS.miss rfl | apply OutS.cons | apply OutS.skip rfl)))
        ((repeat refine c_seq ?_); refine c_else rfl ?_)
        refine c_skip ?_
        refine exp_tail' m b subj spans _ k l.length p N t0 hNp hm _ hlen2 hbt i9 _ _ _ _ _ _ _ _ .nilsl s2 hc ht2 hv2 none hg rfl false rfl ?_
        intro y59 y66 y78 v' y10 s' hv' hh' ht'
        ((repeat refine c_seq ?_); refine c_region ?_; (repeat (first | ((first | apply o_move rfl rfl | apply o_easy1 rfl rfl rfl | apply o_ld rfl rfl (by assumption) (by first | rfl | assumption)); conv => lhs; whnf) | refine o_no rfl ?_ | refine o_add rfl rfl rfl (by omega) (by omega) ?_ | refine o_sub rfl rfl rfl (by omega) (by omega) ?_ | refine o_mul rfl rfl rfl (by omega) (by omega) ?_ | refine o_sadd rfl rfl rfl (by omega) ?_ | refine o_seql_t rfl rfl rfl (by assumption) ?_ | refine o_seql_f rfl rfl rfl (by assumption) ?_ | refine o_ct rfl rfl rfl (by dsimp only [cmpP]; omega) ?_ | refine o_cf rfl rfl rfl (by dsimp only [cmpN]; omega) ?_ | (apply o_easy rfl rfl rfl; conv => lhs; whnf) | refine o_non rfl ?_)); apply o_end; (repeat (first | exact OutS.nil | exact GetS.hit | exact PutS.hit | apply GetS.miss rfl | apply PutS.miss rfl | apply OutS.cons | apply OutS.skip rfl)))
        exact ih (done ++ [p]) (k + 1) L _ _ _ _ _ _ _ _ _ _ _ s' (by rw [hl]; simp) (by simp [hk]) (by simp at hL ⊢; omega) (by omega) ht' (by rw [expL_app]; simpa [expL] using hv')
      · omega
    · ((repeat refine c_seq ?_); refine c_region ?_; (repeat (first | ((first | apply o_move rfl rfl | apply o_easy1 rfl rfl rfl | apply o_ld rfl rfl (by assumption) (by first | rfl | assumption)); conv => lhs; whnf) | refine o_no rfl ?_ | refine o_add rfl rfl rfl (by omega) (by omega) ?_ | refine o_sub rfl rfl rfl (by omega) (by omega) ?_ | refine o_mul rfl rfl rfl (by omega) (by omega) ?_ | refine o_sadd rfl rfl rfl (by omega) ?_ | refine o_seql_t rfl rfl rfl (by assumption) ?_ | refine o_seql_f rfl rfl rfl (by assumption) ?_ | refine o_ct rfl rfl rfl (by dsimp only [cmpP]; omega) ?_ | refine o_cf rfl rfl rfl (by dsimp only [cmpN]; omega) ?_ | (apply o_easy rfl rfl rfl; conv => lhs; whnf) | refine o_non rfl ?_)); apply o_end; (repeat (first | exact OutS.nil | exact GetS.hit | exact PutS.hit | apply GetS.miss rfl | apply PutS.miss rfl | apply OutS.cons | apply OutS.skip rfl)))
      ((repeat refine c_seq ?_); refine c_region ?_; (repeat (first | ((first | apply o_move rfl rfl | apply o_easy1 rfl rfl rfl | apply o_ld rfl rfl (by assumption) (by first | rfl | assumption)); conv => lhs; whnf) | refine o_no rfl ?_ | refine o_add rfl rfl rfl (by omega) (by omega) ?_ | refine o_sub rfl rfl rfl (by omega) (by omega) ?_ | refine o_mul rfl rfl rfl (by omega) (by omega) ?_ | refine o_sadd rfl rfl rfl (by omega) ?_ | refine o_seql_t rfl rfl rfl (by assumption) ?_ | refine o_seql_f rfl rfl rfl (by assumption) ?_ | refine o_ct rfl rfl rfl (by dsimp only [cmpP]; omega) ?_ | refine o_cf rfl rfl rfl (by dsimp only [cmpN]; omega) ?_ | (apply o_easy rfl rfl rfl; conv => lhs; whnf) | refine o_non rfl ?_)); apply o_end; (repeat (first | exact OutS.nil | exact GetS.hit | exact PutS.hit | apply GetS.miss rfl | apply PutS.miss rfl | apply OutS.cons | apply OutS.skip rfl)))
      ((repeat refine c_seq ?_); refine c_if rfl ?_)
      ((repeat refine c_seq ?_); refine c_region ?_; (repeat (first | ((first | apply o_move rfl rfl | apply o_easy1 rfl rfl rfl | apply o_ld rfl rfl (by assumption) (by first | rfl | assumption)); conv => lhs; whnf) | refine o_no rfl ?_ | refine o_add rfl rfl rfl (by omega) (by omega) ?_ | refine o_sub rfl rfl rfl (by omega) (by omega) ?_ | refine o_mul rfl rfl rfl (by omega) (by omega) ?_ | refine o_sadd rfl rfl rfl (by omega) ?_ | refine o_seql_t rfl rfl rfl (by assumption) ?_ | refine o_seql_f rfl rfl rfl (by assumption) ?_ | refine o_ct rfl rfl rfl (by dsimp only [cmpP]; omega) ?_ | refine o_cf rfl rfl rfl (by dsimp only [cmpN]; omega) ?_ | (apply o_easy rfl rfl rfl; conv => lhs; whnf) | refine o_non rfl ?_)))
      refine o_ixvec (j := p.num.toNat) rfl rfl rfl (by omega) (spAV_get hxs) rfl ?_
      (repeat (first | ((first | apply o_move rfl rfl | apply o_easy1 rfl rfl rfl | apply o_ld rfl rfl (by assumption) (by first | rfl | assumption)); conv => lhs; whnf) | refine o_no rfl ?_ | refine o_add rfl rfl rfl (by omega) (by omega) ?_ | refine o_sub rfl rfl rfl (by omega) (by omega) ?_ | refine o_mul rfl rfl rfl (by omega) (by omega) ?_ | refine o_sadd rfl rfl rfl (by omega) ?_ | refine o_seql_t rfl rfl rfl (by assumption) ?_ | refine o_seql_f rfl rfl rfl (by assumption) ?_ | refine o_ct rfl rfl rfl (by dsimp only [cmpP]; omega) ?_ | refine o_cf rfl rfl rfl (by dsimp only [cmpN]; omega) ?_ | (apply o_easy rfl rfl rfl; conv => lhs; whnf) | refine o_non rfl ?_))
      refine o_alloc rfl ?_
      have hd0 := getCells_new s2 [.int .i64 0, .int .i64 0] 0
      have hd := getCells_put (cs' := [.int .i64 f, .int .i64 t]) (g' := 0) hd0
      have hlt := getCells_lt hc
      refine o_st (v := .agg [.int .i64 f, .int .i64 t]) rfl rfl rfl rfl hd0 rfl (lets_of (blt_no hw2) (fun e => rfl)) (cs' := [.int .i64 f, .int .i64 t]) rfl ?_
      (apply o_end; (repeat (first | exact OutS.nil | exact GetS.hit | exact PutS.hit | apply GetS.miss rfl | apply PutS.miss rfl | apply OutS.cons | apply OutS.skip rfl)))
      have hc := getCells_put_ne (i := s2.heap.length) (o := .cells [.int .i64 f, .int .i64 t] 0) (by omega) (getCells_push (.cells [.int .i64 0, .int .i64 0] 0) hc)
      have hv2 : RepB t0 ((s2.push (.cells [.int .i64 0, .int .i64 0] 0)).put s2.heap.length (.cells [.int .i64 f, .int .i64 t] 0)) v (expL subj spans done) := hv2.same rfl
      have ht2 : t0 ≤ ((s2.push (.cells [.int .i64 0, .int .i64 0] 0)).put s2.heap.length (.cells [.int .i64 f, .int .i64 t] 0)).toks.length := ht2
      have hw2 : b.w ≤ ((s2.push (.cells [.int .i64 0, .int .i64 0] 0)).put s2.heap.length (.cells [.int .i64 f, .int .i64 t] 0)).heap.length := by rw [Sg.put_len, Sg.push_len]; omega
      generalize s2.heap.length = i12 at hc hv2 ht2 hw2 hd ⊢
      generalize (s2.push (.cells [.int .i64 0, .int .i64 0] 0)).put i12 (.cells [.int .i64 f, .int .i64 t] 0) = s2 at hc hv2 ht2 hw2 hd ⊢
      rcases hg with ⟨h2, hg⟩ | ⟨h2, h3, hg⟩ | ⟨h2, h3, h4, hg⟩ | ⟨h2, h3, h4, hg⟩
      · ((repeat refine c_seq ?_); refine c_region ?_; (repeat (first | ((first | apply o_move rfl rfl | apply o_easy1 rfl rfl rfl | apply o_ld rfl rfl (by assumption) (by first | rfl | assumption)); conv => lhs; whnf) | refine o_no rfl ?_ | refine o_add rfl rfl rfl (by omega) (by omega) ?_ | refine o_sub rfl rfl rfl (by omega) (by omega) ?_ | refine o_mul rfl rfl rfl (by omega) (by omega) ?_ | refine o_sadd rfl rfl rfl (by omega) ?_ | refine o_seql_t rfl rfl rfl (by assumption) ?_ | refine o_seql_f rfl rfl rfl (by assumption) ?_ | refine o_ct rfl rfl rfl (by dsimp only [cmpP]; omega) ?_ | refine o_cf rfl rfl rfl (by dsimp only [cmpN]; omega) ?_ | (apply o_easy rfl rfl rfl; conv => lhs; whnf) | refine o_non rfl ?_)); apply o_end; (repeat (first | exact OutS.nil | exact GetS.hit | exact PutS.hit | apply GetS.miss rfl | apply PutS.miss rfl | apply OutS.cons | apply OutS.skip rfl)))
        ((repeat refine c_seq ?_); refine c_region ?_; (repeat (first | ((first | apply o_move rfl rfl | apply o_easy1 rfl rfl rfl | apply o_ld rfl rfl (by assumption) (by first | rfl | assumption)); conv => lhs; whnf) | refine o_no rfl ?_ | refine o_add rfl rfl rfl (by omega) (by omega) ?_ | refine o_sub rfl rfl rfl (by omega) (by omega) ?_ | refine o_mul rfl rfl rfl (by omega) (by omega) ?_ | refine o_sadd rfl rfl rfl (by omega) ?_ | refine o_seql_t rfl rfl rfl (by assumption) ?_ | refine o_seql_f rfl rfl rfl (by assumption) ?_ | refine o_ct rfl rfl rfl (by dsimp only [cmpP]; omega) ?_ | refine o_cf rfl rfl rfl (by dsimp only [cmpN]; omega) ?_ | (apply o_easy rfl rfl rfl; conv => lhs; whnf) | refine o_non rfl ?_)); apply o_end; (repeat (first | exact OutS.nil | exact GetS.hit | exact PutS.hit | apply GetS.miss rfl | apply PutS.miss rfl | apply OutS.cons | apply OutS.skip rfl)))
        ((repeat refine c_seq ?_); refine c_else rfl ?_)
        refine c_skip ?_
        refine exp_tail' m b subj spans _ k l.length p N t0 hNp hm _ hlen2 hbt i9 _ _ _ _ _ _ _ _ .nilsl s2 hc ht2 hv2 none hg rfl false rfl ?_
        intro y59 y66 y78 v' y10 s' hv' hh' ht'
        ((repeat refine c_seq ?_); refine c_region ?_; (repeat (first | ((first | apply o_move rfl rfl | apply o_easy1 rfl rfl rfl | apply o_ld rfl rfl (by assumption) (by first | rfl | assumption)); conv => lhs; whnf) | refine o_no rfl ?_ | refine o_add rfl rfl rfl (by omega) (by omega) ?_ | refine o_sub rfl rfl rfl (by omega) (by omega) ?_ | refine o_mul rfl rfl rfl (by omega) (by omega) ?_ | refine o_sadd rfl rfl rfl (by omega) ?_ | refine o_seql_t rfl rfl rfl (by assumption) ?_ | refine o_seql_f rfl rfl rfl (by assumption) ?_ | refine o_ct rfl rfl rfl (by dsimp only [cmpP]; omega) ?_ | refine o_cf rfl rfl rfl (by dsimp only [cmpN]; omega) ?_ | (apply o_easy rfl rfl rfl; conv => lhs; whnf) | refine o_non rfl ?_)); apply o_end; (repeat (first | exact OutS.nil | exact GetS.hit | exact PutS.hit | apply GetS.miss rfl | apply PutS.miss rfl | apply OutS.cons | apply OutS.skip rfl)))
        exact ih (done ++ [p]) (k + 1) L _ _ _ _ _ _ _ _ _ _ _ s' (by rw [hl]; simp) (by simp [hk]) (by simp at hL ⊢; omega) (by omega) ht' (by rw [expL_app]; simpa [expL] using hv')
      · ((repeat refine c_seq ?_); refine c_region ?_; (repeat (first | ((first | apply o_move rfl rfl | apply o_easy1 rfl rfl rfl | apply o_ld rfl rfl (by assumption) (by first | rfl | assumption)); conv => lhs; whnf) | refine o_no rfl ?_ | refine o_add rfl rfl rfl (by omega) (by omega) ?_ | refine o_sub rfl rfl rfl (by omega) (by omega) ?_ | refine o_mul rfl rfl rfl (by omega) (by omega) ?_ | refine o_sadd rfl rfl rfl (by omega) ?_ | refine o_seql_t rfl rfl rfl (by assumption) ?_ | refine o_seql_f rfl rfl rfl (by assumption) ?_ | refine o_ct rfl rfl rfl (by dsimp only [cmpP]; omega) ?_ | refine o_cf rfl rfl rfl (by dsimp only [cmpN]; omega) ?_ | (apply o_easy rfl rfl rfl; conv => lhs; whnf) | refine o_non rfl ?_)); apply o_end; (repeat (first | exact OutS.nil | exact GetS.hit | exact PutS.hit | apply GetS.miss rfl | apply PutS.miss rfl | apply OutS.cons | apply OutS.skip rfl)))
        ((repeat refine c_seq ?_); refine c_region ?_; (repeat (first | ((first | apply o_move rfl rfl | apply o_easy1 rfl rfl rfl | apply o_ld rfl rfl (by assumption) (by first | rfl | assumption)); conv => lhs; whnf) | refine o_no rfl ?_ | refine o_add rfl rfl rfl (by omega) (by omega) ?_ | refine o_sub rfl rfl rfl (by omega) (by omega) ?_ | refine o_mul rfl rfl rfl (by omega) (by omega) ?_ | refine o_sadd rfl rfl rfl (by omega) ?_ | refine o_seql_t rfl rfl rfl (by assumption) ?_ | refine o_seql_f rfl rfl rfl (by assumption) ?_ | refine o_ct rfl rfl rfl (by dsimp only [cmpP]; omega) ?_ | refine o_cf rfl rfl rfl (by dsimp only [cmpN]; omega) ?_ | (apply o_easy rfl rfl rfl; conv => lhs; whnf) | refine o_non rfl ?_)); apply o_end; (repeat (first | exact OutS.nil | exact GetS.hit | exact PutS.hit | apply GetS.miss rfl | apply PutS.miss rfl | apply OutS.cons | apply OutS.skip rfl)))
        ((repeat refine c_seq ?_); refine c_else rfl ?_)
        refine c_skip ?_
        refine exp_tail' m b subj spans _ k l.length p N t0 hNp hm _ hlen2 hbt i9 _ _ _ _ _ _ _ _ .nilsl s2 hc ht2 hv2 none hg rfl false rfl ?_
        intro y59 y66 y78 v' y10 s' hv' hh' ht'
        ((repeat refine c_seq ?_); refine c_region ?_; (repeat (first | ((first | apply o_move rfl rfl | apply o_easy1 rfl rfl rfl | apply o_ld rfl rfl (by assumption) (by first | rfl | assumption)); conv => lhs; whnf) | refine o_no rfl ?_ | refine o_add rfl rfl rfl (by omega) (by omega) ?_ | refine o_sub rfl rfl rfl (by omega) (by omega) ?_ | refine o_mul rfl rfl rfl (by omega) (by omega) ?_ | refine o_sadd rfl rfl rfl (by omega) ?_ | refine o_seql_t rfl rfl rfl (by assumption) ?_ | refine o_seql_f rfl rfl rfl (by assumption) ?_ | refine o_ct rfl rfl rfl (by dsimp only [cmpP]; omega) ?_ | refine o_cf rfl rfl rfl (by dsimp only [cmpN]; omega) ?_ | (apply o_easy rfl rfl rfl; conv => lhs; whnf) | refine o_non rfl ?_)); apply o_end; (repeat (first | exact OutS.nil | exact GetS.hit | exact PutS.hit | apply GetS.miss rfl | apply PutS.miss rfl | apply OutS.cons | apply OutS.skip rfl)))
        exact ih (done ++ [p]) (k + 1) L _ _ _ _ _ _ _ _ _ _ _ s' (by rw [hl]; simp) (by simp [hk]) (by simp at hL ⊢; omega) (by omega) ht' (by rw [expL_app]; simpa [expL] using hv')
      · ((repeat refine c_seq ?_); refine c_region ?_; (repeat (first | ((first | apply o_move rfl rfl | apply o_easy1 rfl rfl rfl | apply o_ld rfl rfl (by assumption) (by first | rfl | assumption)); conv => lhs; whnf) | refine o_no rfl ?_ | refine o_add rfl rfl rfl (by omega) (by omega) ?_ | refine o_sub rfl rfl rfl (by omega) (by omega) ?_ | refine o_mul rfl rfl rfl (by omega) (by omega) ?_ | refine o_sadd rfl rfl rfl (by omega) ?_ | refine o_seql_t rfl rfl rfl (by assumption) ?_ | refine o_seql_f rfl rfl rfl (by assumption) ?_ | refine o_ct rfl rfl rfl (by dsimp only [cmpP]; omega) ?_ | refine o_cf rfl rfl rfl (by dsimp only [cmpN]; omega) ?_ | (apply o_easy rfl rfl rfl; conv => lhs; whnf) | refine o_non rfl ?_)); apply o_end; (repeat (first | exact OutS.nil | exact GetS.hit | exact PutS.hit | apply GetS.miss rfl | apply PutS.miss rfl | apply OutS.cons | apply OutS.skip rfl)))
        ((repeat refine c_seq ?_); refine c_region ?_; (repeat (first | ((first | apply o_move rfl rfl | apply o_easy1 rfl rfl rfl | apply o_ld rfl rfl (by assumption) (by first | rfl | assumption)); conv => lhs; whnf) | refine o_no rfl ?_ | refine o_add rfl rfl rfl (by omega) (by omega) ?_ | refine o_sub rfl rfl rfl (by omega) (by omega) ?_ | refine o_mul rfl rfl rfl (by omega) (by omega) ?_ | refine o_sadd rfl rfl rfl (by omega) ?_ | refine o_seql_t rfl rfl rfl (by assumption) ?_ | refine o_seql_f rfl rfl rfl (by assumption) ?_ | refine o_ct rfl rfl rfl (by dsimp only [cmpP]; omega) ?_ | refine o_cf rfl rfl rfl (by dsimp only [cmpN]; omega) ?_ | (apply o_easy rfl rfl rfl; conv => lhs; whnf) | refine o_non rfl ?_)); apply o_end; (repeat (first | exact OutS.nil | exact GetS.hit | exact PutS.hit | apply GetS.miss rfl | apply PutS.miss rfl | apply OutS.cons | apply OutS.skip rfl)))
        ((repeat refine c_seq ?_); refine c_else rfl ?_)
        refine c_skip ?_
        refine exp_tail' m b subj spans _ k l.length p N t0 hNp hm _ hlen2 hbt i9 _ _ _ _ _ _ _ _ .nilsl s2 hc ht2 hv2 none hg rfl false rfl ?_
        intro y59 y66 y78 v' y10 s' hv' hh' ht'
        ((repeat refine c_seq ?_); refine c_region ?_; (repeat (first | ((first | apply o_move rfl rfl | apply o_easy1 rfl rfl rfl | apply o_ld rfl rfl (by assumption) (by first | rfl | assumption)); conv => lhs; whnf) | refine o_no rfl ?_ | refine o_add rfl rfl rfl (by omega) (by omega) ?_ | refine o_sub rfl rfl rfl (by omega) (by omega) ?_ | refine o_mul rfl rfl rfl (by omega) (by omega) ?_ | refine o_sadd rfl rfl rfl (by omega) ?_ | refine o_seql_t rfl rfl rfl (by assumption) ?_ | refine o_seql_f rfl rfl rfl (by assumption) ?_ | refine o_ct rfl rfl rfl (by dsimp only [cmpP]; omega) ?_ | refine o_cf rfl rfl rfl (by dsimp only [cmpN]; omega) ?_ | (apply o_easy rfl rfl rfl; conv => lhs; whnf) | refine o_non rfl ?_)); apply o_end; (repeat (first | exact OutS.nil | exact GetS.hit | exact PutS.hit | apply GetS.miss rfl | apply PutS.miss rfl | apply OutS.cons | apply OutS.skip rfl)))
        exact ih (done ++ [p]) (k + 1) L _ _ _ _ _ _ _ _ _ _ _ s' (by rw [hl]; simp) (by simp [hk]) (by simp at hL ⊢; omega) (by omega) ht' (by rw [expL_app]; simpa [expL] using hv')
      · ((repeat refine c_seq ?_); refine c_region ?_; (repeat (first | ((first | apply o_move rfl rfl | apply o_easy1 rfl rfl rfl | apply o_ld rfl rfl (by assumption) (by first | rfl | assumption)); conv => lhs; whnf) | refine o_no rfl ?_ | refine o_add rfl rfl rfl (by omega) (by omega) ?_ | refine o_sub rfl rfl rfl (by omega) (by omega) ?_ | refine o_mul rfl rfl rfl (by omega) (by omega) ?_ | refine o_sadd rfl rfl rfl (by omega) ?_ | refine o_seql_t rfl rfl rfl (by assumption) ?_ | refine o_seql_f rfl rfl rfl (by assumption) ?_ | refine o_ct rfl rfl rfl (by dsimp only [cmpP]; omega) ?_ | refine o_cf rfl rfl rfl (by dsimp only [cmpN]; omega) ?_ | (apply o_easy rfl rfl rfl; conv => lhs; whnf) | refine o_non rfl ?_)); apply o_end; (repeat (first | exact OutS.nil | exact GetS.hit | exact PutS.hit | apply GetS.miss rfl | apply PutS.miss rfl | apply OutS.cons | apply OutS.skip rfl)))
        ((repeat refine c_seq ?_); refine c_region ?_; (repeat (first | ((first | apply o_move rfl rfl | apply o_easy1 rfl rfl rfl | apply o_ld rfl rfl (by assumption) (by first | rfl | assumption)); conv => lhs; whnf) | refine o_no rfl ?_ | refine o_add rfl rfl rfl (by omega) (by omega) ?_ | refine o_sub rfl rfl rfl (by omega) (by omega) ?_ | refine o_mul rfl rfl rfl (by omega) (by omega) ?_ | refine o_sadd rfl rfl rfl (by omega) ?_ | refine o_seql_t rfl rfl rfl (by assumption) ?_ | refine o_seql_f rfl rfl rfl (by assumption) ?_ | refine o_ct rfl rfl rfl (by dsimp only [cmpP]; omega) ?_ | refine o_cf rfl rfl rfl (by dsimp only [cmpN]; omega) ?_ | (apply o_easy rfl rfl rfl; conv => lhs; whnf) | refine o_non rfl ?_)); apply o_end; (repeat (first | exact OutS.nil | exact GetS.hit | exact PutS.hit | apply GetS.miss rfl | apply PutS.miss rfl | apply OutS.cons | apply OutS.skip rfl)))
        ((repeat refine c_seq ?_); refine c_if rfl ?_)
        ((repeat refine c_seq ?_); refine c_region ?_; (repeat (first | ((first | apply o_move rfl rfl | apply o_easy1 rfl rfl rfl | apply o_ld rfl rfl (by assumption) (by first | rfl | assumption)); conv => lhs; whnf) | refine o_no rfl ?_ | refine o_add rfl rfl rfl (by omega) (by omega) ?_ | refine o_sub rfl rfl rfl (by omega) (by omega) ?_ | refine o_mul rfl rfl rfl (by omega) (by omega) ?_ | refine o_sadd rfl rfl rfl (by omega) ?_ | refine o_seql_t rfl rfl rfl (by assumption) ?_ | refine o_seql_f rfl rfl rfl (by assumption) ?_ | refine o_ct rfl rfl rfl (by dsimp only [cmpP]; omega) ?_ | refine o_cf rfl rfl rfl (by dsimp only [cmpN]; omega) ?_ | (apply o_easy rfl rfl rfl; conv => lhs; whnf) | refine o_non rfl ?_)))
        refine o_slvec (i := f.toNat) (j := t.toNat) (q := Am.byteCells ((subj.drop f.toNat).take (t.toNat - f.toNat))) rfl rfl rfl rfl (by omega) (by omega) (by omega) (by omega) ?_ (by simp [Am.byteCells, List.map_take, List.map_drop]) ?_
        · cases subj <;> rfl
        intro tl'
        (repeat (first | ((first | apply o_move rfl rfl | apply o_easy1 rfl rfl rfl | apply o_ld rfl rfl (by assumption) (by first | rfl | assumption)); conv => lhs; whnf) | refine o_no rfl ?_ | refine o_add rfl rfl rfl (by omega) (by omega) ?_ | refine o_sub rfl rfl rfl (by omega) (by omega) ?_ | refine o_mul rfl rfl rfl (by omega) (by omega) ?_ | refine o_sadd rfl rfl rfl (by omega) ?_ | refine o_seql_t rfl rfl rfl (by assumption) ?_ | refine o_seql_f rfl rfl rfl (by assumption) ?_ | refine o_ct rfl rfl rfl (by dsimp only [cmpP]; omega) ?_ | refine o_cf rfl rfl rfl (by dsimp only [cmpN]; omega) ?_ | (apply o_easy rfl rfl rfl; conv => lhs; whnf) | refine o_non rfl ?_))
        (apply o_end; (repeat (first | exact OutS.nil | exact GetS.hit | exact PutS.hit | apply GetS.miss rfl | apply PutS.miss rfl | apply OutS.cons | apply OutS.skip rfl)))
        refine exp_tail' m b subj spans _ k l.length p N t0 hNp hm _ hlen2 hbt i9 _ _ _ _ _ _ _ _ _ s2 hc ht2 hv2 _ hg ⟨tl', rfl⟩ true rfl ?_
        intro y59 y66 y78 v' y10 s' hv' hh' ht'
        ((repeat refine c_seq ?_); refine c_region ?_; (repeat (first | ((first | apply o_move rfl rfl | apply o_easy1 rfl rfl rfl | apply o_ld rfl rfl (by assumption) (by first | rfl | assumption)); conv => lhs; whnf) | refine o_no rfl ?_ | refine o_add rfl rfl rfl (by omega) (by omega) ?_ | refine o_sub rfl rfl rfl (by omega) (by omega) ?_ | refine o_mul rfl rfl rfl (by omega) (by omega) ?_ | refine o_sadd rfl rfl rfl (by omega) ?_ | refine o_seql_t rfl rfl rfl (by assumption) ?_ | refine o_seql_f rfl rfl rfl (by assumption) ?_ | refine o_ct rfl rfl rfl (by dsimp only [cmpP]; omega) ?_ | refine o_cf rfl rfl rfl (by dsimp only [cmpN]; omega) ?_ | (apply o_easy rfl rfl rfl; conv => lhs; whnf) | refine o_non rfl ?_)); apply o_end; (repeat (first | exact OutS.nil | exact GetS.hit | exact PutS.hit | apply GetS.miss rfl | apply PutS.miss rfl | apply OutS.cons | apply OutS.skip rfl)))
        exact ih (done ++ [p]) (k + 1) L _ _ _ _ _ _ _ _ _ _ _ s' (by rw [hl]; simp) (by simp [hk]) (by simp at hL ⊢; omega) (by omega) ht' (by rw [expL_app]; simpa [expL] using hv')


end Go.Tpl

namespace Go.Tpl
open Go Go.Am Go.Proofs

theorem exp_ok (subj : List UInt8) (spans : List (Int × Int)) (l : List Tp) (N : Nat) (hN : ∀ p ∈ l, PSub subj spans p N) (hll : l.length < 2 ^ 40) (hsl : subj.length < 2 ^ 40) : ExpAt subj spans l (N + l.length + 10) := by
  intro hlen m hm b s a0 a1 a2 h0 h1 h2
  obtain ⟨m, rfl⟩ : ∃ m', m = m' + 1 := ⟨m - 1, by omega⟩
  suffices h : OkF (callF T (m + 1) b 9 [a0, a1, a2] s) (fun o s' => o = .ret (.vec (Am.byteCells (expL subj spans l)) .shut) ∧ s' = s) by
    obtain ⟨o, s', h1, rfl, rfl⟩ := h.ok
    exact h1
  have hw0 : AV.weakAll [a0, a1, a2] = [.vec (avs l) .shut, .vec (Am.byteCells subj) .shut, .vec (spAV spans) .shut] := by
    simp only [AV.weakAll, h0, h1, h2]
  apply f_wp rfl rfl
  · show Shape (bindArgs (AV.weakAll [a0, a1, a2]) _) _
    rw [hw0]
    repeat (first | exact Shape.nil | (apply Shape.cons; (conv => lhs; whnf)))
  ((repeat refine c_seq ?_); refine c_region ?_; (repeat (first | ((first | apply o_move rfl rfl | apply o_easy1 rfl rfl rfl | apply o_ld rfl rfl (by assumption) (by first | rfl | assumption)); conv => lhs; whnf) | refine o_no rfl ?_ | refine o_add rfl rfl rfl (by omega) (by omega) ?_ | refine o_sub rfl rfl rfl (by omega) (by omega) ?_ | refine o_mul rfl rfl rfl (by omega) (by omega) ?_ | refine o_sadd rfl rfl rfl (by omega) ?_ | refine o_seql_t rfl rfl rfl (by assumption) ?_ | refine o_seql_f rfl rfl rfl (by assumption) ?_ | refine o_ct rfl rfl rfl (by dsimp only [cmpP]; omega) ?_ | refine o_cf rfl rfl rfl (by dsimp only [cmpN]; omega) ?_ | (apply o_easy rfl rfl rfl; conv => lhs; whnf) | refine o_non rfl ?_)); apply o_end; (repeat (first | exact OutS.nil | exact GetS.hit | exact PutS.hit | apply GetS.miss rfl | apply PutS.miss rfl | apply OutS.cons | apply OutS.skip rfl)))
  ((repeat refine c_seq ?_); refine c_region ?_; (repeat (first | ((first | apply o_move rfl rfl | apply o_easy1 rfl rfl rfl | apply o_ld rfl rfl (by assumption) (by first | rfl | assumption)); conv => lhs; whnf) | refine o_no rfl ?_ | refine o_add rfl rfl rfl (by omega) (by omega) ?_ | refine o_sub rfl rfl rfl (by omega) (by omega) ?_ | refine o_mul rfl rfl rfl (by omega) (by omega) ?_ | refine o_sadd rfl rfl rfl (by omega) ?_ | refine o_seql_t rfl rfl rfl (by assumption) ?_ | refine o_seql_f rfl rfl rfl (by assumption) ?_ | refine o_ct rfl rfl rfl (by dsimp only [cmpP]; omega) ?_ | refine o_cf rfl rfl rfl (by dsimp only [cmpN]; omega) ?_ | (apply o_easy rfl rfl rfl; conv => lhs; whnf) | refine o_non rfl ?_)); apply o_end; (repeat (first | exact OutS.nil | exact GetS.hit | exact PutS.hit | apply GetS.miss rfl | apply PutS.miss rfl | apply OutS.cons | apply OutS.skip rfl)))
  ((repeat refine c_seq ?_); refine c_region ?_; (repeat (first | ((first | apply o_move rfl rfl | apply o_easy1 rfl rfl rfl | apply o_ld rfl rfl (by assumption) (by first | rfl | assumption)); conv => lhs; whnf) | refine o_no rfl ?_ | refine o_add rfl rfl rfl (by omega) (by omega) ?_ | refine o_sub rfl rfl rfl (by omega) (by omega) ?_ | refine o_mul rfl rfl rfl (by omega) (by omega) ?_ | refine o_sadd rfl rfl rfl (by omega) ?_ | refine o_seql_t rfl rfl rfl (by assumption) ?_ | refine o_seql_f rfl rfl rfl (by assumption) ?_ | refine o_ct rfl rfl rfl (by dsimp only [cmpP]; omega) ?_ | refine o_cf rfl rfl rfl (by dsimp only [cmpN]; omega) ?_ | (apply o_easy rfl rfl rfl; conv => lhs; whnf) | refine o_non rfl ?_)); apply o_end; (repeat (first | exact OutS.nil | exact GetS.hit | exact PutS.hit | apply GetS.miss rfl | apply PutS.miss rfl | apply OutS.cons | apply OutS.skip rfl)))
  ((repeat refine c_seq ?_); refine c_block ?_)
  refine c_loop (x := lp9_0) ?_
  have hlen' := avs_len l
  have X := fun Q hq => exp_loop m (b.into .pure s) subj spans l N s.toks.length hN (by omega) hlen hll hsl (Nat.le_refl _) (Q := Q) hq l [] 0 m .undef .undef .undef .undef .undef .undef .undef .undef .undef .nilsl .undef s rfl rfl (by omega) (Nat.le_refl _) (Nat.le_refl _) (.inl ⟨rfl, rfl⟩)
  rw [← hlen'] at X
  refine X _ ?_
  intro k x16 x9 x11 x29 x12 x52 x59 x66 x78 v x10 s' hv
  ((repeat refine c_seq ?_); refine c_region ?_; (repeat (first | ((first | apply o_move rfl rfl | apply o_easy1 rfl rfl rfl | apply o_ld rfl rfl (by assumption) (by first | rfl | assumption)); conv => lhs; whnf) | refine o_no rfl ?_ | refine o_add rfl rfl rfl (by omega) (by omega) ?_ | refine o_sub rfl rfl rfl (by omega) (by omega) ?_ | refine o_mul rfl rfl rfl (by omega) (by omega) ?_ | refine o_sadd rfl rfl rfl (by omega) ?_ | refine o_seql_t rfl rfl rfl (by assumption) ?_ | refine o_seql_f rfl rfl rfl (by assumption) ?_ | refine o_ct rfl rfl rfl (by dsimp only [cmpP]; omega) ?_ | refine o_cf rfl rfl rfl (by dsimp only [cmpN]; omega) ?_ | (apply o_easy rfl rfl rfl; conv => lhs; whnf) | refine o_non rfl ?_)))
  refine o_move rfl hv.defd rfl ?_
  refine o_move rfl hv.defd rfl ?_
  (apply o_end; (repeat (first | exact OutS.nil | exact GetS.hit | exact PutS.hit | apply GetS.miss rfl | apply PutS.miss rfl | apply OutS.cons | apply OutS.skip rfl)))
  refine c_ret (fin_ret (.inl rfl) (read_tmp hv.defd read_nil) (leave_pure (lay_cons (u := .vec (Am.byteCells (expL subj spans l)) .shut) ?_ lay_nil) ?_) ⟨rfl, rfl⟩)
  · rcases hv with ⟨he, rfl⟩ | ⟨i, n, rfl, _⟩
    · rw [he]; rfl
    · rfl
  · have : ∀ q : List UInt8, AV.oldAll s.heap.length (Am.byteCells q) = true := by
      intro q
      induction q with
      | nil => rfl
      | cons c q ih => simp only [Am.byteCells, List.map_cons, AV.oldAll, AV.old, Bool.true_and] at ih ⊢; exact ih
    simp only [AV.oldAll, AV.old, this, Bool.and_self, Bool.and_true]

mutual
def Tp.fine : Tp → Prop
  | .lit _ => True
  | .group _ => True
  | .els _ no => no.length < 2 ^ 40 ∧ fineL no
  | .ifs _ yes no => (yes.length < 2 ^ 40 ∧ fineL yes) ∧ (no.length < 2 ^ 40 ∧ fineL no)
def fineL : List Tp → Prop
  | [] => True
  | p :: r => p.fine ∧ fineL r
end

theorem fineL_app : ∀ a b : List Tp, fineL (a ++ b) ↔ fineL a ∧ fineL b
  | [], b => by simp [fineL]
  | p :: r, b => by simp only [List.cons_append, fineL, fineL_app r b, and_assoc]

theorem ExpAt.mono {subj spans l N N'} (h : ExpAt subj spans l N) (hn : N ≤ N') : ExpAt subj spans l N' := fun hl m hm => h hl m (by omega)
theorem PSub.mono {subj spans p N N'} (h : PSub subj spans p N) (hn : N ≤ N') : PSub subj spans p N' := by
  cases p with
  | lit t => trivial
  | group n => trivial
  | els n no => exact ExpAt.mono h hn
  | ifs n yes no => exact ⟨h.1.mono hn, h.2.mono hn⟩

mutual
theorem psub_ok (subj : List UInt8) (spans : List (Int × Int)) (hsl : subj.length < 2 ^ 40) : ∀ p : Tp, p.fine → ∃ N, PSub subj spans p N
  | .lit t, _ => ⟨0, trivial⟩
  | .group n, _ => ⟨0, trivial⟩
  | .els n no, h => by
    simp only [Tp.fine] at h
    obtain ⟨N, hN⟩ := lsub_ok subj spans hsl no h.2
    exact ⟨_, exp_ok subj spans no N hN h.1 hsl⟩
  | .ifs n yes no, h => by
    simp only [Tp.fine] at h
    obtain ⟨N, hN⟩ := lsub_ok subj spans hsl yes h.1.2
    obtain ⟨N', hN'⟩ := lsub_ok subj spans hsl no h.2.2
    exact ⟨(N + yes.length + 10) + (N' + no.length + 10), (exp_ok subj spans yes N hN h.1.1 hsl).mono (by omega), (exp_ok subj spans no N' hN' h.2.1 hsl).mono (by omega)⟩
theorem lsub_ok (subj : List UInt8) (spans : List (Int × Int)) (hsl : subj.length < 2 ^ 40) : ∀ l : List Tp, fineL l → ∃ N, ∀ p ∈ l, PSub subj spans p N
  | [], _ => ⟨0, fun p hp => by simp at hp⟩
  | p :: r, h => by
    simp only [fineL] at h
    obtain ⟨N, hN⟩ := psub_ok subj spans hsl p h.1
    obtain ⟨N', hN'⟩ := lsub_ok subj spans hsl r h.2
    refine ⟨N + N', fun q hq => ?_⟩
    rcases List.mem_cons.mp hq with rfl | hq
    · exact hN.mono (by omega)
    · exact (hN' q hq).mono (by omega)
end

/-- Expand, of a template that is no longer than any text -/
theorem expand_spec (subj : List UInt8) (spans : List (Int × Int)) (hsl : subj.length < 2 ^ 40) (l : List Tp) (hl : l.length < 2 ^ 40) (hf : fineL l) : ∃ N, ExpAt subj spans l N := by
  obtain ⟨N, hN⟩ := lsub_ok subj spans hsl l hf
  exact ⟨_, exp_ok subj spans l N hN hl hsl⟩

end Go.Tpl
