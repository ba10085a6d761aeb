/-
  What template.Parse comes to, by a model.
-/
import Derived.Test.YtdbjemmoaldelaaMachC
import Derived.Test.YtdbjemmoaldelaaTmplB

namespace Go.Tpl
open Go Go.Am Go.Proofs

theorem numM_ge (t : List UInt8) : ∀ (k i n : Nat), i ≤ (numM t k i n).2
  | 0, i, n => Nat.le_refl _
  | k + 1, i, n => by
    simp only [numM]
    split
    · split
      · have := numM_ge t k (i + 1) (n * 10 + ((by assumption : UInt8).toNat - 48)); omega
      · exact Nat.le_refl _
    · exact Nat.le_refl _

theorem closeM_ok {t : List UInt8} {a : Nat} {p q : Tp} {k j : Nat} (h : closeM t a p k = some (.ok (q, j))) : q = p ∧ j = k + 1 ∧ stands t k [125] = true := by
  simp only [closeM] at h
  split at h
  · rename_i e
    cases h
    exact ⟨rfl, rfl, e⟩
  · cases h

/-- where a run ends is not ahead of where it began; a part's text is of one byte at most, with one byte read for it -/
theorem model_ge (t : List UInt8) (gr : Int) : ∀ n, (∀ ends d i out l j, partsM t gr n ends d i out = some (.ok (l, j)) → i ≤ j) ∧ (∀ a d i p j, dollarM t gr n a d i = some (.ok (p, j)) → i ≤ j ∧ p.text.length ≤ 1) := by
  intro n
  induction n with
  | zero =>
    constructor
    · intro ends d i out l j h; simp [partsM] at h
    · intro a d i p j h; simp [dollarM] at h
  | succ n ih =>
    obtain ⟨ihp, ihd⟩ := ih
    constructor
    · intro ends d i out l j h
      simp only [partsM] at h
      split at h
      · cases h; exact Nat.le_refl _
      · split at h
        · cases h; exact Nat.le_refl _
        · split at h
          · split at h
            · cases h
            · have := ihp _ _ _ _ _ _ h; omega
          · split at h
            · split at h
              · cases h
              · cases h
              · rename_i p k hk
                have h1 := (ihd _ _ _ _ _ hk).1
                have := ihp _ _ _ _ _ _ h; omega
            · have := ihp _ _ _ _ _ _ h; omega
    · intro a d i p j h
      simp only [dollarM] at h
      have g2 := numM_ge t 2 i 0
      have g3 := numM_ge t 3 (i + 1) 0
      split at h
      · cases h; exact ⟨by omega, Nat.le_refl _⟩
      · split at h
        · split at h
          · cases h; exact ⟨by omega, Nat.zero_le _⟩
          · cases h
        · split at h
          · cases h
          · split at h
            · split at h
              · split at h
                · cases h
                · cases h
                · rename_i no k hk
                  obtain ⟨rfl, rfl, _⟩ := closeM_ok h
                  have := ihp _ _ _ _ _ _ hk
                  exact ⟨by omega, Nat.zero_le _⟩
              · cases h
            · split at h
              · split at h
                · split at h
                  · cases h
                  · cases h
                  · rename_i yes k hk
                    split at h
                    · split at h
                      · cases h
                      · cases h
                      · rename_i no k2 hk2
                        obtain ⟨rfl, rfl, _⟩ := closeM_ok h
                        have h1 := ihp _ _ _ _ _ _ hk
                        have h2 := ihp _ _ _ _ _ _ hk2
                        exact ⟨by omega, Nat.zero_le _⟩
                    · cases h
                · cases h
              · obtain ⟨rfl, rfl, _⟩ := closeM_ok h
                exact ⟨by omega, Nat.zero_le _⟩

/-- parts are few, and their texts short -/
def Small (l : List Tp) (i : Nat) : Prop := l.length ≤ i ∧ ∀ q ∈ l, q.text.length ≤ i

theorem Small.add {l : List Tp} {i j : Nat} {p : Tp} (h : Small l i) (hij : i < j) (hp : p.text.length ≤ 1) : Small (addM l p) j := by
  have hp' : Small (l ++ [p]) j := by
    refine ⟨by have := h.1; simp; omega, ?_⟩
    intro q hq
    rcases List.mem_append.mp hq with hq | hq
    · have := h.2 q hq; omega
    · simp at hq; subst hq; omega
  rcases last_cases l with rfl | ⟨l0, q, rfl⟩
  · rw [addM_nil]; exact hp'
  · cases hb : q.isLit && p.isLit with
    | false => rw [addM_other hb]; exact hp'
    | true =>
      cases q with
      | lit t =>
        cases p with
        | lit u =>
          rw [addM_lit]
          have h1 := h.1
          have h2 := h.2 (.lit t) (by simp)
          refine ⟨by simp at h1 ⊢; omega, ?_⟩
          intro q hq
          rcases List.mem_append.mp hq with hq | hq
          · have := h.2 q (by simp [hq]); omega
          · simp at hq; subst hq; simp only [Tp.text, List.length_append] at h2 hp ⊢; omega
        | _ => simp [Tp.isLit] at hb
      | _ => simp [Tp.isLit] at hb

theorem Rep.defd {lo : Nat} {h : List AObj} {v : AV} {l : List Tp} (hr : Rep lo h v l) : v.def? = some v := by
  rcases hr with ⟨_, rfl⟩ | ⟨_, o, g, rfl, _⟩ <;> rfl

theorem evAll2 {loc pers : Env} {x y : AOpd} {a c : AV} (hx : x.ev loc pers = some a) (hy : y.ev loc pers = some c) : evAll loc pers [x, y] = some [a, c] := by
  simp only [evAll, hx, hy, Option.bind_some]

/-- the loop 0 of function 14 -/
def lp14_0 : ACode := .seq (.seq (.drawn [⟨(some 9), .v (.move (.tmp 0)), none⟩, ⟨(some 10), .v (.nilCheck (.tmp 9)), none⟩, ⟨(some 11), .v (.fieldAddr 1 none (.tmp 10)), none⟩, ⟨(some 12), .v (.load none (.tmp 11)), none⟩, ⟨(some 13), .v (.move (.tmp 0)), none⟩, ⟨(some 14), .v (.nilCheck (.tmp 13)), none⟩, ⟨(some 15), .v (.fieldAddr 0 none (.tmp 14)), none⟩, ⟨(some 16), .v (.load none (.tmp 15)), none⟩, ⟨(some 17), .v (.len 0 (.tmp 16)), none⟩, ⟨(some 18), .v (.bin .lss (.tmp 12) (.tmp 17)), none⟩, ⟨(some 19), .v (.move (.tmp 18)), none⟩, ⟨(some 20), .v (.move (.tmp 1)), (some (19, true))⟩, ⟨(some 21), .v (.move (.tmp 0)), (some (19, true))⟩, ⟨(some 22), .v (.nilCheck (.tmp 21)), (some (19, true))⟩, ⟨(some 23), .v (.fieldAddr 0 none (.tmp 22)), (some (19, true))⟩, ⟨(some 24), .v (.load none (.tmp 23)), (some (19, true))⟩, ⟨(some 25), .v (.move (.tmp 0)), (some (19, true))⟩, ⟨(some 26), .v (.nilCheck (.tmp 25)), (some (19, true))⟩, ⟨(some 27), .v (.fieldAddr 1 none (.tmp 26)), (some (19, true))⟩, ⟨(some 28), .v (.load none (.tmp 27)), (some (19, true))⟩, ⟨(some 29), .v (.move (.tmp 0)), (some (19, true))⟩, ⟨(some 30), .v (.nilCheck (.tmp 29)), (some (19, true))⟩, ⟨(some 31), .v (.fieldAddr 1 none (.tmp 30)), (some (19, true))⟩, ⟨(some 32), .v (.load none (.tmp 31)), (some (19, true))⟩, ⟨(some 33), .v (.bin .add (.tmp 32) (.const (.int .i64 1))), (some (19, true))⟩, ⟨(some 34), .v (.sliceS (.tmp 24) (some (.tmp 28)) (some (.tmp 33))), (some (19, true))⟩, ⟨(some 35), .call 18 [(.tmp 20), (.tmp 34)], (some (19, true))⟩, ⟨(some 36), .v (.un .not (.tmp 35)), (some (19, true))⟩, ⟨(some 37), .v (.pick (.tmp 19) (.tmp 36) (.const (.bool false))), none⟩] [37] []) (.cond (.tmp 37) (.skip) (.exit 0))) (.block 1 (.seq (.region [⟨(some 38), .v (.move (.tmp 0)), none⟩, ⟨(some 39), .v (.nilCheck (.tmp 38)), none⟩, ⟨(some 40), .v (.fieldAddr 1 none (.tmp 39)), none⟩, ⟨(some 41), .v (.load none (.tmp 40)), none⟩, ⟨(some 8), .v (.move (.tmp 41)), none⟩] [8]) (.seq (.region [⟨(some 42), .v (.move (.tmp 0)), none⟩, ⟨(some 43), .v (.nilCheck (.tmp 42)), none⟩, ⟨(some 44), .v (.fieldAddr 1 none (.tmp 43)), none⟩, ⟨(some 45), .v (.load none (.tmp 44)), none⟩, ⟨(some 46), .v (.bin .add (.tmp 45) (.const (.int .i64 1))), none⟩, ⟨(some 47), .v (.nilCheck (.tmp 42)), none⟩, ⟨(some 48), .v (.fieldAddr 1 none (.tmp 47)), none⟩, ⟨none, .e (.store 1 (.tmp 48) (.tmp 46)), none⟩] []) (.seq (.region [⟨(some 49), .v (.move (.tmp 0)), none⟩, ⟨(some 50), .v (.nilCheck (.tmp 49)), none⟩, ⟨(some 51), .v (.fieldAddr 0 none (.tmp 50)), none⟩, ⟨(some 52), .v (.load none (.tmp 51)), none⟩, ⟨(some 53), .v (.move (.tmp 8)), none⟩, ⟨(some 54), .v (.indexS (.tmp 52) (.tmp 53)), none⟩] [54]) (.block 2 (.seq (.region [⟨(some 69), .v (.bin .eql (.tmp 54) (.const (.int .u8 92))), none⟩, ⟨(some 68), .v (.move (.tmp 69)), none⟩] [68]) (.cond (.tmp 68) (.seq (.seq (.drawn [⟨(some 70), .v (.move (.tmp 0)), none⟩, ⟨(some 71), .v (.nilCheck (.tmp 70)), none⟩, ⟨(some 72), .v (.fieldAddr 1 none (.tmp 71)), none⟩, ⟨(some 73), .v (.load none (.tmp 72)), none⟩, ⟨(some 74), .v (.move (.tmp 0)), none⟩, ⟨(some 75), .v (.nilCheck (.tmp 74)), none⟩, ⟨(some 76), .v (.fieldAddr 0 none (.tmp 75)), none⟩, ⟨(some 77), .v (.load none (.tmp 76)), none⟩, ⟨(some 78), .v (.len 0 (.tmp 77)), none⟩, ⟨(some 79), .v (.bin .eql (.tmp 73) (.tmp 78)), none⟩] [79] []) (.cond (.tmp 79) (.region [⟨(some 80), .v (.move (.tmp 8)), none⟩, ⟨(some 81), .v (.mkIface 48 (.tmp 80)), none⟩, ⟨none, .panic (.tmp 81), none⟩] []) (.skip))) (.seq (.region [⟨(some 82), .v (.move (.tmp 0)), none⟩, ⟨(some 83), .v (.nilCheck (.tmp 82)), none⟩, ⟨(some 84), .v (.fieldAddr 1 none (.tmp 83)), none⟩, ⟨(some 85), .v (.load none (.tmp 84)), none⟩, ⟨(some 86), .v (.bin .add (.tmp 85) (.const (.int .i64 1))), none⟩, ⟨(some 87), .v (.nilCheck (.tmp 82)), none⟩, ⟨(some 88), .v (.fieldAddr 1 none (.tmp 87)), none⟩, ⟨none, .e (.store 1 (.tmp 88) (.tmp 86)), none⟩] []) (.drawn [⟨(some 89), .v (.move (.tmp 7)), none⟩, ⟨(some 90), .v (.move (.tmp 0)), none⟩, ⟨(some 91), .v (.nilCheck (.tmp 90)), none⟩, ⟨(some 92), .v (.fieldAddr 0 none (.tmp 91)), none⟩, ⟨(some 93), .v (.load none (.tmp 92)), none⟩, ⟨(some 94), .v (.move (.tmp 8)), none⟩, ⟨(some 95), .v (.bin .add (.tmp 94) (.const (.int .i64 1))), none⟩, ⟨(some 96), .v (.move (.tmp 0)), none⟩, ⟨(some 97), .v (.nilCheck (.tmp 96)), none⟩, ⟨(some 98), .v (.fieldAddr 1 none (.tmp 97)), none⟩, ⟨(some 99), .v (.load none (.tmp 98)), none⟩, ⟨(some 100), .v (.sliceS (.tmp 93) (some (.tmp 95)) (some (.tmp 99))), none⟩, ⟨(some 101), .v (.build [(.int .i64 0), (.str []), (.int .i64 0), .nilsl, .nilsl] [(0, 1, (.const (.int .i64 1))), (1, 1, (.tmp 100))]), none⟩, ⟨(some 102), .call 19 [(.tmp 89), (.tmp 101)], none⟩, ⟨(some 7), .v (.move (.tmp 102)), none⟩] [7] []))) (.seq (.region [⟨(some 104), .v (.bin .eql (.tmp 54) (.const (.int .u8 36))), none⟩, ⟨(some 103), .v (.move (.tmp 104)), none⟩] [103]) (.cond (.tmp 103) (.region [⟨(some 105), .v (.move (.tmp 7)), none⟩, ⟨(some 106), .v (.move (.tmp 0)), none⟩, ⟨(some 107), .v (.move (.tmp 8)), none⟩, ⟨(some 108), .v (.move (.tmp 2)), none⟩, ⟨(some 109), .call 20 [(.tmp 106), (.tmp 107), (.tmp 108)], none⟩, ⟨(some 110), .call 19 [(.tmp 105), (.tmp 109)], none⟩, ⟨(some 7), .v (.move (.tmp 110)), none⟩] [7]) (.drawn [⟨(some 55), .v (.move (.tmp 7)), none⟩, ⟨(some 56), .v (.move (.tmp 0)), none⟩, ⟨(some 57), .v (.nilCheck (.tmp 56)), none⟩, ⟨(some 58), .v (.fieldAddr 0 none (.tmp 57)), none⟩, ⟨(some 59), .v (.load none (.tmp 58)), none⟩, ⟨(some 60), .v (.move (.tmp 8)), none⟩, ⟨(some 61), .v (.move (.tmp 0)), none⟩, ⟨(some 62), .v (.nilCheck (.tmp 61)), none⟩, ⟨(some 63), .v (.fieldAddr 1 none (.tmp 62)), none⟩, ⟨(some 64), .v (.load none (.tmp 63)), none⟩, ⟨(some 65), .v (.sliceS (.tmp 59) (some (.tmp 60)) (some (.tmp 64))), none⟩, ⟨(some 66), .v (.build [(.int .i64 0), (.str []), (.int .i64 0), .nilsl, .nilsl] [(0, 1, (.const (.int .i64 1))), (1, 1, (.tmp 65))]), none⟩, ⟨(some 67), .call 19 [(.tmp 55), (.tmp 66)], none⟩, ⟨(some 7), .v (.move (.tmp 67)), none⟩] [7] []))))))))))

set_option maxHeartbeats 4000000 in
theorem parts_loop (t : List UInt8) (gr : Int) (ht : t.length < 2 ^ 30) (n : Nat) (ends : List UInt8) (d : Nat) (hD : ∀ k, k < n → ∀ at' i, ∃ N, DollarAt t gr k at' d i N) :
    ∀ k, k ≤ n → ∀ i out res, partsM t gr k ends d i out = some res → i ≤ t.length → Small out i → ∃ N, ∀ L m, N ≤ L → N ≤ m → ∀ (b : Bar) (r g : Nat) (s s1 : Sg) (v x37 x8 x54 x68 x79 x103 : AV) (Q : Ex → Fr → Sg → Prop), b.w ≤ r → r < s.heap.length →
      On s r g (rd t i gr) s1 → Rep s.heap.length s1.heap v out →
      (∀ out' j v' s2 y37 y8 y54 y68 y79 y103, res = .ok (out', j) → j ≤ t.length → On s r g (rd t j gr) s2 → Rep s.heap.length s2.heap v' out' → Small out' j → Q (.exit 0) ⟨[(0, .ptr r g 0), (1, .str ends), (2, .int .i64 d), (6, .nilsl), (37, y37), (8, y8), (54, y54), (68, y68), (79, y79), (7, v'), (103, y103)], [], .off⟩ s2) →
      (∀ (a j : Nat) pers s2, res = .error a → On s r g (rd t j gr) s2 → Q (.panic (.iface 48 (.int .i64 a))) ⟨pers, [], .off⟩ s2) →
      OkL L (fun fr s => ACode.run (loopN m) (callF T m) b lp14_0 fr s) ⟨[(0, .ptr r g 0), (1, .str ends), (2, .int .i64 d), (6, .nilsl), (37, x37), (8, x8), (54, x54), (68, x68), (79, x79), (7, v), (103, x103)], [], .off⟩ s1 Q := by
  intro k
  induction k with
  | zero => intro _ i out res h; simp [partsM] at h
  | succ k ih =>
    intro hk i out res hres hi hsm
    simp only [partsM] at hres
    cases hc : t[i]? with
    | none =>
      simp only [hc, Option.some.injEq] at hres
      subst hres
      have h1 : t.length ≤ i := by simpa using hc
      refine ⟨20, ?_⟩
      intro L m hL hm b r g s s1 v x37 x8 x54 x68 x79 x103 Q hw rl hon hrep hok hbad
      obtain ⟨L, rfl⟩ : ∃ L', L = L' + 1 := ⟨L - 1, by omega⟩
      have hg := hon.get rl
      apply l_round
      ((repeat refine c_seq ?_); refine c_drawn ?_; (repeat (first | ((first | apply o_move rfl rfl | apply o_easy1 rfl rfl rfl | apply o_ld rfl rfl (by assumption) (by first | rfl | assumption)); conv => lhs; whnf) | apply o_no rfl | refine o_b rfl rfl rfl (by constructor; omega) ?_ | refine o_f rfl rfl rfl (by constructor; omega) ?_ | refine o_s rfl rfl rfl (by constructor; first | omega | assumption) ?_ | refine o_t rfl rfl rfl (by constructor; assumption) ?_ | (apply o_easy rfl rfl rfl; conv => lhs; whnf) | apply o_non rfl)); apply d_end rfl; (repeat (first | exact OutS.nil | exact GetS.hit | exact PutS.hit | apply GetS.miss rfl | apply PutS.miss rfl | apply OutS.cons | apply OutS.skip rfl)))
      ((repeat refine c_seq ?_); refine c_else rfl ?_)
      exact c_exit (hok _ _ _ _ _ _ _ _ _ _ rfl hi hon hrep hsm)
    | some c =>
      have h1 : i < t.length := lt_of_getElem? hc
      have hone : (t.drop i).take (i + 1 - i) = [c] := by
        rw [show i + 1 - i = 1 by omega, List.drop_eq_getElem_cons h1]
        have : t[i] = c := by
          have := List.getElem?_eq_getElem h1
          rw [hc] at this
          exact (Option.some.inj this).symm
        simp [this]
      simp only [hc] at hres
      by_cases hend : c ∈ ends
      · rw [if_pos hend] at hres
        cases hres
        refine ⟨20, ?_⟩
        intro L m hL hm b r g s s1 v x37 x8 x54 x68 x79 x103 Q hw rl hon hrep hok hbad
        obtain ⟨L, rfl⟩ : ∃ L', L = L' + 1 := ⟨L - 1, by omega⟩
        obtain ⟨m, rfl⟩ : ∃ m', m = m' + 10 := ⟨m - 10, by omega⟩
        have hg := hon.get rl
        apply l_round
        ((repeat refine c_seq ?_); refine c_drawn ?_; (repeat (first | ((first | apply o_move rfl rfl | apply o_easy1 rfl rfl rfl | apply o_ld rfl rfl (by assumption) (by first | rfl | assumption)); conv => lhs; whnf) | apply o_no rfl | refine o_b rfl rfl rfl (by constructor; omega) ?_ | refine o_f rfl rfl rfl (by constructor; omega) ?_ | refine o_s rfl rfl rfl (by constructor; first | omega | assumption) ?_ | refine o_t rfl rfl rfl (by constructor; assumption) ?_ | (apply o_easy rfl rfl rfl; conv => lhs; whnf) | apply o_non rfl)))
        refine o_slS2 (i := i) (j := i + 1) rfl rfl rfl rfl rfl rfl (by omega) (by omega) hone ?_
        refine o_call rfl rfl (contains_spec (m + 5) _ ends c s1) ?_
        rw [decide_eq_true hend]
        (repeat (first | ((first | apply o_move rfl rfl | apply o_easy1 rfl rfl rfl | apply o_ld rfl rfl (by assumption) (by first | rfl | assumption)); conv => lhs; whnf) | apply o_no rfl | refine o_b rfl rfl rfl (by constructor; omega) ?_ | refine o_f rfl rfl rfl (by constructor; omega) ?_ | refine o_s rfl rfl rfl (by constructor; first | omega | assumption) ?_ | refine o_t rfl rfl rfl (by constructor; assumption) ?_ | (apply o_easy rfl rfl rfl; conv => lhs; whnf) | apply o_non rfl))
        (apply d_end rfl; (repeat (first | exact OutS.nil | exact GetS.hit | exact PutS.hit | apply GetS.miss rfl | apply PutS.miss rfl | apply OutS.cons | apply OutS.skip rfl)))
        ((repeat refine c_seq ?_); refine c_else rfl ?_)
        exact c_exit (hok _ _ _ _ _ _ _ _ _ _ rfl hi hon hrep hsm)
      · rw [if_neg hend] at hres
        have hl32 : (0:Nat) < 2 ^ 30 := by omega
        by_cases h92 : c.toNat = 92
        · rw [if_pos h92] at hres
          cases he : t[i + 1]? with
          | none =>
            simp only [he, Option.some.injEq] at hres
            subst hres
            have h2 : t.length ≤ i + 1 := by simpa using he
            refine ⟨20, ?_⟩
            intro L m hL hm b r g s s1 v x37 x8 x54 x68 x79 x103 Q hw rl hon hrep hok hbad
            obtain ⟨L, rfl⟩ : ∃ L', L = L' + 1 := ⟨L - 1, by omega⟩
            obtain ⟨m, rfl⟩ : ∃ m', m = m' + 10 := ⟨m - 10, by omega⟩
            have hg := hon.get rl
            apply l_round
            ((repeat refine c_seq ?_); refine c_drawn ?_; (repeat (first | ((first | apply o_move rfl rfl | apply o_easy1 rfl rfl rfl | apply o_ld rfl rfl (by assumption) (by first | rfl | assumption)); conv => lhs; whnf) | apply o_no rfl | refine o_b rfl rfl rfl (by constructor; omega) ?_ | refine o_f rfl rfl rfl (by constructor; omega) ?_ | refine o_s rfl rfl rfl (by constructor; first | omega | assumption) ?_ | refine o_t rfl rfl rfl (by constructor; assumption) ?_ | (apply o_easy rfl rfl rfl; conv => lhs; whnf) | apply o_non rfl)))
            refine o_slS2 (i := i) (j := i + 1) rfl rfl rfl rfl rfl rfl (by omega) (by omega) hone ?_
            refine o_call rfl rfl (contains_spec (m + 5) _ ends c s1) ?_
            rw [decide_eq_false hend]
            (repeat (first | ((first | apply o_move rfl rfl | apply o_easy1 rfl rfl rfl | apply o_ld rfl rfl (by assumption) (by first | rfl | assumption)); conv => lhs; whnf) | apply o_no rfl | refine o_b rfl rfl rfl (by constructor; omega) ?_ | refine o_f rfl rfl rfl (by constructor; omega) ?_ | refine o_s rfl rfl rfl (by constructor; first | omega | assumption) ?_ | refine o_t rfl rfl rfl (by constructor; assumption) ?_ | (apply o_easy rfl rfl rfl; conv => lhs; whnf) | apply o_non rfl))
            (apply d_end rfl; (repeat (first | exact OutS.nil | exact GetS.hit | exact PutS.hit | apply GetS.miss rfl | apply PutS.miss rfl | apply OutS.cons | apply OutS.skip rfl)))
            ((repeat refine c_seq ?_); refine c_if rfl ?_)
            refine c_skip ?_
            ((repeat refine c_seq ?_); refine c_block ?_)
            ((repeat refine c_seq ?_); refine c_region ?_; (repeat (first | ((first | apply o_move rfl rfl | apply o_easy1 rfl rfl rfl | apply o_ld rfl rfl (by assumption) (by first | rfl | assumption)); conv => lhs; whnf) | apply o_no rfl | refine o_b rfl rfl rfl (by constructor; omega) ?_ | refine o_f rfl rfl rfl (by constructor; omega) ?_ | refine o_s rfl rfl rfl (by constructor; first | omega | assumption) ?_ | refine o_t rfl rfl rfl (by constructor; assumption) ?_ | (apply o_easy rfl rfl rfl; conv => lhs; whnf) | apply o_non rfl)); apply o_end; (repeat (first | exact OutS.nil | exact GetS.hit | exact PutS.hit | apply GetS.miss rfl | apply PutS.miss rfl | apply OutS.cons | apply OutS.skip rfl)))
            ((repeat refine c_seq ?_); refine c_region ?_; (repeat (first | ((first | apply o_move rfl rfl | apply o_easy1 rfl rfl rfl | apply o_ld rfl rfl (by assumption) (by first | rfl | assumption)); conv => lhs; whnf) | apply o_no rfl | refine o_b rfl rfl rfl (by constructor; omega) ?_ | refine o_f rfl rfl rfl (by constructor; omega) ?_ | refine o_s rfl rfl rfl (by constructor; first | omega | assumption) ?_ | refine o_t rfl rfl rfl (by constructor; assumption) ?_ | (apply o_easy rfl rfl rfl; conv => lhs; whnf) | apply o_non rfl)))
            refine o_st rfl rfl rfl rfl hg rfl (lets_of (blt_no hw) (fun e => rfl)) (cs' := rd t (i + 1) gr) rfl ?_
            (apply o_end; (repeat (first | exact OutS.nil | exact GetS.hit | exact PutS.hit | apply GetS.miss rfl | apply PutS.miss rfl | apply OutS.cons | apply OutS.skip rfl)))
            have hgA := getCells_put (cs' := rd t (i + 1) gr) (g' := g) hg
            ((repeat refine c_seq ?_); refine c_region ?_; (repeat (first | ((first | apply o_move rfl rfl | apply o_easy1 rfl rfl rfl | apply o_ld rfl rfl (by assumption) (by first | rfl | assumption)); conv => lhs; whnf) | apply o_no rfl | refine o_b rfl rfl rfl (by constructor; omega) ?_ | refine o_f rfl rfl rfl (by constructor; omega) ?_ | refine o_s rfl rfl rfl (by constructor; first | omega | assumption) ?_ | refine o_t rfl rfl rfl (by constructor; assumption) ?_ | (apply o_easy rfl rfl rfl; conv => lhs; whnf) | apply o_non rfl)))
            refine o_idxS (j := i) rfl rfl rfl rfl hc ?_
            (apply o_end; (repeat (first | exact OutS.nil | exact GetS.hit | exact PutS.hit | apply GetS.miss rfl | apply PutS.miss rfl | apply OutS.cons | apply OutS.skip rfl)))
            ((repeat refine c_seq ?_); refine c_block ?_)
            ((repeat refine c_seq ?_); refine c_region ?_; (repeat (first | ((first | apply o_move rfl rfl | apply o_easy1 rfl rfl rfl | apply o_ld rfl rfl (by assumption) (by first | rfl | assumption)); conv => lhs; whnf) | apply o_no rfl | refine o_b rfl rfl rfl (by constructor; omega) ?_ | refine o_f rfl rfl rfl (by constructor; omega) ?_ | refine o_s rfl rfl rfl (by constructor; first | omega | assumption) ?_ | refine o_t rfl rfl rfl (by constructor; assumption) ?_ | (apply o_easy rfl rfl rfl; conv => lhs; whnf) | apply o_non rfl)); apply o_end; (repeat (first | exact OutS.nil | exact GetS.hit | exact PutS.hit | apply GetS.miss rfl | apply PutS.miss rfl | apply OutS.cons | apply OutS.skip rfl)))
            ((repeat refine c_seq ?_); refine c_if rfl ?_)
            ((repeat refine c_seq ?_); refine c_drawn ?_; (repeat (first | ((first | apply o_move rfl rfl | apply o_easy1 rfl rfl rfl | apply o_ld rfl rfl (by assumption) (by first | rfl | assumption)); conv => lhs; whnf) | apply o_no rfl | refine o_b rfl rfl rfl (by constructor; omega) ?_ | refine o_f rfl rfl rfl (by constructor; omega) ?_ | refine o_s rfl rfl rfl (by constructor; first | omega | assumption) ?_ | refine o_t rfl rfl rfl (by constructor; assumption) ?_ | (apply o_easy rfl rfl rfl; conv => lhs; whnf) | apply o_non rfl)); apply d_end rfl; (repeat (first | exact OutS.nil | exact GetS.hit | exact PutS.hit | apply GetS.miss rfl | apply PutS.miss rfl | apply OutS.cons | apply OutS.skip rfl)))
            ((repeat refine c_seq ?_); refine c_if rfl ?_)
            ((repeat refine c_seq ?_); refine c_region ?_; (repeat (first | ((first | apply o_move rfl rfl | apply o_easy1 rfl rfl rfl | apply o_ld rfl rfl (by assumption) (by first | rfl | assumption)); conv => lhs; whnf) | apply o_no rfl | refine o_b rfl rfl rfl (by constructor; omega) ?_ | refine o_f rfl rfl rfl (by constructor; omega) ?_ | refine o_s rfl rfl rfl (by constructor; first | omega | assumption) ?_ | refine o_t rfl rfl rfl (by constructor; assumption) ?_ | (apply o_easy rfl rfl rfl; conv => lhs; whnf) | apply o_non rfl)))
            refine o_panic rfl rfl ?_
            exact hbad i _ _ _ rfl (hon.putr (rd t (i + 1) gr) g)
          | some e =>
            simp only [he] at hres
            have h2 : i + 1 < t.length := lt_of_getElem? he
            have honee : (t.drop (i + 1)).take (i + 2 - (i + 1)) = [e] := by
              rw [show i + 2 - (i + 1) = 1 by omega, List.drop_eq_getElem_cons h2]
              have : t[i + 1] = e := by
                have := List.getElem?_eq_getElem h2
                rw [he] at this
                exact (Option.some.inj this).symm
              simp [this]
            obtain ⟨N, hN⟩ := ih (by omega) _ _ _ hres (by omega) (hsm.add (by omega) (Nat.le_refl 1))
            refine ⟨N + 20, ?_⟩
            intro L m hL hm b r g s s1 v x37 x8 x54 x68 x79 x103 Q hw rl hon hrep hok hbad
            obtain ⟨L, rfl⟩ : ∃ L', L = L' + 1 := ⟨L - 1, by omega⟩
            obtain ⟨m, rfl⟩ : ∃ m', m = m' + 10 := ⟨m - 10, by omega⟩
            have hg := hon.get rl
            apply l_round
            ((repeat refine c_seq ?_); refine c_drawn ?_; (repeat (first | ((first | apply o_move rfl rfl | apply o_easy1 rfl rfl rfl | apply o_ld rfl rfl (by assumption) (by first | rfl | assumption)); conv => lhs; whnf) | apply o_no rfl | refine o_b rfl rfl rfl (by constructor; omega) ?_ | refine o_f rfl rfl rfl (by constructor; omega) ?_ | refine o_s rfl rfl rfl (by constructor; first | omega | assumption) ?_ | refine o_t rfl rfl rfl (by constructor; assumption) ?_ | (apply o_easy rfl rfl rfl; conv => lhs; whnf) | apply o_non rfl)))
            refine o_slS2 (i := i) (j := i + 1) rfl rfl rfl rfl rfl rfl (by omega) (by omega) hone ?_
            refine o_call rfl rfl (contains_spec (m + 5) _ ends c s1) ?_
            rw [decide_eq_false hend]
            (repeat (first | ((first | apply o_move rfl rfl | apply o_easy1 rfl rfl rfl | apply o_ld rfl rfl (by assumption) (by first | rfl | assumption)); conv => lhs; whnf) | apply o_no rfl | refine o_b rfl rfl rfl (by constructor; omega) ?_ | refine o_f rfl rfl rfl (by constructor; omega) ?_ | refine o_s rfl rfl rfl (by constructor; first | omega | assumption) ?_ | refine o_t rfl rfl rfl (by constructor; assumption) ?_ | (apply o_easy rfl rfl rfl; conv => lhs; whnf) | apply o_non rfl))
            (apply d_end rfl; (repeat (first | exact OutS.nil | exact GetS.hit | exact PutS.hit | apply GetS.miss rfl | apply PutS.miss rfl | apply OutS.cons | apply OutS.skip rfl)))
            ((repeat refine c_seq ?_); refine c_if rfl ?_)
            refine c_skip ?_
            ((repeat refine c_seq ?_); refine c_block ?_)
            ((repeat refine c_seq ?_); refine c_region ?_; (repeat (first | ((first | apply o_move rfl rfl | apply o_easy1 rfl rfl rfl | apply o_ld rfl rfl (by assumption) (by first | rfl | assumption)); conv => lhs; whnf) | apply o_no rfl | refine o_b rfl rfl rfl (by constructor; omega) ?_ | refine o_f rfl rfl rfl (by constructor; omega) ?_ | refine o_s rfl rfl rfl (by constructor; first | omega | assumption) ?_ | refine o_t rfl rfl rfl (by constructor; assumption) ?_ | (apply o_easy rfl rfl rfl; conv => lhs; whnf) | apply o_non rfl)); apply o_end; (repeat (first | exact OutS.nil | exact GetS.hit | exact PutS.hit | apply GetS.miss rfl | apply PutS.miss rfl | apply OutS.cons | apply OutS.skip rfl)))
            ((repeat refine c_seq ?_); refine c_region ?_; (repeat (first | ((first | apply o_move rfl rfl | apply o_easy1 rfl rfl rfl | apply o_ld rfl rfl (by assumption) (by first | rfl | assumption)); conv => lhs; whnf) | apply o_no rfl | refine o_b rfl rfl rfl (by constructor; omega) ?_ | refine o_f rfl rfl rfl (by constructor; omega) ?_ | refine o_s rfl rfl rfl (by constructor; first | omega | assumption) ?_ | refine o_t rfl rfl rfl (by constructor; assumption) ?_ | (apply o_easy rfl rfl rfl; conv => lhs; whnf) | apply o_non rfl)))
            refine o_st rfl rfl rfl rfl hg rfl (lets_of (blt_no hw) (fun e => rfl)) (cs' := rd t (i + 1) gr) rfl ?_
            (apply o_end; (repeat (first | exact OutS.nil | exact GetS.hit | exact PutS.hit | apply GetS.miss rfl | apply PutS.miss rfl | apply OutS.cons | apply OutS.skip rfl)))
            have hgA := getCells_put (cs' := rd t (i + 1) gr) (g' := g) hg
            ((repeat refine c_seq ?_); refine c_region ?_; (repeat (first | ((first | apply o_move rfl rfl | apply o_easy1 rfl rfl rfl | apply o_ld rfl rfl (by assumption) (by first | rfl | assumption)); conv => lhs; whnf) | apply o_no rfl | refine o_b rfl rfl rfl (by constructor; omega) ?_ | refine o_f rfl rfl rfl (by constructor; omega) ?_ | refine o_s rfl rfl rfl (by constructor; first | omega | assumption) ?_ | refine o_t rfl rfl rfl (by constructor; assumption) ?_ | (apply o_easy rfl rfl rfl; conv => lhs; whnf) | apply o_non rfl)))
            refine o_idxS (j := i) rfl rfl rfl rfl hc ?_
            (apply o_end; (repeat (first | exact OutS.nil | exact GetS.hit | exact PutS.hit | apply GetS.miss rfl | apply PutS.miss rfl | apply OutS.cons | apply OutS.skip rfl)))
            ((repeat refine c_seq ?_); refine c_block ?_)
            ((repeat refine c_seq ?_); refine c_region ?_; (repeat (first | ((first | apply o_move rfl rfl | apply o_easy1 rfl rfl rfl | apply o_ld rfl rfl (by assumption) (by first | rfl | assumption)); conv => lhs; whnf) | apply o_no rfl | refine o_b rfl rfl rfl (by constructor; omega) ?_ | refine o_f rfl rfl rfl (by constructor; omega) ?_ | refine o_s rfl rfl rfl (by constructor; first | omega | assumption) ?_ | refine o_t rfl rfl rfl (by constructor; assumption) ?_ | (apply o_easy rfl rfl rfl; conv => lhs; whnf) | apply o_non rfl)); apply o_end; (repeat (first | exact OutS.nil | exact GetS.hit | exact PutS.hit | apply GetS.miss rfl | apply PutS.miss rfl | apply OutS.cons | apply OutS.skip rfl)))
            ((repeat refine c_seq ?_); refine c_if rfl ?_)
            ((repeat refine c_seq ?_); refine c_drawn ?_; (repeat (first | ((first | apply o_move rfl rfl | apply o_easy1 rfl rfl rfl | apply o_ld rfl rfl (by assumption) (by first | rfl | assumption)); conv => lhs; whnf) | apply o_no rfl | refine o_b rfl rfl rfl (by constructor; omega) ?_ | refine o_f rfl rfl rfl (by constructor; omega) ?_ | refine o_s rfl rfl rfl (by constructor; first | omega | assumption) ?_ | refine o_t rfl rfl rfl (by constructor; assumption) ?_ | (apply o_easy rfl rfl rfl; conv => lhs; whnf) | apply o_non rfl)); apply d_end rfl; (repeat (first | exact OutS.nil | exact GetS.hit | exact PutS.hit | apply GetS.miss rfl | apply PutS.miss rfl | apply OutS.cons | apply OutS.skip rfl)))
            ((repeat refine c_seq ?_); refine c_else rfl ?_)
            refine c_skip ?_
            ((repeat refine c_seq ?_); refine c_region ?_; (repeat (first | ((first | apply o_move rfl rfl | apply o_easy1 rfl rfl rfl | apply o_ld rfl rfl (by assumption) (by first | rfl | assumption)); conv => lhs; whnf) | apply o_no rfl | refine o_b rfl rfl rfl (by constructor; omega) ?_ | refine o_f rfl rfl rfl (by constructor; omega) ?_ | refine o_s rfl rfl rfl (by constructor; first | omega | assumption) ?_ | refine o_t rfl rfl rfl (by constructor; assumption) ?_ | (apply o_easy rfl rfl rfl; conv => lhs; whnf) | apply o_non rfl)))
            have hg2 := getCells_put (cs' := rd t (i + 1) gr) (g' := g) hg
            refine o_st rfl rfl rfl rfl hg2 rfl (lets_of (blt_no hw) (fun e => rfl)) (cs' := rd t (i + 2) gr) rfl ?_
            rw [Sg.put_put]
            (apply o_end; (repeat (first | exact OutS.nil | exact GetS.hit | exact PutS.hit | apply GetS.miss rfl | apply PutS.miss rfl | apply OutS.cons | apply OutS.skip rfl)))
            have hg3 := getCells_put (cs' := rd t (i + 2) gr) (g' := g) hg
            have hon3 := hon.putr (rd t (i + 2) gr) g
            have hrep3 : Rep s.heap.length (s1.put r (.cells (rd t (i + 2) gr) g)).heap v out := hrep.same (fun o ho _ => Sg.put_get _ _ _ (by omega))
            generalize s1.put r (.cells (rd t (i + 2) gr) g) = s3 at hg3 hon3 hrep3 ⊢
            ((repeat refine c_seq ?_); refine c_drawn ?_; (repeat (first | ((first | apply o_move rfl rfl | apply o_easy1 rfl rfl rfl | apply o_ld rfl rfl (by assumption) (by first | rfl | assumption)); conv => lhs; whnf) | apply o_no rfl | refine o_b rfl rfl rfl (by constructor; omega) ?_ | refine o_f rfl rfl rfl (by constructor; omega) ?_ | refine o_s rfl rfl rfl (by constructor; first | omega | assumption) ?_ | refine o_t rfl rfl rfl (by constructor; assumption) ?_ | (apply o_easy rfl rfl rfl; conv => lhs; whnf) | apply o_non rfl)))
            refine o_move rfl hrep.defd rfl ?_
            (repeat (first | ((first | apply o_move rfl rfl | apply o_easy1 rfl rfl rfl | apply o_ld rfl rfl (by assumption) (by first | rfl | assumption)); conv => lhs; whnf) | apply o_no rfl | refine o_b rfl rfl rfl (by constructor; omega) ?_ | refine o_f rfl rfl rfl (by constructor; omega) ?_ | refine o_s rfl rfl rfl (by constructor; first | omega | assumption) ?_ | refine o_t rfl rfl rfl (by constructor; assumption) ?_ | (apply o_easy rfl rfl rfl; conv => lhs; whnf) | apply o_non rfl))
            refine o_slS2 (i := i + 1) (j := i + 2) rfl rfl rfl rfl rfl rfl (by omega) (by omega) honee ?_
            (repeat (first | ((first | apply o_move rfl rfl | apply o_easy1 rfl rfl rfl | apply o_ld rfl rfl (by assumption) (by first | rfl | assumption)); conv => lhs; whnf) | apply o_no rfl | refine o_b rfl rfl rfl (by constructor; omega) ?_ | refine o_f rfl rfl rfl (by constructor; omega) ?_ | refine o_s rfl rfl rfl (by constructor; first | omega | assumption) ?_ | refine o_t rfl rfl rfl (by constructor; assumption) ?_ | (apply o_easy rfl rfl rfl; conv => lhs; whnf) | apply o_non rfl))
            refine o_callw (l := [v, .agg (Tp.lit [e]).cells]) rfl (evAll2 hrep.defd rfl) ((add_spec (m + 9) b s3 s.heap.length v out (.lit [e]) hon3.len (by omega) hrep3 (by have := hsm.1; omega) (by simp [Tp.text]) (fun q hq => by have := hsm.2 q hq; omega)).mono ?_)
            rintro o s4 ⟨v', rfl, hrep4, hold4, hlen4, _⟩
            refine o_move rfl hrep4.defd rfl ?_
            (apply d_end rfl; (repeat (first | exact OutS.nil | exact GetS.hit | exact PutS.hit | apply GetS.miss rfl | apply PutS.miss rfl | apply OutS.cons | apply OutS.skip rfl)))
            exact hN L (m + 10) (by omega) (by omega) b r g s s4 v' _ _ _ _ _ _ Q hw rl (hon3.same hlen4 hold4) hrep4 hok hbad
        · rw [if_neg h92] at hres
          by_cases h36 : c.toNat = 36
          · rw [if_pos h36] at hres
            obtain ⟨ND, hND⟩ := hD k (by omega) i (i + 1)
            cases hd : dollarM t gr k i d (i + 1) with
            | none => simp [hd] at hres
            | some rd' =>
              cases rd' with
              | error a =>
                simp only [hd, Option.some.injEq] at hres
                subst hres
                refine ⟨ND + 20, ?_⟩
                intro L m hL hm b r g s s1 v x37 x8 x54 x68 x79 x103 Q hw rl hon hrep hok hbad
                obtain ⟨L, rfl⟩ : ∃ L', L = L' + 1 := ⟨L - 1, by omega⟩
                obtain ⟨m, rfl⟩ : ∃ m', m = m' + 10 := ⟨m - 10, by omega⟩
                have hg := hon.get rl
                apply l_round
                ((repeat refine c_seq ?_); refine c_drawn ?_; (repeat (first | ((first | apply o_move rfl rfl | apply o_easy1 rfl rfl rfl | apply o_ld rfl rfl (by assumption) (by first | rfl | assumption)); conv => lhs; whnf) | apply o_no rfl | refine o_b rfl rfl rfl (by constructor; omega) ?_ | refine o_f rfl rfl rfl (by constructor; omega) ?_ | refine o_s rfl rfl rfl (by constructor; first | omega | assumption) ?_ | refine o_t rfl rfl rfl (by constructor; assumption) ?_ | (apply o_easy rfl rfl rfl; conv => lhs; whnf) | apply o_non rfl)))
                refine o_slS2 (i := i) (j := i + 1) rfl rfl rfl rfl rfl rfl (by omega) (by omega) hone ?_
                refine o_call rfl rfl (contains_spec (m + 5) _ ends c s1) ?_
                rw [decide_eq_false hend]
                (repeat (first | ((first | apply o_move rfl rfl | apply o_easy1 rfl rfl rfl | apply o_ld rfl rfl (by assumption) (by first | rfl | assumption)); conv => lhs; whnf) | apply o_no rfl | refine o_b rfl rfl rfl (by constructor; omega) ?_ | refine o_f rfl rfl rfl (by constructor; omega) ?_ | refine o_s rfl rfl rfl (by constructor; first | omega | assumption) ?_ | refine o_t rfl rfl rfl (by constructor; assumption) ?_ | (apply o_easy rfl rfl rfl; conv => lhs; whnf) | apply o_non rfl))
                (apply d_end rfl; (repeat (first | exact OutS.nil | exact GetS.hit | exact PutS.hit | apply GetS.miss rfl | apply PutS.miss rfl | apply OutS.cons | apply OutS.skip rfl)))
                ((repeat refine c_seq ?_); refine c_if rfl ?_)
                refine c_skip ?_
                ((repeat refine c_seq ?_); refine c_block ?_)
                ((repeat refine c_seq ?_); refine c_region ?_; (repeat (first | ((first | apply o_move rfl rfl | apply o_easy1 rfl rfl rfl | apply o_ld rfl rfl (by assumption) (by first | rfl | assumption)); conv => lhs; whnf) | apply o_no rfl | refine o_b rfl rfl rfl (by constructor; omega) ?_ | refine o_f rfl rfl rfl (by constructor; omega) ?_ | refine o_s rfl rfl rfl (by constructor; first | omega | assumption) ?_ | refine o_t rfl rfl rfl (by constructor; assumption) ?_ | (apply o_easy rfl rfl rfl; conv => lhs; whnf) | apply o_non rfl)); apply o_end; (repeat (first | exact OutS.nil | exact GetS.hit | exact PutS.hit | apply GetS.miss rfl | apply PutS.miss rfl | apply OutS.cons | apply OutS.skip rfl)))
                ((repeat refine c_seq ?_); refine c_region ?_; (repeat (first | ((first | apply o_move rfl rfl | apply o_easy1 rfl rfl rfl | apply o_ld rfl rfl (by assumption) (by first | rfl | assumption)); conv => lhs; whnf) | apply o_no rfl | refine o_b rfl rfl rfl (by constructor; omega) ?_ | refine o_f rfl rfl rfl (by constructor; omega) ?_ | refine o_s rfl rfl rfl (by constructor; first | omega | assumption) ?_ | refine o_t rfl rfl rfl (by constructor; assumption) ?_ | (apply o_easy rfl rfl rfl; conv => lhs; whnf) | apply o_non rfl)))
                refine o_st rfl rfl rfl rfl hg rfl (lets_of (blt_no hw) (fun e => rfl)) (cs' := rd t (i + 1) gr) rfl ?_
                (apply o_end; (repeat (first | exact OutS.nil | exact GetS.hit | exact PutS.hit | apply GetS.miss rfl | apply PutS.miss rfl | apply OutS.cons | apply OutS.skip rfl)))
                have hgA := getCells_put (cs' := rd t (i + 1) gr) (g' := g) hg
                ((repeat refine c_seq ?_); refine c_region ?_; (repeat (first | ((first | apply o_move rfl rfl | apply o_easy1 rfl rfl rfl | apply o_ld rfl rfl (by assumption) (by first | rfl | assumption)); conv => lhs; whnf) | apply o_no rfl | refine o_b rfl rfl rfl (by constructor; omega) ?_ | refine o_f rfl rfl rfl (by constructor; omega) ?_ | refine o_s rfl rfl rfl (by constructor; first | omega | assumption) ?_ | refine o_t rfl rfl rfl (by constructor; assumption) ?_ | (apply o_easy rfl rfl rfl; conv => lhs; whnf) | apply o_non rfl)))
                refine o_idxS (j := i) rfl rfl rfl rfl hc ?_
                (apply o_end; (repeat (first | exact OutS.nil | exact GetS.hit | exact PutS.hit | apply GetS.miss rfl | apply PutS.miss rfl | apply OutS.cons | apply OutS.skip rfl)))
                ((repeat refine c_seq ?_); refine c_block ?_)
                ((repeat refine c_seq ?_); refine c_region ?_; (repeat (first | ((first | apply o_move rfl rfl | apply o_easy1 rfl rfl rfl | apply o_ld rfl rfl (by assumption) (by first | rfl | assumption)); conv => lhs; whnf) | apply o_no rfl | refine o_b rfl rfl rfl (by constructor; omega) ?_ | refine o_f rfl rfl rfl (by constructor; omega) ?_ | refine o_s rfl rfl rfl (by constructor; first | omega | assumption) ?_ | refine o_t rfl rfl rfl (by constructor; assumption) ?_ | (apply o_easy rfl rfl rfl; conv => lhs; whnf) | apply o_non rfl)); apply o_end; (repeat (first | exact OutS.nil | exact GetS.hit | exact PutS.hit | apply GetS.miss rfl | apply PutS.miss rfl | apply OutS.cons | apply OutS.skip rfl)))
                ((repeat refine c_seq ?_); refine c_else rfl ?_)
                ((repeat refine c_seq ?_); refine c_region ?_; (repeat (first | ((first | apply o_move rfl rfl | apply o_easy1 rfl rfl rfl | apply o_ld rfl rfl (by assumption) (by first | rfl | assumption)); conv => lhs; whnf) | apply o_no rfl | refine o_b rfl rfl rfl (by constructor; omega) ?_ | refine o_f rfl rfl rfl (by constructor; omega) ?_ | refine o_s rfl rfl rfl (by constructor; first | omega | assumption) ?_ | refine o_t rfl rfl rfl (by constructor; assumption) ?_ | (apply o_easy rfl rfl rfl; conv => lhs; whnf) | apply o_non rfl)); apply o_end; (repeat (first | exact OutS.nil | exact GetS.hit | exact PutS.hit | apply GetS.miss rfl | apply PutS.miss rfl | apply OutS.cons | apply OutS.skip rfl)))
                ((repeat refine c_seq ?_); refine c_if rfl ?_)
                have hg2 := getCells_put (cs' := rd t (i + 1) gr) (g' := g) hg
                have hon2 := hon.putr (rd t (i + 1) gr) g
                ((repeat refine c_seq ?_); refine c_region ?_; (repeat (first | ((first | apply o_move rfl rfl | apply o_easy1 rfl rfl rfl | apply o_ld rfl rfl (by assumption) (by first | rfl | assumption)); conv => lhs; whnf) | apply o_no rfl | refine o_b rfl rfl rfl (by constructor; omega) ?_ | refine o_f rfl rfl rfl (by constructor; omega) ?_ | refine o_s rfl rfl rfl (by constructor; first | omega | assumption) ?_ | refine o_t rfl rfl rfl (by constructor; assumption) ?_ | (apply o_easy rfl rfl rfl; conv => lhs; whnf) | apply o_non rfl)))
                refine o_move rfl hrep.defd rfl ?_
                (repeat (first | ((first | apply o_move rfl rfl | apply o_easy1 rfl rfl rfl | apply o_ld rfl rfl (by assumption) (by first | rfl | assumption)); conv => lhs; whnf) | apply o_no rfl | refine o_b rfl rfl rfl (by constructor; omega) ?_ | refine o_f rfl rfl rfl (by constructor; omega) ?_ | refine o_s rfl rfl rfl (by constructor; first | omega | assumption) ?_ | refine o_t rfl rfl rfl (by constructor; assumption) ?_ | (apply o_easy rfl rfl rfl; conv => lhs; whnf) | apply o_non rfl))
                refine o_callw rfl rfl ((hND _ hd (by omega) (m + 10) (by omega) b r g _ hw hg2).mono ?_)
                rintro o s3 ⟨rfl, j, rfl⟩
                exact hbad a j _ _ rfl (hon2.putr (rd t j gr) g)
              | ok x =>
                obtain ⟨p, j⟩ := x
                simp only [hd] at hres
                have hge := (model_ge t gr k).2 _ _ _ _ _ hd
                by_cases hjt : j ≤ t.length
                · obtain ⟨N, hN⟩ := ih (by omega) _ _ _ hres hjt (hsm.add (by omega) hge.2)
                  refine ⟨N + ND + 20, ?_⟩
                  intro L m hL hm b r g s s1 v x37 x8 x54 x68 x79 x103 Q hw rl hon hrep hok hbad
                  obtain ⟨L, rfl⟩ : ∃ L', L = L' + 1 := ⟨L - 1, by omega⟩
                  obtain ⟨m, rfl⟩ : ∃ m', m = m' + 10 := ⟨m - 10, by omega⟩
                  have hg := hon.get rl
                  apply l_round
                  ((repeat refine c_seq ?_); refine c_drawn ?_; (repeat (first | ((first | apply o_move rfl rfl | apply o_easy1 rfl rfl rfl | apply o_ld rfl rfl (by assumption) (by first | rfl | assumption)); conv => lhs; whnf) | apply o_no rfl | refine o_b rfl rfl rfl (by constructor; omega) ?_ | refine o_f rfl rfl rfl (by constructor; omega) ?_ | refine o_s rfl rfl rfl (by constructor; first | omega | assumption) ?_ | refine o_t rfl rfl rfl (by constructor; assumption) ?_ | (apply o_easy rfl rfl rfl; conv => lhs; whnf) | apply o_non rfl)))
                  refine o_slS2 (i := i) (j := i + 1) rfl rfl rfl rfl rfl rfl (by omega) (by omega) hone ?_
                  refine o_call rfl rfl (contains_spec (m + 5) _ ends c s1) ?_
                  rw [decide_eq_false hend]
                  (repeat (first | ((first | apply o_move rfl rfl | apply o_easy1 rfl rfl rfl | apply o_ld rfl rfl (by assumption) (by first | rfl | assumption)); conv => lhs; whnf) | apply o_no rfl | refine o_b rfl rfl rfl (by constructor; omega) ?_ | refine o_f rfl rfl rfl (by constructor; omega) ?_ | refine o_s rfl rfl rfl (by constructor; first | omega | assumption) ?_ | refine o_t rfl rfl rfl (by constructor; assumption) ?_ | (apply o_easy rfl rfl rfl; conv => lhs; whnf) | apply o_non rfl))
                  (apply d_end rfl; (repeat (first | exact OutS.nil | exact GetS.hit | exact PutS.hit | apply GetS.miss rfl | apply PutS.miss rfl | apply OutS.cons | apply OutS.skip rfl)))
                  ((repeat refine c_seq ?_); refine c_if rfl ?_)
                  refine c_skip ?_
                  ((repeat refine c_seq ?_); refine c_block ?_)
                  ((repeat refine c_seq ?_); refine c_region ?_; (repeat (first | ((first | apply o_move rfl rfl | apply o_easy1 rfl rfl rfl | apply o_ld rfl rfl (by assumption) (by first | rfl | assumption)); conv => lhs; whnf) | apply o_no rfl | refine o_b rfl rfl rfl (by constructor; omega) ?_ | refine o_f rfl rfl rfl (by constructor; omega) ?_ | refine o_s rfl rfl rfl (by constructor; first | omega | assumption) ?_ | refine o_t rfl rfl rfl (by constructor; assumption) ?_ | (apply o_easy rfl rfl rfl; conv => lhs; whnf) | apply o_non rfl)); apply o_end; (repeat (first | exact OutS.nil | exact GetS.hit | exact PutS.hit | apply GetS.miss rfl | apply PutS.miss rfl | apply OutS.cons | apply OutS.skip rfl)))
                  ((repeat refine c_seq ?_); refine c_region ?_; (repeat (first | ((first | apply o_move rfl rfl | apply o_easy1 rfl rfl rfl | apply o_ld rfl rfl (by assumption) (by first | rfl | assumption)); conv => lhs; whnf) | apply o_no rfl | refine o_b rfl rfl rfl (by constructor; omega) ?_ | refine o_f rfl rfl rfl (by constructor; omega) ?_ | refine o_s rfl rfl rfl (by constructor; first | omega | assumption) ?_ | refine o_t rfl rfl rfl (by constructor; assumption) ?_ | (apply o_easy rfl rfl rfl; conv => lhs; whnf) | apply o_non rfl)))
                  refine o_st rfl rfl rfl rfl hg rfl (lets_of (blt_no hw) (fun e => rfl)) (cs' := rd t (i + 1) gr) rfl ?_
                  (apply o_end; (repeat (first | exact OutS.nil | exact GetS.hit | exact PutS.hit | apply GetS.miss rfl | apply PutS.miss rfl | apply OutS.cons | apply OutS.skip rfl)))
                  have hgA := getCells_put (cs' := rd t (i + 1) gr) (g' := g) hg
                  ((repeat refine c_seq ?_); refine c_region ?_; (repeat (first | ((first | apply o_move rfl rfl | apply o_easy1 rfl rfl rfl | apply o_ld rfl rfl (by assumption) (by first | rfl | assumption)); conv => lhs; whnf) | apply o_no rfl | refine o_b rfl rfl rfl (by constructor; omega) ?_ | refine o_f rfl rfl rfl (by constructor; omega) ?_ | refine o_s rfl rfl rfl (by constructor; first | omega | assumption) ?_ | refine o_t rfl rfl rfl (by constructor; assumption) ?_ | (apply o_easy rfl rfl rfl; conv => lhs; whnf) | apply o_non rfl)))
                  refine o_idxS (j := i) rfl rfl rfl rfl hc ?_
                  (apply o_end; (repeat (first | exact OutS.nil | exact GetS.hit | exact PutS.hit | apply GetS.miss rfl | apply PutS.miss rfl | apply OutS.cons | apply OutS.skip rfl)))
                  ((repeat refine c_seq ?_); refine c_block ?_)
                  ((repeat refine c_seq ?_); refine c_region ?_; (repeat (first | ((first | apply o_move rfl rfl | apply o_easy1 rfl rfl rfl | apply o_ld rfl rfl (by assumption) (by first | rfl | assumption)); conv => lhs; whnf) | apply o_no rfl | refine o_b rfl rfl rfl (by constructor; omega) ?_ | refine o_f rfl rfl rfl (by constructor; omega) ?_ | refine o_s rfl rfl rfl (by constructor; first | omega | assumption) ?_ | refine o_t rfl rfl rfl (by constructor; assumption) ?_ | (apply o_easy rfl rfl rfl; conv => lhs; whnf) | apply o_non rfl)); apply o_end; (repeat (first | exact OutS.nil | exact GetS.hit | exact PutS.hit | apply GetS.miss rfl | apply PutS.miss rfl | apply OutS.cons | apply OutS.skip rfl)))
                  ((repeat refine c_seq ?_); refine c_else rfl ?_)
                  ((repeat refine c_seq ?_); refine c_region ?_; (repeat (first | ((first | apply o_move rfl rfl | apply o_easy1 rfl rfl rfl | apply o_ld rfl rfl (by assumption) (by first | rfl | assumption)); conv => lhs; whnf) | apply o_no rfl | refine o_b rfl rfl rfl (by constructor; omega) ?_ | refine o_f rfl rfl rfl (by constructor; omega) ?_ | refine o_s rfl rfl rfl (by constructor; first | omega | assumption) ?_ | refine o_t rfl rfl rfl (by constructor; assumption) ?_ | (apply o_easy rfl rfl rfl; conv => lhs; whnf) | apply o_non rfl)); apply o_end; (repeat (first | exact OutS.nil | exact GetS.hit | exact PutS.hit | apply GetS.miss rfl | apply PutS.miss rfl | apply OutS.cons | apply OutS.skip rfl)))
                  ((repeat refine c_seq ?_); refine c_if rfl ?_)
                  have hg2 := getCells_put (cs' := rd t (i + 1) gr) (g' := g) hg
                  have hon2 := hon.putr (rd t (i + 1) gr) g
                  ((repeat refine c_seq ?_); refine c_region ?_; (repeat (first | ((first | apply o_move rfl rfl | apply o_easy1 rfl rfl rfl | apply o_ld rfl rfl (by assumption) (by first | rfl | assumption)); conv => lhs; whnf) | apply o_no rfl | refine o_b rfl rfl rfl (by constructor; omega) ?_ | refine o_f rfl rfl rfl (by constructor; omega) ?_ | refine o_s rfl rfl rfl (by constructor; first | omega | assumption) ?_ | refine o_t rfl rfl rfl (by constructor; assumption) ?_ | (apply o_easy rfl rfl rfl; conv => lhs; whnf) | apply o_non rfl)))
                  refine o_move rfl hrep.defd rfl ?_
                  (repeat (first | ((first | apply o_move rfl rfl | apply o_easy1 rfl rfl rfl | apply o_ld rfl rfl (by assumption) (by first | rfl | assumption)); conv => lhs; whnf) | apply o_no rfl | refine o_b rfl rfl rfl (by constructor; omega) ?_ | refine o_f rfl rfl rfl (by constructor; omega) ?_ | refine o_s rfl rfl rfl (by constructor; first | omega | assumption) ?_ | refine o_t rfl rfl rfl (by constructor; assumption) ?_ | (apply o_easy rfl rfl rfl; conv => lhs; whnf) | apply o_non rfl))
                  refine o_callw rfl rfl ((hND _ hd (by omega) (m + 10) (by omega) b r g _ hw hg2).mono ?_)
                  rintro o s3 ⟨rfl, hs3, hj⟩
                  rw [Sg.put_put] at hs3
                  subst hs3
                  have hon3 := hon.putr (rd t j gr) g
                  have hrep3 : Rep s.heap.length (s1.put r (.cells (rd t j gr) g)).heap v out := hrep.same (fun o ho _ => Sg.put_get _ _ _ (by omega))
                  generalize s1.put r (.cells (rd t j gr) g) = s3 at hon3 hrep3 ⊢
                  refine o_callw (l := [v, .agg p.cells]) rfl (evAll2 hrep.defd rfl) ((add_spec (m + 9) b s3 s.heap.length v out p hon3.len (by omega) hrep3 (by have := hsm.1; omega) (by omega) (fun q hq => by have := hsm.2 q hq; omega)).mono ?_)
                  rintro o s4 ⟨v', rfl, hrep4, hold4, hlen4, _⟩
                  refine o_move rfl hrep4.defd rfl ?_
                  (apply o_end; (repeat (first | exact OutS.nil | exact GetS.hit | exact PutS.hit | apply GetS.miss rfl | apply PutS.miss rfl | apply OutS.cons | apply OutS.skip rfl)))
                  exact hN L (m + 10) (by omega) (by omega) b r g s s4 v' _ _ _ _ _ _ Q hw rl (hon3.same hlen4 hold4) hrep4 hok hbad
                · refine ⟨ND + 20, ?_⟩
                  intro L m hL hm b r g s s1 v x37 x8 x54 x68 x79 x103 Q hw rl hon hrep hok hbad
                  obtain ⟨L, rfl⟩ : ∃ L', L = L' + 1 := ⟨L - 1, by omega⟩
                  obtain ⟨m, rfl⟩ : ∃ m', m = m' + 10 := ⟨m - 10, by omega⟩
                  have hg := hon.get rl
                  apply l_round
                  ((repeat refine c_seq ?_); refine c_drawn ?_; (repeat (first | ((first | apply o_move rfl rfl | apply o_easy1 rfl rfl rfl | apply o_ld rfl rfl (by assumption) (by first | rfl | assumption)); conv => lhs; whnf) | apply o_no rfl | refine o_b rfl rfl rfl (by constructor; omega) ?_ | refine o_f rfl rfl rfl (by constructor; omega) ?_ | refine o_s rfl rfl rfl (by constructor; first | omega | assumption) ?_ | refine o_t rfl rfl rfl (by constructor; assumption) ?_ | (apply o_easy rfl rfl rfl; conv => lhs; whnf) | apply o_non rfl)))
                  refine o_slS2 (i := i) (j := i + 1) rfl rfl rfl rfl rfl rfl (by omega) (by omega) hone ?_
                  refine o_call rfl rfl (contains_spec (m + 5) _ ends c s1) ?_
                  rw [decide_eq_false hend]
                  (repeat (first | ((first | apply o_move rfl rfl | apply o_easy1 rfl rfl rfl | apply o_ld rfl rfl (by assumption) (by first | rfl | assumption)); conv => lhs; whnf) | apply o_no rfl | refine o_b rfl rfl rfl (by constructor; omega) ?_ | refine o_f rfl rfl rfl (by constructor; omega) ?_ | refine o_s rfl rfl rfl (by constructor; first | omega | assumption) ?_ | refine o_t rfl rfl rfl (by constructor; assumption) ?_ | (apply o_easy rfl rfl rfl; conv => lhs; whnf) | apply o_non rfl))
                  (apply d_end rfl; (repeat (first | exact OutS.nil | exact GetS.hit | exact PutS.hit | apply GetS.miss rfl | apply PutS.miss rfl | apply OutS.cons | apply OutS.skip rfl)))
                  ((repeat refine c_seq ?_); refine c_if rfl ?_)
                  refine c_skip ?_
                  ((repeat refine c_seq ?_); refine c_block ?_)
                  ((repeat refine c_seq ?_); refine c_region ?_; (repeat (first | ((first | apply o_move rfl rfl | apply o_easy1 rfl rfl rfl | apply o_ld rfl rfl (by assumption) (by first | rfl | assumption)); conv => lhs; whnf) | apply o_no rfl | refine o_b rfl rfl rfl (by constructor; omega) ?_ | refine o_f rfl rfl rfl (by constructor; omega) ?_ | refine o_s rfl rfl rfl (by constructor; first | omega | assumption) ?_ | refine o_t rfl rfl rfl (by constructor; assumption) ?_ | (apply o_easy rfl rfl rfl; conv => lhs; whnf) | apply o_non rfl)); apply o_end; (repeat (first | exact OutS.nil | exact GetS.hit | exact PutS.hit | apply GetS.miss rfl | apply PutS.miss rfl | apply OutS.cons | apply OutS.skip rfl)))
                  ((repeat refine c_seq ?_); refine c_region ?_; (repeat (first | ((first | apply o_move rfl rfl | apply o_easy1 rfl rfl rfl | apply o_ld rfl rfl (by assumption) (by first | rfl | assumption)); conv => lhs; whnf) | apply o_no rfl | refine o_b rfl rfl rfl (by constructor; omega) ?_ | refine o_f rfl rfl rfl (by constructor; omega) ?_ | refine o_s rfl rfl rfl (by constructor; first | omega | assumption) ?_ | refine o_t rfl rfl rfl (by constructor; assumption) ?_ | (apply o_easy rfl rfl rfl; conv => lhs; whnf) | apply o_non rfl)))
                  refine o_st rfl rfl rfl rfl hg rfl (lets_of (blt_no hw) (fun e => rfl)) (cs' := rd t (i + 1) gr) rfl ?_
                  (apply o_end; (repeat (first | exact OutS.nil | exact GetS.hit | exact PutS.hit | apply GetS.miss rfl | apply PutS.miss rfl | apply OutS.cons | apply OutS.skip rfl)))
                  have hgA := getCells_put (cs' := rd t (i + 1) gr) (g' := g) hg
                  ((repeat refine c_seq ?_); refine c_region ?_; (repeat (first | ((first | apply o_move rfl rfl | apply o_easy1 rfl rfl rfl | apply o_ld rfl rfl (by assumption) (by first | rfl | assumption)); conv => lhs; whnf) | apply o_no rfl | refine o_b rfl rfl rfl (by constructor; omega) ?_ | refine o_f rfl rfl rfl (by constructor; omega) ?_ | refine o_s rfl rfl rfl (by constructor; first | omega | assumption) ?_ | refine o_t rfl rfl rfl (by constructor; assumption) ?_ | (apply o_easy rfl rfl rfl; conv => lhs; whnf) | apply o_non rfl)))
                  refine o_idxS (j := i) rfl rfl rfl rfl hc ?_
                  (apply o_end; (repeat (first | exact OutS.nil | exact GetS.hit | exact PutS.hit | apply GetS.miss rfl | apply PutS.miss rfl | apply OutS.cons | apply OutS.skip rfl)))
                  ((repeat refine c_seq ?_); refine c_block ?_)
                  ((repeat refine c_seq ?_); refine c_region ?_; (repeat (first | ((first | apply o_move rfl rfl | apply o_easy1 rfl rfl rfl | apply o_ld rfl rfl (by assumption) (by first | rfl | assumption)); conv => lhs; whnf) | apply o_no rfl | refine o_b rfl rfl rfl (by constructor; omega) ?_ | refine o_f rfl rfl rfl (by constructor; omega) ?_ | refine o_s rfl rfl rfl (by constructor; first | omega | assumption) ?_ | refine o_t rfl rfl rfl (by constructor; assumption) ?_ | (apply o_easy rfl rfl rfl; conv => lhs; whnf) | apply o_non rfl)); apply o_end; (repeat (first | exact OutS.nil | exact GetS.hit | exact PutS.hit | apply GetS.miss rfl | apply PutS.miss rfl | apply OutS.cons | apply OutS.skip rfl)))
                  ((repeat refine c_seq ?_); refine c_else rfl ?_)
                  ((repeat refine c_seq ?_); refine c_region ?_; (repeat (first | ((first | apply o_move rfl rfl | apply o_easy1 rfl rfl rfl | apply o_ld rfl rfl (by assumption) (by first | rfl | assumption)); conv => lhs; whnf) | apply o_no rfl | refine o_b rfl rfl rfl (by constructor; omega) ?_ | refine o_f rfl rfl rfl (by constructor; omega) ?_ | refine o_s rfl rfl rfl (by constructor; first | omega | assumption) ?_ | refine o_t rfl rfl rfl (by constructor; assumption) ?_ | (apply o_easy rfl rfl rfl; conv => lhs; whnf) | apply o_non rfl)); apply o_end; (repeat (first | exact OutS.nil | exact GetS.hit | exact PutS.hit | apply GetS.miss rfl | apply PutS.miss rfl | apply OutS.cons | apply OutS.skip rfl)))
                  ((repeat refine c_seq ?_); refine c_if rfl ?_)
                  have hg2 := getCells_put (cs' := rd t (i + 1) gr) (g' := g) hg
                  ((repeat refine c_seq ?_); refine c_region ?_; (repeat (first | ((first | apply o_move rfl rfl | apply o_easy1 rfl rfl rfl | apply o_ld rfl rfl (by assumption) (by first | rfl | assumption)); conv => lhs; whnf) | apply o_no rfl | refine o_b rfl rfl rfl (by constructor; omega) ?_ | refine o_f rfl rfl rfl (by constructor; omega) ?_ | refine o_s rfl rfl rfl (by constructor; first | omega | assumption) ?_ | refine o_t rfl rfl rfl (by constructor; assumption) ?_ | (apply o_easy rfl rfl rfl; conv => lhs; whnf) | apply o_non rfl)))
                  refine o_move rfl hrep.defd rfl ?_
                  (repeat (first | ((first | apply o_move rfl rfl | apply o_easy1 rfl rfl rfl | apply o_ld rfl rfl (by assumption) (by first | rfl | assumption)); conv => lhs; whnf) | apply o_no rfl | refine o_b rfl rfl rfl (by constructor; omega) ?_ | refine o_f rfl rfl rfl (by constructor; omega) ?_ | refine o_s rfl rfl rfl (by constructor; first | omega | assumption) ?_ | refine o_t rfl rfl rfl (by constructor; assumption) ?_ | (apply o_easy rfl rfl rfl; conv => lhs; whnf) | apply o_non rfl))
                  refine o_callw rfl rfl ((hND _ hd (by omega) (m + 10) (by omega) b r g _ hw hg2).mono ?_)
                  rintro o s3 ⟨rfl, hs3, hj⟩
                  exact absurd hj hjt
          · rw [if_neg h36] at hres
            obtain ⟨N, hN⟩ := ih (by omega) _ _ _ hres (by omega) (hsm.add (by omega) (Nat.le_refl 1))
            refine ⟨N + 20, ?_⟩
            intro L m hL hm b r g s s1 v x37 x8 x54 x68 x79 x103 Q hw rl hon hrep hok hbad
            obtain ⟨L, rfl⟩ : ∃ L', L = L' + 1 := ⟨L - 1, by omega⟩
            obtain ⟨m, rfl⟩ : ∃ m', m = m' + 10 := ⟨m - 10, by omega⟩
            have hg := hon.get rl
            apply l_round
            ((repeat refine c_seq ?_); refine c_drawn ?_; (repeat (first | ((first | apply o_move rfl rfl | apply o_easy1 rfl rfl rfl | apply o_ld rfl rfl (by assumption) (by first | rfl | assumption)); conv => lhs; whnf) | apply o_no rfl | refine o_b rfl rfl rfl (by constructor; omega) ?_ | refine o_f rfl rfl rfl (by constructor; omega) ?_ | refine o_s rfl rfl rfl (by constructor; first | omega | assumption) ?_ | refine o_t rfl rfl rfl (by constructor; assumption) ?_ | (apply o_easy rfl rfl rfl; conv => lhs; whnf) | apply o_non rfl)))
            refine o_slS2 (i := i) (j := i + 1) rfl rfl rfl rfl rfl rfl (by omega) (by omega) hone ?_
            refine o_call rfl rfl (contains_spec (m + 5) _ ends c s1) ?_
            rw [decide_eq_false hend]
            (repeat (first | ((first | apply o_move rfl rfl | apply o_easy1 rfl rfl rfl | apply o_ld rfl rfl (by assumption) (by first | rfl | assumption)); conv => lhs; whnf) | apply o_no rfl | refine o_b rfl rfl rfl (by constructor; omega) ?_ | refine o_f rfl rfl rfl (by constructor; omega) ?_ | refine o_s rfl rfl rfl (by constructor; first | omega | assumption) ?_ | refine o_t rfl rfl rfl (by constructor; assumption) ?_ | (apply o_easy rfl rfl rfl; conv => lhs; whnf) | apply o_non rfl))
            (apply d_end rfl; (repeat (first | exact OutS.nil | exact GetS.hit | exact PutS.hit | apply GetS.miss rfl | apply PutS.miss rfl | apply OutS.cons | apply OutS.skip rfl)))
            ((repeat refine c_seq ?_); refine c_if rfl ?_)
            refine c_skip ?_
            ((repeat refine c_seq ?_); refine c_block ?_)
            ((repeat refine c_seq ?_); refine c_region ?_; (repeat (first | ((first | apply o_move rfl rfl | apply o_easy1 rfl rfl rfl | apply o_ld rfl rfl (by assumption) (by first | rfl | assumption)); conv => lhs; whnf) | apply o_no rfl | refine o_b rfl rfl rfl (by constructor; omega) ?_ | refine o_f rfl rfl rfl (by constructor; omega) ?_ | refine o_s rfl rfl rfl (by constructor; first | omega | assumption) ?_ | refine o_t rfl rfl rfl (by constructor; assumption) ?_ | (apply o_easy rfl rfl rfl; conv => lhs; whnf) | apply o_non rfl)); apply o_end; (repeat (first | exact OutS.nil | exact GetS.hit | exact PutS.hit | apply GetS.miss rfl | apply PutS.miss rfl | apply OutS.cons | apply OutS.skip rfl)))
            ((repeat refine c_seq ?_); refine c_region ?_; (repeat (first | ((first | apply o_move rfl rfl | apply o_easy1 rfl rfl rfl | apply o_ld rfl rfl (by assumption) (by first | rfl | assumption)); conv => lhs; whnf) | apply o_no rfl | refine o_b rfl rfl rfl (by constructor; omega) ?_ | refine o_f rfl rfl rfl (by constructor; omega) ?_ | refine o_s rfl rfl rfl (by constructor; first | omega | assumption) ?_ | refine o_t rfl rfl rfl (by constructor; assumption) ?_ | (apply o_easy rfl rfl rfl; conv => lhs; whnf) | apply o_non rfl)))
            refine o_st rfl rfl rfl rfl hg rfl (lets_of (blt_no hw) (fun e => rfl)) (cs' := rd t (i + 1) gr) rfl ?_
            (apply o_end; (repeat (first | exact OutS.nil | exact GetS.hit | exact PutS.hit | apply GetS.miss rfl | apply PutS.miss rfl | apply OutS.cons | apply OutS.skip rfl)))
            have hgA := getCells_put (cs' := rd t (i + 1) gr) (g' := g) hg
            ((repeat refine c_seq ?_); refine c_region ?_; (repeat (first | ((first | apply o_move rfl rfl | apply o_easy1 rfl rfl rfl | apply o_ld rfl rfl (by assumption) (by first | rfl | assumption)); conv => lhs; whnf) | apply o_no rfl | refine o_b rfl rfl rfl (by constructor; omega) ?_ | refine o_f rfl rfl rfl (by constructor; omega) ?_ | refine o_s rfl rfl rfl (by constructor; first | omega | assumption) ?_ | refine o_t rfl rfl rfl (by constructor; assumption) ?_ | (apply o_easy rfl rfl rfl; conv => lhs; whnf) | apply o_non rfl)))
            refine o_idxS (j := i) rfl rfl rfl rfl hc ?_
            (apply o_end; (repeat (first | exact OutS.nil | exact GetS.hit | exact PutS.hit | apply GetS.miss rfl | apply PutS.miss rfl | apply OutS.cons | apply OutS.skip rfl)))
            ((repeat refine c_seq ?_); refine c_block ?_)
            ((repeat refine c_seq ?_); refine c_region ?_; (repeat (first | ((first | apply o_move rfl rfl | apply o_easy1 rfl rfl rfl | apply o_ld rfl rfl (by assumption) (by first | rfl | assumption)); conv => lhs; whnf) | apply o_no rfl | refine o_b rfl rfl rfl (by constructor; omega) ?_ | refine o_f rfl rfl rfl (by constructor; omega) ?_ | refine o_s rfl rfl rfl (by constructor; first | omega | assumption) ?_ | refine o_t rfl rfl rfl (by constructor; assumption) ?_ | (apply o_easy rfl rfl rfl; conv => lhs; whnf) | apply o_non rfl)); apply o_end; (repeat (first | exact OutS.nil | exact GetS.hit | exact PutS.hit | apply GetS.miss rfl | apply PutS.miss rfl | apply OutS.cons | apply OutS.skip rfl)))
            ((repeat refine c_seq ?_); refine c_else rfl ?_)
            ((repeat refine c_seq ?_); refine c_region ?_; (repeat (first | ((first | apply o_move rfl rfl | apply o_easy1 rfl rfl rfl | apply o_ld rfl rfl (by assumption) (by first | rfl | assumption)); conv => lhs; whnf) | apply o_no rfl | refine o_b rfl rfl rfl (by constructor; omega) ?_ | refine o_f rfl rfl rfl (by constructor; omega) ?_ | refine o_s rfl rfl rfl (by constructor; first | omega | assumption) ?_ | refine o_t rfl rfl rfl (by constructor; assumption) ?_ | (apply o_easy rfl rfl rfl; conv => lhs; whnf) | apply o_non rfl)); apply o_end; (repeat (first | exact OutS.nil | exact GetS.hit | exact PutS.hit | apply GetS.miss rfl | apply PutS.miss rfl | apply OutS.cons | apply OutS.skip rfl)))
            ((repeat refine c_seq ?_); refine c_else rfl ?_)
            have hg3 := getCells_put (cs' := rd t (i + 1) gr) (g' := g) hg
            have hon3 := hon.putr (rd t (i + 1) gr) g
            have hrep3 : Rep s.heap.length (s1.put r (.cells (rd t (i + 1) gr) g)).heap v out := hrep.same (fun o ho _ => Sg.put_get _ _ _ (by omega))
            generalize s1.put r (.cells (rd t (i + 1) gr) g) = s3 at hg3 hon3 hrep3 ⊢
            ((repeat refine c_seq ?_); refine c_drawn ?_; (repeat (first | ((first | apply o_move rfl rfl | apply o_easy1 rfl rfl rfl | apply o_ld rfl rfl (by assumption) (by first | rfl | assumption)); conv => lhs; whnf) | apply o_no rfl | refine o_b rfl rfl rfl (by constructor; omega) ?_ | refine o_f rfl rfl rfl (by constructor; omega) ?_ | refine o_s rfl rfl rfl (by constructor; first | omega | assumption) ?_ | refine o_t rfl rfl rfl (by constructor; assumption) ?_ | (apply o_easy rfl rfl rfl; conv => lhs; whnf) | apply o_non rfl)))
            refine o_move rfl hrep.defd rfl ?_
            (repeat (first | ((first | apply o_move rfl rfl | apply o_easy1 rfl rfl rfl | apply o_ld rfl rfl (by assumption) (by first | rfl | assumption)); conv => lhs; whnf) | apply o_no rfl | refine o_b rfl rfl rfl (by constructor; omega) ?_ | refine o_f rfl rfl rfl (by constructor; omega) ?_ | refine o_s rfl rfl rfl (by constructor; first | omega | assumption) ?_ | refine o_t rfl rfl rfl (by constructor; assumption) ?_ | (apply o_easy rfl rfl rfl; conv => lhs; whnf) | apply o_non rfl))
            refine o_slS2 (i := i) (j := i + 1) rfl rfl rfl rfl rfl rfl (by omega) (by omega) hone ?_
            (repeat (first | ((first | apply o_move rfl rfl | apply o_easy1 rfl rfl rfl | apply o_ld rfl rfl (by assumption) (by first | rfl | assumption)); conv => lhs; whnf) | apply o_no rfl | refine o_b rfl rfl rfl (by constructor; omega) ?_ | refine o_f rfl rfl rfl (by constructor; omega) ?_ | refine o_s rfl rfl rfl (by constructor; first | omega | assumption) ?_ | refine o_t rfl rfl rfl (by constructor; assumption) ?_ | (apply o_easy rfl rfl rfl; conv => lhs; whnf) | apply o_non rfl))
            refine o_callw (l := [v, .agg (Tp.lit [c]).cells]) rfl (evAll2 hrep.defd rfl) ((add_spec (m + 9) b s3 s.heap.length v out (.lit [c]) hon3.len (by omega) hrep3 (by have := hsm.1; omega) (by simp [Tp.text]) (fun q hq => by have := hsm.2 q hq; omega)).mono ?_)
            rintro o s4 ⟨v', rfl, hrep4, hold4, hlen4, _⟩
            refine o_move rfl hrep4.defd rfl ?_
            (apply d_end rfl; (repeat (first | exact OutS.nil | exact GetS.hit | exact PutS.hit | apply GetS.miss rfl | apply PutS.miss rfl | apply OutS.cons | apply OutS.skip rfl)))
            exact hN L (m + 10) (by omega) (by omega) b r g s s4 v' _ _ _ _ _ _ Q hw rl (hon3.same hlen4 hold4) hrep4 hok hbad


end Go.Tpl

namespace Go.Tpl
open Go Go.Am Go.Proofs

theorem chunk_avs : ∀ (l : List Tp), chunk l.length (some 5) (flatAll (avs l)) = some (avs l)
  | [] => by simp [avs, flatAll, chunk]
  | p :: r => by
    have h := cells_len p
    have ih := chunk_avs r
    have hle : Nat.ble 5 (p.cells ++ flatAll (avs r)).length = true := ble_of (by simp [h])
    have hd : (p.cells ++ flatAll (avs r)).drop 5 = flatAll (avs r) := by rw [← h]; exact List.drop_left
    have htk : (p.cells ++ flatAll (avs r)).take 5 = p.cells := by rw [← h]; exact List.take_left
    simp only [avs, flatAll, AV.flat, List.length_cons, chunk, hle, if_true, hd, ih, Option.bind_some, htk]

theorem lay_rep {h : List AObj} {b : Nat} {v : AV} {l : List Tp} (hr : Rep b h v l) : layOne h b (some (some 5)) v = some (.vec (avs l) .shut) := by
  rcases hr with ⟨rfl, rfl⟩ | ⟨_, o, g, rfl, hc, ho⟩
  · simp [layOne, AV.weak, avs]
  · exact layOne_ms ho hc (chunk_avs l)

theorem parts_ok (t : List UInt8) (gr : Int) (ht : t.length < 2 ^ 30) : ∀ n, PartsOk t gr n := by
  intro n
  induction n using Nat.strongRecOn with
  | _ n ih =>
    intro ends d i
    have hD : ∀ k, k < n → ∀ at' i, ∃ N, DollarAt t gr k at' d i N := by
      intro k hk at' i
      cases k with
      | zero => exact ⟨0, fun res h => by simp [dollarM] at h⟩
      | succ k => exact dollar_ok t gr k ht (ih k (by omega)) at' d i
    cases hp : partsM t gr n ends d i [] with
    | none => exact ⟨0, fun res h => by rw [hp] at h; cases h⟩
    | some res0 =>
      by_cases hi : i ≤ t.length
      · obtain ⟨N, hN⟩ := parts_loop t gr ht n ends d hD n (Nat.le_refl n) i [] res0 hp hi ⟨Nat.zero_le _, fun q hq => by simp at hq⟩
        refine ⟨N + 5, ?_⟩
        intro res hres _ m hm b r g s hw hg
        rw [hp] at hres
        cases hres
        obtain ⟨m, rfl⟩ : ∃ m', m = m' + 1 := ⟨m - 1, by omega⟩
        have hr := getCells_lt hg
        (apply f_wp rfl rfl; (repeat (first | exact Shape.nil | (apply Shape.cons; conv => lhs; whnf))))
        ((repeat refine c_seq ?_); refine c_region ?_; (repeat (first | ((first | apply o_move rfl rfl | apply o_easy1 rfl rfl rfl | apply o_ld rfl rfl (by assumption) (by first | rfl | assumption)); conv => lhs; whnf) | apply o_no rfl | refine o_b rfl rfl rfl (by constructor; omega) ?_ | refine o_f rfl rfl rfl (by constructor; omega) ?_ | refine o_s rfl rfl rfl (by constructor; first | omega | assumption) ?_ | refine o_t rfl rfl rfl (by constructor; assumption) ?_ | (apply o_easy rfl rfl rfl; conv => lhs; whnf) | apply o_non rfl)); apply o_end; (repeat (first | exact OutS.nil | exact GetS.hit | exact PutS.hit | apply GetS.miss rfl | apply PutS.miss rfl | apply OutS.cons | apply OutS.skip rfl)))
        ((repeat refine c_seq ?_); refine c_region ?_; (repeat (first | ((first | apply o_move rfl rfl | apply o_easy1 rfl rfl rfl | apply o_ld rfl rfl (by assumption) (by first | rfl | assumption)); conv => lhs; whnf) | apply o_no rfl | refine o_b rfl rfl rfl (by constructor; omega) ?_ | refine o_f rfl rfl rfl (by constructor; omega) ?_ | refine o_s rfl rfl rfl (by constructor; first | omega | assumption) ?_ | refine o_t rfl rfl rfl (by constructor; assumption) ?_ | (apply o_easy rfl rfl rfl; conv => lhs; whnf) | apply o_non rfl)); apply o_end; (repeat (first | exact OutS.nil | exact GetS.hit | exact PutS.hit | apply GetS.miss rfl | apply PutS.miss rfl | apply OutS.cons | apply OutS.skip rfl)))
        ((repeat refine c_seq ?_); refine c_block ?_)
        refine c_loop (x := lp14_0) ?_
        refine hN m m (by omega) (by omega) (b.into .eff s) r g s s .nilsl _ _ _ _ _ _ _ hw hr (On.refl hg) (.inl ⟨rfl, rfl⟩) ?_ ?_
        · intro out' j v' s2 y37 y8 y54 y68 y79 y103 he hj hon hrep hsm
          subst he
          ((repeat refine c_seq ?_); refine c_region ?_; (repeat (first | ((first | apply o_move rfl rfl | apply o_easy1 rfl rfl rfl | apply o_ld rfl rfl (by assumption) (by first | rfl | assumption)); conv => lhs; whnf) | apply o_no rfl | refine o_b rfl rfl rfl (by constructor; omega) ?_ | refine o_f rfl rfl rfl (by constructor; omega) ?_ | refine o_s rfl rfl rfl (by constructor; first | omega | assumption) ?_ | refine o_t rfl rfl rfl (by constructor; assumption) ?_ | (apply o_easy rfl rfl rfl; conv => lhs; whnf) | apply o_non rfl)))
          refine o_move rfl hrep.defd rfl ?_
          refine o_move rfl hrep.defd rfl ?_
          (apply o_end; (repeat (first | exact OutS.nil | exact GetS.hit | exact PutS.hit | apply GetS.miss rfl | apply PutS.miss rfl | apply OutS.cons | apply OutS.skip rfl)))
          refine c_ret ?_
          refine fin_ret (.inl rfl) (read_tmp hrep.defd read_nil) (leave_eff (lay_cons (lay_rep hrep) lay_nil) ?_) ⟨rfl, hon.trunc, hj⟩
          simp [AV.oldAll, AV.old, avs_old]
        · intro a j pers s2 he hon
          subst he
          exact fin_panic (leave_eff (lay_cons rfl lay_nil) rfl) ⟨rfl, j, hon.trunc⟩
      · exact ⟨0, fun res h h' => absurd h' hi⟩

end Go.Tpl

namespace Go.Tpl
open Go Go.Am Go.Proofs

theorem bytesOf_cells : ∀ l : List UInt8, bytesOf (Am.byteCells l) = some l
  | [] => rfl
  | c :: r => by
    have ih := bytesOf_cells r
    simp only [Am.byteCells, List.map_cons, bytesOf] at ih ⊢
    rw [ih]
    simp

/-- what Parse comes to -/
def parseV : PRes → AV
  | .ok (l, _) => .tup [.vec (avs l) .shut, .int .i64 0, .int .i64 0]
  | .error a => .tup [.vec [] .shut, .int .i64 50, .int .i64 a]

theorem parse_spec (t : List UInt8) (gr : Int) (ht : t.length < 2 ^ 30) (n : Nat) (res : PRes) (hres : partsM t gr n [] 1 0 [] = some res) : ∃ N, ∀ m, N ≤ m → ∀ b s a0 a2, a0.weak = .vec (Am.byteCells t) .shut → a2.weak = .vec [] .shut →
    callF T m b 8 [a0, .int .i64 gr, a2] s = some (.ret (parseV res), s) := by
  obtain ⟨N, hN⟩ := parts_ok t gr ht n [] 1 0
  refine ⟨N + 5, ?_⟩
  intro m hm b s a0 a2 h0 h2
  obtain ⟨m, rfl⟩ : ∃ m', m = m' + 1 := ⟨m - 1, by omega⟩
  suffices h : OkF (callF T (m + 1) b 8 [a0, .int .i64 gr, a2] s) (fun o s' => o = .ret (parseV res) ∧ s' = s) by
    obtain ⟨o, s', h1, rfl, rfl⟩ := h.ok
    exact h1
  have hw0 : AV.weakAll [a0, .int .i64 gr, a2] = [.vec (Am.byteCells t) .shut, .int .i64 gr, .vec [] .shut] := by
    simp only [AV.weakAll, h0, h2]
    rfl
  apply f_wp rfl rfl
  · show Shape (bindArgs (AV.weakAll [a0, .int .i64 gr, a2]) _) _
    rw [hw0]
    repeat (first | exact Shape.nil | (apply Shape.cons; (conv => lhs; whnf)))
  ((repeat refine c_seq ?_); refine c_region ?_; (repeat (first | ((first | apply o_move rfl rfl | apply o_easy1 rfl rfl rfl | apply o_ld rfl rfl (by assumption) (by first | rfl | assumption)); conv => lhs; whnf) | apply o_no rfl | refine o_b rfl rfl rfl (by constructor; omega) ?_ | refine o_f rfl rfl rfl (by constructor; omega) ?_ | refine o_s rfl rfl rfl (by constructor; first | omega | assumption) ?_ | refine o_t rfl rfl rfl (by constructor; assumption) ?_ | (apply o_easy rfl rfl rfl; conv => lhs; whnf) | apply o_non rfl)))
  refine o_alloc rfl ?_
  refine o_alloc rfl ?_
  refine o_alloc rfl ?_
  (apply o_end; (repeat (first | exact OutS.nil | exact GetS.hit | exact PutS.hit | apply GetS.miss rfl | apply PutS.miss rfl | apply OutS.cons | apply OutS.skip rfl)))
  ((repeat refine c_seq ?_); refine c_region ?_; (repeat (first | ((first | apply o_move rfl rfl | apply o_easy1 rfl rfl rfl | apply o_ld rfl rfl (by assumption) (by first | rfl | assumption)); conv => lhs; whnf) | apply o_no rfl | refine o_b rfl rfl rfl (by constructor; omega) ?_ | refine o_f rfl rfl rfl (by constructor; omega) ?_ | refine o_s rfl rfl rfl (by constructor; first | omega | assumption) ?_ | refine o_t rfl rfl rfl (by constructor; assumption) ?_ | (apply o_easy rfl rfl rfl; conv => lhs; whnf) | apply o_non rfl)))
  refine o_bs rfl rfl (bytesOf_cells t) ?_
  (repeat (first | ((first | apply o_move rfl rfl | apply o_easy1 rfl rfl rfl | apply o_ld rfl rfl (by assumption) (by first | rfl | assumption)); conv => lhs; whnf) | apply o_no rfl | refine o_b rfl rfl rfl (by constructor; omega) ?_ | refine o_f rfl rfl rfl (by constructor; omega) ?_ | refine o_s rfl rfl rfl (by constructor; first | omega | assumption) ?_ | refine o_t rfl rfl rfl (by constructor; assumption) ?_ | (apply o_easy rfl rfl rfl; conv => lhs; whnf) | apply o_non rfl))
  refine o_box (v := .agg (rd t 0 gr)) (l := rd t 0 gr) rfl rfl rfl ?_
  (repeat (first | ((first | apply o_move rfl rfl | apply o_easy1 rfl rfl rfl | apply o_ld rfl rfl (by assumption) (by first | rfl | assumption)); conv => lhs; whnf) | apply o_no rfl | refine o_b rfl rfl rfl (by constructor; omega) ?_ | refine o_f rfl rfl rfl (by constructor; omega) ?_ | refine o_s rfl rfl rfl (by constructor; first | omega | assumption) ?_ | refine o_t rfl rfl rfl (by constructor; assumption) ?_ | (apply o_easy rfl rfl rfl; conv => lhs; whnf) | apply o_non rfl))
  (apply o_end; (repeat (first | exact OutS.nil | exact GetS.hit | exact PutS.hit | apply GetS.miss rfl | apply PutS.miss rfl | apply OutS.cons | apply OutS.skip rfl)))
  ((repeat refine c_seq ?_); refine c_region ?_; (repeat (first | ((first | apply o_move rfl rfl | apply o_easy1 rfl rfl rfl | apply o_ld rfl rfl (by assumption) (by first | rfl | assumption)); conv => lhs; whnf) | apply o_no rfl | refine o_b rfl rfl rfl (by constructor; omega) ?_ | refine o_f rfl rfl rfl (by constructor; omega) ?_ | refine o_s rfl rfl rfl (by constructor; first | omega | assumption) ?_ | refine o_t rfl rfl rfl (by constructor; assumption) ?_ | (apply o_easy rfl rfl rfl; conv => lhs; whnf) | apply o_non rfl)))
  refine o_defer rfl rfl rfl rfl rfl ?_
  (apply o_end; (repeat (first | exact OutS.nil | exact GetS.hit | exact PutS.hit | apply GetS.miss rfl | apply PutS.miss rfl | apply OutS.cons | apply OutS.skip rfl)))
  ((repeat refine c_seq ?_); refine c_region ?_; (repeat (first | ((first | apply o_move rfl rfl | apply o_easy1 rfl rfl rfl | apply o_ld rfl rfl (by assumption) (by first | rfl | assumption)); conv => lhs; whnf) | apply o_no rfl | refine o_b rfl rfl rfl (by constructor; omega) ?_ | refine o_f rfl rfl rfl (by constructor; omega) ?_ | refine o_s rfl rfl rfl (by constructor; first | omega | assumption) ?_ | refine o_t rfl rfl rfl (by constructor; assumption) ?_ | (apply o_easy rfl rfl rfl; conv => lhs; whnf) | apply o_non rfl)))
  have hA := getCells_push (.cells (rd t 0 gr) 0) (getCells_push (.cells [.int .i64 0] 0) (getCells_push (.cells [.int .i64 0] 0) (getCells_new s [.nilsl] 0)))
  have hB := getCells_push (.cells (rd t 0 gr) 0) (getCells_push (.cells [.int .i64 0] 0) (getCells_new (s.push (.cells [.nilsl] 0)) [.int .i64 0] 0))
  have hC := getCells_push (.cells (rd t 0 gr) 0) (getCells_new ((s.push (.cells [.nilsl] 0)).push (.cells [.int .i64 0] 0)) [.int .i64 0] 0)
  have hR := getCells_new (((s.push (.cells [.nilsl] 0)).push (.cells [.int .i64 0] 0)).push (.cells [.int .i64 0] 0)) (rd t 0 gr) 0
  have lA : s.heap.length < (s.push (.cells [.nilsl] 0)).heap.length := by rw [Sg.push_len]; omega
  have lB : (s.push (.cells [.nilsl] 0)).heap.length < ((s.push (.cells [.nilsl] 0)).push (.cells [.int .i64 0] 0)).heap.length := by rw [Sg.push_len (s.push _)]; omega
  have lC : ((s.push (.cells [.nilsl] 0)).push (.cells [.int .i64 0] 0)).heap.length < (((s.push (.cells [.nilsl] 0)).push (.cells [.int .i64 0] 0)).push (.cells [.int .i64 0] 0)).heap.length := by rw [Sg.push_len ((s.push _).push _)]; omega
  generalize ((((s.push (.cells [.nilsl] 0)).push (.cells [.int .i64 0] 0)).push (.cells [.int .i64 0] 0)).push (.cells (rd t 0 gr) 0)) = s1 at hA hB hC hR ⊢
  generalize (((s.push (.cells [.nilsl] 0)).push (.cells [.int .i64 0] 0)).push (.cells [.int .i64 0] 0)).heap.length = R at hR lC ⊢
  generalize ((s.push (.cells [.nilsl] 0)).push (.cells [.int .i64 0] 0)).heap.length = C at hC lB lC ⊢
  generalize (s.push (.cells [.nilsl] 0)).heap.length = B at hB lA lB ⊢
  have hcall := hN res hres (Nat.zero_le _) m (by omega) (b.into .pure s) R 0 s1 (by show s.heap.length ≤ R; omega) hR
  refine o_callw (l := [.ptr R 0 0, .str [], .int .i64 ((1 : Nat) : Int)]) rfl rfl (hcall.mono ?_)
  cases res with
  | ok x =>
    obtain ⟨l, j⟩ := x
    rintro o s2 ⟨rfl, rfl, hj⟩
    have hA1 := getCells_put_ne (i := R) (o := .cells (rd t j gr) 0) (by omega) hA
    have hB1 := getCells_put_ne (i := R) (o := .cells (rd t j gr) 0) (by omega) hB
    have hC1 := getCells_put_ne (i := R) (o := .cells (rd t j gr) 0) (by omega) hC
    generalize s1.put R (.cells (rd t j gr) 0) = s2 at hA1 hB1 hC1 ⊢
    refine o_st rfl rfl rfl rfl hA1 rfl (lets_of (blt_no (by show s.heap.length ≤ s.heap.length; omega)) (fun e => old_vec e l)) (cs' := [.vec (avs l) .shut]) rfl ?_
    have hA2 := getCells_put (cs' := [.vec (avs l) .shut]) (g' := 0) hA1
    have hB2 := getCells_put_ne (i := s.heap.length) (o := .cells [.vec (avs l) .shut] 0) (by omega) hB1
    have hC2 := getCells_put_ne (i := s.heap.length) (o := .cells [.vec (avs l) .shut] 0) (by omega) hC1
    refine o_st rfl rfl rfl rfl hB2 rfl (lets_of (blt_no (by show s.heap.length ≤ B; omega)) (fun e => rfl)) (cs' := [.int .i64 0]) rfl ?_
    have hA3 := getCells_put_ne (i := B) (o := .cells [.int .i64 0] 0) (by omega) hA2
    have hB3 := getCells_put (cs' := [.int .i64 0]) (g' := 0) hB2
    have hC3 := getCells_put_ne (i := B) (o := .cells [.int .i64 0] 0) (by omega) hC2
    refine o_st rfl rfl rfl rfl hC3 rfl (lets_of (blt_no (by show s.heap.length ≤ C; omega)) (fun e => rfl)) (cs' := [.int .i64 0]) rfl ?_
    have hA4 := getCells_put_ne (i := C) (o := .cells [.int .i64 0] 0) (by omega) hA3
    have hB4 := getCells_put_ne (i := C) (o := .cells [.int .i64 0] 0) (by omega) hB3
    have hC4 := getCells_put (cs' := [.int .i64 0]) (g' := 0) hC3
    generalize ((s2.put s.heap.length (.cells [.vec (avs l) .shut] 0)).put B (.cells [.int .i64 0] 0)).put C (.cells [.int .i64 0] 0) = s3 at hA4 hB4 hC4 ⊢
    (apply o_end; (repeat (first | exact OutS.nil | exact GetS.hit | exact PutS.hit | apply GetS.miss rfl | apply PutS.miss rfl | apply OutS.cons | apply OutS.skip rfl)))
    refine c_ret (fin_def (.inl ⟨rfl, rfl⟩) ?_)
    apply d_wp rfl rfl
    · repeat (first | exact Shape.nil | (apply Shape.cons; (conv => lhs; whnf)))
    refine c_seq (c_region ?_)
    refine o_recq rfl ?_
    (apply o_end; (repeat (first | exact OutS.nil | exact GetS.hit | exact PutS.hit | apply GetS.miss rfl | apply PutS.miss rfl | apply OutS.cons | apply OutS.skip rfl)))
    ((repeat refine c_seq ?_); refine c_block ?_)
    ((repeat refine c_seq ?_); refine c_region ?_; (repeat (first | ((first | apply o_move rfl rfl | apply o_easy1 rfl rfl rfl | apply o_ld rfl rfl (by assumption) (by first | rfl | assumption)); conv => lhs; whnf) | apply o_no rfl | refine o_b rfl rfl rfl (by constructor; omega) ?_ | refine o_f rfl rfl rfl (by constructor; omega) ?_ | refine o_s rfl rfl rfl (by constructor; first | omega | assumption) ?_ | refine o_t rfl rfl rfl (by constructor; assumption) ?_ | (apply o_easy rfl rfl rfl; conv => lhs; whnf) | apply o_non rfl)); apply o_end; (repeat (first | exact OutS.nil | exact GetS.hit | exact PutS.hit | apply GetS.miss rfl | apply PutS.miss rfl | apply OutS.cons | apply OutS.skip rfl)))
    ((repeat refine c_seq ?_); refine c_if rfl ?_)
    ((repeat refine c_seq ?_); refine c_region ?_; (repeat (first | ((first | apply o_move rfl rfl | apply o_easy1 rfl rfl rfl | apply o_ld rfl rfl (by assumption) (by first | rfl | assumption)); conv => lhs; whnf) | apply o_no rfl | refine o_b rfl rfl rfl (by constructor; omega) ?_ | refine o_f rfl rfl rfl (by constructor; omega) ?_ | refine o_s rfl rfl rfl (by constructor; first | omega | assumption) ?_ | refine o_t rfl rfl rfl (by constructor; assumption) ?_ | (apply o_easy rfl rfl rfl; conv => lhs; whnf) | apply o_non rfl)); apply o_end; (repeat (first | exact OutS.nil | exact GetS.hit | exact PutS.hit | apply GetS.miss rfl | apply PutS.miss rfl | apply OutS.cons | apply OutS.skip rfl)))
    refine ⟨.inl rfl, rfl, rfl, ?_⟩
    exact end_ret (read_cell rfl hA4 rfl (read_cell rfl hB4 rfl (read_cell rfl hC4 rfl read_nil))) (leave_pure (lay_cons rfl (lay_cons rfl (lay_cons rfl lay_nil))) (by simp [AV.oldAll, AV.old, AV.weak, avs_old])) ⟨rfl, rfl⟩
  | error a =>
    rintro o s2 ⟨rfl, j, rfl⟩
    have hA1 := getCells_put_ne (i := R) (o := .cells (rd t j gr) 0) (by omega) hA
    have hB1 := getCells_put_ne (i := R) (o := .cells (rd t j gr) 0) (by omega) hB
    have hC1 := getCells_put_ne (i := R) (o := .cells (rd t j gr) 0) (by omega) hC
    generalize s1.put R (.cells (rd t j gr) 0) = s2 at hA1 hB1 hC1 ⊢
    refine fin_def (.inr ⟨_, rfl, rfl⟩) ?_
    apply d_wp rfl rfl
    · repeat (first | exact Shape.nil | (apply Shape.cons; (conv => lhs; whnf)))
    refine c_seq (c_region ?_)
    refine o_rec rfl ?_
    (apply o_end; (repeat (first | exact OutS.nil | exact GetS.hit | exact PutS.hit | apply GetS.miss rfl | apply PutS.miss rfl | apply OutS.cons | apply OutS.skip rfl)))
    ((repeat refine c_seq ?_); refine c_block ?_)
    ((repeat refine c_seq ?_); refine c_region ?_; (repeat (first | ((first | apply o_move rfl rfl | apply o_easy1 rfl rfl rfl | apply o_ld rfl rfl (by assumption) (by first | rfl | assumption)); conv => lhs; whnf) | apply o_no rfl | refine o_b rfl rfl rfl (by constructor; omega) ?_ | refine o_f rfl rfl rfl (by constructor; omega) ?_ | refine o_s rfl rfl rfl (by constructor; first | omega | assumption) ?_ | refine o_t rfl rfl rfl (by constructor; assumption) ?_ | (apply o_easy rfl rfl rfl; conv => lhs; whnf) | apply o_non rfl)); apply o_end; (repeat (first | exact OutS.nil | exact GetS.hit | exact PutS.hit | apply GetS.miss rfl | apply PutS.miss rfl | apply OutS.cons | apply OutS.skip rfl)))
    ((repeat refine c_seq ?_); refine c_else rfl ?_)
    ((repeat refine c_seq ?_); refine c_region ?_; (repeat (first | ((first | apply o_move rfl rfl | apply o_easy1 rfl rfl rfl | apply o_ld rfl rfl (by assumption) (by first | rfl | assumption)); conv => lhs; whnf) | apply o_no rfl | refine o_b rfl rfl rfl (by constructor; omega) ?_ | refine o_f rfl rfl rfl (by constructor; omega) ?_ | refine o_s rfl rfl rfl (by constructor; first | omega | assumption) ?_ | refine o_t rfl rfl rfl (by constructor; assumption) ?_ | (apply o_easy rfl rfl rfl; conv => lhs; whnf) | apply o_non rfl)); apply o_end; (repeat (first | exact OutS.nil | exact GetS.hit | exact PutS.hit | apply GetS.miss rfl | apply PutS.miss rfl | apply OutS.cons | apply OutS.skip rfl)))
    ((repeat refine c_seq ?_); refine c_if rfl ?_)
    ((repeat refine c_seq ?_); refine c_region ?_; (repeat (first | ((first | apply o_move rfl rfl | apply o_easy1 rfl rfl rfl | apply o_ld rfl rfl (by assumption) (by first | rfl | assumption)); conv => lhs; whnf) | apply o_no rfl | refine o_b rfl rfl rfl (by constructor; omega) ?_ | refine o_f rfl rfl rfl (by constructor; omega) ?_ | refine o_s rfl rfl rfl (by constructor; first | omega | assumption) ?_ | refine o_t rfl rfl rfl (by constructor; assumption) ?_ | (apply o_easy rfl rfl rfl; conv => lhs; whnf) | apply o_non rfl)); apply o_end; (repeat (first | exact OutS.nil | exact GetS.hit | exact PutS.hit | apply GetS.miss rfl | apply PutS.miss rfl | apply OutS.cons | apply OutS.skip rfl)))
    ((repeat refine c_seq ?_); refine c_region ?_; (repeat (first | ((first | apply o_move rfl rfl | apply o_easy1 rfl rfl rfl | apply o_ld rfl rfl (by assumption) (by first | rfl | assumption)); conv => lhs; whnf) | apply o_no rfl | refine o_b rfl rfl rfl (by constructor; omega) ?_ | refine o_f rfl rfl rfl (by constructor; omega) ?_ | refine o_s rfl rfl rfl (by constructor; first | omega | assumption) ?_ | refine o_t rfl rfl rfl (by constructor; assumption) ?_ | (apply o_easy rfl rfl rfl; conv => lhs; whnf) | apply o_non rfl)))
    refine o_st rfl rfl rfl rfl hA1 rfl (lets_of (blt_no (by show s.heap.length ≤ s.heap.length; omega)) (fun e => rfl)) (cs' := [.nilsl]) rfl ?_
    have hA2 := getCells_put (cs' := [.nilsl]) (g' := 0) hA1
    have hB2 := getCells_put_ne (i := s.heap.length) (o := .cells [.nilsl] 0) (by omega) hB1
    have hC2 := getCells_put_ne (i := s.heap.length) (o := .cells [.nilsl] 0) (by omega) hC1
    refine o_st rfl rfl rfl rfl hB2 rfl (lets_of (blt_no (by show s.heap.length ≤ B; omega)) (fun e => rfl)) (cs' := [.int .i64 50]) rfl ?_
    have hA3 := getCells_put_ne (i := B) (o := .cells [.int .i64 50] 0) (by omega) hA2
    have hB3 := getCells_put (cs' := [.int .i64 50]) (g' := 0) hB2
    have hC3 := getCells_put_ne (i := B) (o := .cells [.int .i64 50] 0) (by omega) hC2
    refine o_st rfl rfl rfl rfl hC3 rfl (lets_of (blt_no (by show s.heap.length ≤ C; omega)) (fun e => rfl)) (cs' := [.int .i64 a]) rfl ?_
    have hA4 := getCells_put_ne (i := C) (o := .cells [.int .i64 a] 0) (by omega) hA3
    have hB4 := getCells_put_ne (i := C) (o := .cells [.int .i64 a] 0) (by omega) hB3
    have hC4 := getCells_put (cs' := [.int .i64 a]) (g' := 0) hC3
    (apply o_end; (repeat (first | exact OutS.nil | exact GetS.hit | exact PutS.hit | apply GetS.miss rfl | apply PutS.miss rfl | apply OutS.cons | apply OutS.skip rfl)))
    refine ⟨.inl rfl, rfl, rfl, ?_⟩
    exact end_ret (read_cell rfl hA4 rfl (read_cell rfl hB4 rfl (read_cell rfl hC4 rfl read_nil))) (leave_pure (lay_cons rfl (lay_cons rfl (lay_cons rfl lay_nil))) (by simp [AV.oldAll, AV.old, AV.weak])) ⟨rfl, rfl⟩

end Go.Tpl

namespace Go.Tpl
open Go Go.Am Go.Proofs

abbrev Tp.num : Tp → Int
  | .lit _ => 0
  | .group n => n
  | .els n _ => n
  | .ifs n _ _ => n

theorem cells_n (p : Tp) : partOf p.cells 2 none = some (.int .i64 p.num) := by cases p <;> rfl

theorem avs_get : ∀ {l : List Tp} {j : Nat} {p : Tp}, l[j]? = some p → (avs l)[j]? = some (.agg p.cells)
  | [], j, p, h => by simp at h
  | q :: r, 0, p, h => by simp at h; subst h; simp [avs]
  | q :: r, j + 1, p, h => by simp at h; simp [avs, avs_get h]


mutual
def Tp.fine : Tp → Prop
  | .lit _ => True
  | .group _ => True
  | .els _ no => no.length < 2 ^ 40 ∧ fineL no
  | .ifs _ yes no => (yes.length < 2 ^ 40 ∧ fineL yes) ∧ (no.length < 2 ^ 40 ∧ fineL no)
def fineL : List Tp → Prop
  | [] => True
  | p :: r => p.fine ∧ fineL r
end

theorem fineL_app : ∀ a b : List Tp, fineL (a ++ b) ↔ fineL a ∧ fineL b
  | [], b => by simp [fineL]
  | p :: r, b => by simp only [List.cons_append, fineL, fineL_app r b, and_assoc]

mutual
def Tp.wt : Tp → Nat
  | .lit t => t.length + 1
  | .group _ => 1
  | .els _ no => 1 + wtL no
  | .ifs _ yes no => 1 + (wtL yes + wtL no)
def wtL : List Tp → Nat
  | [] => 0
  | p :: r => p.wt + wtL r
end

theorem wtL_app : ∀ a b : List Tp, wtL (a ++ b) = wtL a + wtL b
  | [], b => by simp [wtL]
  | p :: r, b => by simp only [List.cons_append, wtL, wtL_app r b]; omega

theorem wt_pos (p : Tp) : 1 ≤ p.wt := by cases p <;> simp only [Tp.wt] <;> omega

theorem len_wt : ∀ l : List Tp, l.length ≤ wtL l
  | [] => Nat.le_refl _
  | p :: r => by
    have := len_wt r
    have := wt_pos p
    simp only [List.length_cons, wtL]
    omega

theorem wtL_add (l : List Tp) (p : Tp) : wtL (addM l p) ≤ wtL l + p.wt := by
  rcases last_cases l with rfl | ⟨l0, q, rfl⟩
  · rw [addM_nil]; simp [wtL]
  · cases hb : q.isLit && p.isLit with
    | false => rw [addM_other hb, wtL_app _ [p]]; simp [wtL]
    | true =>
      cases q with
      | lit t =>
        cases p with
        | lit u =>
          rw [addM_lit, wtL_app, wtL_app]
          simp only [wtL, Tp.wt, List.length_append]
          omega
        | _ => simp [Tp.isLit] at hb
      | _ => simp [Tp.isLit] at hb

mutual
theorem fine_wt : ∀ p : Tp, p.wt < 2 ^ 40 → p.fine
  | .lit _, _ => by simp [Tp.fine]
  | .group _, _ => by simp [Tp.fine]
  | .els _ no, h => by
    simp only [Tp.wt] at h
    have := len_wt no
    exact ⟨by omega, fineL_wt no (by omega)⟩
  | .ifs _ yes no, h => by
    simp only [Tp.wt] at h
    have := len_wt no
    have := len_wt yes
    exact ⟨⟨by omega, fineL_wt yes (by omega)⟩, ⟨by omega, fineL_wt no (by omega)⟩⟩
theorem fineL_wt : ∀ l : List Tp, wtL l < 2 ^ 40 → fineL l
  | [], _ => by simp [fineL]
  | p :: r, h => by
    simp only [wtL] at h
    exact ⟨fine_wt p (by omega), fineL_wt r (by omega)⟩
end

-- ---------------------------------------------------------------- what a run comes to: within the text, no greater than it

theorem stands_lt {t : List UInt8} {i : Nat} {p : List UInt8} (hp : p ≠ []) (h : stands t i p = true) : i + p.length ≤ t.length := by
  simp only [stands, Bool.and_eq_true, decide_eq_true_eq, List.length_drop] at h
  have : 0 < p.length := List.length_pos_iff.mpr hp
  omega

theorem model_wt (t : List UInt8) (gr : Int) : ∀ n, (∀ ends d i out l j, partsM t gr n ends d i out = some (.ok (l, j)) → i ≤ t.length → j ≤ t.length ∧ wtL l + 2 * i ≤ wtL out + 2 * j) ∧
    (∀ a d i p j, dollarM t gr n a d i = some (.ok (p, j)) → i ≤ t.length → i < j ∧ j ≤ t.length ∧ p.wt + 2 * i ≤ 2 * j + 2) := by
  intro n
  induction n with
  | zero =>
    constructor
    · intro ends d i out l j h; simp [partsM] at h
    · intro a d i p j h; simp [dollarM] at h
  | succ n ih =>
    obtain ⟨ihp, ihd⟩ := ih
    constructor
    · intro ends d i out l j h hi
      simp only [partsM] at h
      split at h
      · cases h; exact ⟨hi, Nat.le_refl _⟩
      · rename_i c hc
        have hlt := lt_of_getElem? hc
        split at h
        · cases h; exact ⟨hi, Nat.le_refl _⟩
        · split at h
          · split at h
            · cases h
            · rename_i e he
              have hlt2 := lt_of_getElem? he
              have h1 := ihp _ _ _ _ _ _ h (by omega)
              have h2 := wtL_add out (.lit [e])
              simp only [Tp.wt, List.length_singleton] at h2
              exact ⟨h1.1, by omega⟩
          · split at h
            · split at h
              · cases h
              · cases h
              · rename_i p k hk
                have h0 := ihd _ _ _ _ _ hk (by omega)
                have h1 := ihp _ _ _ _ _ _ h (by omega)
                have h2 := wtL_add out p
                exact ⟨h1.1, by omega⟩
            · have h1 := ihp _ _ _ _ _ _ h (by omega)
              have h2 := wtL_add out (.lit [c])
              simp only [Tp.wt, List.length_singleton] at h2
              exact ⟨h1.1, by omega⟩
    · intro a d i p j h hi
      simp only [dollarM] at h
      have g2 := numM_ge t 2 i 0
      have g3 := numM_ge t 3 (i + 1) 0
      have l2 := numM_le t 2 i 0 hi
      split at h
      · rename_i hs
        have := stands_lt (by simp) hs
        simp only [List.length_singleton] at this
        cases h; exact ⟨by omega, by omega, by simp only [Tp.wt, List.length_singleton]; omega⟩
      · split at h
        · split at h
          · cases h; exact ⟨by omega, by omega, by simp only [Tp.wt]; omega⟩
          · cases h
        · rename_i hs
          have hs : stands t i [123] = true := by simpa using hs
          have h123 := stands_lt (by simp) hs
          simp only [List.length_singleton] at h123
          have l3 := numM_le t 3 (i + 1) 0 (by omega)
          split at h
          · cases h
          · split at h
            · rename_i hs2
              have h2 := stands_lt (by simp) hs2
              simp only [List.length_cons, List.length_nil] at h2
              split at h
              · split at h
                · cases h
                · cases h
                · rename_i no k hk
                  obtain ⟨rfl, rfl, hs3⟩ := closeM_ok h
                  have h3 := stands_lt (by simp) hs3
                  simp only [List.length_singleton] at h3
                  have h4 := ihp _ _ _ _ _ _ hk (by omega)
                  simp only [wtL] at h4
                  have h5 := (model_ge t gr n).1 _ _ _ _ _ _ hk
                  exact ⟨by omega, by omega, by simp only [Tp.wt]; omega⟩
              · cases h
            · split at h
              · rename_i hs2
                have h2 := stands_lt (by simp) hs2
                simp only [List.length_cons, List.length_nil] at h2
                split at h
                · split at h
                  · cases h
                  · cases h
                  · rename_i yes k hk
                    have h4 := ihp _ _ _ _ _ _ hk (by omega)
                    have h5 := (model_ge t gr n).1 _ _ _ _ _ _ hk
                    simp only [wtL] at h4
                    split at h
                    · rename_i hs4
                      have h6 := stands_lt (by simp) hs4
                      simp only [List.length_singleton] at h6
                      split at h
                      · cases h
                      · cases h
                      · rename_i no k2 hk2
                        obtain ⟨rfl, rfl, hs3⟩ := closeM_ok h
                        have h3 := stands_lt (by simp) hs3
                        simp only [List.length_singleton] at h3
                        have h7 := ihp _ _ _ _ _ _ hk2 (by omega)
                        have h8 := (model_ge t gr n).1 _ _ _ _ _ _ hk2
                        simp only [wtL] at h7
                        exact ⟨by omega, by omega, by simp only [Tp.wt]; omega⟩
                    · cases h
                · cases h
              · obtain ⟨rfl, rfl, hs3⟩ := closeM_ok h
                have h3 := stands_lt (by simp) hs3
                simp only [List.length_singleton] at h3
                exact ⟨by omega, by omega, by simp only [Tp.wt]; omega⟩

theorem awake' (m : Nat) (hm : 400 ≤ m) : callF T m bar0 7 [] sg0 = some (.ret (.bool true), sg0) := callF_mono T 400 m hm _ _ _ _ _ awake

theorem fin_eq {x : Option (Out × Sg)} {a : Out} {c : Sg} (h : OkF x fun o s' => o = a ∧ s' = c) : x = some (a, c) := by
  obtain ⟨o, s', h1, rfl, rfl⟩ := h.ok
  exact h1

theorem evAll3 {loc pers : Env} {x y z : AOpd} {a c d : AV} (hx : x.ev loc pers = some a) (hy : y.ev loc pers = some c) (hz : z.ev loc pers = some d) : evAll loc pers [x, y, z] = some [a, c, d] := by
  simp only [evAll, hx, hy, hz, Option.bind_some]

end Go.Tpl
