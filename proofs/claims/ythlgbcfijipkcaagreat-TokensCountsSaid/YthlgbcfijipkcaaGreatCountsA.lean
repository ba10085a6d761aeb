/-
  What the lexer comes to: general lemmas.
-/
import Derived.Test.YthlgbcfijipkcaaGreatTokzB

namespace Go.Tok
open Go Go.Am Go.Proofs

/-- the loop 0 of function 5 -/
def lp5_0 : ACode := .seq (.seq (.region [⟨(some 13), .v (.move (.tmp 4)), none⟩, ⟨(some 14), .v (.move (.tmp 0)), none⟩, ⟨(some 15), .v (.len 1 (.tmp 14)), none⟩, ⟨(some 16), .v (.bin .lss (.tmp 13) (.tmp 15)), none⟩] [16]) (.cond (.tmp 16) (.skip) (.exit 0))) (.seq (.block 1 (.seq (.region [⟨(some 19), .v (.move (.tmp 0)), none⟩, ⟨(some 20), .v (.move (.tmp 4)), none⟩, ⟨(some 21), .v (.indexAddrS none (.tmp 19) (.tmp 20)), none⟩, ⟨(some 22), .v (.load none (.tmp 21)), none⟩, ⟨(some 5), .v (.move (.tmp 22)), none⟩] [5]) (.seq (.region (⟨(some 23), .v (.move (.tmp 5)), none⟩ :: ⟨(some 24), .v (.bin .lss (.tmp 23) (.const (.int .u8 97))), none⟩ :: ⟨(some 25), .v (.move (.tmp 24)), none⟩ :: ⟨(some 26), .v (.move (.tmp 5)), (some (25, false))⟩ :: ⟨(some 27), .v (.bin .gtr (.tmp 26) (.const (.int .u8 122))), (some (25, false))⟩ :: ⟨(some 28), .v (.pick (.tmp 25) (.const (.bool true)) (.tmp 27)), none⟩ :: ⟨(some 29), .v (.move (.tmp 28)), none⟩ :: ⟨(some 30), .v (.move (.tmp 5)), (some (29, true))⟩ :: ⟨(some 31), .v (.bin .lss (.tmp 30) (.const (.int .u8 65))), (some (29, true))⟩ :: ⟨(some 32), .v (.move (.tmp 31)), (some (29, true))⟩ :: ⟨(some 33), .v (.move (.tmp 5)), (some (32, false))⟩ :: ⟨(some 34), .v (.bin .gtr (.tmp 33) (.const (.int .u8 90))), (some (32, false))⟩ :: ⟨(some 35), .v (.pick (.tmp 32) (.const (.bool true)) (.tmp 34)), (some (29, true))⟩ :: ⟨(some 36), .v (.pick (.tmp 29) (.tmp 35) (.const (.bool false))), none⟩ :: ⟨(some 37), .v (.move (.tmp 36)), none⟩ :: ⟨(some 38), .v (.move (.tmp 5)), (some (37, true))⟩ :: ⟨(some 39), .v (.bin .lss (.tmp 38) (.const (.int .u8 48))), (some (37, true))⟩ :: ⟨(some 40), .v (.move (.tmp 39)), (some (37, true))⟩ :: ⟨(some 41), .v (.move (.tmp 5)), (some (40, false))⟩ :: ⟨(some 42), .v (.bin .gtr (.tmp 41) (.const (.int .u8 57))), (some (40, false))⟩ :: ⟨(some 43), .v (.pick (.tmp 40) (.const (.bool true)) (.tmp 42)), (some (37, true))⟩ :: ⟨(some 44), .v (.pick (.tmp 37) (.tmp 43) (.const (.bool false))), none⟩ :: ⟨(some 45), .v (.move (.tmp 44)), none⟩ :: ⟨(some 46), .v (.move (.tmp 5)), (some (45, true))⟩ :: ⟨(some 47), .v (.bin .neq (.tmp 46) (.const (.int .u8 32))), (some (45, true))⟩ :: ⟨(some 48), .v (.pick (.tmp 45) (.tmp 47) (.const (.bool false))), none⟩ :: ⟨(some 49), .v (.move (.tmp 48)), none⟩ :: ⟨(some 50), .v (.move (.tmp 5)), (some (49, true))⟩ :: ⟨(some 51), .v (.bin .neq (.tmp 50) (.const (.int .u8 44))), (some (49, true))⟩ :: ⟨(some 52), .v (.pick (.tmp 49) (.tmp 51) (.const (.bool false))), none⟩ :: ⟨(some 53), .v (.move (.tmp 52)), none⟩ :: ⟨(some 54), .v (.move (.tmp 5)), (some (53, true))⟩ :: ⟨(some 55), .v (.bin .neq (.tmp 54) (.const (.int .u8 93))), (some (53, true))⟩ :: ⟨(some 56), .v (.pick (.tmp 53) (.tmp 55) (.const (.bool false))), none⟩ :: ⟨(some 57), .v (.move (.tmp 56)), none⟩ :: ⟨(some 58), .v (.move (.tmp 5)), (some (57, true))⟩ :: ⟨(some 59), .v (.bin .neq (.tmp 58) (.const (.int .u8 125))), (some (57, true))⟩ :: ⟨(some 60), .v (.pick (.tmp 57) (.tmp 59) (.const (.bool false))), none⟩ :: []) [60]) (.cond (.tmp 60) (.seq (.region [⟨(some 2), .v (.move (.const (.bool true))), none⟩] [2]) (.ret)) (.skip))))) (.region [⟨(some 17), .v (.move (.tmp 4)), none⟩, ⟨(some 18), .v (.bin .add (.tmp 17) (.const (.int .i64 1))), none⟩, ⟨(some 4), .v (.move (.tmp 18)), none⟩] [4]))

theorem awake' (m : Nat) (hm : 400 ≤ m) : callF T m bar0 7 [] sg0 = some (.ret (.bool true), sg0) := callF_mono T 400 m hm _ _ _ _ _ awake

abbrev fr5 (t : List UInt8) (k : Nat) (r x16 x5 x60 : AV) : Fr :=
  ⟨[(0, .vec (Am.byteCells t) .shut), (2, r), (3, .bool true), (12, .bool false), (4, .int .i64 k), (16, x16), (5, x5), (60, x60), (63, .undef), (7, .undef), (6, .undef), (78, .undef), (9, .undef), (82, .undef), (122, .undef)], [], .off⟩

theorem classes (n : Nat) : (97 ≤ n ∧ n ≤ 122) ∨ (65 ≤ n ∧ n ≤ 90) ∨ (48 ≤ n ∧ n ≤ 57) ∨ n = 32 ∨ n = 44 ∨ n = 93 ∨ n = 125 ∨ (n < 48 ∧ n ≠ 32 ∧ n ≠ 44) ∨ (57 < n ∧ n < 65) ∨ (90 < n ∧ n < 97 ∧ n ≠ 93) ∨ (122 < n ∧ n ≠ 125) := by omega

set_option maxHeartbeats 2000000 in
theorem plain_loop (m : Nat) (b : Bar) (t : List UInt8) (ht : t.length ≤ 2 ^ 63 - 1) (s : Sg) {Q : Ex → Fr → Sg → Prop}
    (hq : (∀ c ∈ t, isIt c) → ∀ x5 x60, Q (.exit 0) (fr5 t t.length (.bool false) (.bool false) x5 x60) s) (hr : ∀ k x5, Q .ret (fr5 t k (.bool true) (.bool true) x5 (.bool true)) s) :
    ∀ (rest done : List UInt8) (k L : Nat) (x16 x5 x60 : AV), t = done ++ rest → k = done.length → rest.length + 1 ≤ L → (∀ c ∈ done, isIt c) →
    OkL L (fun fr s => ACode.run (loopN m) (callF T m) b lp5_0 fr s) (fr5 t k (.bool false) x16 x5 x60) s Q := by
  have hbl := Am.byteCells_length t
  intro rest
  induction rest with
  | nil =>
    intro done k L x16 x5 x60 hl hk hL hd
    obtain ⟨L, rfl⟩ : ∃ L', L = L' + 1 := ⟨L - 1, by omega⟩
    rw [List.append_nil] at hl
    subst hl
    subst hk
    apply l_round
    ((repeat refine c_seq ?_); refine c_region ?_; (repeat (first | ((first | apply o_move rfl rfl | apply o_easy1 rfl rfl rfl | apply o_ld rfl rfl (by assumption) (by first | rfl | assumption)); conv => lhs; whnf) | apply o_no rfl | refine o_b rfl rfl rfl (by constructor; omega) ?_ | refine o_f rfl rfl rfl (by constructor; omega) ?_ | refine o_s rfl rfl rfl (by constructor; first | omega | assumption) ?_ | refine o_t rfl rfl rfl (by constructor; assumption) ?_ | (apply o_easy rfl rfl rfl; conv => lhs; whnf) | apply o_non rfl)); apply o_end; (repeat (first | exact OutS.nil | exact GetS.hit | exact PutS.hit | apply GetS.miss rfl | apply PutS.miss rfl | apply OutS.cons | apply OutS.skip rfl)))
    ((repeat refine c_seq ?_); refine c_else rfl ?_)
    exact c_exit (hq hd _ _)
  | cons c rest ih =>
    intro done k L x16 x5 x60 hl hk hL hd
    obtain ⟨L, rfl⟩ : ∃ L', L = L' + 1 := ⟨L - 1, by omega⟩
    have hkl : k < t.length := by rw [hl, hk]; simp
    have hget : t[k]? = some c := by rw [hl, hk]; simp
    have hstep : ∀ x16 x5 x60, isIt c → OkL L (fun fr s => ACode.run (loopN m) (callF T m) b lp5_0 fr s) (fr5 t (k + 1) (.bool false) x16 x5 x60) s Q := by
      intro x16 x5 x60 hc
      refine ih (done ++ [c]) (k + 1) L x16 x5 x60 (by rw [hl]; simp) (by rw [hk]; simp) (by simp at hL; omega) fun d hdm => ?_
      rcases List.mem_append.1 hdm with h | h
      · exact hd d h
      · rw [List.mem_singleton.1 h]; exact hc
    apply l_round
    ((repeat refine c_seq ?_); refine c_region ?_; (repeat (first | ((first | apply o_move rfl rfl | apply o_easy1 rfl rfl rfl | apply o_ld rfl rfl (by assumption) (by first | rfl | assumption)); conv => lhs; whnf) | apply o_no rfl | refine o_b rfl rfl rfl (by constructor; omega) ?_ | refine o_f rfl rfl rfl (by constructor; omega) ?_ | refine o_s rfl rfl rfl (by constructor; first | omega | assumption) ?_ | refine o_t rfl rfl rfl (by constructor; assumption) ?_ | (apply o_easy rfl rfl rfl; conv => lhs; whnf) | apply o_non rfl)); apply o_end; (repeat (first | exact OutS.nil | exact GetS.hit | exact PutS.hit | apply GetS.miss rfl | apply PutS.miss rfl | apply OutS.cons | apply OutS.skip rfl)))
    ((repeat refine c_seq ?_); refine c_if rfl ?_)
    refine c_skip ?_
    ((repeat refine c_seq ?_); refine c_block ?_)
    ((repeat refine c_seq ?_); refine c_region ?_; (repeat (first | ((first | apply o_move rfl rfl | apply o_easy1 rfl rfl rfl | apply o_ld rfl rfl (by assumption) (by first | rfl | assumption)); conv => lhs; whnf) | apply o_no rfl | refine o_b rfl rfl rfl (by constructor; omega) ?_ | refine o_f rfl rfl rfl (by constructor; omega) ?_ | refine o_s rfl rfl rfl (by constructor; first | omega | assumption) ?_ | refine o_t rfl rfl rfl (by constructor; assumption) ?_ | (apply o_easy rfl rfl rfl; conv => lhs; whnf) | apply o_non rfl)))
    refine o_ixvec (j := k) rfl rfl rfl rfl (bc_get hget) rfl ?_
    (repeat (first | ((first | apply o_move rfl rfl | apply o_easy1 rfl rfl rfl | apply o_ld rfl rfl (by assumption) (by first | rfl | assumption)); conv => lhs; whnf) | apply o_no rfl | refine o_b rfl rfl rfl (by constructor; omega) ?_ | refine o_f rfl rfl rfl (by constructor; omega) ?_ | refine o_s rfl rfl rfl (by constructor; first | omega | assumption) ?_ | refine o_t rfl rfl rfl (by constructor; assumption) ?_ | (apply o_easy rfl rfl rfl; conv => lhs; whnf) | apply o_non rfl))
    (apply o_end; (repeat (first | exact OutS.nil | exact GetS.hit | exact PutS.hit | apply GetS.miss rfl | apply PutS.miss rfl | apply OutS.cons | apply OutS.skip rfl)))
    rcases classes c.toNat with h | h | h | h | h | h | h | h | h | h | h
    · ((repeat refine c_seq ?_); refine c_region ?_; (repeat (first | ((first | apply o_move rfl rfl | apply o_easy1 rfl rfl rfl | apply o_ld rfl rfl (by assumption) (by first | rfl | assumption)); conv => lhs; whnf) | apply o_no rfl | refine o_b rfl rfl rfl (by constructor; omega) ?_ | refine o_f rfl rfl rfl (by constructor; omega) ?_ | refine o_s rfl rfl rfl (by constructor; first | omega | assumption) ?_ | refine o_t rfl rfl rfl (by constructor; assumption) ?_ | (apply o_easy rfl rfl rfl; conv => lhs; whnf) | apply o_non rfl)); apply o_end; (repeat (first | exact OutS.nil | exact GetS.hit | exact PutS.hit | apply GetS.miss rfl | apply PutS.miss rfl | apply OutS.cons | apply OutS.skip rfl)))
      ((repeat refine c_seq ?_); refine c_else rfl ?_)
      refine c_skip ?_
      ((repeat refine c_seq ?_); refine c_region ?_; (repeat (first | ((first | apply o_move rfl rfl | apply o_easy1 rfl rfl rfl | apply o_ld rfl rfl (by assumption) (by first | rfl | assumption)); conv => lhs; whnf) | apply o_no rfl | refine o_b rfl rfl rfl (by constructor; omega) ?_ | refine o_f rfl rfl rfl (by constructor; omega) ?_ | refine o_s rfl rfl rfl (by constructor; first | omega | assumption) ?_ | refine o_t rfl rfl rfl (by constructor; assumption) ?_ | (apply o_easy rfl rfl rfl; conv => lhs; whnf) | apply o_non rfl)); apply o_end; (repeat (first | exact OutS.nil | exact GetS.hit | exact PutS.hit | apply GetS.miss rfl | apply PutS.miss rfl | apply OutS.cons | apply OutS.skip rfl)))
      exact hstep _ _ _ ⟨by omega, by omega, by omega, by omega, by omega, by omega, by omega, by omega, by omega, by omega, by omega, by omega⟩
    · ((repeat refine c_seq ?_); refine c_region ?_; (repeat (first | ((first | apply o_move rfl rfl | apply o_easy1 rfl rfl rfl | apply o_ld rfl rfl (by assumption) (by first | rfl | assumption)); conv => lhs; whnf) | apply o_no rfl | refine o_b rfl rfl rfl (by constructor; omega) ?_ | refine o_f rfl rfl rfl (by constructor; omega) ?_ | refine o_s rfl rfl rfl (by constructor; first | omega | assumption) ?_ | refine o_t rfl rfl rfl (by constructor; assumption) ?_ | (apply o_easy rfl rfl rfl; conv => lhs; whnf) | apply o_non rfl)); apply o_end; (repeat (first | exact OutS.nil | exact GetS.hit | exact PutS.hit | apply GetS.miss rfl | apply PutS.miss rfl | apply OutS.cons | apply OutS.skip rfl)))
      ((repeat refine c_seq ?_); refine c_else rfl ?_)
      refine c_skip ?_
      ((repeat refine c_seq ?_); refine c_region ?_; (repeat (first | ((first | apply o_move rfl rfl | apply o_easy1 rfl rfl rfl | apply o_ld rfl rfl (by assumption) (by first | rfl | assumption)); conv => lhs; whnf) | apply o_no rfl | refine o_b rfl rfl rfl (by constructor; omega) ?_ | refine o_f rfl rfl rfl (by constructor; omega) ?_ | refine o_s rfl rfl rfl (by constructor; first | omega | assumption) ?_ | refine o_t rfl rfl rfl (by constructor; assumption) ?_ | (apply o_easy rfl rfl rfl; conv => lhs; whnf) | apply o_non rfl)); apply o_end; (repeat (first | exact OutS.nil | exact GetS.hit | exact PutS.hit | apply GetS.miss rfl | apply PutS.miss rfl | apply OutS.cons | apply OutS.skip rfl)))
      exact hstep _ _ _ ⟨by omega, by omega, by omega, by omega, by omega, by omega, by omega, by omega, by omega, by omega, by omega, by omega⟩
    · ((repeat refine c_seq ?_); refine c_region ?_; (repeat (first | ((first | apply o_move rfl rfl | apply o_easy1 rfl rfl rfl | apply o_ld rfl rfl (by assumption) (by first | rfl | assumption)); conv => lhs; whnf) | apply o_no rfl | refine o_b rfl rfl rfl (by constructor; omega) ?_ | refine o_f rfl rfl rfl (by constructor; omega) ?_ | refine o_s rfl rfl rfl (by constructor; first | omega | assumption) ?_ | refine o_t rfl rfl rfl (by constructor; assumption) ?_ | (apply o_easy rfl rfl rfl; conv => lhs; whnf) | apply o_non rfl)); apply o_end; (repeat (first | exact OutS.nil | exact GetS.hit | exact PutS.hit | apply GetS.miss rfl | apply PutS.miss rfl | apply OutS.cons | apply OutS.skip rfl)))
      ((repeat refine c_seq ?_); refine c_else rfl ?_)
      refine c_skip ?_
      ((repeat refine c_seq ?_); refine c_region ?_; (repeat (first | ((first | apply o_move rfl rfl | apply o_easy1 rfl rfl rfl | apply o_ld rfl rfl (by assumption) (by first | rfl | assumption)); conv => lhs; whnf) | apply o_no rfl | refine o_b rfl rfl rfl (by constructor; omega) ?_ | refine o_f rfl rfl rfl (by constructor; omega) ?_ | refine o_s rfl rfl rfl (by constructor; first | omega | assumption) ?_ | refine o_t rfl rfl rfl (by constructor; assumption) ?_ | (apply o_easy rfl rfl rfl; conv => lhs; whnf) | apply o_non rfl)); apply o_end; (repeat (first | exact OutS.nil | exact GetS.hit | exact PutS.hit | apply GetS.miss rfl | apply PutS.miss rfl | apply OutS.cons | apply OutS.skip rfl)))
      exact hstep _ _ _ ⟨by omega, by omega, by omega, by omega, by omega, by omega, by omega, by omega, by omega, by omega, by omega, by omega⟩
    · ((repeat refine c_seq ?_); refine c_region ?_; (repeat (first | ((first | apply o_move rfl rfl | apply o_easy1 rfl rfl rfl | apply o_ld rfl rfl (by assumption) (by first | rfl | assumption)); conv => lhs; whnf) | apply o_no rfl | refine o_b rfl rfl rfl (by constructor; omega) ?_ | refine o_f rfl rfl rfl (by constructor; omega) ?_ | refine o_s rfl rfl rfl (by constructor; first | omega | assumption) ?_ | refine o_t rfl rfl rfl (by constructor; assumption) ?_ | (apply o_easy rfl rfl rfl; conv => lhs; whnf) | apply o_non rfl)); apply o_end; (repeat (first | exact OutS.nil | exact GetS.hit | exact PutS.hit | apply GetS.miss rfl | apply PutS.miss rfl | apply OutS.cons | apply OutS.skip rfl)))
      ((repeat refine c_seq ?_); refine c_else rfl ?_)
      refine c_skip ?_
      ((repeat refine c_seq ?_); refine c_region ?_; (repeat (first | ((first | apply o_move rfl rfl | apply o_easy1 rfl rfl rfl | apply o_ld rfl rfl (by assumption) (by first | rfl | assumption)); conv => lhs; whnf) | apply o_no rfl | refine o_b rfl rfl rfl (by constructor; omega) ?_ | refine o_f rfl rfl rfl (by constructor; omega) ?_ | refine o_s rfl rfl rfl (by constructor; first | omega | assumption) ?_ | refine o_t rfl rfl rfl (by constructor; assumption) ?_ | (apply o_easy rfl rfl rfl; conv => lhs; whnf) | apply o_non rfl)); apply o_end; (repeat (first | exact OutS.nil | exact GetS.hit | exact PutS.hit | apply GetS.miss rfl | apply PutS.miss rfl | apply OutS.cons | apply OutS.skip rfl)))
      exact hstep _ _ _ ⟨by omega, by omega, by omega, by omega, by omega, by omega, by omega, by omega, by omega, by omega, by omega, by omega⟩
    · ((repeat refine c_seq ?_); refine c_region ?_; (repeat (first | ((first | apply o_move rfl rfl | apply o_easy1 rfl rfl rfl | apply o_ld rfl rfl (by assumption) (by first | rfl | assumption)); conv => lhs; whnf) | apply o_no rfl | refine o_b rfl rfl rfl (by constructor; omega) ?_ | refine o_f rfl rfl rfl (by constructor; omega) ?_ | refine o_s rfl rfl rfl (by constructor; first | omega | assumption) ?_ | refine o_t rfl rfl rfl (by constructor; assumption) ?_ | (apply o_easy rfl rfl rfl; conv => lhs; whnf) | apply o_non rfl)); apply o_end; (repeat (first | exact OutS.nil | exact GetS.hit | exact PutS.hit | apply GetS.miss rfl | apply PutS.miss rfl | apply OutS.cons | apply OutS.skip rfl)))
      ((repeat refine c_seq ?_); refine c_else rfl ?_)
      refine c_skip ?_
      ((repeat refine c_seq ?_); refine c_region ?_; (repeat (first | ((first | apply o_move rfl rfl | apply o_easy1 rfl rfl rfl | apply o_ld rfl rfl (by assumption) (by first | rfl | assumption)); conv => lhs; whnf) | apply o_no rfl | refine o_b rfl rfl rfl (by constructor; omega) ?_ | refine o_f rfl rfl rfl (by constructor; omega) ?_ | refine o_s rfl rfl rfl (by constructor; first | omega | assumption) ?_ | refine o_t rfl rfl rfl (by constructor; assumption) ?_ | (apply o_easy rfl rfl rfl; conv => lhs; whnf) | apply o_non rfl)); apply o_end; (repeat (first | exact OutS.nil | exact GetS.hit | exact PutS.hit | apply GetS.miss rfl | apply PutS.miss rfl | apply OutS.cons | apply OutS.skip rfl)))
      exact hstep _ _ _ ⟨by omega, by omega, by omega, by omega, by omega, by omega, by omega, by omega, by omega, by omega, by omega, by omega⟩
    · ((repeat refine c_seq ?_); refine c_region ?_; (repeat (first | ((first | apply o_move rfl rfl | apply o_easy1 rfl rfl rfl | apply o_ld rfl rfl (by assumption) (by first | rfl | assumption)); conv => lhs; whnf) | apply o_no rfl | refine o_b rfl rfl rfl (by constructor; omega) ?_ | refine o_f rfl rfl rfl (by constructor; omega) ?_ | refine o_s rfl rfl rfl (by constructor; first | omega | assumption) ?_ | refine o_t rfl rfl rfl (by constructor; assumption) ?_ | (apply o_easy rfl rfl rfl; conv => lhs; whnf) | apply o_non rfl)); apply o_end; (repeat (first | exact OutS.nil | exact GetS.hit | exact PutS.hit | apply GetS.miss rfl | apply PutS.miss rfl | apply OutS.cons | apply OutS.skip rfl)))
      ((repeat refine c_seq ?_); refine c_else rfl ?_)
      refine c_skip ?_
      ((repeat refine c_seq ?_); refine c_region ?_; (repeat (first | ((first | apply o_move rfl rfl | apply o_easy1 rfl rfl rfl | apply o_ld rfl rfl (by assumption) (by first | rfl | assumption)); conv => lhs; whnf) | apply o_no rfl | refine o_b rfl rfl rfl (by constructor; omega) ?_ | refine o_f rfl rfl rfl (by constructor; omega) ?_ | refine o_s rfl rfl rfl (by constructor; first | omega | assumption) ?_ | refine o_t rfl rfl rfl (by constructor; assumption) ?_ | (apply o_easy rfl rfl rfl; conv => lhs; whnf) | apply o_non rfl)); apply o_end; (repeat (first | exact OutS.nil | exact GetS.hit | exact PutS.hit | apply GetS.miss rfl | apply PutS.miss rfl | apply OutS.cons | apply OutS.skip rfl)))
      exact hstep _ _ _ ⟨by omega, by omega, by omega, by omega, by omega, by omega, by omega, by omega, by omega, by omega, by omega, by omega⟩
    · ((repeat refine c_seq ?_); refine c_region ?_; (repeat (first | ((first | apply o_move rfl rfl | apply o_easy1 rfl rfl rfl | apply o_ld rfl rfl (by assumption) (by first | rfl | assumption)); conv => lhs; whnf) | apply o_no rfl | refine o_b rfl rfl rfl (by constructor; omega) ?_ | refine o_f rfl rfl rfl (by constructor; omega) ?_ | refine o_s rfl rfl rfl (by constructor; first | omega | assumption) ?_ | refine o_t rfl rfl rfl (by constructor; assumption) ?_ | (apply o_easy rfl rfl rfl; conv => lhs; whnf) | apply o_non rfl)); apply o_end; (repeat (first | exact OutS.nil | exact GetS.hit | exact PutS.hit | apply GetS.miss rfl | apply PutS.miss rfl | apply OutS.cons | apply OutS.skip rfl)))
      ((repeat refine c_seq ?_); refine c_else rfl ?_)
      refine c_skip ?_
      ((repeat refine c_seq ?_); refine c_region ?_; (repeat (first | ((first | apply o_move rfl rfl | apply o_easy1 rfl rfl rfl | apply o_ld rfl rfl (by assumption) (by first | rfl | assumption)); conv => lhs; whnf) | apply o_no rfl | refine o_b rfl rfl rfl (by constructor; omega) ?_ | refine o_f rfl rfl rfl (by constructor; omega) ?_ | refine o_s rfl rfl rfl (by constructor; first | omega | assumption) ?_ | refine o_t rfl rfl rfl (by constructor; assumption) ?_ | (apply o_easy rfl rfl rfl; conv => lhs; whnf) | apply o_non rfl)); apply o_end; (repeat (first | exact OutS.nil | exact GetS.hit | exact PutS.hit | apply GetS.miss rfl | apply PutS.miss rfl | apply OutS.cons | apply OutS.skip rfl)))
      exact hstep _ _ _ ⟨by omega, by omega, by omega, by omega, by omega, by omega, by omega, by omega, by omega, by omega, by omega, by omega⟩
    · ((repeat refine c_seq ?_); refine c_region ?_; (repeat (first | ((first | apply o_move rfl rfl | apply o_easy1 rfl rfl rfl | apply o_ld rfl rfl (by assumption) (by first | rfl | assumption)); conv => lhs; whnf) | apply o_no rfl | refine o_b rfl rfl rfl (by constructor; omega) ?_ | refine o_f rfl rfl rfl (by constructor; omega) ?_ | refine o_s rfl rfl rfl (by constructor; first | omega | assumption) ?_ | refine o_t rfl rfl rfl (by constructor; assumption) ?_ | (apply o_easy rfl rfl rfl; conv => lhs; whnf) | apply o_non rfl)); apply o_end; (repeat (first | exact OutS.nil | exact GetS.hit | exact PutS.hit | apply GetS.miss rfl | apply PutS.miss rfl | apply OutS.cons | apply OutS.skip rfl)))
      ((repeat refine c_seq ?_); refine c_if rfl ?_)
      ((repeat refine c_seq ?_); refine c_region ?_; (repeat (first | ((first | apply o_move rfl rfl | apply o_easy1 rfl rfl rfl | apply o_ld rfl rfl (by assumption) (by first | rfl | assumption)); conv => lhs; whnf) | apply o_no rfl | refine o_b rfl rfl rfl (by constructor; omega) ?_ | refine o_f rfl rfl rfl (by constructor; omega) ?_ | refine o_s rfl rfl rfl (by constructor; first | omega | assumption) ?_ | refine o_t rfl rfl rfl (by constructor; assumption) ?_ | (apply o_easy rfl rfl rfl; conv => lhs; whnf) | apply o_non rfl)); apply o_end; (repeat (first | exact OutS.nil | exact GetS.hit | exact PutS.hit | apply GetS.miss rfl | apply PutS.miss rfl | apply OutS.cons | apply OutS.skip rfl)))
      exact c_ret (hr _ _)
    · ((repeat refine c_seq ?_); refine c_region ?_; (repeat (first | ((first | apply o_move rfl rfl | apply o_easy1 rfl rfl rfl | apply o_ld rfl rfl (by assumption) (by first | rfl | assumption)); conv => lhs; whnf) | apply o_no rfl | refine o_b rfl rfl rfl (by constructor; omega) ?_ | refine o_f rfl rfl rfl (by constructor; omega) ?_ | refine o_s rfl rfl rfl (by constructor; first | omega | assumption) ?_ | refine o_t rfl rfl rfl (by constructor; assumption) ?_ | (apply o_easy rfl rfl rfl; conv => lhs; whnf) | apply o_non rfl)); apply o_end; (repeat (first | exact OutS.nil | exact GetS.hit | exact PutS.hit | apply GetS.miss rfl | apply PutS.miss rfl | apply OutS.cons | apply OutS.skip rfl)))
      ((repeat refine c_seq ?_); refine c_if rfl ?_)
      ((repeat refine c_seq ?_); refine c_region ?_; (repeat (first | ((first | apply o_move rfl rfl | apply o_easy1 rfl rfl rfl | apply o_ld rfl rfl (by assumption) (by first | rfl | assumption)); conv => lhs; whnf) | apply o_no rfl | refine o_b rfl rfl rfl (by constructor; omega) ?_ | refine o_f rfl rfl rfl (by constructor; omega) ?_ | refine o_s rfl rfl rfl (by constructor; first | omega | assumption) ?_ | refine o_t rfl rfl rfl (by constructor; assumption) ?_ | (apply o_easy rfl rfl rfl; conv => lhs; whnf) | apply o_non rfl)); apply o_end; (repeat (first | exact OutS.nil | exact GetS.hit | exact PutS.hit | apply GetS.miss rfl | apply PutS.miss rfl | apply OutS.cons | apply OutS.skip rfl)))
      exact c_ret (hr _ _)
    · ((repeat refine c_seq ?_); refine c_region ?_; (repeat (first | ((first | apply o_move rfl rfl | apply o_easy1 rfl rfl rfl | apply o_ld rfl rfl (by assumption) (by first | rfl | assumption)); conv => lhs; whnf) | apply o_no rfl | refine o_b rfl rfl rfl (by constructor; omega) ?_ | refine o_f rfl rfl rfl (by constructor; omega) ?_ | refine o_s rfl rfl rfl (by constructor; first | omega | assumption) ?_ | refine o_t rfl rfl rfl (by constructor; assumption) ?_ | (apply o_easy rfl rfl rfl; conv => lhs; whnf) | apply o_non rfl)); apply o_end; (repeat (first | exact OutS.nil | exact GetS.hit | exact PutS.hit | apply GetS.miss rfl | apply PutS.miss rfl | apply OutS.cons | apply OutS.skip rfl)))
      ((repeat refine c_seq ?_); refine c_if rfl ?_)
      ((repeat refine c_seq ?_); refine c_region ?_; (repeat (first | ((first | apply o_move rfl rfl | apply o_easy1 rfl rfl rfl | apply o_ld rfl rfl (by assumption) (by first | rfl | assumption)); conv => lhs; whnf) | apply o_no rfl | refine o_b rfl rfl rfl (by constructor; omega) ?_ | refine o_f rfl rfl rfl (by constructor; omega) ?_ | refine o_s rfl rfl rfl (by constructor; first | omega | assumption) ?_ | refine o_t rfl rfl rfl (by constructor; assumption) ?_ | (apply o_easy rfl rfl rfl; conv => lhs; whnf) | apply o_non rfl)); apply o_end; (repeat (first | exact OutS.nil | exact GetS.hit | exact PutS.hit | apply GetS.miss rfl | apply PutS.miss rfl | apply OutS.cons | apply OutS.skip rfl)))
      exact c_ret (hr _ _)
    · ((repeat refine c_seq ?_); refine c_region ?_; (repeat (first | ((first | apply o_move rfl rfl | apply o_easy1 rfl rfl rfl | apply o_ld rfl rfl (by assumption) (by first | rfl | assumption)); conv => lhs; whnf) | apply o_no rfl | refine o_b rfl rfl rfl (by constructor; omega) ?_ | refine o_f rfl rfl rfl (by constructor; omega) ?_ | refine o_s rfl rfl rfl (by constructor; first | omega | assumption) ?_ | refine o_t rfl rfl rfl (by constructor; assumption) ?_ | (apply o_easy rfl rfl rfl; conv => lhs; whnf) | apply o_non rfl)); apply o_end; (repeat (first | exact OutS.nil | exact GetS.hit | exact PutS.hit | apply GetS.miss rfl | apply PutS.miss rfl | apply OutS.cons | apply OutS.skip rfl)))
      ((repeat refine c_seq ?_); refine c_if rfl ?_)
      ((repeat refine c_seq ?_); refine c_region ?_; (repeat (first | ((first | apply o_move rfl rfl | apply o_easy1 rfl rfl rfl | apply o_ld rfl rfl (by assumption) (by first | rfl | assumption)); conv => lhs; whnf) | apply o_no rfl | refine o_b rfl rfl rfl (by constructor; omega) ?_ | refine o_f rfl rfl rfl (by constructor; omega) ?_ | refine o_s rfl rfl rfl (by constructor; first | omega | assumption) ?_ | refine o_t rfl rfl rfl (by constructor; assumption) ?_ | (apply o_easy rfl rfl rfl; conv => lhs; whnf) | apply o_non rfl)); apply o_end; (repeat (first | exact OutS.nil | exact GetS.hit | exact PutS.hit | apply GetS.miss rfl | apply PutS.miss rfl | apply OutS.cons | apply OutS.skip rfl)))
      exact c_ret (hr _ _)

end Go.Tok

namespace Go.Tok
open Go Go.Am Go.Proofs

/-- each character a token of a kind -/
def ltk (f : UInt8 → Tk) : Nat → List UInt8 → List Tk
  | _, [] => []
  | k, c :: r => { f c with at' := k, to := (k + 1 : Nat) } :: ltk f (k + 1) r

theorem ltk_app (f : UInt8 → Tk) : ∀ (k : Nat) (a b : List UInt8), ltk f k (a ++ b) = ltk f k a ++ ltk f (k + a.length) b
  | _, [], _ => rfl
  | k, c :: r, b => by
    simp only [List.cons_append, ltk, List.length_cons, ltk_app f (k + 1) r b, Nat.add_assoc, Nat.add_comm 1]
theorem ltk_len (f : UInt8 → Tk) : ∀ (k : Nat) (a : List UInt8), (ltk f k a).length = a.length
  | _, [] => rfl
  | k, c :: r => by simp [ltk, ltk_len f (k + 1) r]

/-- what a round of the lexer comes to -/
def OneAt (M : Nat) (b : Bar) (s0 : Sg) (r : Nat) (t : List UInt8) (f : UInt8 → Tk) : Prop :=
  ∀ (i : Nat) (l : List Tk) (c : UInt8) (s : Sg), t[i]? = some c → l.length < 2 ^ 20 → LS s0 r t false 0 255 i i l s →
    OkF (callF T M b 12 [.ptr r 0 0] s) fun out s2 => out = .ret (.tup []) ∧ LS s0 r t false 0 255 i (i + 1) (l ++ [{ f c with at' := i, to := (i + 1 : Nat) }]) s2

theorem lexg_loop (m : Nat) (b : Bar) (s0 : Sg) (A B C r : Nat) (t : List UInt8) (hb : b.w ≤ r) (hes : b.es = []) (ht : t.length ≤ 1000) (f : UInt8 → Tk) (hp : OneAt m b s0 r t f) {Q : Ex → Fr → Sg → Prop}
    (hq : ∀ x at' s', LS s0 r t false 0 255 at' t.length (ltk f 0 t) s' → Q (.exit 0) (fr8 t A B C r x) s') :
    ∀ (rest done : List UInt8) (L : Nat) (x : AV) (at' : Nat) (s : Sg), t = done ++ rest → rest.length + 1 ≤ L → LS s0 r t false 0 255 at' done.length (ltk f 0 done) s →
    OkL L (fun fr s => ACode.run (loopN (m)) (callF T (m)) b lp8_0 fr s) (fr8 t A B C r x) s Q := by
  intro rest
  induction rest with
  | nil =>
    intro done L x at' s hl hL h
    obtain ⟨L, rfl⟩ : ∃ L', L = L' + 1 := ⟨L - 1, by omega⟩
    rw [List.append_nil] at hl
    subst hl
    have h' := h
    obtain ⟨⟨out, hg, ho⟩, hlow⟩ := h'
    apply l_round
    ((repeat refine c_seq ?_); refine c_drawn ?_; (repeat (first | ((first | apply o_move rfl rfl | apply o_easy1 rfl rfl rfl | apply o_ld rfl rfl (by assumption) (by first | rfl | assumption)); conv => lhs; whnf) | apply o_no rfl | refine o_b rfl rfl rfl (by constructor; omega) ?_ | refine o_f rfl rfl rfl (by constructor; omega) ?_ | refine o_s rfl rfl rfl (by constructor; first | omega | assumption) ?_ | refine o_t rfl rfl rfl (by constructor; assumption) ?_ | (apply o_easy rfl rfl rfl; conv => lhs; whnf) | apply o_non rfl)); apply d_end rfl; (repeat (first | exact OutS.nil | exact GetS.hit | exact PutS.hit | apply GetS.miss rfl | apply PutS.miss rfl | apply OutS.cons | apply OutS.skip rfl)))
    ((repeat refine c_seq ?_); refine c_else rfl ?_)
    exact c_exit (hq _ _ _ h)
  | cons c rest ih =>
    intro done L x at' s hl hL h
    obtain ⟨L, rfl⟩ : ∃ L', L = L' + 1 := ⟨L - 1, by omega⟩
    have hkl : done.length < t.length := by rw [hl]; simp
    have hget : t[done.length]? = some c := by rw [hl]; simp
    have h' := h
    obtain ⟨⟨out, hg, ho⟩, hlow⟩ := h'
    apply l_round
    ((repeat refine c_seq ?_); refine c_drawn ?_; (repeat (first | ((first | apply o_move rfl rfl | apply o_easy1 rfl rfl rfl | apply o_ld rfl rfl (by assumption) (by first | rfl | assumption)); conv => lhs; whnf) | apply o_no rfl | refine o_b rfl rfl rfl (by constructor; omega) ?_ | refine o_f rfl rfl rfl (by constructor; omega) ?_ | refine o_s rfl rfl rfl (by constructor; first | omega | assumption) ?_ | refine o_t rfl rfl rfl (by constructor; assumption) ?_ | (apply o_easy rfl rfl rfl; conv => lhs; whnf) | apply o_non rfl)); apply d_end rfl; (repeat (first | exact OutS.nil | exact GetS.hit | exact PutS.hit | apply GetS.miss rfl | apply PutS.miss rfl | apply OutS.cons | apply OutS.skip rfl)))
    ((repeat refine c_seq ?_); refine c_if rfl ?_)
    refine c_skip ?_
    ((repeat refine c_seq ?_); refine c_block ?_)
    ((repeat refine c_seq ?_); refine c_region ?_; (repeat (first | ((first | apply o_move rfl rfl | apply o_easy1 rfl rfl rfl | apply o_ld rfl rfl (by assumption) (by first | rfl | assumption)); conv => lhs; whnf) | apply o_no rfl | refine o_b rfl rfl rfl (by constructor; omega) ?_ | refine o_f rfl rfl rfl (by constructor; omega) ?_ | refine o_s rfl rfl rfl (by constructor; first | omega | assumption) ?_ | refine o_t rfl rfl rfl (by constructor; assumption) ?_ | (apply o_easy rfl rfl rfl; conv => lhs; whnf) | apply o_non rfl)))
    refine o_st rfl rfl rfl rfl hg rfl (lets_nil (blt_no hb) hes) (cs' := lx t false 0 255 done.length done.length out) rfl ?_
    (apply o_end; (repeat (first | exact OutS.nil | exact GetS.hit | exact PutS.hit | apply GetS.miss rfl | apply PutS.miss rfl | apply OutS.cons | apply OutS.skip rfl)))
    have hL' : LS s0 r t false 0 255 done.length done.length (ltk f 0 done) (s.put r (.cells (lx t false 0 255 done.length done.length out) 0)) := LS.put hg ho hlow
    ((repeat refine c_seq ?_); refine c_region ?_; (repeat (first | ((first | apply o_move rfl rfl | apply o_easy1 rfl rfl rfl | apply o_ld rfl rfl (by assumption) (by first | rfl | assumption)); conv => lhs; whnf) | apply o_no rfl | refine o_b rfl rfl rfl (by constructor; omega) ?_ | refine o_f rfl rfl rfl (by constructor; omega) ?_ | refine o_s rfl rfl rfl (by constructor; first | omega | assumption) ?_ | refine o_t rfl rfl rfl (by constructor; assumption) ?_ | (apply o_easy rfl rfl rfl; conv => lhs; whnf) | apply o_non rfl)))
    refine o_callw (l := [.ptr r 0 0]) rfl rfl ((hp done.length (ltk f 0 done) c _ hget (by rw [ltk_len]; omega) hL').mono ?_)
    rintro _ s2 ⟨rfl, h2⟩
    (apply o_end; (repeat (first | exact OutS.nil | exact GetS.hit | exact PutS.hit | apply GetS.miss rfl | apply PutS.miss rfl | apply OutS.cons | apply OutS.skip rfl)))
    refine ih (done ++ [c]) L _ done.length s2 (by rw [hl]; simp) (by simp at hL; omega) ?_
    rw [ltk_app]
    simpa [ltk] using h2


/-- Lex, of a text of tokens of one character each -/
theorem lex_gen (t : List UInt8) (ht : t.length ≤ 1000) (f : UInt8 → Tk) (m : Nat) (hp : ∀ b s0 r, b.w ≤ r → b.es = [] → OneAt m b s0 r t f) (hm : t.length + 1 ≤ m) (b : Bar) (s : Sg) (a0 : AV) (h0 : a0.weak = .vec (Am.byteCells t) .shut) :
    callF T (m + 1) b 8 [a0, .int .i64 0] s = some (.ret (.tup [.vec (tavs (ltk f 0 t)) .shut, .int .i64 0, .int .i64 0]), s) := by
  have hbl := Am.byteCells_length t
  suffices h : OkF (callF T (m + 1) b 8 [a0, .int .i64 0] s) (fun o s' => o = .ret (.tup [.vec (tavs (ltk f 0 t)) .shut, .int .i64 0, .int .i64 0]) ∧ s' = s) by
    obtain ⟨o, s', h1, rfl, rfl⟩ := h.ok
    exact h1
  have hw0 : AV.weakAll [a0, .int .i64 0] = [.vec (Am.byteCells t) .shut, .int .i64 0] := by
    simp only [AV.weakAll, h0]
    rfl
  apply f_wp rfl rfl
  · show Shape (bindArgs (AV.weakAll [a0, .int .i64 0]) _) _
    rw [hw0]
    repeat (first | exact Shape.nil | (apply Shape.cons; (conv => lhs; whnf)))
  ((repeat refine c_seq ?_); refine c_region ?_; (repeat (first | ((first | apply o_move rfl rfl | apply o_easy1 rfl rfl rfl | apply o_ld rfl rfl (by assumption) (by first | rfl | assumption)); conv => lhs; whnf) | apply o_no rfl | refine o_b rfl rfl rfl (by constructor; omega) ?_ | refine o_f rfl rfl rfl (by constructor; omega) ?_ | refine o_s rfl rfl rfl (by constructor; first | omega | assumption) ?_ | refine o_t rfl rfl rfl (by constructor; assumption) ?_ | (apply o_easy rfl rfl rfl; conv => lhs; whnf) | apply o_non rfl)))
  refine o_alloc rfl ?_
  refine o_alloc rfl ?_
  refine o_alloc rfl ?_
  (apply o_end; (repeat (first | exact OutS.nil | exact GetS.hit | exact PutS.hit | apply GetS.miss rfl | apply PutS.miss rfl | apply OutS.cons | apply OutS.skip rfl)))
  ((repeat refine c_seq ?_); refine c_region ?_; (repeat (first | ((first | apply o_move rfl rfl | apply o_easy1 rfl rfl rfl | apply o_ld rfl rfl (by assumption) (by first | rfl | assumption)); conv => lhs; whnf) | apply o_no rfl | refine o_b rfl rfl rfl (by constructor; omega) ?_ | refine o_f rfl rfl rfl (by constructor; omega) ?_ | refine o_s rfl rfl rfl (by constructor; first | omega | assumption) ?_ | refine o_t rfl rfl rfl (by constructor; assumption) ?_ | (apply o_easy rfl rfl rfl; conv => lhs; whnf) | apply o_non rfl)); apply o_end; (repeat (first | exact OutS.nil | exact GetS.hit | exact PutS.hit | apply GetS.miss rfl | apply PutS.miss rfl | apply OutS.cons | apply OutS.skip rfl)))
  ((repeat refine c_seq ?_); refine c_else rfl ?_)
  refine c_skip ?_
  ((repeat refine c_seq ?_); refine c_region ?_; (repeat (first | ((first | apply o_move rfl rfl | apply o_easy1 rfl rfl rfl | apply o_ld rfl rfl (by assumption) (by first | rfl | assumption)); conv => lhs; whnf) | apply o_no rfl | refine o_b rfl rfl rfl (by constructor; omega) ?_ | refine o_f rfl rfl rfl (by constructor; omega) ?_ | refine o_s rfl rfl rfl (by constructor; first | omega | assumption) ?_ | refine o_t rfl rfl rfl (by constructor; assumption) ?_ | (apply o_easy rfl rfl rfl; conv => lhs; whnf) | apply o_non rfl)); apply o_end; (repeat (first | exact OutS.nil | exact GetS.hit | exact PutS.hit | apply GetS.miss rfl | apply PutS.miss rfl | apply OutS.cons | apply OutS.skip rfl)))
  ((repeat refine c_seq ?_); refine c_else rfl ?_)
  refine c_skip ?_
  ((repeat refine c_seq ?_); refine c_region ?_; (repeat (first | ((first | apply o_move rfl rfl | apply o_easy1 rfl rfl rfl | apply o_ld rfl rfl (by assumption) (by first | rfl | assumption)); conv => lhs; whnf) | apply o_no rfl | refine o_b rfl rfl rfl (by constructor; omega) ?_ | refine o_f rfl rfl rfl (by constructor; omega) ?_ | refine o_s rfl rfl rfl (by constructor; first | omega | assumption) ?_ | refine o_t rfl rfl rfl (by constructor; assumption) ?_ | (apply o_easy rfl rfl rfl; conv => lhs; whnf) | apply o_non rfl)))
  refine o_bs rfl rfl (bytesOf_cells t) ?_
  (repeat (first | ((first | apply o_move rfl rfl | apply o_easy1 rfl rfl rfl | apply o_ld rfl rfl (by assumption) (by first | rfl | assumption)); conv => lhs; whnf) | apply o_no rfl | refine o_b rfl rfl rfl (by constructor; omega) ?_ | refine o_f rfl rfl rfl (by constructor; omega) ?_ | refine o_s rfl rfl rfl (by constructor; first | omega | assumption) ?_ | refine o_t rfl rfl rfl (by constructor; assumption) ?_ | (apply o_easy rfl rfl rfl; conv => lhs; whnf) | apply o_non rfl))
  refine o_w (v := .int .i64 0) rfl rfl ?_
  (repeat (first | ((first | apply o_move rfl rfl | apply o_easy1 rfl rfl rfl | apply o_ld rfl rfl (by assumption) (by first | rfl | assumption)); conv => lhs; whnf) | apply o_no rfl | refine o_b rfl rfl rfl (by constructor; omega) ?_ | refine o_f rfl rfl rfl (by constructor; omega) ?_ | refine o_s rfl rfl rfl (by constructor; first | omega | assumption) ?_ | refine o_t rfl rfl rfl (by constructor; assumption) ?_ | (apply o_easy rfl rfl rfl; conv => lhs; whnf) | apply o_non rfl))
  refine o_box (v := .agg (lx t false 0 255 0 0 .nilsl)) (l := lx t false 0 255 0 0 .nilsl) rfl rfl rfl ?_
  (repeat (first | ((first | apply o_move rfl rfl | apply o_easy1 rfl rfl rfl | apply o_ld rfl rfl (by assumption) (by first | rfl | assumption)); conv => lhs; whnf) | apply o_no rfl | refine o_b rfl rfl rfl (by constructor; omega) ?_ | refine o_f rfl rfl rfl (by constructor; omega) ?_ | refine o_s rfl rfl rfl (by constructor; first | omega | assumption) ?_ | refine o_t rfl rfl rfl (by constructor; assumption) ?_ | (apply o_easy rfl rfl rfl; conv => lhs; whnf) | apply o_non rfl))
  (apply o_end; (repeat (first | exact OutS.nil | exact GetS.hit | exact PutS.hit | apply GetS.miss rfl | apply PutS.miss rfl | apply OutS.cons | apply OutS.skip rfl)))
  have hA := getCells_push (.cells (lx t false 0 255 0 0 .nilsl) 0) (getCells_push (.cells [.int .i64 0] 0) (getCells_push (.cells [.int .i64 0] 0) (getCells_new s [.nilsl] 0)))
  have hB := getCells_push (.cells (lx t false 0 255 0 0 .nilsl) 0) (getCells_push (.cells [.int .i64 0] 0) (getCells_new (s.push (.cells [.nilsl] 0)) [.int .i64 0] 0))
  have hC := getCells_push (.cells (lx t false 0 255 0 0 .nilsl) 0) (getCells_new ((s.push (.cells [.nilsl] 0)).push (.cells [.int .i64 0] 0)) [.int .i64 0] 0)
  have hR := getCells_new (((s.push (.cells [.nilsl] 0)).push (.cells [.int .i64 0] 0)).push (.cells [.int .i64 0] 0)) (lx t false 0 255 0 0 .nilsl) 0
  have lA : s.heap.length < (s.push (.cells [.nilsl] 0)).heap.length := by rw [Sg.push_len]; omega
  have lB : (s.push (.cells [.nilsl] 0)).heap.length < ((s.push (.cells [.nilsl] 0)).push (.cells [.int .i64 0] 0)).heap.length := by rw [Sg.push_len (s.push _)]; omega
  have lC : ((s.push (.cells [.nilsl] 0)).push (.cells [.int .i64 0] 0)).heap.length < (((s.push (.cells [.nilsl] 0)).push (.cells [.int .i64 0] 0)).push (.cells [.int .i64 0] 0)).heap.length := by rw [Sg.push_len ((s.push _).push _)]; omega
  generalize ((((s.push (.cells [.nilsl] 0)).push (.cells [.int .i64 0] 0)).push (.cells [.int .i64 0] 0)).push (.cells (lx t false 0 255 0 0 .nilsl) 0)) = s1 at hA hB hC hR ⊢
  generalize (((s.push (.cells [.nilsl] 0)).push (.cells [.int .i64 0] 0)).push (.cells [.int .i64 0] 0)).heap.length = R at hR lC ⊢
  generalize ((s.push (.cells [.nilsl] 0)).push (.cells [.int .i64 0] 0)).heap.length = C at hC lB lC ⊢
  generalize (s.push (.cells [.nilsl] 0)).heap.length = B at hB lA lB ⊢
  ((repeat refine c_seq ?_); refine c_region ?_; (repeat (first | ((first | apply o_move rfl rfl | apply o_easy1 rfl rfl rfl | apply o_ld rfl rfl (by assumption) (by first | rfl | assumption)); conv => lhs; whnf) | apply o_no rfl | refine o_b rfl rfl rfl (by constructor; omega) ?_ | refine o_f rfl rfl rfl (by constructor; omega) ?_ | refine o_s rfl rfl rfl (by constructor; first | omega | assumption) ?_ | refine o_t rfl rfl rfl (by constructor; assumption) ?_ | (apply o_easy rfl rfl rfl; conv => lhs; whnf) | apply o_non rfl)); apply o_end; (repeat (first | exact OutS.nil | exact GetS.hit | exact PutS.hit | apply GetS.miss rfl | apply PutS.miss rfl | apply OutS.cons | apply OutS.skip rfl)))
  ((repeat refine c_seq ?_); refine c_else rfl ?_)
  refine c_skip ?_
  ((repeat refine c_seq ?_); refine c_region ?_; (repeat (first | ((first | apply o_move rfl rfl | apply o_easy1 rfl rfl rfl | apply o_ld rfl rfl (by assumption) (by first | rfl | assumption)); conv => lhs; whnf) | apply o_no rfl | refine o_b rfl rfl rfl (by constructor; omega) ?_ | refine o_f rfl rfl rfl (by constructor; omega) ?_ | refine o_s rfl rfl rfl (by constructor; first | omega | assumption) ?_ | refine o_t rfl rfl rfl (by constructor; assumption) ?_ | (apply o_easy rfl rfl rfl; conv => lhs; whnf) | apply o_non rfl)))
  refine o_defer rfl rfl rfl rfl rfl ?_
  (apply o_end; (repeat (first | exact OutS.nil | exact GetS.hit | exact PutS.hit | apply GetS.miss rfl | apply PutS.miss rfl | apply OutS.cons | apply OutS.skip rfl)))
  refine c_seq ?_
  ((repeat refine c_seq ?_); refine c_block ?_)
  refine c_loop (x := lp8_0) ?_
  have h0 : LS s1 R t false 0 255 0 0 (ltk f 0 []) s1 := ⟨⟨_, hR, .inl ⟨rfl, rfl⟩⟩, fun _ _ => rfl⟩
  refine lexg_loop m (b.into .pure s) s1 s.heap.length B C R t (by show s.heap.length ≤ R; omega) rfl ht f (hp _ _ _ (by show s.heap.length ≤ R; omega) rfl) ?_ t [] (m) _ 0 s1 rfl (by omega) h0
  intro x at' s2 h2
  obtain ⟨⟨out, hg, ho⟩, hlow⟩ := h2
  have hA1 := getCells_at hA (hlow _ (by omega))
  have hB1 := getCells_at hB (hlow _ (by omega))
  have hC1 := getCells_at hC (hlow _ (by omega))
  rcases ho with ⟨hz, rfl⟩ | ⟨hne, j, g, rfl, hj, h3⟩
  · have hlay : layOne (((s2.put s.heap.length (.cells [.nilsl] 0)).put B (.cells [.int .i64 0] 0)).put C (.cells [.int .i64 0] 0)).heap s.heap.length (some (some 12)) (.nilsl) = some (.vec (tavs (ltk f 0 t)) .shut) := by rw [hz]; rfl
    show OkC _ _ _ _ _ _ _
    ((repeat refine c_seq ?_); refine c_region ?_; (repeat (first | ((first | apply o_move rfl rfl | apply o_easy1 rfl rfl rfl | apply o_ld rfl rfl (by assumption) (by first | rfl | assumption)); conv => lhs; whnf) | apply o_no rfl | refine o_b rfl rfl rfl (by constructor; omega) ?_ | refine o_f rfl rfl rfl (by constructor; omega) ?_ | refine o_s rfl rfl rfl (by constructor; first | omega | assumption) ?_ | refine o_t rfl rfl rfl (by constructor; assumption) ?_ | (apply o_easy rfl rfl rfl; conv => lhs; whnf) | apply o_non rfl)))
    refine o_st rfl rfl rfl rfl hA1 rfl (lets_nil (blt_no (by show s.heap.length ≤ s.heap.length; omega)) rfl) (cs' := [.nilsl]) rfl ?_
    have hA2 := getCells_put (cs' := [.nilsl]) (g' := 0) hA1
    have hB2 := getCells_put_ne (i := s.heap.length) (o := .cells [.nilsl] 0) (by omega) hB1
    have hC2 := getCells_put_ne (i := s.heap.length) (o := .cells [.nilsl] 0) (by omega) hC1
    refine o_st rfl rfl rfl rfl hB2 rfl (lets_of (blt_no (by show s.heap.length ≤ B; omega)) (fun e => rfl)) (cs' := [.int .i64 0]) rfl ?_
    have hA3 := getCells_put_ne (i := B) (o := .cells [.int .i64 0] 0) (by omega) hA2
    have hB3 := getCells_put (cs' := [.int .i64 0]) (g' := 0) hB2
    have hC3 := getCells_put_ne (i := B) (o := .cells [.int .i64 0] 0) (by omega) hC2
    refine o_st rfl rfl rfl rfl hC3 rfl (lets_of (blt_no (by show s.heap.length ≤ C; omega)) (fun e => rfl)) (cs' := [.int .i64 0]) rfl ?_
    have hA4 := getCells_put_ne (i := C) (o := .cells [.int .i64 0] 0) (by omega) hA3
    have hB4 := getCells_put_ne (i := C) (o := .cells [.int .i64 0] 0) (by omega) hB3
    have hC4 := getCells_put (cs' := [.int .i64 0]) (g' := 0) hC3
    generalize ((s2.put s.heap.length (.cells [.nilsl] 0)).put B (.cells [.int .i64 0] 0)).put C (.cells [.int .i64 0] 0) = s3 at hA4 hB4 hC4 hlay ⊢
    (apply o_end; (repeat (first | exact OutS.nil | exact GetS.hit | exact PutS.hit | apply GetS.miss rfl | apply PutS.miss rfl | apply OutS.cons | apply OutS.skip rfl)))
    refine c_ret (fin_def (.inl ⟨rfl, rfl⟩) ?_)
    apply d_wp rfl rfl
    · repeat (first | exact Shape.nil | (apply Shape.cons; (conv => lhs; whnf)))
    refine c_seq (c_region ?_)
    refine o_recq rfl ?_
    (apply o_end; (repeat (first | exact OutS.nil | exact GetS.hit | exact PutS.hit | apply GetS.miss rfl | apply PutS.miss rfl | apply OutS.cons | apply OutS.skip rfl)))
    ((repeat refine c_seq ?_); refine c_block ?_)
    ((repeat refine c_seq ?_); refine c_region ?_; (repeat (first | ((first | apply o_move rfl rfl | apply o_easy1 rfl rfl rfl | apply o_ld rfl rfl (by assumption) (by first | rfl | assumption)); conv => lhs; whnf) | apply o_no rfl | refine o_b rfl rfl rfl (by constructor; omega) ?_ | refine o_f rfl rfl rfl (by constructor; omega) ?_ | refine o_s rfl rfl rfl (by constructor; first | omega | assumption) ?_ | refine o_t rfl rfl rfl (by constructor; assumption) ?_ | (apply o_easy rfl rfl rfl; conv => lhs; whnf) | apply o_non rfl)); apply o_end; (repeat (first | exact OutS.nil | exact GetS.hit | exact PutS.hit | apply GetS.miss rfl | apply PutS.miss rfl | apply OutS.cons | apply OutS.skip rfl)))
    ((repeat refine c_seq ?_); refine c_if rfl ?_)
    ((repeat refine c_seq ?_); refine c_region ?_; (repeat (first | ((first | apply o_move rfl rfl | apply o_easy1 rfl rfl rfl | apply o_ld rfl rfl (by assumption) (by first | rfl | assumption)); conv => lhs; whnf) | apply o_no rfl | refine o_b rfl rfl rfl (by constructor; omega) ?_ | refine o_f rfl rfl rfl (by constructor; omega) ?_ | refine o_s rfl rfl rfl (by constructor; first | omega | assumption) ?_ | refine o_t rfl rfl rfl (by constructor; assumption) ?_ | (apply o_easy rfl rfl rfl; conv => lhs; whnf) | apply o_non rfl)); apply o_end; (repeat (first | exact OutS.nil | exact GetS.hit | exact PutS.hit | apply GetS.miss rfl | apply PutS.miss rfl | apply OutS.cons | apply OutS.skip rfl)))
    refine ⟨.inl rfl, rfl, rfl, ?_⟩
    exact end_ret (read_cell rfl hA4 rfl (read_cell rfl hB4 rfl (read_cell rfl hC4 rfl read_nil))) (leave_pure (lay_cons hlay (lay_cons rfl (lay_cons rfl lay_nil))) (by simp only [AV.oldAll, AV.old, tavs_old, Bool.and_true]; rfl)) ⟨rfl, rfl⟩
  · have hlay : layOne (((s2.put s.heap.length (.cells [.ms j g 0 (ltk f 0 t).length (ltk f 0 t).length 12] 0)).put B (.cells [.int .i64 0] 0)).put C (.cells [.int .i64 0] 0)).heap s.heap.length (some (some 12)) (.ms j g 0 (ltk f 0 t).length (ltk f 0 t).length 12) = some (.vec (tavs (ltk f 0 t)) .shut) := by
      refine layOne_ms (by omega) (getCells_put_ne (by omega) (getCells_put_ne (by omega) (getCells_put_ne (by omega) h3))) (tavs_chunk _) (tavs_old _ _)
    show OkC _ _ _ _ _ _ _
    ((repeat refine c_seq ?_); refine c_region ?_; (repeat (first | ((first | apply o_move rfl rfl | apply o_easy1 rfl rfl rfl | apply o_ld rfl rfl (by assumption) (by first | rfl | assumption)); conv => lhs; whnf) | apply o_no rfl | refine o_b rfl rfl rfl (by constructor; omega) ?_ | refine o_f rfl rfl rfl (by constructor; omega) ?_ | refine o_s rfl rfl rfl (by constructor; first | omega | assumption) ?_ | refine o_t rfl rfl rfl (by constructor; assumption) ?_ | (apply o_easy rfl rfl rfl; conv => lhs; whnf) | apply o_non rfl)))
    refine o_st rfl rfl rfl rfl hA1 rfl (lets_nil (blt_no (by show s.heap.length ≤ s.heap.length; omega)) rfl) (cs' := [.ms j g 0 (ltk f 0 t).length (ltk f 0 t).length 12]) rfl ?_
    have hA2 := getCells_put (cs' := [.ms j g 0 (ltk f 0 t).length (ltk f 0 t).length 12]) (g' := 0) hA1
    have hB2 := getCells_put_ne (i := s.heap.length) (o := .cells [.ms j g 0 (ltk f 0 t).length (ltk f 0 t).length 12] 0) (by omega) hB1
    have hC2 := getCells_put_ne (i := s.heap.length) (o := .cells [.ms j g 0 (ltk f 0 t).length (ltk f 0 t).length 12] 0) (by omega) hC1
    refine o_st rfl rfl rfl rfl hB2 rfl (lets_of (blt_no (by show s.heap.length ≤ B; omega)) (fun e => rfl)) (cs' := [.int .i64 0]) rfl ?_
    have hA3 := getCells_put_ne (i := B) (o := .cells [.int .i64 0] 0) (by omega) hA2
    have hB3 := getCells_put (cs' := [.int .i64 0]) (g' := 0) hB2
    have hC3 := getCells_put_ne (i := B) (o := .cells [.int .i64 0] 0) (by omega) hC2
    refine o_st rfl rfl rfl rfl hC3 rfl (lets_of (blt_no (by show s.heap.length ≤ C; omega)) (fun e => rfl)) (cs' := [.int .i64 0]) rfl ?_
    have hA4 := getCells_put_ne (i := C) (o := .cells [.int .i64 0] 0) (by omega) hA3
    have hB4 := getCells_put_ne (i := C) (o := .cells [.int .i64 0] 0) (by omega) hB3
    have hC4 := getCells_put (cs' := [.int .i64 0]) (g' := 0) hC3
    generalize ((s2.put s.heap.length (.cells [.ms j g 0 (ltk f 0 t).length (ltk f 0 t).length 12] 0)).put B (.cells [.int .i64 0] 0)).put C (.cells [.int .i64 0] 0) = s3 at hA4 hB4 hC4 hlay ⊢
    (apply o_end; (repeat (first | exact OutS.nil | exact GetS.hit | exact PutS.hit | apply GetS.miss rfl | apply PutS.miss rfl | apply OutS.cons | apply OutS.skip rfl)))
    refine c_ret (fin_def (.inl ⟨rfl, rfl⟩) ?_)
    apply d_wp rfl rfl
    · repeat (first | exact Shape.nil | (apply Shape.cons; (conv => lhs; whnf)))
    refine c_seq (c_region ?_)
    refine o_recq rfl ?_
    (apply o_end; (repeat (first | exact OutS.nil | exact GetS.hit | exact PutS.hit | apply GetS.miss rfl | apply PutS.miss rfl | apply OutS.cons | apply OutS.skip rfl)))
    ((repeat refine c_seq ?_); refine c_block ?_)
    ((repeat refine c_seq ?_); refine c_region ?_; (repeat (first | ((first | apply o_move rfl rfl | apply o_easy1 rfl rfl rfl | apply o_ld rfl rfl (by assumption) (by first | rfl | assumption)); conv => lhs; whnf) | apply o_no rfl | refine o_b rfl rfl rfl (by constructor; omega) ?_ | refine o_f rfl rfl rfl (by constructor; omega) ?_ | refine o_s rfl rfl rfl (by constructor; first | omega | assumption) ?_ | refine o_t rfl rfl rfl (by constructor; assumption) ?_ | (apply o_easy rfl rfl rfl; conv => lhs; whnf) | apply o_non rfl)); apply o_end; (repeat (first | exact OutS.nil | exact GetS.hit | exact PutS.hit | apply GetS.miss rfl | apply PutS.miss rfl | apply OutS.cons | apply OutS.skip rfl)))
    ((repeat refine c_seq ?_); refine c_if rfl ?_)
    ((repeat refine c_seq ?_); refine c_region ?_; (repeat (first | ((first | apply o_move rfl rfl | apply o_easy1 rfl rfl rfl | apply o_ld rfl rfl (by assumption) (by first | rfl | assumption)); conv => lhs; whnf) | apply o_no rfl | refine o_b rfl rfl rfl (by constructor; omega) ?_ | refine o_f rfl rfl rfl (by constructor; omega) ?_ | refine o_s rfl rfl rfl (by constructor; first | omega | assumption) ?_ | refine o_t rfl rfl rfl (by constructor; assumption) ?_ | (apply o_easy rfl rfl rfl; conv => lhs; whnf) | apply o_non rfl)); apply o_end; (repeat (first | exact OutS.nil | exact GetS.hit | exact PutS.hit | apply GetS.miss rfl | apply PutS.miss rfl | apply OutS.cons | apply OutS.skip rfl)))
    refine ⟨.inl rfl, rfl, rfl, ?_⟩
    exact end_ret (read_cell rfl hA4 rfl (read_cell rfl hB4 rfl (read_cell rfl hC4 rfl read_nil))) (leave_pure (lay_cons hlay (lay_cons rfl (lay_cons rfl lay_nil))) (by simp only [AV.oldAll, AV.old, tavs_old, Bool.and_true]; rfl)) ⟨rfl, rfl⟩

end Go.Tok

namespace Go.Tok
open Go Go.Am Go.Proofs

/-- how bytes that are gathered lie -/
def RepB (t0 : Nat) (s : Sg) (v : AV) (l : List UInt8) : Prop :=
  (l = [] ∧ v = .nilsl) ∨ ∃ i n, v = .vec (Am.byteCells l) (.tok i n) ∧ s.toks[i]? = some n ∧ t0 ≤ i

theorem RepB.defd {t0 : Nat} {s : Sg} {v : AV} {l : List UInt8} (hr : RepB t0 s v l) : v.def? = some v := by
  rcases hr with ⟨_, rfl⟩ | ⟨i, n, rfl, _⟩ <;> rfl

theorem RepB.same {t0 : Nat} {s s' : Sg} {v : AV} {l : List UInt8} (hr : RepB t0 s v l) (h : s'.toks = s.toks) : RepB t0 s' v l := by
  rcases hr with h1 | ⟨i, n, h1, h2, h3⟩
  · exact .inl h1
  · exact .inr ⟨i, n, h1, by rw [h]; exact h2, h3⟩

theorem bc_app (a b : List UInt8) : Am.byteCells (a ++ b) = Am.byteCells a ++ Am.byteCells b := by simp [Am.byteCells]
theorem bc_nil (a : List UInt8) : Am.byteCells a = [] ↔ a = [] := by simp [Am.byteCells]

/-- an append of bytes -/
theorem o_appB {call : CallFn} {b : Bar} {g : Option (Nat × Bool)} {r : List AOper} {loc : Env} {fr : Fr} {s : Sg} {Q : Ex → Env → Fr → Sg → Prop} {x y : AOpd} {t t0 : Nat} {v u : AV} {l p : List UInt8} (hg : wantedA loc fr.pers g = some true) (hx : x.ev loc fr.pers = some v) (hv : RepB t0 s v l) (hbt : b.t ≤ t0) (ht0 : t0 ≤ s.toks.length) (hy : y.ev loc fr.pers = some u) (hu : elemsOf s.heap none u = some (Am.byteCells p)) (hl : l.length + p.length ≤ 2 ^ 40)
    (hr : ∀ v' s', RepB t0 s' v' (l ++ p) → s'.heap = s.heap → s.toks.length ≤ s'.toks.length → OkO call b r ((t, v') :: loc) fr s' Q) : OkO call b (⟨some t, .e (.append false none 1 x y), g⟩ :: r) loc fr s Q := by
  by_cases hp : p = []
  · subst hp
    refine o_app_none hg hx ?_ hy hu (by simp [Am.byteCells]) (hr v s (by simpa using hv) rfl (Nat.le_refl _))
    rcases hv with ⟨_, rfl⟩ | ⟨i, n, rfl, _⟩
    · exact .inl rfl
    · exact .inr ⟨_, _, rfl⟩
  · have hne : Am.byteCells p ≠ [] := fun e => hp ((bc_nil p).mp e)
    have hs : (allSize ((none : Option Nat).getD 1) (Am.byteCells p) && allOneAll (Am.byteCells p)) = true := by
      rw [Bool.and_eq_true]
      exact ⟨Am.byteCells_size p, Am.byteCells_one p⟩
    rcases hv with ⟨rfl, rfl⟩ | ⟨i, n, rfl, hn, hi⟩
    · refine o_app_first hg hx hy hu hs hne (ble_of (by rw [Am.byteCells_length]; simp [limit] at hl ⊢; omega)) (hr _ _ (.inr ⟨s.toks.length, 0, rfl, by simp, ht0⟩) rfl (by simp))
    · refine o_app_tok hg hx hy hu hs (Am.byteCells_size l) hne (ble_of (by rw [Am.byteCells_length, Am.byteCells_length]; simp only [limit]; omega)) (blt_no (by omega)) hn (hr _ _ (.inr ⟨i, n + 1, by rw [bc_app], ?_, hi⟩) rfl (by simp [length_setAt]))
      have := lt_of_getElem? hn
      simp [getElem?_setAt, this]


/-- Lex, of options that there are not -/
theorem lex_opts (t : List UInt8) (o : Int) (ho : o < 0 ∨ o > 65535) (m : Nat) (b : Bar) (s : Sg) (a0 : AV) (h0 : a0.weak = .vec (Am.byteCells t) .shut) :
    callF T (m + 1) b 8 [a0, .int .i64 o] s = some (.ret (.tup [.vec [] .shut, .int .i64 1, .int .i64 0]), s) := by
  suffices h : OkF (callF T (m + 1) b 8 [a0, .int .i64 o] s) (fun x s' => x = .ret (.tup [.vec [] .shut, .int .i64 1, .int .i64 0]) ∧ s' = s) by
    obtain ⟨x, s', h1, rfl, rfl⟩ := h.ok
    exact h1
  have hw0 : AV.weakAll [a0, .int .i64 o] = [.vec (Am.byteCells t) .shut, .int .i64 o] := by
    simp only [AV.weakAll, h0]
    rfl
  apply f_wp rfl rfl
  · show Shape (bindArgs (AV.weakAll [a0, _]) _) _
    rw [hw0]
    repeat (first | exact Shape.nil | (apply Shape.cons; (conv => lhs; whnf)))
  ((repeat refine c_seq ?_); refine c_region ?_; (repeat (first | ((first | apply o_move rfl rfl | apply o_easy1 rfl rfl rfl | apply o_ld rfl rfl (by assumption) (by first | rfl | assumption)); conv => lhs; whnf) | apply o_no rfl | refine o_b rfl rfl rfl (by constructor; omega) ?_ | refine o_f rfl rfl rfl (by constructor; omega) ?_ | refine o_s rfl rfl rfl (by constructor; first | omega | assumption) ?_ | refine o_t rfl rfl rfl (by constructor; assumption) ?_ | (apply o_easy rfl rfl rfl; conv => lhs; whnf) | apply o_non rfl)))
  refine o_alloc rfl ?_
  refine o_alloc rfl ?_
  refine o_alloc rfl ?_
  (apply o_end; (repeat (first | exact OutS.nil | exact GetS.hit | exact PutS.hit | apply GetS.miss rfl | apply PutS.miss rfl | apply OutS.cons | apply OutS.skip rfl)))
  have hA := getCells_push (.cells [.int .i64 0] 0) (getCells_push (.cells [.int .i64 0] 0) (getCells_new s [.nilsl] 0))
  have hB := getCells_push (.cells [.int .i64 0] 0) (getCells_new (s.push (.cells [.nilsl] 0)) [.int .i64 0] 0)
  have hC := getCells_new ((s.push (.cells [.nilsl] 0)).push (.cells [.int .i64 0] 0)) [.int .i64 0] 0
  have lA : s.heap.length < (s.push (.cells [.nilsl] 0)).heap.length := by rw [Sg.push_len]; omega
  have lB : (s.push (.cells [.nilsl] 0)).heap.length < ((s.push (.cells [.nilsl] 0)).push (.cells [.int .i64 0] 0)).heap.length := by rw [Sg.push_len (s.push _)]; omega
  generalize (((s.push (.cells [.nilsl] 0)).push (.cells [.int .i64 0] 0)).push (.cells [.int .i64 0] 0)) = s1 at hA hB hC ⊢
  generalize ((s.push (.cells [.nilsl] 0)).push (.cells [.int .i64 0] 0)).heap.length = C at hC lB ⊢
  generalize (s.push (.cells [.nilsl] 0)).heap.length = B at hB lA lB ⊢
  rcases Int.lt_or_le o 0 with h | h
  · ((repeat refine c_seq ?_); refine c_region ?_; (repeat (first | ((first | apply o_move rfl rfl | apply o_easy1 rfl rfl rfl | apply o_ld rfl rfl (by assumption) (by first | rfl | assumption)); conv => lhs; whnf) | apply o_no rfl | refine o_b rfl rfl rfl (by constructor; omega) ?_ | refine o_f rfl rfl rfl (by constructor; omega) ?_ | refine o_s rfl rfl rfl (by constructor; first | omega | assumption) ?_ | refine o_t rfl rfl rfl (by constructor; assumption) ?_ | (apply o_easy rfl rfl rfl; conv => lhs; whnf) | apply o_non rfl)); apply o_end; (repeat (first | exact OutS.nil | exact GetS.hit | exact PutS.hit | apply GetS.miss rfl | apply PutS.miss rfl | apply OutS.cons | apply OutS.skip rfl)))
    ((repeat refine c_seq ?_); refine c_if rfl ?_)
    ((repeat refine c_seq ?_); refine c_region ?_; (repeat (first | ((first | apply o_move rfl rfl | apply o_easy1 rfl rfl rfl | apply o_ld rfl rfl (by assumption) (by first | rfl | assumption)); conv => lhs; whnf) | apply o_no rfl | refine o_b rfl rfl rfl (by constructor; omega) ?_ | refine o_f rfl rfl rfl (by constructor; omega) ?_ | refine o_s rfl rfl rfl (by constructor; first | omega | assumption) ?_ | refine o_t rfl rfl rfl (by constructor; assumption) ?_ | (apply o_easy rfl rfl rfl; conv => lhs; whnf) | apply o_non rfl)))
    refine o_st rfl rfl rfl rfl hA rfl (lets_of (blt_no (by show s.heap.length ≤ s.heap.length; omega)) (fun e => rfl)) (cs' := [.nilsl]) rfl ?_
    have hA2 := getCells_put (cs' := [.nilsl]) (g' := 0) hA
    have hB2 := getCells_put_ne (i := s.heap.length) (o := .cells [.nilsl] 0) (by omega) hB
    have hC2 := getCells_put_ne (i := s.heap.length) (o := .cells [.nilsl] 0) (by omega) hC
    refine o_st rfl rfl rfl rfl hB2 rfl (lets_of (blt_no (by show s.heap.length ≤ B; omega)) (fun e => rfl)) (cs' := [.int .i64 1]) rfl ?_
    have hA3 := getCells_put_ne (i := B) (o := .cells [.int .i64 1] 0) (by omega) hA2
    have hB3 := getCells_put (cs' := [.int .i64 1]) (g' := 0) hB2
    have hC3 := getCells_put_ne (i := B) (o := .cells [.int .i64 1] 0) (by omega) hC2
    refine o_st rfl rfl rfl rfl hC3 rfl (lets_of (blt_no (by show s.heap.length ≤ C; omega)) (fun e => rfl)) (cs' := [.int .i64 0]) rfl ?_
    have hA4 := getCells_put_ne (i := C) (o := .cells [.int .i64 0] 0) (by omega) hA3
    have hB4 := getCells_put_ne (i := C) (o := .cells [.int .i64 0] 0) (by omega) hB3
    have hC4 := getCells_put (cs' := [.int .i64 0]) (g' := 0) hC3
    (apply o_end; (repeat (first | exact OutS.nil | exact GetS.hit | exact PutS.hit | apply GetS.miss rfl | apply PutS.miss rfl | apply OutS.cons | apply OutS.skip rfl)))
    refine c_ret ?_
    show OkF (endRet _ _ _ _) _
    exact end_ret (read_cell rfl hA4 rfl (read_cell rfl hB4 rfl (read_cell rfl hC4 rfl read_nil))) (leave_pure (lay_cons rfl (lay_cons rfl (lay_cons rfl lay_nil))) (by simp [AV.oldAll, AV.old, AV.weak])) ⟨rfl, rfl⟩
  · ((repeat refine c_seq ?_); refine c_region ?_; (repeat (first | ((first | apply o_move rfl rfl | apply o_easy1 rfl rfl rfl | apply o_ld rfl rfl (by assumption) (by first | rfl | assumption)); conv => lhs; whnf) | apply o_no rfl | refine o_b rfl rfl rfl (by constructor; omega) ?_ | refine o_f rfl rfl rfl (by constructor; omega) ?_ | refine o_s rfl rfl rfl (by constructor; first | omega | assumption) ?_ | refine o_t rfl rfl rfl (by constructor; assumption) ?_ | (apply o_easy rfl rfl rfl; conv => lhs; whnf) | apply o_non rfl)); apply o_end; (repeat (first | exact OutS.nil | exact GetS.hit | exact PutS.hit | apply GetS.miss rfl | apply PutS.miss rfl | apply OutS.cons | apply OutS.skip rfl)))
    ((repeat refine c_seq ?_); refine c_if rfl ?_)
    ((repeat refine c_seq ?_); refine c_region ?_; (repeat (first | ((first | apply o_move rfl rfl | apply o_easy1 rfl rfl rfl | apply o_ld rfl rfl (by assumption) (by first | rfl | assumption)); conv => lhs; whnf) | apply o_no rfl | refine o_b rfl rfl rfl (by constructor; omega) ?_ | refine o_f rfl rfl rfl (by constructor; omega) ?_ | refine o_s rfl rfl rfl (by constructor; first | omega | assumption) ?_ | refine o_t rfl rfl rfl (by constructor; assumption) ?_ | (apply o_easy rfl rfl rfl; conv => lhs; whnf) | apply o_non rfl)))
    refine o_st rfl rfl rfl rfl hA rfl (lets_of (blt_no (by show s.heap.length ≤ s.heap.length; omega)) (fun e => rfl)) (cs' := [.nilsl]) rfl ?_
    have hA2 := getCells_put (cs' := [.nilsl]) (g' := 0) hA
    have hB2 := getCells_put_ne (i := s.heap.length) (o := .cells [.nilsl] 0) (by omega) hB
    have hC2 := getCells_put_ne (i := s.heap.length) (o := .cells [.nilsl] 0) (by omega) hC
    refine o_st rfl rfl rfl rfl hB2 rfl (lets_of (blt_no (by show s.heap.length ≤ B; omega)) (fun e => rfl)) (cs' := [.int .i64 1]) rfl ?_
    have hA3 := getCells_put_ne (i := B) (o := .cells [.int .i64 1] 0) (by omega) hA2
    have hB3 := getCells_put (cs' := [.int .i64 1]) (g' := 0) hB2
    have hC3 := getCells_put_ne (i := B) (o := .cells [.int .i64 1] 0) (by omega) hC2
    refine o_st rfl rfl rfl rfl hC3 rfl (lets_of (blt_no (by show s.heap.length ≤ C; omega)) (fun e => rfl)) (cs' := [.int .i64 0]) rfl ?_
    have hA4 := getCells_put_ne (i := C) (o := .cells [.int .i64 0] 0) (by omega) hA3
    have hB4 := getCells_put_ne (i := C) (o := .cells [.int .i64 0] 0) (by omega) hB3
    have hC4 := getCells_put (cs' := [.int .i64 0]) (g' := 0) hC3
    (apply o_end; (repeat (first | exact OutS.nil | exact GetS.hit | exact PutS.hit | apply GetS.miss rfl | apply PutS.miss rfl | apply OutS.cons | apply OutS.skip rfl)))
    refine c_ret ?_
    show OkF (endRet _ _ _ _) _
    exact end_ret (read_cell rfl hA4 rfl (read_cell rfl hB4 rfl (read_cell rfl hC4 rfl read_nil))) (leave_pure (lay_cons rfl (lay_cons rfl (lay_cons rfl lay_nil))) (by simp [AV.oldAll, AV.old, AV.weak])) ⟨rfl, rfl⟩

/-- Lex, of what is too long -/
theorem lex_long (t : List UInt8) (ht : t.length > 1000) (m : Nat) (b : Bar) (s : Sg) (a0 : AV) (h0 : a0.weak = .vec (Am.byteCells t) .shut) :
    callF T (m + 1) b 8 [a0, .int .i64 0] s = some (.ret (.tup [.vec [] .shut, .int .i64 10, .int .i64 1000]), s) := by
  have hbl := Am.byteCells_length t
  suffices h : OkF (callF T (m + 1) b 8 [a0, .int .i64 0] s) (fun x s' => x = .ret (.tup [.vec [] .shut, .int .i64 10, .int .i64 1000]) ∧ s' = s) by
    obtain ⟨x, s', h1, rfl, rfl⟩ := h.ok
    exact h1
  have hw0 : AV.weakAll [a0, .int .i64 0] = [.vec (Am.byteCells t) .shut, .int .i64 0] := by
    simp only [AV.weakAll, h0]
    rfl
  apply f_wp rfl rfl
  · show Shape (bindArgs (AV.weakAll [a0, _]) _) _
    rw [hw0]
    repeat (first | exact Shape.nil | (apply Shape.cons; (conv => lhs; whnf)))
  ((repeat refine c_seq ?_); refine c_region ?_; (repeat (first | ((first | apply o_move rfl rfl | apply o_easy1 rfl rfl rfl | apply o_ld rfl rfl (by assumption) (by first | rfl | assumption)); conv => lhs; whnf) | apply o_no rfl | refine o_b rfl rfl rfl (by constructor; omega) ?_ | refine o_f rfl rfl rfl (by constructor; omega) ?_ | refine o_s rfl rfl rfl (by constructor; first | omega | assumption) ?_ | refine o_t rfl rfl rfl (by constructor; assumption) ?_ | (apply o_easy rfl rfl rfl; conv => lhs; whnf) | apply o_non rfl)))
  refine o_alloc rfl ?_
  refine o_alloc rfl ?_
  refine o_alloc rfl ?_
  (apply o_end; (repeat (first | exact OutS.nil | exact GetS.hit | exact PutS.hit | apply GetS.miss rfl | apply PutS.miss rfl | apply OutS.cons | apply OutS.skip rfl)))
  have hA := getCells_push (.cells [.int .i64 0] 0) (getCells_push (.cells [.int .i64 0] 0) (getCells_new s [.nilsl] 0))
  have hB := getCells_push (.cells [.int .i64 0] 0) (getCells_new (s.push (.cells [.nilsl] 0)) [.int .i64 0] 0)
  have hC := getCells_new ((s.push (.cells [.nilsl] 0)).push (.cells [.int .i64 0] 0)) [.int .i64 0] 0
  have lA : s.heap.length < (s.push (.cells [.nilsl] 0)).heap.length := by rw [Sg.push_len]; omega
  have lB : (s.push (.cells [.nilsl] 0)).heap.length < ((s.push (.cells [.nilsl] 0)).push (.cells [.int .i64 0] 0)).heap.length := by rw [Sg.push_len (s.push _)]; omega
  generalize (((s.push (.cells [.nilsl] 0)).push (.cells [.int .i64 0] 0)).push (.cells [.int .i64 0] 0)) = s1 at hA hB hC ⊢
  generalize ((s.push (.cells [.nilsl] 0)).push (.cells [.int .i64 0] 0)).heap.length = C at hC lB ⊢
  generalize (s.push (.cells [.nilsl] 0)).heap.length = B at hB lA lB ⊢
  ((repeat refine c_seq ?_); refine c_region ?_; (repeat (first | ((first | apply o_move rfl rfl | apply o_easy1 rfl rfl rfl | apply o_ld rfl rfl (by assumption) (by first | rfl | assumption)); conv => lhs; whnf) | apply o_no rfl | refine o_b rfl rfl rfl (by constructor; omega) ?_ | refine o_f rfl rfl rfl (by constructor; omega) ?_ | refine o_s rfl rfl rfl (by constructor; first | omega | assumption) ?_ | refine o_t rfl rfl rfl (by constructor; assumption) ?_ | (apply o_easy rfl rfl rfl; conv => lhs; whnf) | apply o_non rfl)); apply o_end; (repeat (first | exact OutS.nil | exact GetS.hit | exact PutS.hit | apply GetS.miss rfl | apply PutS.miss rfl | apply OutS.cons | apply OutS.skip rfl)))
  ((repeat refine c_seq ?_); refine c_else rfl ?_)
  refine c_skip ?_
  ((repeat refine c_seq ?_); refine c_region ?_; (repeat (first | ((first | apply o_move rfl rfl | apply o_easy1 rfl rfl rfl | apply o_ld rfl rfl (by assumption) (by first | rfl | assumption)); conv => lhs; whnf) | apply o_no rfl | refine o_b rfl rfl rfl (by constructor; omega) ?_ | refine o_f rfl rfl rfl (by constructor; omega) ?_ | refine o_s rfl rfl rfl (by constructor; first | omega | assumption) ?_ | refine o_t rfl rfl rfl (by constructor; assumption) ?_ | (apply o_easy rfl rfl rfl; conv => lhs; whnf) | apply o_non rfl)); apply o_end; (repeat (first | exact OutS.nil | exact GetS.hit | exact PutS.hit | apply GetS.miss rfl | apply PutS.miss rfl | apply OutS.cons | apply OutS.skip rfl)))
  ((repeat refine c_seq ?_); refine c_if rfl ?_)
  ((repeat refine c_seq ?_); refine c_region ?_; (repeat (first | ((first | apply o_move rfl rfl | apply o_easy1 rfl rfl rfl | apply o_ld rfl rfl (by assumption) (by first | rfl | assumption)); conv => lhs; whnf) | apply o_no rfl | refine o_b rfl rfl rfl (by constructor; omega) ?_ | refine o_f rfl rfl rfl (by constructor; omega) ?_ | refine o_s rfl rfl rfl (by constructor; first | omega | assumption) ?_ | refine o_t rfl rfl rfl (by constructor; assumption) ?_ | (apply o_easy rfl rfl rfl; conv => lhs; whnf) | apply o_non rfl)))
  refine o_st rfl rfl rfl rfl hA rfl (lets_of (blt_no (by show s.heap.length ≤ s.heap.length; omega)) (fun e => rfl)) (cs' := [.nilsl]) rfl ?_
  have hA2 := getCells_put (cs' := [.nilsl]) (g' := 0) hA
  have hB2 := getCells_put_ne (i := s.heap.length) (o := .cells [.nilsl] 0) (by omega) hB
  have hC2 := getCells_put_ne (i := s.heap.length) (o := .cells [.nilsl] 0) (by omega) hC
  refine o_st rfl rfl rfl rfl hB2 rfl (lets_of (blt_no (by show s.heap.length ≤ B; omega)) (fun e => rfl)) (cs' := [.int .i64 10]) rfl ?_
  have hA3 := getCells_put_ne (i := B) (o := .cells [.int .i64 10] 0) (by omega) hA2
  have hB3 := getCells_put (cs' := [.int .i64 10]) (g' := 0) hB2
  have hC3 := getCells_put_ne (i := B) (o := .cells [.int .i64 10] 0) (by omega) hC2
  refine o_st rfl rfl rfl rfl hC3 rfl (lets_of (blt_no (by show s.heap.length ≤ C; omega)) (fun e => rfl)) (cs' := [.int .i64 1000]) rfl ?_
  have hA4 := getCells_put_ne (i := C) (o := .cells [.int .i64 1000] 0) (by omega) hA3
  have hB4 := getCells_put_ne (i := C) (o := .cells [.int .i64 1000] 0) (by omega) hB3
  have hC4 := getCells_put (cs' := [.int .i64 1000]) (g' := 0) hC3
  (apply o_end; (repeat (first | exact OutS.nil | exact GetS.hit | exact PutS.hit | apply GetS.miss rfl | apply PutS.miss rfl | apply OutS.cons | apply OutS.skip rfl)))
  refine c_ret ?_
  show OkF (endRet _ _ _ _) _
  exact end_ret (read_cell rfl hA4 rfl (read_cell rfl hB4 rfl (read_cell rfl hC4 rfl read_nil))) (leave_pure (lay_cons rfl (lay_cons rfl (lay_cons rfl lay_nil))) (by simp [AV.oldAll, AV.old, AV.weak])) ⟨rfl, rfl⟩

end Go.Tok

namespace Go.Tok
open Go Go.Am Go.Proofs

theorem bc_take (l : List UInt8) (n : Nat) : (Am.byteCells l).take n = Am.byteCells (l.take n) := by simp [Am.byteCells, List.map_take]

section
variable {call : CallFn} {b : Bar} {g : Option (Nat × Bool)} {r : List AOper} {loc : Env} {fr : Fr} {s : Sg} {Q : Ex → Env → Fr → Sg → Prop}

theorem o_slTo {l : List UInt8} {x hi : AOpd} {t j : Nat} {z : Int} {k : IntKind} (hg : wantedA loc fr.pers g = some true) (hx : x.ev loc fr.pers = some (.str l)) (hh : hi.ev loc fr.pers = some (.int k z)) (hz : z = (j : Int)) (hj : j ≤ l.length) (hr : OkO call b r ((t, .str (l.take j)) :: loc) fr s Q) : OkO call b (⟨some t, .v (.sliceS x none (some hi)), g⟩ :: r) loc fr s Q := by
  subst hz
  refine o_slS (u := none) (w := some (.int k (j : Int))) (i := 0) (j := j) hg hx rfl (by simp only [evOpt, hh, Option.map_some]) ?_ ?_ ?_
  · simp only [bnd]; rw [if_pos ⟨by omega, by omega⟩]; simp
  · rfl
  · simpa using hr

theorem o_slFrom {l : List UInt8} {x lo : AOpd} {t i : Nat} {z : Int} {k : IntKind} (hg : wantedA loc fr.pers g = some true) (hx : x.ev loc fr.pers = some (.str l)) (hh : lo.ev loc fr.pers = some (.int k z)) (hz : z = (i : Int)) (hj : i ≤ l.length) (hr : OkO call b r ((t, .str (l.drop i)) :: loc) fr s Q) : OkO call b (⟨some t, .v (.sliceS x (some lo) none), g⟩ :: r) loc fr s Q := by
  subst hz
  refine o_slS (u := some (.int k (i : Int))) (w := none) (i := i) (j := l.length) hg hx (by simp only [evOpt, hh, Option.map_some]) rfl ?_ ?_ ?_
  · rfl
  · simp only [bnd]; rw [if_pos ⟨by omega, by omega⟩]; simp
  · rw [List.take_of_length_le (by simp)]; exact hr
end

/-- strings.HasPrefix, of one character -/
theorem pre_spec (m : Nat) (b : Bar) (l : List UInt8) (c : UInt8) (v : Bool) (s : Sg) (ht : l.length < 2 ^ 40) (hv : v = (l.head? == some c)) :
    callF T (m + 2) b 26 [.str l, .str [c]] s = some (.ret (.bool v), s) := by
  have h39 : callF T (m + 1) (b.into .pure s) 39 [.str l, .str [c]] s = some (.ret (.bool v), s) := by
    cases l with
    | nil =>
      subst hv
      (apply f_of rfl rfl; (repeat (first | exact Shape.nil | (apply Shape.cons; conv => lhs; whnf))))
      ((repeat refine c_seq ?_); refine c_region ?_; (repeat (first | ((first | apply o_move rfl rfl | apply o_easy1 rfl rfl rfl | apply o_ld rfl rfl (by assumption) (by first | rfl | assumption)); conv => lhs; whnf) | apply o_no rfl | refine o_b rfl rfl rfl (by constructor; omega) ?_ | refine o_f rfl rfl rfl (by constructor; omega) ?_ | refine o_s rfl rfl rfl (by constructor; first | omega | assumption) ?_ | refine o_t rfl rfl rfl (by constructor; assumption) ?_ | (apply o_easy rfl rfl rfl; conv => lhs; whnf) | apply o_non rfl)); apply o_end; (repeat (first | exact OutS.nil | exact GetS.hit | exact PutS.hit | apply GetS.miss rfl | apply PutS.miss rfl | apply OutS.cons | apply OutS.skip rfl)))
      ((repeat refine c_seq ?_); refine c_region ?_; (repeat (first | ((first | apply o_move rfl rfl | apply o_easy1 rfl rfl rfl | apply o_ld rfl rfl (by assumption) (by first | rfl | assumption)); conv => lhs; whnf) | apply o_no rfl | refine o_b rfl rfl rfl (by constructor; omega) ?_ | refine o_f rfl rfl rfl (by constructor; omega) ?_ | refine o_s rfl rfl rfl (by constructor; first | omega | assumption) ?_ | refine o_t rfl rfl rfl (by constructor; assumption) ?_ | (apply o_easy rfl rfl rfl; conv => lhs; whnf) | apply o_non rfl)); apply o_end; (repeat (first | exact OutS.nil | exact GetS.hit | exact PutS.hit | apply GetS.miss rfl | apply PutS.miss rfl | apply OutS.cons | apply OutS.skip rfl)))
      exact c_ret rfl
    | cons d r =>
      subst hv
      have hl1 : (d :: r).length = r.length + 1 := rfl
      have hl2 : [c].length = 1 := rfl
      (apply f_of rfl rfl; (repeat (first | exact Shape.nil | (apply Shape.cons; conv => lhs; whnf))))
      ((repeat refine c_seq ?_); refine c_region ?_; (repeat (first | ((first | apply o_move rfl rfl | apply o_easy1 rfl rfl rfl | apply o_ld rfl rfl (by assumption) (by first | rfl | assumption)); conv => lhs; whnf) | apply o_no rfl | refine o_b rfl rfl rfl (by constructor; omega) ?_ | refine o_f rfl rfl rfl (by constructor; omega) ?_ | refine o_s rfl rfl rfl (by constructor; first | omega | assumption) ?_ | refine o_t rfl rfl rfl (by constructor; assumption) ?_ | (apply o_easy rfl rfl rfl; conv => lhs; whnf) | apply o_non rfl)); apply o_end; (repeat (first | exact OutS.nil | exact GetS.hit | exact PutS.hit | apply GetS.miss rfl | apply PutS.miss rfl | apply OutS.cons | apply OutS.skip rfl)))
      ((repeat refine c_seq ?_); refine c_region ?_; (repeat (first | ((first | apply o_move rfl rfl | apply o_easy1 rfl rfl rfl | apply o_ld rfl rfl (by assumption) (by first | rfl | assumption)); conv => lhs; whnf) | apply o_no rfl | refine o_b rfl rfl rfl (by constructor; omega) ?_ | refine o_f rfl rfl rfl (by constructor; omega) ?_ | refine o_s rfl rfl rfl (by constructor; first | omega | assumption) ?_ | refine o_t rfl rfl rfl (by constructor; assumption) ?_ | (apply o_easy rfl rfl rfl; conv => lhs; whnf) | apply o_non rfl)))
      refine o_slTo (l := d :: r) (j := 1) rfl rfl rfl rfl (by omega) ?_
      by_cases hd : d = c
      · subst hd
        have he : (d :: r).take 1 = [d] := rfl
        (repeat (first | ((first | apply o_move rfl rfl | apply o_easy1 rfl rfl rfl | apply o_ld rfl rfl (by assumption) (by first | rfl | assumption)); conv => lhs; whnf) | apply o_no rfl | refine o_b rfl rfl rfl (by constructor; omega) ?_ | refine o_f rfl rfl rfl (by constructor; omega) ?_ | refine o_s rfl rfl rfl (by constructor; first | omega | assumption) ?_ | refine o_t rfl rfl rfl (by constructor; assumption) ?_ | (apply o_easy rfl rfl rfl; conv => lhs; whnf) | apply o_non rfl))
        (apply o_end; (repeat (first | exact OutS.nil | exact GetS.hit | exact PutS.hit | apply GetS.miss rfl | apply PutS.miss rfl | apply OutS.cons | apply OutS.skip rfl)))
        exact c_ret (by rw [show ((d :: r).head? == some d) = true by simp]; rfl)
      · have hne : ([d] : List UInt8) ≠ [c] := by simpa using hd
        (repeat (first | ((first | apply o_move rfl rfl | apply o_easy1 rfl rfl rfl | apply o_ld rfl rfl (by assumption) (by first | rfl | assumption)); conv => lhs; whnf) | apply o_no rfl | refine o_b rfl rfl rfl (by constructor; omega) ?_ | refine o_f rfl rfl rfl (by constructor; omega) ?_ | refine o_s rfl rfl rfl (by constructor; first | omega | assumption) ?_ | refine o_t rfl rfl rfl (by constructor; assumption) ?_ | (apply o_easy rfl rfl rfl; conv => lhs; whnf) | apply o_non rfl))
        (apply o_end; (repeat (first | exact OutS.nil | exact GetS.hit | exact PutS.hit | apply GetS.miss rfl | apply PutS.miss rfl | apply OutS.cons | apply OutS.skip rfl)))
        exact c_ret (by rw [show ((d :: r).head? == some c) = false by simpa using hd]; rfl)
  (apply f_of rfl rfl; (repeat (first | exact Shape.nil | (apply Shape.cons; conv => lhs; whnf))))
  ((repeat refine c_seq ?_); refine c_region ?_; (repeat (first | ((first | apply o_move rfl rfl | apply o_easy1 rfl rfl rfl | apply o_ld rfl rfl (by assumption) (by first | rfl | assumption)); conv => lhs; whnf) | apply o_no rfl | refine o_b rfl rfl rfl (by constructor; omega) ?_ | refine o_f rfl rfl rfl (by constructor; omega) ?_ | refine o_s rfl rfl rfl (by constructor; first | omega | assumption) ?_ | refine o_t rfl rfl rfl (by constructor; assumption) ?_ | (apply o_easy rfl rfl rfl; conv => lhs; whnf) | apply o_non rfl)); apply o_end; (repeat (first | exact OutS.nil | exact GetS.hit | exact PutS.hit | apply GetS.miss rfl | apply PutS.miss rfl | apply OutS.cons | apply OutS.skip rfl)))
  ((repeat refine c_seq ?_); refine c_region ?_; (repeat (first | ((first | apply o_move rfl rfl | apply o_easy1 rfl rfl rfl | apply o_ld rfl rfl (by assumption) (by first | rfl | assumption)); conv => lhs; whnf) | apply o_no rfl | refine o_b rfl rfl rfl (by constructor; omega) ?_ | refine o_f rfl rfl rfl (by constructor; omega) ?_ | refine o_s rfl rfl rfl (by constructor; first | omega | assumption) ?_ | refine o_t rfl rfl rfl (by constructor; assumption) ?_ | (apply o_easy rfl rfl rfl; conv => lhs; whnf) | apply o_non rfl)))
  refine o_call rfl rfl h39 ?_
  (repeat (first | ((first | apply o_move rfl rfl | apply o_easy1 rfl rfl rfl | apply o_ld rfl rfl (by assumption) (by first | rfl | assumption)); conv => lhs; whnf) | apply o_no rfl | refine o_b rfl rfl rfl (by constructor; omega) ?_ | refine o_f rfl rfl rfl (by constructor; omega) ?_ | refine o_s rfl rfl rfl (by constructor; first | omega | assumption) ?_ | refine o_t rfl rfl rfl (by constructor; assumption) ?_ | (apply o_easy rfl rfl rfl; conv => lhs; whnf) | apply o_non rfl))
  (apply o_end; (repeat (first | exact OutS.nil | exact GetS.hit | exact PutS.hit | apply GetS.miss rfl | apply PutS.miss rfl | apply OutS.cons | apply OutS.skip rfl)))
  exact c_ret rfl


/-- (*lexer).take, of what isn't there -/
theorem take_no (m : Nat) (b : Bar) (t : List UInt8) (u : Bool) (o mx : Int) (at' i r : Nat) (out : AV) (c : UInt8) (s : Sg) (ht : t.length < 2 ^ 40) (hi : i ≤ t.length) (hc : t[i]? ≠ some c) (hg : getCells s.heap r 0 = some (lx t u o mx at' i out)) :
    callF T (m + 3) b 17 [.ptr r 0 0, .str [c]] s = some (.ret (.bool false), s) := by
  have hh : ((t.drop i).head? == some c) = false := by
    rw [List.head?_drop]
    simpa using hc
  have hs : ({ heap := s.heap.take s.heap.length, toks := s.toks } : Sg) = s := by rw [List.take_length]
  (apply f_of rfl rfl; (repeat (first | exact Shape.nil | (apply Shape.cons; conv => lhs; whnf))))
  ((repeat refine c_seq ?_); refine c_region ?_; (repeat (first | ((first | apply o_move rfl rfl | apply o_easy1 rfl rfl rfl | apply o_ld rfl rfl (by assumption) (by first | rfl | assumption)); conv => lhs; whnf) | apply o_no rfl | refine o_b rfl rfl rfl (by constructor; omega) ?_ | refine o_f rfl rfl rfl (by constructor; omega) ?_ | refine o_s rfl rfl rfl (by constructor; first | omega | assumption) ?_ | refine o_t rfl rfl rfl (by constructor; assumption) ?_ | (apply o_easy rfl rfl rfl; conv => lhs; whnf) | apply o_non rfl)); apply o_end; (repeat (first | exact OutS.nil | exact GetS.hit | exact PutS.hit | apply GetS.miss rfl | apply PutS.miss rfl | apply OutS.cons | apply OutS.skip rfl)))
  ((repeat refine c_seq ?_); refine c_drawn ?_; (repeat (first | ((first | apply o_move rfl rfl | apply o_easy1 rfl rfl rfl | apply o_ld rfl rfl (by assumption) (by first | rfl | assumption)); conv => lhs; whnf) | apply o_no rfl | refine o_b rfl rfl rfl (by constructor; omega) ?_ | refine o_f rfl rfl rfl (by constructor; omega) ?_ | refine o_s rfl rfl rfl (by constructor; first | omega | assumption) ?_ | refine o_t rfl rfl rfl (by constructor; assumption) ?_ | (apply o_easy rfl rfl rfl; conv => lhs; whnf) | apply o_non rfl)))
  refine o_slFrom (l := t) (i := i) rfl rfl rfl rfl hi ?_
  (repeat (first | ((first | apply o_move rfl rfl | apply o_easy1 rfl rfl rfl | apply o_ld rfl rfl (by assumption) (by first | rfl | assumption)); conv => lhs; whnf) | apply o_no rfl | refine o_b rfl rfl rfl (by constructor; omega) ?_ | refine o_f rfl rfl rfl (by constructor; omega) ?_ | refine o_s rfl rfl rfl (by constructor; first | omega | assumption) ?_ | refine o_t rfl rfl rfl (by constructor; assumption) ?_ | (apply o_easy rfl rfl rfl; conv => lhs; whnf) | apply o_non rfl))
  refine o_call rfl rfl (pre_spec m _ (t.drop i) c false s (by rw [List.length_drop]; omega) hh.symm) ?_
  (repeat (first | ((first | apply o_move rfl rfl | apply o_easy1 rfl rfl rfl | apply o_ld rfl rfl (by assumption) (by first | rfl | assumption)); conv => lhs; whnf) | apply o_no rfl | refine o_b rfl rfl rfl (by constructor; omega) ?_ | refine o_f rfl rfl rfl (by constructor; omega) ?_ | refine o_s rfl rfl rfl (by constructor; first | omega | assumption) ?_ | refine o_t rfl rfl rfl (by constructor; assumption) ?_ | (apply o_easy rfl rfl rfl; conv => lhs; whnf) | apply o_non rfl))
  (apply d_end rfl; (repeat (first | exact OutS.nil | exact GetS.hit | exact PutS.hit | apply GetS.miss rfl | apply PutS.miss rfl | apply OutS.cons | apply OutS.skip rfl)))
  ((repeat refine c_seq ?_); refine c_else rfl ?_)
  refine c_skip ?_
  ((repeat refine c_seq ?_); refine c_region ?_; (repeat (first | ((first | apply o_move rfl rfl | apply o_easy1 rfl rfl rfl | apply o_ld rfl rfl (by assumption) (by first | rfl | assumption)); conv => lhs; whnf) | apply o_no rfl | refine o_b rfl rfl rfl (by constructor; omega) ?_ | refine o_f rfl rfl rfl (by constructor; omega) ?_ | refine o_s rfl rfl rfl (by constructor; first | omega | assumption) ?_ | refine o_t rfl rfl rfl (by constructor; assumption) ?_ | (apply o_easy rfl rfl rfl; conv => lhs; whnf) | apply o_non rfl)); apply o_end; (repeat (first | exact OutS.nil | exact GetS.hit | exact PutS.hit | apply GetS.miss rfl | apply PutS.miss rfl | apply OutS.cons | apply OutS.skip rfl)))
  refine c_ret ?_
  show some (Out.ret _, ({ heap := s.heap.take s.heap.length, toks := s.toks } : Sg)) = _
  rw [hs]
  rfl

/-- (*lexer).open, of a group that is numbered -/
theorem open_spec (m : Nat) (b : Bar) (s0 : Sg) (t : List UInt8) (u : Bool) (o mx : Int) (at' i r : Nat) (l : List Tk) (s : Sg) (hb : b.w ≤ r) (hes : b.es = []) (ht : t.length < 2 ^ 40) (hl : l.length < 2 ^ 20) (hi : i ≤ t.length) (h1 : t[i]? ≠ some 42) (h2 : t[i]? ≠ some 63) (h : LS s0 r t u o mx at' i l s) :
    OkF (callF T (m + 4) b 20 [.ptr r 0 0] s) fun out s' => out = .ret (.tup []) ∧ LS s0 r t u o mx at' i (l ++ [⟨10, at', i, 0, 1, 0, 0⟩]) s' := by
  have h' := h
  obtain ⟨⟨out, hg, ho⟩, hlow⟩ := h'
  (apply f_wp rfl rfl; (repeat (first | exact Shape.nil | (apply Shape.cons; conv => lhs; whnf))))
  ((repeat refine c_seq ?_); refine c_block ?_)
  ((repeat refine c_seq ?_); refine c_region ?_; (repeat (first | ((first | apply o_move rfl rfl | apply o_easy1 rfl rfl rfl | apply o_ld rfl rfl (by assumption) (by first | rfl | assumption)); conv => lhs; whnf) | apply o_no rfl | refine o_b rfl rfl rfl (by constructor; omega) ?_ | refine o_f rfl rfl rfl (by constructor; omega) ?_ | refine o_s rfl rfl rfl (by constructor; first | omega | assumption) ?_ | refine o_t rfl rfl rfl (by constructor; assumption) ?_ | (apply o_easy rfl rfl rfl; conv => lhs; whnf) | apply o_non rfl)))
  refine o_call rfl rfl (take_no m _ t u o mx at' i r out 42 s ht hi h1 hg) ?_
  (repeat (first | ((first | apply o_move rfl rfl | apply o_easy1 rfl rfl rfl | apply o_ld rfl rfl (by assumption) (by first | rfl | assumption)); conv => lhs; whnf) | apply o_no rfl | refine o_b rfl rfl rfl (by constructor; omega) ?_ | refine o_f rfl rfl rfl (by constructor; omega) ?_ | refine o_s rfl rfl rfl (by constructor; first | omega | assumption) ?_ | refine o_t rfl rfl rfl (by constructor; assumption) ?_ | (apply o_easy rfl rfl rfl; conv => lhs; whnf) | apply o_non rfl))
  (apply o_end; (repeat (first | exact OutS.nil | exact GetS.hit | exact PutS.hit | apply GetS.miss rfl | apply PutS.miss rfl | apply OutS.cons | apply OutS.skip rfl)))
  ((repeat refine c_seq ?_); refine c_else rfl ?_)
  ((repeat refine c_seq ?_); refine c_region ?_; (repeat (first | ((first | apply o_move rfl rfl | apply o_easy1 rfl rfl rfl | apply o_ld rfl rfl (by assumption) (by first | rfl | assumption)); conv => lhs; whnf) | apply o_no rfl | refine o_b rfl rfl rfl (by constructor; omega) ?_ | refine o_f rfl rfl rfl (by constructor; omega) ?_ | refine o_s rfl rfl rfl (by constructor; first | omega | assumption) ?_ | refine o_t rfl rfl rfl (by constructor; assumption) ?_ | (apply o_easy rfl rfl rfl; conv => lhs; whnf) | apply o_non rfl)))
  refine o_call rfl rfl (take_no m _ t u o mx at' i r out 63 s ht hi h2 hg) ?_
  (repeat (first | ((first | apply o_move rfl rfl | apply o_easy1 rfl rfl rfl | apply o_ld rfl rfl (by assumption) (by first | rfl | assumption)); conv => lhs; whnf) | apply o_no rfl | refine o_b rfl rfl rfl (by constructor; omega) ?_ | refine o_f rfl rfl rfl (by constructor; omega) ?_ | refine o_s rfl rfl rfl (by constructor; first | omega | assumption) ?_ | refine o_t rfl rfl rfl (by constructor; assumption) ?_ | (apply o_easy rfl rfl rfl; conv => lhs; whnf) | apply o_non rfl))
  (apply o_end; (repeat (first | exact OutS.nil | exact GetS.hit | exact PutS.hit | apply GetS.miss rfl | apply PutS.miss rfl | apply OutS.cons | apply OutS.skip rfl)))
  ((repeat refine c_seq ?_); refine c_else rfl ?_)
  ((repeat refine c_seq ?_); refine c_region ?_; (repeat (first | ((first | apply o_move rfl rfl | apply o_easy1 rfl rfl rfl | apply o_ld rfl rfl (by assumption) (by first | rfl | assumption)); conv => lhs; whnf) | apply o_no rfl | refine o_b rfl rfl rfl (by constructor; omega) ?_ | refine o_f rfl rfl rfl (by constructor; omega) ?_ | refine o_s rfl rfl rfl (by constructor; first | omega | assumption) ?_ | refine o_t rfl rfl rfl (by constructor; assumption) ?_ | (apply o_easy rfl rfl rfl; conv => lhs; whnf) | apply o_non rfl)))
  refine o_callw (l := [.ptr r 0 0, (⟨10, 0, 0, 0, 1, 0, 0⟩ : Tk).av]) rfl rfl ((put_spec (m + 2) (b.into af20.mode s) s0 t u o mx at' i r l ⟨10, 0, 0, 0, 1, 0, 0⟩ _ hb hes hl h).mono ?_)
  rintro _ s2 ⟨rfl, h2⟩
  (apply o_end; (repeat (first | exact OutS.nil | exact GetS.hit | exact PutS.hit | apply GetS.miss rfl | apply PutS.miss rfl | apply OutS.cons | apply OutS.skip rfl)))
  exact ⟨_, _, rfl, rfl, h2⟩

/-- a round of the lexer at a group that is numbered -/
theorem one_paren (m : Nat) (b : Bar) (s0 : Sg) (t : List UInt8) (mx : Int) (at' i r : Nat) (l : List Tk) (s : Sg) (hb : b.w ≤ r) (hes : b.es = []) (ht : t.length < 2 ^ 40) (hl : l.length < 2 ^ 20) (hc : t[i]? = some 40) (h1 : t[i + 1]? ≠ some 42) (h2 : t[i + 1]? ≠ some 63) (h : LS s0 r t false 0 mx at' i l s) :
    OkF (callF T (m + 5) b 12 [.ptr r 0 0] s) fun out s' => out = .ret (.tup []) ∧ LS s0 r t false 0 mx at' (i + 1) (l ++ [⟨10, at', (i + 1 : Nat), 0, 1, 0, 0⟩]) s' := by
  obtain ⟨⟨out, hg, ho⟩, hlow⟩ := h
  have hr := getCells_lt hg
  have hi := lt_of_getElem? hc
  (apply f_wp rfl rfl; (repeat (first | exact Shape.nil | (apply Shape.cons; conv => lhs; whnf))))
  ((repeat refine c_seq ?_); refine c_region ?_; (repeat (first | ((first | apply o_move rfl rfl | apply o_easy1 rfl rfl rfl | apply o_ld rfl rfl (by assumption) (by first | rfl | assumption)); conv => lhs; whnf) | apply o_no rfl | refine o_b rfl rfl rfl (by constructor; omega) ?_ | refine o_f rfl rfl rfl (by constructor; omega) ?_ | refine o_s rfl rfl rfl (by constructor; first | omega | assumption) ?_ | refine o_t rfl rfl rfl (by constructor; assumption) ?_ | (apply o_easy rfl rfl rfl; conv => lhs; whnf) | apply o_non rfl)))
  refine o_call rfl rfl (char_spec (m + 2) _ t 0 mx at' i r out 40 s hb ht hc hg) ?_
  (repeat (first | ((first | apply o_move rfl rfl | apply o_easy1 rfl rfl rfl | apply o_ld rfl rfl (by assumption) (by first | rfl | assumption)); conv => lhs; whnf) | apply o_no rfl | refine o_b rfl rfl rfl (by constructor; omega) ?_ | refine o_f rfl rfl rfl (by constructor; omega) ?_ | refine o_s rfl rfl rfl (by constructor; first | omega | assumption) ?_ | refine o_t rfl rfl rfl (by constructor; assumption) ?_ | (apply o_easy rfl rfl rfl; conv => lhs; whnf) | apply o_non rfl))
  (apply o_end; (repeat (first | exact OutS.nil | exact GetS.hit | exact PutS.hit | apply GetS.miss rfl | apply PutS.miss rfl | apply OutS.cons | apply OutS.skip rfl)))
  have hL : LS s0 r t false 0 mx at' (i + 1) l (s.put r (.cells (lx t false 0 mx at' (i + 1) out) 0)) := LS.put hg ho hlow
  have hg' := getCells_put (cs' := lx t false 0 mx at' (i + 1) out) (g' := 0) hg
  ((repeat refine c_seq ?_); refine c_block ?_)
  ((repeat refine c_seq ?_); refine c_region ?_; (repeat (first | ((first | apply o_move rfl rfl | apply o_easy1 rfl rfl rfl | apply o_ld rfl rfl (by assumption) (by first | rfl | assumption)); conv => lhs; whnf) | apply o_no rfl | refine o_b rfl rfl rfl (by constructor; omega) ?_ | refine o_f rfl rfl rfl (by constructor; omega) ?_ | refine o_s rfl rfl rfl (by constructor; first | omega | assumption) ?_ | refine o_t rfl rfl rfl (by constructor; assumption) ?_ | (apply o_easy rfl rfl rfl; conv => lhs; whnf) | apply o_non rfl)))
  refine o_w (v := .int .i64 0) rfl rfl ?_
  (repeat (first | ((first | apply o_move rfl rfl | apply o_easy1 rfl rfl rfl | apply o_ld rfl rfl (by assumption) (by first | rfl | assumption)); conv => lhs; whnf) | apply o_no rfl | refine o_b rfl rfl rfl (by constructor; omega) ?_ | refine o_f rfl rfl rfl (by constructor; omega) ?_ | refine o_s rfl rfl rfl (by constructor; first | omega | assumption) ?_ | refine o_t rfl rfl rfl (by constructor; assumption) ?_ | (apply o_easy rfl rfl rfl; conv => lhs; whnf) | apply o_non rfl))
  (apply o_end; (repeat (first | exact OutS.nil | exact GetS.hit | exact PutS.hit | apply GetS.miss rfl | apply PutS.miss rfl | apply OutS.cons | apply OutS.skip rfl)))
  ((repeat refine c_seq ?_); refine c_else rfl ?_)
  ((repeat refine c_seq ?_); refine c_region ?_; (repeat (first | ((first | apply o_move rfl rfl | apply o_easy1 rfl rfl rfl | apply o_ld rfl rfl (by assumption) (by first | rfl | assumption)); conv => lhs; whnf) | apply o_no rfl | refine o_b rfl rfl rfl (by constructor; omega) ?_ | refine o_f rfl rfl rfl (by constructor; omega) ?_ | refine o_s rfl rfl rfl (by constructor; first | omega | assumption) ?_ | refine o_t rfl rfl rfl (by constructor; assumption) ?_ | (apply o_easy rfl rfl rfl; conv => lhs; whnf) | apply o_non rfl)))
  refine o_w (v := .int .i64 0) rfl rfl ?_
  (repeat (first | ((first | apply o_move rfl rfl | apply o_easy1 rfl rfl rfl | apply o_ld rfl rfl (by assumption) (by first | rfl | assumption)); conv => lhs; whnf) | apply o_no rfl | refine o_b rfl rfl rfl (by constructor; omega) ?_ | refine o_f rfl rfl rfl (by constructor; omega) ?_ | refine o_s rfl rfl rfl (by constructor; first | omega | assumption) ?_ | refine o_t rfl rfl rfl (by constructor; assumption) ?_ | (apply o_easy rfl rfl rfl; conv => lhs; whnf) | apply o_non rfl))
  (apply o_end; (repeat (first | exact OutS.nil | exact GetS.hit | exact PutS.hit | apply GetS.miss rfl | apply PutS.miss rfl | apply OutS.cons | apply OutS.skip rfl)))
  ((repeat refine c_seq ?_); refine c_else rfl ?_)
  ((repeat refine c_seq ?_); refine c_region ?_; (repeat (first | ((first | apply o_move rfl rfl | apply o_easy1 rfl rfl rfl | apply o_ld rfl rfl (by assumption) (by first | rfl | assumption)); conv => lhs; whnf) | apply o_no rfl | refine o_b rfl rfl rfl (by constructor; omega) ?_ | refine o_f rfl rfl rfl (by constructor; omega) ?_ | refine o_s rfl rfl rfl (by constructor; first | omega | assumption) ?_ | refine o_t rfl rfl rfl (by constructor; assumption) ?_ | (apply o_easy rfl rfl rfl; conv => lhs; whnf) | apply o_non rfl)); apply o_end; (repeat (first | exact OutS.nil | exact GetS.hit | exact PutS.hit | apply GetS.miss rfl | apply PutS.miss rfl | apply OutS.cons | apply OutS.skip rfl)))
  ((repeat refine c_seq ?_); refine c_else rfl ?_)
  ((repeat refine c_seq ?_); refine c_region ?_; (repeat (first | ((first | apply o_move rfl rfl | apply o_easy1 rfl rfl rfl | apply o_ld rfl rfl (by assumption) (by first | rfl | assumption)); conv => lhs; whnf) | apply o_no rfl | refine o_b rfl rfl rfl (by constructor; omega) ?_ | refine o_f rfl rfl rfl (by constructor; omega) ?_ | refine o_s rfl rfl rfl (by constructor; first | omega | assumption) ?_ | refine o_t rfl rfl rfl (by constructor; assumption) ?_ | (apply o_easy rfl rfl rfl; conv => lhs; whnf) | apply o_non rfl)); apply o_end; (repeat (first | exact OutS.nil | exact GetS.hit | exact PutS.hit | apply GetS.miss rfl | apply PutS.miss rfl | apply OutS.cons | apply OutS.skip rfl)))
  ((repeat refine c_seq ?_); refine c_else rfl ?_)
  ((repeat refine c_seq ?_); refine c_region ?_; (repeat (first | ((first | apply o_move rfl rfl | apply o_easy1 rfl rfl rfl | apply o_ld rfl rfl (by assumption) (by first | rfl | assumption)); conv => lhs; whnf) | apply o_no rfl | refine o_b rfl rfl rfl (by constructor; omega) ?_ | refine o_f rfl rfl rfl (by constructor; omega) ?_ | refine o_s rfl rfl rfl (by constructor; first | omega | assumption) ?_ | refine o_t rfl rfl rfl (by constructor; assumption) ?_ | (apply o_easy rfl rfl rfl; conv => lhs; whnf) | apply o_non rfl)); apply o_end; (repeat (first | exact OutS.nil | exact GetS.hit | exact PutS.hit | apply GetS.miss rfl | apply PutS.miss rfl | apply OutS.cons | apply OutS.skip rfl)))
  ((repeat refine c_seq ?_); refine c_if rfl ?_)
  ((repeat refine c_seq ?_); refine c_region ?_; (repeat (first | ((first | apply o_move rfl rfl | apply o_easy1 rfl rfl rfl | apply o_ld rfl rfl (by assumption) (by first | rfl | assumption)); conv => lhs; whnf) | apply o_no rfl | refine o_b rfl rfl rfl (by constructor; omega) ?_ | refine o_f rfl rfl rfl (by constructor; omega) ?_ | refine o_s rfl rfl rfl (by constructor; first | omega | assumption) ?_ | refine o_t rfl rfl rfl (by constructor; assumption) ?_ | (apply o_easy rfl rfl rfl; conv => lhs; whnf) | apply o_non rfl)))
  refine o_callw (l := [.ptr r 0 0]) rfl rfl ((open_spec m (b.into af12.mode s) s0 t false 0 mx at' (i + 1) r l _ hb hes ht hl hi h1 h2 hL).mono ?_)
  rintro _ s2 ⟨rfl, h2⟩
  (apply o_end; (repeat (first | exact OutS.nil | exact GetS.hit | exact PutS.hit | apply GetS.miss rfl | apply PutS.miss rfl | apply OutS.cons | apply OutS.skip rfl)))
  exact ⟨_, _, rfl, rfl, h2⟩

end Go.Tok

namespace Go.Tok
open Go Go.Am Go.Proofs

/-- the loop 0 of function 4 -/
def lp4_0 : ACode := .seq (.seq (.region [⟨(some 35), .v (.move (.tmp 7)), none⟩, ⟨(some 36), .v (.move (.tmp 0)), none⟩, ⟨(some 37), .v (.bin .rem (.tmp 36) (.const (.int .i64 50))), none⟩, ⟨(some 38), .v (.bin .add (.const (.int .i64 1001)) (.tmp 37)), none⟩, ⟨(some 39), .v (.bin .lss (.tmp 35) (.tmp 38)), none⟩] [39]) (.cond (.tmp 39) (.skip) (.exit 0))) (.seq (.block 1 (.region [⟨(some 42), .v (.move (.tmp 6)), none⟩, ⟨(some 43), .v (.buildSl 1 (.int .u8 0) 1 [(0, (.const (.int .u8 40)))]), none⟩, ⟨(some 44), .e (.append false none 1 (.tmp 42) (.tmp 43)), none⟩, ⟨(some 6), .v (.move (.tmp 44)), none⟩] [6])) (.region [⟨(some 40), .v (.move (.tmp 7)), none⟩, ⟨(some 41), .v (.bin .add (.tmp 40) (.const (.int .i64 1))), none⟩, ⟨(some 7), .v (.move (.tmp 41)), none⟩] [7]))

theorem bnd_nat' {k : IntKind} {j n d : Nat} (h : j ≤ n) : bnd (some (.int k (j : Int))) d n = some j := by
  simp only [bnd]; rw [if_pos ⟨by omega, by omega⟩]; simp

section
variable {call : CallFn} {b : Bar} {g : Option (Nat × Bool)} {r : List AOper} {loc : Env} {fr : Fr} {s : Sg} {Q : Ex → Env → Fr → Sg → Prop}

theorem o_slvecTo {sz : Nat} {es q : List AV} {tl : Tail} {x hi : AOpd} {t j : Nat} {z : Int} {k : IntKind} (hg : wantedA loc fr.pers g = some true) (hx : x.ev loc fr.pers = some (.vec es tl)) (hh : hi.ev loc fr.pers = some (.int k z)) (ez : z = (j : Int)) (hj : j ≤ es.length) (hq : es.take j = q)
    (hr : ∀ tl', OkO call b r ((t, .vec q tl') :: loc) fr s Q) : OkO call b (⟨some t, .v (.slice sz x none (some hi) none), g⟩ :: r) loc fr s Q := by
  subst ez hq
  refine o_w (v := .vec (es.take j) (cutTail es.length 0 j (none : Option AV).isSome tl)) hg ?_ (hr _)
  have h1 : bnd (some (.int k (j : Int))) es.length es.length = some j := bnd_nat' hj
  have h2 : bnd none 0 j = some 0 := rfl
  have h3 : bnd none j j = some j := rfl
  simp only [evV, hx, evOpt, hh, Option.map_some, Option.bind_some, h1, h2, h3, Nat.beq_refl, Bool.true_or, Bool.and_self, if_true, List.drop_zero, Nat.sub_zero]

theorem o_rem {x y : AOpd} {t : Nat} {k : IntKind} {a c z : Int} (hg : wantedA loc fr.pers g = some true) (hx : x.ev loc fr.pers = some (.int k a)) (hy : y.ev loc fr.pers = some (.int k c)) (hc : c ≠ 0) (hz : a.tmod c = z) (hr : OkO call b r ((t, .int k z) :: loc) fr s Q) : OkO call b (⟨some t, .v (.bin .rem x y), g⟩ :: r) loc fr s Q := by
  subst hz
  refine o_w hg ?_ hr
  simp only [evV, hx, hy, Option.bind_some, evBin, if_true, intBin, if_neg hc]

theorem o_neg {x : AOpd} {t : Nat} {a z : Int} (hg : wantedA loc fr.pers g = some true) (hx : x.ev loc fr.pers = some (.int .i64 a)) (hz : z = 0 - a) (h0 : -(2 ^ 63) ≤ z) (h1 : z < 2 ^ 63) (hr : OkO call b r ((t, .int .i64 z) :: loc) fr s Q) : OkO call b (⟨some t, .v (.un .neg x), g⟩ :: r) loc fr s Q := by
  subst hz
  refine o_w hg ?_ hr
  simp only [evV, hx, Option.bind_some, evUn, intBin, wrap_i64 h0 h1]
end

theorem evAll2 {loc pers : Env} {x y : AOpd} {a c : AV} (hx : x.ev loc pers = some a) (hy : y.ev loc pers = some c) : evAll loc pers [x, y] = some [a, c] := by
  simp only [evAll, hx, hy, Option.bind_some]

theorem RepB.weak {t0 : Nat} {s : Sg} {v : AV} {l : List UInt8} (hr : RepB t0 s v l) : v.weak = .vec (Am.byteCells l) .shut := by
  rcases hr with ⟨rfl, rfl⟩ | ⟨i, n, rfl, _⟩ <;> rfl

abbrev fr4 (bad : List UInt8) (a : Int) (x31 : AV) (n : Int) (x39 v : AV) : Fr :=
  ⟨[(0, .int .i64 a), (1, .vec (Am.byteCells bad) .shut), (4, .bool false), (5, .bool true), (26, .bool false), (29, .bool false), (31, x31), (7, .int .i64 n), (39, x39), (6, v), (17, .undef), (71, .undef), (9, .undef), (10, .undef), (12, .undef), (13, .undef), (15, .undef), (16, .undef), (19, .undef), (20, .undef), (22, .undef)], [], .off⟩

theorem long_loop (M : Nat) (b : Bar) (bad : List UInt8) (a : Int) (x31 : AV) (N t0 : Nat) (ha : 0 ≤ a) (hN : (1001 + a.tmod 50 : Int) = N) (hN2 : N < 2000) (hbt : b.t ≤ t0) {Q : Ex → Fr → Sg → Prop}
    (hq : ∀ v s', RepB t0 s' v (List.replicate N 40) → t0 ≤ s'.toks.length → Q (.exit 0) (fr4 bad a x31 N (.bool false) v) s') :
    ∀ (d n L : Nat) (x39 v : AV) (s : Sg), n + d = N → d + 1 ≤ L → t0 ≤ s.toks.length → RepB t0 s v (List.replicate n 40) →
    OkL L (fun fr s => ACode.run (loopN M) (callF T M) b lp4_0 fr s) (fr4 bad a x31 n x39 v) s Q := by
  intro d
  induction d with
  | zero =>
    intro n L x39 v s hn hL ht hv
    obtain ⟨L, rfl⟩ : ∃ L', L = L' + 1 := ⟨L - 1, by omega⟩
    obtain rfl : n = N := by omega
    apply l_round
    ((repeat refine c_seq ?_); refine c_region ?_; (repeat (first | ((first | apply o_move rfl rfl | apply o_easy1 rfl rfl rfl | apply o_ld rfl rfl (by assumption) (by first | rfl | assumption)); conv => lhs; whnf) | apply o_no rfl | refine o_b rfl rfl rfl (by constructor; omega) ?_ | refine o_f rfl rfl rfl (by constructor; omega) ?_ | refine o_s rfl rfl rfl (by constructor; first | omega | assumption) ?_ | refine o_t rfl rfl rfl (by constructor; assumption) ?_ | (apply o_easy rfl rfl rfl; conv => lhs; whnf) | apply o_non rfl)))
    refine o_rem rfl rfl rfl (by omega) (z := a.tmod 50) rfl ?_
    (repeat (first | ((first | apply o_move rfl rfl | apply o_easy1 rfl rfl rfl | apply o_ld rfl rfl (by assumption) (by first | rfl | assumption)); conv => lhs; whnf) | apply o_no rfl | refine o_b rfl rfl rfl (by constructor; omega) ?_ | refine o_f rfl rfl rfl (by constructor; omega) ?_ | refine o_s rfl rfl rfl (by constructor; first | omega | assumption) ?_ | refine o_t rfl rfl rfl (by constructor; assumption) ?_ | (apply o_easy rfl rfl rfl; conv => lhs; whnf) | apply o_non rfl))
    (apply o_end; (repeat (first | exact OutS.nil | exact GetS.hit | exact PutS.hit | apply GetS.miss rfl | apply PutS.miss rfl | apply OutS.cons | apply OutS.skip rfl)))
    ((repeat refine c_seq ?_); refine c_else rfl ?_)
    exact c_exit (hq _ _ hv ht)
  | succ d ih =>
    intro n L x39 v s hn hL ht hv
    obtain ⟨L, rfl⟩ : ∃ L', L = L' + 1 := ⟨L - 1, by omega⟩
    apply l_round
    ((repeat refine c_seq ?_); refine c_region ?_; (repeat (first | ((first | apply o_move rfl rfl | apply o_easy1 rfl rfl rfl | apply o_ld rfl rfl (by assumption) (by first | rfl | assumption)); conv => lhs; whnf) | apply o_no rfl | refine o_b rfl rfl rfl (by constructor; omega) ?_ | refine o_f rfl rfl rfl (by constructor; omega) ?_ | refine o_s rfl rfl rfl (by constructor; first | omega | assumption) ?_ | refine o_t rfl rfl rfl (by constructor; assumption) ?_ | (apply o_easy rfl rfl rfl; conv => lhs; whnf) | apply o_non rfl)))
    refine o_rem rfl rfl rfl (by omega) (z := a.tmod 50) rfl ?_
    (repeat (first | ((first | apply o_move rfl rfl | apply o_easy1 rfl rfl rfl | apply o_ld rfl rfl (by assumption) (by first | rfl | assumption)); conv => lhs; whnf) | apply o_no rfl | refine o_b rfl rfl rfl (by constructor; omega) ?_ | refine o_f rfl rfl rfl (by constructor; omega) ?_ | refine o_s rfl rfl rfl (by constructor; first | omega | assumption) ?_ | refine o_t rfl rfl rfl (by constructor; assumption) ?_ | (apply o_easy rfl rfl rfl; conv => lhs; whnf) | apply o_non rfl))
    (apply o_end; (repeat (first | exact OutS.nil | exact GetS.hit | exact PutS.hit | apply GetS.miss rfl | apply PutS.miss rfl | apply OutS.cons | apply OutS.skip rfl)))
    ((repeat refine c_seq ?_); refine c_if rfl ?_)
    refine c_skip ?_
    ((repeat refine c_seq ?_); refine c_block ?_)
    ((repeat refine c_seq ?_); refine c_region ?_; (repeat (first | ((first | apply o_move rfl rfl | apply o_easy1 rfl rfl rfl | apply o_ld rfl rfl (by assumption) (by first | rfl | assumption)); conv => lhs; whnf) | apply o_no rfl | refine o_b rfl rfl rfl (by constructor; omega) ?_ | refine o_f rfl rfl rfl (by constructor; omega) ?_ | refine o_s rfl rfl rfl (by constructor; first | omega | assumption) ?_ | refine o_t rfl rfl rfl (by constructor; assumption) ?_ | (apply o_easy rfl rfl rfl; conv => lhs; whnf) | apply o_non rfl)))
    refine o_move rfl hv.defd rfl ?_
    (repeat (first | ((first | apply o_move rfl rfl | apply o_easy1 rfl rfl rfl | apply o_ld rfl rfl (by assumption) (by first | rfl | assumption)); conv => lhs; whnf) | apply o_no rfl | refine o_b rfl rfl rfl (by constructor; omega) ?_ | refine o_f rfl rfl rfl (by constructor; omega) ?_ | refine o_s rfl rfl rfl (by constructor; first | omega | assumption) ?_ | refine o_t rfl rfl rfl (by constructor; assumption) ?_ | (apply o_easy rfl rfl rfl; conv => lhs; whnf) | apply o_non rfl))
    refine o_appB (p := [40]) rfl hv.defd hv hbt ht rfl rfl (by simp; omega) fun v1 s1 hv1 hh1 ht1 => ?_
    refine o_move rfl hv1.defd rfl ?_
    (apply o_end; (repeat (first | exact OutS.nil | exact GetS.hit | exact PutS.hit | apply GetS.miss rfl | apply PutS.miss rfl | apply OutS.cons | apply OutS.skip rfl)))
    ((repeat refine c_seq ?_); refine c_region ?_; (repeat (first | ((first | apply o_move rfl rfl | apply o_easy1 rfl rfl rfl | apply o_ld rfl rfl (by assumption) (by first | rfl | assumption)); conv => lhs; whnf) | apply o_no rfl | refine o_b rfl rfl rfl (by constructor; omega) ?_ | refine o_f rfl rfl rfl (by constructor; omega) ?_ | refine o_s rfl rfl rfl (by constructor; first | omega | assumption) ?_ | refine o_t rfl rfl rfl (by constructor; assumption) ?_ | (apply o_easy rfl rfl rfl; conv => lhs; whnf) | apply o_non rfl)); apply o_end; (repeat (first | exact OutS.nil | exact GetS.hit | exact PutS.hit | apply GetS.miss rfl | apply PutS.miss rfl | apply OutS.cons | apply OutS.skip rfl)))
    have hrep : List.replicate n (40 : UInt8) ++ [40] = List.replicate (n + 1) 40 := by rw [← List.replicate_succ']
    rw [hrep] at hv1
    exact ih (n + 1) L _ _ _ (by omega) (by omega) (by omega) hv1

end Go.Tok
