/-
  What the lexer comes to, of numbers and of quantifiers in braces.
-/
import Derived.Test.YthlgbcfijipkcaaGreatCountsA
import Derived.Laws.RangeString

namespace Go.Tok
open Go Go.Am Go.Proofs

/-- a number's digits -/
def digM : Nat → Nat → List UInt8
  | 0, n => [(48 + n % 10).toUInt8]
  | f + 1, n => if n < 10 then [(48 + n % 10).toUInt8] else digM f (n / 10) ++ [(48 + n % 10).toUInt8]

/-- the number of digits -/
def valM : List UInt8 → Nat → Nat
  | [], a => a
  | c :: r, a => valM r (a * 10 + (c.toNat - 48))

def isDig (c : UInt8) : Prop := 48 ≤ c.toNat ∧ c.toNat ≤ 57

theorem dig_nat (n : Nat) : (48 + n % 10).toUInt8.toNat = 48 + n % 10 := by
  have : n % 10 < 10 := Nat.mod_lt _ (by decide)
  simp [Nat.toUInt8]
  omega

theorem digM_dig : ∀ (f n : Nat), ∀ c ∈ digM f n, isDig c
  | 0, n, c, h => by
    simp only [digM, List.mem_singleton] at h
    subst h
    have := dig_nat n
    unfold isDig
    omega
  | f + 1, n, c, h => by
    have := dig_nat n
    simp only [digM] at h
    split at h
    · rw [List.mem_singleton] at h; subst h; unfold isDig; omega
    · rcases List.mem_append.1 h with h | h
      · exact digM_dig f _ c h
      · rw [List.mem_singleton] at h; subst h; unfold isDig; omega

theorem digM_len : ∀ (f n : Nat), (digM f n).length ≤ f + 1
  | 0, n => by simp [digM]
  | f + 1, n => by
    simp only [digM]
    split
    · simp
    · have := digM_len f (n / 10); simp; omega

theorem digM_ne : ∀ (f n : Nat), digM f n ≠ []
  | 0, n => by simp [digM]
  | f + 1, n => by
    simp only [digM]
    split <;> simp

theorem valM_app : ∀ (a b : List UInt8) (n : Nat), valM (a ++ b) n = valM b (valM a n)
  | [], _, _ => rfl
  | c :: r, b, n => by simp only [List.cons_append, valM, valM_app r b]

theorem digM_val : ∀ (f n : Nat), n < 10 ^ (f + 1) → valM (digM f n) 0 = n
  | 0, n, h => by
    have := dig_nat n
    simp only [digM, valM, this]
    simp at h; omega
  | f + 1, n, h => by
    have := dig_nat n
    simp only [digM]
    split
    · simp only [valM, this]; omega
    · have ih := digM_val f (n / 10) (by rw [Nat.pow_succ] at h; omega)
      rw [valM_app, ih]
      simp only [valM, this]; omega

theorem valM_le : ∀ (l : List UInt8) (n : Nat), n ≤ valM l n
  | [], n => Nat.le_refl _
  | c :: r, n => by
    have := valM_le r (n * 10 + (c.toNat - 48))
    simp only [valM]; omega

theorem dig_tbl (n : Nat) (h : n < 10) : (([48, 49, 50, 51, 52, 53, 54, 55, 56, 57] : List UInt8).drop n).take (n + 1 - n) = [(48 + n % 10).toUInt8] := by
  match n, h with
  | 0, _ => rfl
  | 1, _ => rfl
  | 2, _ => rfl
  | 3, _ => rfl
  | 4, _ => rfl
  | 5, _ => rfl
  | 6, _ => rfl
  | 7, _ => rfl
  | 8, _ => rfl
  | 9, _ => rfl

theorem dig1_spec (m : Nat) (b : Bar) (n : Nat) (h : n < 10) (s : Sg) : callF T (m + 1) b 9 [.int .i64 n] s = some (.ret (.str [(48 + n % 10).toUInt8]), s) := by
  (apply f_of rfl rfl; (repeat (first | exact Shape.nil | (apply Shape.cons; conv => lhs; whnf))))
  ((repeat refine c_seq ?_); refine c_region ?_; (repeat (first | ((first | apply o_move rfl rfl | apply o_easy1 rfl rfl rfl | apply o_ld rfl rfl (by assumption) (by first | rfl | assumption)); conv => lhs; whnf) | apply o_no rfl | refine o_b rfl rfl rfl (by constructor; omega) ?_ | refine o_f rfl rfl rfl (by constructor; omega) ?_ | refine o_s rfl rfl rfl (by constructor; first | omega | assumption) ?_ | refine o_t rfl rfl rfl (by constructor; assumption) ?_ | (apply o_easy rfl rfl rfl; conv => lhs; whnf) | apply o_non rfl)); apply o_end; (repeat (first | exact OutS.nil | exact GetS.hit | exact PutS.hit | apply GetS.miss rfl | apply PutS.miss rfl | apply OutS.cons | apply OutS.skip rfl)))
  ((repeat refine c_seq ?_); refine c_region ?_; (repeat (first | ((first | apply o_move rfl rfl | apply o_easy1 rfl rfl rfl | apply o_ld rfl rfl (by assumption) (by first | rfl | assumption)); conv => lhs; whnf) | apply o_no rfl | refine o_b rfl rfl rfl (by constructor; omega) ?_ | refine o_f rfl rfl rfl (by constructor; omega) ?_ | refine o_s rfl rfl rfl (by constructor; first | omega | assumption) ?_ | refine o_t rfl rfl rfl (by constructor; assumption) ?_ | (apply o_easy rfl rfl rfl; conv => lhs; whnf) | apply o_non rfl)); apply o_end; (repeat (first | exact OutS.nil | exact GetS.hit | exact PutS.hit | apply GetS.miss rfl | apply PutS.miss rfl | apply OutS.cons | apply OutS.skip rfl)))
  ((repeat refine c_seq ?_); refine c_if rfl ?_)
  ((repeat refine c_seq ?_); refine c_region ?_; (repeat (first | ((first | apply o_move rfl rfl | apply o_easy1 rfl rfl rfl | apply o_ld rfl rfl (by assumption) (by first | rfl | assumption)); conv => lhs; whnf) | apply o_no rfl | refine o_b rfl rfl rfl (by constructor; omega) ?_ | refine o_f rfl rfl rfl (by constructor; omega) ?_ | refine o_s rfl rfl rfl (by constructor; first | omega | assumption) ?_ | refine o_t rfl rfl rfl (by constructor; assumption) ?_ | (apply o_easy rfl rfl rfl; conv => lhs; whnf) | apply o_non rfl)))
  refine o_slS2 (i := n) (j := n + 1) rfl rfl rfl rfl rfl (by omega) (by omega) (by simp; omega) (dig_tbl n h) ?_
  (repeat (first | ((first | apply o_move rfl rfl | apply o_easy1 rfl rfl rfl | apply o_ld rfl rfl (by assumption) (by first | rfl | assumption)); conv => lhs; whnf) | apply o_no rfl | refine o_b rfl rfl rfl (by constructor; omega) ?_ | refine o_f rfl rfl rfl (by constructor; omega) ?_ | refine o_s rfl rfl rfl (by constructor; first | omega | assumption) ?_ | refine o_t rfl rfl rfl (by constructor; assumption) ?_ | (apply o_easy rfl rfl rfl; conv => lhs; whnf) | apply o_non rfl))
  (apply o_end; (repeat (first | exact OutS.nil | exact GetS.hit | exact PutS.hit | apply GetS.miss rfl | apply PutS.miss rfl | apply OutS.cons | apply OutS.skip rfl)))
  exact c_ret rfl

theorem o_quo {call : CallFn} {b : Bar} {g : Option (Nat × Bool)} {r : List AOper} {loc : Env} {fr : Fr} {s : Sg} {Q : Ex → Env → Fr → Sg → Prop} {x y : AOpd} {t : Nat} {a c z : Int} (hg : wantedA loc fr.pers g = some true) (hx : x.ev loc fr.pers = some (.int .i64 a)) (hy : y.ev loc fr.pers = some (.int .i64 c)) (hc : c ≠ 0) (hz : a.tdiv c = z) (h0 : -(2 ^ 63) ≤ z) (h1 : z < 2 ^ 63) (hr : OkO call b r ((t, .int .i64 z) :: loc) fr s Q) : OkO call b (⟨some t, .v (.bin .quo x y), g⟩ :: r) loc fr s Q := by
  subst hz
  refine o_w hg ?_ hr
  simp only [evV, hx, hy, Option.bind_some, evBin, if_true, intBin, if_neg hc, wrap_i64 h0 h1]

theorem digits_spec : ∀ (f m n : Nat) (b : Bar) (s : Sg), n < 10 ^ (f + 1) → f ≤ 10 → callF T (m + f + 1) b 9 [.int .i64 n] s = some (.ret (.str (digM f n)), s)
  | 0, m, n, b, s, h, _ => by
    have := dig1_spec m b n (by simpa using h) s
    exact this
  | f + 1, m, n, b, s, h, hf => by
    by_cases hn : n < 10
    · have := dig1_spec (m + f + 1) b n hn s
      simp only [digM, if_pos hn]
      exact this
    · have hb : n < 10 ^ 12 := Nat.lt_of_lt_of_le h (Nat.pow_le_pow_right (by decide) (by omega))
      have h1 := digits_spec f m (n / 10) (b.into .pure s) s (by rw [Nat.pow_succ] at h; omega) (by omega)
      have h2 := dig1_spec (m + f) (b.into .pure s) (n % 10) (Nat.mod_lt _ (by decide)) s
      have hmm : n % 10 % 10 = n % 10 := by omega
      rw [hmm] at h2
      have hl := digM_len f (n / 10)
      have e1 : ((n : Int).tdiv 10) = ((n / 10 : Nat) : Int) := by rw [Int.tdiv_eq_ediv_of_nonneg (by omega)]; omega
      have e2 : ((n : Int).tmod 10) = ((n % 10 : Nat) : Int) := by rw [Int.tmod_eq_emod_of_nonneg (by omega)]; omega
      simp only [digM, if_neg hn]
      (apply f_of rfl rfl; (repeat (first | exact Shape.nil | (apply Shape.cons; conv => lhs; whnf))))
      ((repeat refine c_seq ?_); refine c_region ?_; (repeat (first | ((first | apply o_move rfl rfl | apply o_easy1 rfl rfl rfl | apply o_ld rfl rfl (by assumption) (by first | rfl | assumption)); conv => lhs; whnf) | apply o_no rfl | refine o_b rfl rfl rfl (by constructor; omega) ?_ | refine o_f rfl rfl rfl (by constructor; omega) ?_ | refine o_s rfl rfl rfl (by constructor; first | omega | assumption) ?_ | refine o_t rfl rfl rfl (by constructor; assumption) ?_ | (apply o_easy rfl rfl rfl; conv => lhs; whnf) | apply o_non rfl)); apply o_end; (repeat (first | exact OutS.nil | exact GetS.hit | exact PutS.hit | apply GetS.miss rfl | apply PutS.miss rfl | apply OutS.cons | apply OutS.skip rfl)))
      ((repeat refine c_seq ?_); refine c_region ?_; (repeat (first | ((first | apply o_move rfl rfl | apply o_easy1 rfl rfl rfl | apply o_ld rfl rfl (by assumption) (by first | rfl | assumption)); conv => lhs; whnf) | apply o_no rfl | refine o_b rfl rfl rfl (by constructor; omega) ?_ | refine o_f rfl rfl rfl (by constructor; omega) ?_ | refine o_s rfl rfl rfl (by constructor; first | omega | assumption) ?_ | refine o_t rfl rfl rfl (by constructor; assumption) ?_ | (apply o_easy rfl rfl rfl; conv => lhs; whnf) | apply o_non rfl)); apply o_end; (repeat (first | exact OutS.nil | exact GetS.hit | exact PutS.hit | apply GetS.miss rfl | apply PutS.miss rfl | apply OutS.cons | apply OutS.skip rfl)))
      ((repeat refine c_seq ?_); refine c_else rfl ?_)
      refine c_skip ?_
      ((repeat refine c_seq ?_); refine c_region ?_; (repeat (first | ((first | apply o_move rfl rfl | apply o_easy1 rfl rfl rfl | apply o_ld rfl rfl (by assumption) (by first | rfl | assumption)); conv => lhs; whnf) | apply o_no rfl | refine o_b rfl rfl rfl (by constructor; omega) ?_ | refine o_f rfl rfl rfl (by constructor; omega) ?_ | refine o_s rfl rfl rfl (by constructor; first | omega | assumption) ?_ | refine o_t rfl rfl rfl (by constructor; assumption) ?_ | (apply o_easy rfl rfl rfl; conv => lhs; whnf) | apply o_non rfl)))
      refine o_quo (z := ((n / 10 : Nat) : Int)) rfl rfl rfl (by omega) e1 (by omega) (by omega) ?_
      refine o_call rfl rfl h1 ?_
      (repeat (first | ((first | apply o_move rfl rfl | apply o_easy1 rfl rfl rfl | apply o_ld rfl rfl (by assumption) (by first | rfl | assumption)); conv => lhs; whnf) | apply o_no rfl | refine o_b rfl rfl rfl (by constructor; omega) ?_ | refine o_f rfl rfl rfl (by constructor; omega) ?_ | refine o_s rfl rfl rfl (by constructor; first | omega | assumption) ?_ | refine o_t rfl rfl rfl (by constructor; assumption) ?_ | (apply o_easy rfl rfl rfl; conv => lhs; whnf) | apply o_non rfl))
      refine o_rem (z := ((n % 10 : Nat) : Int)) rfl rfl rfl (by omega) e2 ?_
      refine o_call rfl rfl h2 ?_
      refine o_sadd rfl rfl rfl (by simp; omega) ?_
      (repeat (first | ((first | apply o_move rfl rfl | apply o_easy1 rfl rfl rfl | apply o_ld rfl rfl (by assumption) (by first | rfl | assumption)); conv => lhs; whnf) | apply o_no rfl | refine o_b rfl rfl rfl (by constructor; omega) ?_ | refine o_f rfl rfl rfl (by constructor; omega) ?_ | refine o_s rfl rfl rfl (by constructor; first | omega | assumption) ?_ | refine o_t rfl rfl rfl (by constructor; assumption) ?_ | (apply o_easy rfl rfl rfl; conv => lhs; whnf) | apply o_non rfl))
      (apply o_end; (repeat (first | exact OutS.nil | exact GetS.hit | exact PutS.hit | apply GetS.miss rfl | apply PutS.miss rfl | apply OutS.cons | apply OutS.skip rfl)))
      exact c_ret rfl

/-- digit -/
theorem digit_yes (m : Nat) (b : Bar) (c : UInt8) (s : Sg) (h : isDig c) : callF T (m + 1) b 41 [.int .u8 c.toNat] s = some (.ret (.bool true), s) := by
  obtain ⟨h1, h2⟩ := h
  (apply f_of rfl rfl; (repeat (first | exact Shape.nil | (apply Shape.cons; conv => lhs; whnf))))
  ((repeat refine c_seq ?_); refine c_region ?_; (repeat (first | ((first | apply o_move rfl rfl | apply o_easy1 rfl rfl rfl | apply o_ld rfl rfl (by assumption) (by first | rfl | assumption)); conv => lhs; whnf) | apply o_no rfl | refine o_b rfl rfl rfl (by constructor; omega) ?_ | refine o_f rfl rfl rfl (by constructor; omega) ?_ | refine o_s rfl rfl rfl (by constructor; first | omega | assumption) ?_ | refine o_t rfl rfl rfl (by constructor; assumption) ?_ | (apply o_easy rfl rfl rfl; conv => lhs; whnf) | apply o_non rfl)); apply o_end; (repeat (first | exact OutS.nil | exact GetS.hit | exact PutS.hit | apply GetS.miss rfl | apply PutS.miss rfl | apply OutS.cons | apply OutS.skip rfl)))
  ((repeat refine c_seq ?_); refine c_region ?_; (repeat (first | ((first | apply o_move rfl rfl | apply o_easy1 rfl rfl rfl | apply o_ld rfl rfl (by assumption) (by first | rfl | assumption)); conv => lhs; whnf) | apply o_no rfl | refine o_b rfl rfl rfl (by constructor; omega) ?_ | refine o_f rfl rfl rfl (by constructor; omega) ?_ | refine o_s rfl rfl rfl (by constructor; first | omega | assumption) ?_ | refine o_t rfl rfl rfl (by constructor; assumption) ?_ | (apply o_easy rfl rfl rfl; conv => lhs; whnf) | apply o_non rfl)); apply o_end; (repeat (first | exact OutS.nil | exact GetS.hit | exact PutS.hit | apply GetS.miss rfl | apply PutS.miss rfl | apply OutS.cons | apply OutS.skip rfl)))
  exact c_ret rfl
theorem digit_no (m : Nat) (b : Bar) (c : UInt8) (s : Sg) (h : ¬ isDig c) : callF T (m + 1) b 41 [.int .u8 c.toNat] s = some (.ret (.bool false), s) := by
  unfold isDig at h
  rcases Nat.lt_or_ge c.toNat 48 with h1 | h1
  · (apply f_of rfl rfl; (repeat (first | exact Shape.nil | (apply Shape.cons; conv => lhs; whnf))))
    ((repeat refine c_seq ?_); refine c_region ?_; (repeat (first | ((first | apply o_move rfl rfl | apply o_easy1 rfl rfl rfl | apply o_ld rfl rfl (by assumption) (by first | rfl | assumption)); conv => lhs; whnf) | apply o_no rfl | refine o_b rfl rfl rfl (by constructor; omega) ?_ | refine o_f rfl rfl rfl (by constructor; omega) ?_ | refine o_s rfl rfl rfl (by constructor; first | omega | assumption) ?_ | refine o_t rfl rfl rfl (by constructor; assumption) ?_ | (apply o_easy rfl rfl rfl; conv => lhs; whnf) | apply o_non rfl)); apply o_end; (repeat (first | exact OutS.nil | exact GetS.hit | exact PutS.hit | apply GetS.miss rfl | apply PutS.miss rfl | apply OutS.cons | apply OutS.skip rfl)))
    ((repeat refine c_seq ?_); refine c_region ?_; (repeat (first | ((first | apply o_move rfl rfl | apply o_easy1 rfl rfl rfl | apply o_ld rfl rfl (by assumption) (by first | rfl | assumption)); conv => lhs; whnf) | apply o_no rfl | refine o_b rfl rfl rfl (by constructor; omega) ?_ | refine o_f rfl rfl rfl (by constructor; omega) ?_ | refine o_s rfl rfl rfl (by constructor; first | omega | assumption) ?_ | refine o_t rfl rfl rfl (by constructor; assumption) ?_ | (apply o_easy rfl rfl rfl; conv => lhs; whnf) | apply o_non rfl)); apply o_end; (repeat (first | exact OutS.nil | exact GetS.hit | exact PutS.hit | apply GetS.miss rfl | apply PutS.miss rfl | apply OutS.cons | apply OutS.skip rfl)))
    exact c_ret rfl
  · have h2 : 57 < c.toNat := by omega
    (apply f_of rfl rfl; (repeat (first | exact Shape.nil | (apply Shape.cons; conv => lhs; whnf))))
    ((repeat refine c_seq ?_); refine c_region ?_; (repeat (first | ((first | apply o_move rfl rfl | apply o_easy1 rfl rfl rfl | apply o_ld rfl rfl (by assumption) (by first | rfl | assumption)); conv => lhs; whnf) | apply o_no rfl | refine o_b rfl rfl rfl (by constructor; omega) ?_ | refine o_f rfl rfl rfl (by constructor; omega) ?_ | refine o_s rfl rfl rfl (by constructor; first | omega | assumption) ?_ | refine o_t rfl rfl rfl (by constructor; assumption) ?_ | (apply o_easy rfl rfl rfl; conv => lhs; whnf) | apply o_non rfl)); apply o_end; (repeat (first | exact OutS.nil | exact GetS.hit | exact PutS.hit | apply GetS.miss rfl | apply PutS.miss rfl | apply OutS.cons | apply OutS.skip rfl)))
    ((repeat refine c_seq ?_); refine c_region ?_; (repeat (first | ((first | apply o_move rfl rfl | apply o_easy1 rfl rfl rfl | apply o_ld rfl rfl (by assumption) (by first | rfl | assumption)); conv => lhs; whnf) | apply o_no rfl | refine o_b rfl rfl rfl (by constructor; omega) ?_ | refine o_f rfl rfl rfl (by constructor; omega) ?_ | refine o_s rfl rfl rfl (by constructor; first | omega | assumption) ?_ | refine o_t rfl rfl rfl (by constructor; assumption) ?_ | (apply o_easy rfl rfl rfl; conv => lhs; whnf) | apply o_non rfl)); apply o_end; (repeat (first | exact OutS.nil | exact GetS.hit | exact PutS.hit | apply GetS.miss rfl | apply PutS.miss rfl | apply OutS.cons | apply OutS.skip rfl)))
    exact c_ret rfl

end Go.Tok

namespace Go.Tok
open Go Go.Am Go.Proofs

/-- the loop 0 of function 15 -/
def lp15_0 : ACode := .seq (.seq (.drawn [⟨(some 10), .v (.move (.tmp 0)), none⟩, ⟨(some 11), .v (.nilCheck (.tmp 10)), none⟩, ⟨(some 12), .v (.fieldAddr 5 none (.tmp 11)), none⟩, ⟨(some 13), .v (.load none (.tmp 12)), none⟩, ⟨(some 14), .v (.move (.tmp 0)), none⟩, ⟨(some 15), .v (.nilCheck (.tmp 14)), none⟩, ⟨(some 16), .v (.fieldAddr 0 none (.tmp 15)), none⟩, ⟨(some 17), .v (.load none (.tmp 16)), none⟩, ⟨(some 18), .v (.len 0 (.tmp 17)), none⟩, ⟨(some 19), .v (.bin .lss (.tmp 13) (.tmp 18)), none⟩, ⟨(some 20), .v (.move (.tmp 19)), none⟩, ⟨(some 21), .v (.move (.tmp 1)), (some (20, true))⟩, ⟨(some 22), .v (.move (.tmp 0)), (some (20, true))⟩, ⟨(some 23), .v (.nilCheck (.tmp 22)), (some (20, true))⟩, ⟨(some 24), .v (.fieldAddr 0 none (.tmp 23)), (some (20, true))⟩, ⟨(some 25), .v (.load none (.tmp 24)), (some (20, true))⟩, ⟨(some 26), .v (.move (.tmp 0)), (some (20, true))⟩, ⟨(some 27), .v (.nilCheck (.tmp 26)), (some (20, true))⟩, ⟨(some 28), .v (.fieldAddr 5 none (.tmp 27)), (some (20, true))⟩, ⟨(some 29), .v (.load none (.tmp 28)), (some (20, true))⟩, ⟨(some 30), .v (.indexS (.tmp 25) (.tmp 29)), (some (20, true))⟩, ⟨(some 31), .callv (.tmp 21) [(.tmp 30)], (some (20, true))⟩, ⟨(some 32), .v (.pick (.tmp 20) (.tmp 31) (.const (.bool false))), none⟩] [32] [] false 0) (.cond (.tmp 32) (.skip) (.exit 0))) (.block 1 (.region [⟨(some 33), .v (.move (.tmp 0)), none⟩, ⟨(some 34), .v (.nilCheck (.tmp 33)), none⟩, ⟨(some 35), .v (.fieldAddr 5 none (.tmp 34)), none⟩, ⟨(some 36), .v (.load none (.tmp 35)), none⟩, ⟨(some 37), .v (.bin .add (.tmp 36) (.const (.int .i64 1))), none⟩, ⟨(some 38), .v (.nilCheck (.tmp 33)), none⟩, ⟨(some 39), .v (.fieldAddr 5 none (.tmp 38)), none⟩, ⟨none, .e (.store 1 (.tmp 39) (.tmp 37)), none⟩] []))

abbrev fr15 (r i : Nat) (x32 : AV) : Fr :=
  ⟨[(0, .ptr r 0 0), (1, .func 41 [] []), (4, .str []), (32, x32), (5, .int .i64 i)], [], .off⟩

/-- digits that stand there, and no more of them -/
def DigAt (t : List UInt8) (i : Nat) (ds : List UInt8) : Prop := (∀ c ∈ ds, isDig c) ∧ (∃ rest, t.drop i = ds ++ rest ∧ ∀ c, rest.head? = some c → ¬ isDig c)

theorem DigAt.step {t : List UInt8} {i : Nat} {c : UInt8} {ds : List UInt8} (h : DigAt t i (c :: ds)) : t[i]? = some c ∧ isDig c ∧ DigAt t (i + 1) ds := by
  obtain ⟨h1, rest, h2, h3⟩ := h
  refine ⟨?_, h1 c List.mem_cons_self, fun d hd => h1 d (List.mem_cons_of_mem _ hd), rest, ?_, h3⟩
  · rw [← List.head?_drop, h2]; rfl
  · rw [← List.drop_drop, h2]; rfl

theorem DigAt.nil {t : List UInt8} {i : Nat} (h : DigAt t i []) (c : UInt8) (hc : t[i]? = some c) : ¬ isDig c := by
  obtain ⟨_, rest, h2, h3⟩ := h
  refine h3 c ?_
  rw [List.nil_append] at h2
  rw [← h2, List.head?_drop, hc]

set_option maxHeartbeats 1000000 in
theorem run_loop (m : Nat) (b : Bar) (t : List UInt8) (u : Bool) (o mx : Int) (at' i r : Nat) (out : AV) (ht : t.length < 2 ^ 40) (hb : b.w ≤ r) {Q : Ex → Fr → Sg → Prop} :
    ∀ (ds : List UInt8) (k L : Nat) (x32 : AV) (s : Sg), DigAt t k ds → k ≤ t.length → ds.length + 1 ≤ L → getCells s.heap r 0 = some (lx t u o mx at' k out) →
    (∀ x32, Q (.exit 0) (fr15 r i x32) (s.put r (.cells (lx t u o mx at' (k + ds.length) out) 0))) →
    OkL L (fun fr s => ACode.run (loopN (m + 1)) (callF T (m + 1)) b lp15_0 fr s) (fr15 r i x32) s Q := by
  intro ds
  induction ds with
  | nil =>
    intro k L x32 s hd hk hL hg hq
    obtain ⟨L, rfl⟩ : ∃ L', L = L' + 1 := ⟨L - 1, by omega⟩
    have hq' := hq (.bool false)
    rw [List.length_nil, Nat.add_zero, Sg.put_same hg] at hq'
    apply l_round
    rcases Nat.lt_or_ge k t.length with h | h
    · obtain ⟨c, hc⟩ : ∃ c, t[k]? = some c := ⟨_, List.getElem?_eq_getElem h⟩
      ((repeat refine c_seq ?_); refine c_drawn ?_; (repeat (first | ((first | apply o_move rfl rfl | apply o_easy1 rfl rfl rfl | apply o_ld rfl rfl (by assumption) (by first | rfl | assumption)); conv => lhs; whnf) | apply o_no rfl | refine o_b rfl rfl rfl (by constructor; omega) ?_ | refine o_f rfl rfl rfl (by constructor; omega) ?_ | refine o_s rfl rfl rfl (by constructor; first | omega | assumption) ?_ | refine o_t rfl rfl rfl (by constructor; assumption) ?_ | (apply o_easy rfl rfl rfl; conv => lhs; whnf) | apply o_non rfl)))
      refine o_idxS (j := k) rfl rfl rfl rfl hc ?_
      refine o_callv rfl rfl rfl rfl (digit_no m _ c s (hd.nil c hc)) ?_
      (repeat (first | ((first | apply o_move rfl rfl | apply o_easy1 rfl rfl rfl | apply o_ld rfl rfl (by assumption) (by first | rfl | assumption)); conv => lhs; whnf) | apply o_no rfl | refine o_b rfl rfl rfl (by constructor; omega) ?_ | refine o_f rfl rfl rfl (by constructor; omega) ?_ | refine o_s rfl rfl rfl (by constructor; first | omega | assumption) ?_ | refine o_t rfl rfl rfl (by constructor; assumption) ?_ | (apply o_easy rfl rfl rfl; conv => lhs; whnf) | apply o_non rfl))
      (apply d_end rfl; (repeat (first | exact OutS.nil | exact GetS.hit | exact PutS.hit | apply GetS.miss rfl | apply PutS.miss rfl | apply OutS.cons | apply OutS.skip rfl)))
      ((repeat refine c_seq ?_); refine c_else rfl ?_)
      exact c_exit hq'
    · ((repeat refine c_seq ?_); refine c_drawn ?_; (repeat (first | ((first | apply o_move rfl rfl | apply o_easy1 rfl rfl rfl | apply o_ld rfl rfl (by assumption) (by first | rfl | assumption)); conv => lhs; whnf) | apply o_no rfl | refine o_b rfl rfl rfl (by constructor; omega) ?_ | refine o_f rfl rfl rfl (by constructor; omega) ?_ | refine o_s rfl rfl rfl (by constructor; first | omega | assumption) ?_ | refine o_t rfl rfl rfl (by constructor; assumption) ?_ | (apply o_easy rfl rfl rfl; conv => lhs; whnf) | apply o_non rfl)); apply d_end rfl; (repeat (first | exact OutS.nil | exact GetS.hit | exact PutS.hit | apply GetS.miss rfl | apply PutS.miss rfl | apply OutS.cons | apply OutS.skip rfl)))
      ((repeat refine c_seq ?_); refine c_else rfl ?_)
      exact c_exit hq'
  | cons c ds ih =>
    intro k L x32 s hd hk hL hg hq
    obtain ⟨L, rfl⟩ : ∃ L', L = L' + 1 := ⟨L - 1, by omega⟩
    obtain ⟨hc, hcd, hd'⟩ := hd.step
    have hkl := lt_of_getElem? hc
    apply l_round
    ((repeat refine c_seq ?_); refine c_drawn ?_; (repeat (first | ((first | apply o_move rfl rfl | apply o_easy1 rfl rfl rfl | apply o_ld rfl rfl (by assumption) (by first | rfl | assumption)); conv => lhs; whnf) | apply o_no rfl | refine o_b rfl rfl rfl (by constructor; omega) ?_ | refine o_f rfl rfl rfl (by constructor; omega) ?_ | refine o_s rfl rfl rfl (by constructor; first | omega | assumption) ?_ | refine o_t rfl rfl rfl (by constructor; assumption) ?_ | (apply o_easy rfl rfl rfl; conv => lhs; whnf) | apply o_non rfl)))
    refine o_idxS (j := k) rfl rfl rfl rfl hc ?_
    refine o_callv rfl rfl rfl rfl (digit_yes m _ c s hcd) ?_
    (repeat (first | ((first | apply o_move rfl rfl | apply o_easy1 rfl rfl rfl | apply o_ld rfl rfl (by assumption) (by first | rfl | assumption)); conv => lhs; whnf) | apply o_no rfl | refine o_b rfl rfl rfl (by constructor; omega) ?_ | refine o_f rfl rfl rfl (by constructor; omega) ?_ | refine o_s rfl rfl rfl (by constructor; first | omega | assumption) ?_ | refine o_t rfl rfl rfl (by constructor; assumption) ?_ | (apply o_easy rfl rfl rfl; conv => lhs; whnf) | apply o_non rfl))
    (apply d_end rfl; (repeat (first | exact OutS.nil | exact GetS.hit | exact PutS.hit | apply GetS.miss rfl | apply PutS.miss rfl | apply OutS.cons | apply OutS.skip rfl)))
    ((repeat refine c_seq ?_); refine c_if rfl ?_)
    refine c_skip ?_
    ((repeat refine c_seq ?_); refine c_block ?_)
    ((repeat refine c_seq ?_); refine c_region ?_; (repeat (first | ((first | apply o_move rfl rfl | apply o_easy1 rfl rfl rfl | apply o_ld rfl rfl (by assumption) (by first | rfl | assumption)); conv => lhs; whnf) | apply o_no rfl | refine o_b rfl rfl rfl (by constructor; omega) ?_ | refine o_f rfl rfl rfl (by constructor; omega) ?_ | refine o_s rfl rfl rfl (by constructor; first | omega | assumption) ?_ | refine o_t rfl rfl rfl (by constructor; assumption) ?_ | (apply o_easy rfl rfl rfl; conv => lhs; whnf) | apply o_non rfl)))
    refine o_st rfl rfl rfl rfl hg rfl (lets_of (blt_no hb) (fun e => rfl)) (cs' := lx t u o mx at' (k + 1) out) rfl ?_
    (apply o_end; (repeat (first | exact OutS.nil | exact GetS.hit | exact PutS.hit | apply GetS.miss rfl | apply PutS.miss rfl | apply OutS.cons | apply OutS.skip rfl)))
    refine ih (k + 1) L _ _ hd' (by omega) (by simp at hL; omega) (getCells_put hg) fun x => ?_
    rw [Sg.put_put, Nat.add_assoc, Nat.add_comm 1]
    exact hq x

/-- (*lexer).run, of digits -/
theorem run_spec (m : Nat) (b : Bar) (t : List UInt8) (u : Bool) (o mx : Int) (at' i r : Nat) (out : AV) (ds : List UInt8) (s : Sg) (ht : t.length < 2 ^ 40) (hb : b.w ≤ r) (hd : DigAt t i ds) (hi : i ≤ t.length) (hm : ds.length + 1 ≤ m + 1) (hg : getCells s.heap r 0 = some (lx t u o mx at' i out)) :
    callF T (m + 2) b 15 [.ptr r 0 0, .func 41 [] []] s = some (.ret (.str ds), s.put r (.cells (lx t u o mx at' (i + ds.length) out) 0)) := by
  have hdl : i + ds.length ≤ t.length := by
    obtain ⟨_, rest, h2, _⟩ := hd
    have := congrArg List.length h2
    simp at this
    omega
  have htk : (t.drop i).take (i + ds.length - i) = ds := by
    obtain ⟨_, rest, h2, _⟩ := hd
    rw [h2, Nat.add_sub_cancel_left]; simp
  (apply f_of rfl rfl; (repeat (first | exact Shape.nil | (apply Shape.cons; conv => lhs; whnf))))
  ((repeat refine c_seq ?_); refine c_region ?_; (repeat (first | ((first | apply o_move rfl rfl | apply o_easy1 rfl rfl rfl | apply o_ld rfl rfl (by assumption) (by first | rfl | assumption)); conv => lhs; whnf) | apply o_no rfl | refine o_b rfl rfl rfl (by constructor; omega) ?_ | refine o_f rfl rfl rfl (by constructor; omega) ?_ | refine o_s rfl rfl rfl (by constructor; first | omega | assumption) ?_ | refine o_t rfl rfl rfl (by constructor; assumption) ?_ | (apply o_easy rfl rfl rfl; conv => lhs; whnf) | apply o_non rfl)); apply o_end; (repeat (first | exact OutS.nil | exact GetS.hit | exact PutS.hit | apply GetS.miss rfl | apply PutS.miss rfl | apply OutS.cons | apply OutS.skip rfl)))
  ((repeat refine c_seq ?_); refine c_region ?_; (repeat (first | ((first | apply o_move rfl rfl | apply o_easy1 rfl rfl rfl | apply o_ld rfl rfl (by assumption) (by first | rfl | assumption)); conv => lhs; whnf) | apply o_no rfl | refine o_b rfl rfl rfl (by constructor; omega) ?_ | refine o_f rfl rfl rfl (by constructor; omega) ?_ | refine o_s rfl rfl rfl (by constructor; first | omega | assumption) ?_ | refine o_t rfl rfl rfl (by constructor; assumption) ?_ | (apply o_easy rfl rfl rfl; conv => lhs; whnf) | apply o_non rfl)); apply o_end; (repeat (first | exact OutS.nil | exact GetS.hit | exact PutS.hit | apply GetS.miss rfl | apply PutS.miss rfl | apply OutS.cons | apply OutS.skip rfl)))
  refine c_seq ?_
  ((repeat refine c_seq ?_); refine c_block ?_)
  refine c_loop (x := lp15_0) ?_
  refine run_loop m (b.into af15.mode s) t u o mx at' i r out ht hb ds i _ _ s hd hi hm hg fun x32 => ?_
  have hg' := getCells_put (cs' := lx t u o mx at' (i + ds.length) out) (g' := 0) hg
  have hlen := s.put_len r (.cells (lx t u o mx at' (i + ds.length) out) 0)
  show OkC _ _ _ _ _ _ _
  ((repeat refine c_seq ?_); refine c_drawn ?_; (repeat (first | ((first | apply o_move rfl rfl | apply o_easy1 rfl rfl rfl | apply o_ld rfl rfl (by assumption) (by first | rfl | assumption)); conv => lhs; whnf) | apply o_no rfl | refine o_b rfl rfl rfl (by constructor; omega) ?_ | refine o_f rfl rfl rfl (by constructor; omega) ?_ | refine o_s rfl rfl rfl (by constructor; first | omega | assumption) ?_ | refine o_t rfl rfl rfl (by constructor; assumption) ?_ | (apply o_easy rfl rfl rfl; conv => lhs; whnf) | apply o_non rfl)))
  refine o_slS2 (i := i) (j := i + ds.length) rfl rfl rfl rfl rfl rfl (by omega) hdl htk ?_
  (repeat (first | ((first | apply o_move rfl rfl | apply o_easy1 rfl rfl rfl | apply o_ld rfl rfl (by assumption) (by first | rfl | assumption)); conv => lhs; whnf) | apply o_no rfl | refine o_b rfl rfl rfl (by constructor; omega) ?_ | refine o_f rfl rfl rfl (by constructor; omega) ?_ | refine o_s rfl rfl rfl (by constructor; first | omega | assumption) ?_ | refine o_t rfl rfl rfl (by constructor; assumption) ?_ | (apply o_easy rfl rfl rfl; conv => lhs; whnf) | apply o_non rfl))
  (apply d_end rfl; (repeat (first | exact OutS.nil | exact GetS.hit | exact PutS.hit | apply GetS.miss rfl | apply PutS.miss rfl | apply OutS.cons | apply OutS.skip rfl)))
  refine c_ret ?_
  show some (Out.ret _, ({ heap := (s.put r _).heap.take s.heap.length, toks := s.toks } : Sg)) = _
  rw [← hlen, List.take_length]
  rfl

end Go.Tok

namespace Go.Tok
open Go Go.Am Go.Proofs

/-- the loop 0 of function 38 -/
def lp38_0 : ACode := .seq (.region [⟨(some 12), .e (.nextS (.tmp 11)), none⟩, ⟨(some 13), .v (.extract (.tmp 12) 0), none⟩] [12, 13]) (.seq (.cond (.tmp 13) (.skip) (.exit 0)) (.block 1 (.seq (.region [⟨(some 14), .v (.extract (.tmp 12) 2), none⟩, ⟨(some 7), .v (.move (.tmp 14)), none⟩] [7]) (.seq (.region [⟨(some 15), .v (.move (.tmp 5)), none⟩, ⟨(some 16), .v (.bin .mul (.tmp 15) (.const (.int .i64 10))), none⟩, ⟨(some 17), .v (.move (.tmp 7)), none⟩, ⟨(some 18), .v (.bin .sub (.tmp 17) (.const (.int .i32 48))), none⟩, ⟨(some 19), .v (.conv (.intInt .i64) (.tmp 18)), none⟩, ⟨(some 20), .v (.bin .add (.tmp 16) (.tmp 19)), none⟩, ⟨(some 5), .v (.move (.tmp 20)), none⟩] [5]) (.seq (.region [⟨(some 21), .v (.move (.tmp 5)), none⟩, ⟨(some 22), .v (.bin .gtr (.tmp 21) (.const (.int .i64 255))), none⟩] [22]) (.cond (.tmp 22) (.region [⟨(some 23), .v (.move (.tmp 0)), none⟩, ⟨(some 24), .call 27 [(.tmp 23), (.const (.int .i64 25))], none⟩] []) (.skip)))))))

/-- (*lexer).fail -/
theorem fail_spec (m : Nat) (b : Bar) (t : List UInt8) (u : Bool) (o mx : Int) (at' i r : Nat) (out : AV) (e : Int) (he : e ≠ 20) (s : Sg) (hg : getCells s.heap r 0 = some (lx t u o mx at' i out)) :
    callF T (m + 1) b 27 [.ptr r 0 0, .int .i64 e] s = some (.panic (.iface 43 (.agg [.int .i64 e, .int .i64 at'])), s) := by
  suffices h : OkF (callF T (m + 1) b 27 [.ptr r 0 0, .int .i64 e] s) (fun x s' => x = .panic (.iface 43 (.agg [.int .i64 e, .int .i64 at'])) ∧ s' = s) by
    obtain ⟨x, s', h1, rfl, rfl⟩ := h.ok
    exact h1
  (apply f_wp rfl rfl; (repeat (first | exact Shape.nil | (apply Shape.cons; conv => lhs; whnf))))
  ((repeat refine c_seq ?_); refine c_region ?_; (repeat (first | ((first | apply o_move rfl rfl | apply o_easy1 rfl rfl rfl | apply o_ld rfl rfl (by assumption) (by first | rfl | assumption)); conv => lhs; whnf) | apply o_no rfl | refine o_b rfl rfl rfl (by constructor; omega) ?_ | refine o_f rfl rfl rfl (by constructor; omega) ?_ | refine o_s rfl rfl rfl (by constructor; first | omega | assumption) ?_ | refine o_t rfl rfl rfl (by constructor; assumption) ?_ | (apply o_easy rfl rfl rfl; conv => lhs; whnf) | apply o_non rfl)); apply o_end; (repeat (first | exact OutS.nil | exact GetS.hit | exact PutS.hit | apply GetS.miss rfl | apply PutS.miss rfl | apply OutS.cons | apply OutS.skip rfl)))
  ((repeat refine c_seq ?_); refine c_region ?_; (repeat (first | ((first | apply o_move rfl rfl | apply o_easy1 rfl rfl rfl | apply o_ld rfl rfl (by assumption) (by first | rfl | assumption)); conv => lhs; whnf) | apply o_no rfl | refine o_b rfl rfl rfl (by constructor; omega) ?_ | refine o_f rfl rfl rfl (by constructor; omega) ?_ | refine o_s rfl rfl rfl (by constructor; first | omega | assumption) ?_ | refine o_t rfl rfl rfl (by constructor; assumption) ?_ | (apply o_easy rfl rfl rfl; conv => lhs; whnf) | apply o_non rfl)); apply o_end; (repeat (first | exact OutS.nil | exact GetS.hit | exact PutS.hit | apply GetS.miss rfl | apply PutS.miss rfl | apply OutS.cons | apply OutS.skip rfl)))
  ((repeat refine c_seq ?_); refine c_else rfl ?_)
  refine c_skip ?_
  ((repeat refine c_seq ?_); refine c_region ?_; (repeat (first | ((first | apply o_move rfl rfl | apply o_easy1 rfl rfl rfl | apply o_ld rfl rfl (by assumption) (by first | rfl | assumption)); conv => lhs; whnf) | apply o_no rfl | refine o_b rfl rfl rfl (by constructor; omega) ?_ | refine o_f rfl rfl rfl (by constructor; omega) ?_ | refine o_s rfl rfl rfl (by constructor; first | omega | assumption) ?_ | refine o_t rfl rfl rfl (by constructor; assumption) ?_ | (apply o_easy rfl rfl rfl; conv => lhs; whnf) | apply o_non rfl)))
  refine o_panic rfl rfl ?_
  exact fin_panic (leave_pure (lay_cons rfl lay_nil) (by rfl)) ⟨rfl, rfl⟩

theorem dec_at {ds : List UInt8} {k : Nat} {c : UInt8} (h : ds[k]? = some c) (hc : isDig c) : Utf8.decode ⟨ds.toArray⟩ k = (c.toNat, 1) := by
  have hk := lt_of_getElem? h
  obtain ⟨h1, h2⟩ := hc
  have hs : k < (⟨ds.toArray⟩ : ByteArray).size := by simpa [ByteArray.size] using hk
  have hcc : (⟨ds.toArray⟩ : ByteArray)[k]'hs = c := by
    rw [List.getElem?_eq_getElem hk] at h
    have := Option.some.inj h
    show ds.toArray[k]'(by simpa using hk) = c
    simpa using this
  rw [decode_ascii _ k hs (by rw [hcc]; omega), hcc]

section
variable {call : CallFn} {b : Bar} {g : Option (Nat × Bool)} {r : List AOper} {loc : Env} {fr : Fr} {s : Sg} {Q : Ex → Env → Fr → Sg → Prop}

theorem o_rangeS {x : AOpd} {t : Nat} {l : List UInt8} (hg : wantedA loc fr.pers g = some true) (hx : x.ev loc fr.pers = some (.str l)) (hr : OkO call b r ((t, .ptr s.heap.length 0 0) :: loc) fr (s.push (.siter l 0)) Q) : OkO call b (⟨some t, .e (.rangeS x), g⟩ :: r) loc fr s Q := by
  refine o_e hg ?_ hr
  simp only [evE, hx, Option.bind_some, AV.str?, Option.map_some]

theorem o_nextS {x : AOpd} {t k : Nat} {c : UInt8} {l : List UInt8} {s1 : Sg} (hg : wantedA loc fr.pers g = some true) (hx : x.ev loc fr.pers = some (.ptr s1.heap.length 0 0)) (hs : s = s1.push (.siter l k)) (hc : l[k]? = some c) (hd : isDig c) (hw : b.w ≤ s1.heap.length) (hr : OkO call b r ((t, .tup [.bool true, Am.goInt k, .int .i32 c.toNat]) :: loc) fr (s1.push (.siter l (k + 1))) Q) : OkO call b (⟨some t, .e (.nextS x), g⟩ :: r) loc fr s Q := by
  subst hs
  refine o_e hg ?_ hr
  have hk := lt_of_getElem? hc
  have hi : getIter (s1.push (.siter l k)).heap s1.heap.length = some (l, k) := by simp [getIter, Sg.push]
  have hsa : setAt (s1.push (.siter l k)).heap s1.heap.length (.siter l (k + 1)) = s1.heap ++ [.siter l (k + 1)] := setAt_last _ _ _
  simp only [evE, hx, Option.bind_some, Nat.beq_refl, Bool.and_self, if_true, hi, hk, blt_no hw, Bool.false_eq_true, if_false, dec_at hc hd, hsa]
  rfl

theorem o_nextE {x : AOpd} {t k : Nat} {l : List UInt8} {s1 : Sg} (hg : wantedA loc fr.pers g = some true) (hx : x.ev loc fr.pers = some (.ptr s1.heap.length 0 0)) (hs : s = s1.push (.siter l k)) (hk : l.length ≤ k) (hr : OkO call b r ((t, .tup [.bool false]) :: loc) fr s Q) : OkO call b (⟨some t, .e (.nextS x), g⟩ :: r) loc fr s Q := by
  refine o_e hg ?_ hr
  subst hs
  have hi : getIter (s1.push (.siter l k)).heap s1.heap.length = some (l, k) := by simp [getIter, Sg.push]
  simp only [evE, hx, Option.bind_some, Nat.beq_refl, Bool.and_self, if_true, hi, if_neg (Nat.not_lt.2 hk)]
end

end Go.Tok

namespace Go.Tok
open Go Go.Am Go.Proofs

abbrev fr38 (r N : Nat) (ds : List UInt8) (n : Nat) (x13 x12 x7 x22 : AV) : Fr :=
  ⟨[(0, .ptr r 0 0), (2, .int .i64 0), (3, .bool false), (4, .str ds), (11, .ptr N 0 0), (13, x13), (12, x12), (5, .int .i64 n), (7, x7), (22, x22)], [], .off⟩

theorem wrap_i32 {n : Int} (h0 : 0 ≤ n) (h1 : n < 2 ^ 31) : IntKind.i32.wrap n = n := by
  simp only [IntKind.wrap, IntKind.bits, IntKind.signed]
  simp
  omega

theorem number_loop (m : Nat) (b : Bar) (t : List UInt8) (u : Bool) (o mx : Int) (at' i r : Nat) (out : AV) (ds : List UInt8) (s1 : Sg) (hb : b.w ≤ s1.heap.length) (hds : ds.length < 2 ^ 40) (hg : getCells s1.heap r 0 = some (lx t u o mx at' i out)) {Q : Ex → Fr → Sg → Prop} (V : Nat)
    (hq : V ≤ 255 → ∀ x12 x7 x22, Q (.exit 0) (fr38 r s1.heap.length ds V (.bool false) x12 x7 x22) (s1.push (.siter ds ds.length)))
    (hp : V > 255 → ∀ n x13 x12 x7 x22 k, Q (.panic (.iface 43 (.agg [.int .i64 25, .int .i64 at']))) (fr38 r s1.heap.length ds n x13 x12 x7 x22) (s1.push (.siter ds k))) :
    ∀ (rest : List UInt8) (k a L : Nat) (x13 x12 x7 x22 : AV), ds.drop k = rest → k ≤ ds.length → (∀ c ∈ rest, isDig c) → a ≤ 255 → valM rest a = V → rest.length + 1 ≤ L →
    OkL L (fun fr s => ACode.run (loopN (m + 1)) (callF T (m + 1)) b lp38_0 fr s) (fr38 r s1.heap.length ds a x13 x12 x7 x22) (s1.push (.siter ds k)) Q := by
  intro rest
  induction rest with
  | nil =>
    intro k a L x13 x12 x7 x22 hdr hk hdig ha hV hL
    obtain ⟨L, rfl⟩ : ∃ L', L = L' + 1 := ⟨L - 1, by omega⟩
    have hkl : ds.length ≤ k := by
      have := congrArg List.length hdr
      simp at this
      omega
    obtain rfl : k = ds.length := by omega
    simp only [valM] at hV
    subst hV
    apply l_round
    ((repeat refine c_seq ?_); refine c_region ?_; (repeat (first | ((first | apply o_move rfl rfl | apply o_easy1 rfl rfl rfl | apply o_ld rfl rfl (by assumption) (by first | rfl | assumption)); conv => lhs; whnf) | apply o_no rfl | refine o_b rfl rfl rfl (by constructor; omega) ?_ | refine o_f rfl rfl rfl (by constructor; omega) ?_ | refine o_s rfl rfl rfl (by constructor; first | omega | assumption) ?_ | refine o_t rfl rfl rfl (by constructor; assumption) ?_ | (apply o_easy rfl rfl rfl; conv => lhs; whnf) | apply o_non rfl)))
    refine o_nextE rfl rfl rfl hkl ?_
    (repeat (first | ((first | apply o_move rfl rfl | apply o_easy1 rfl rfl rfl | apply o_ld rfl rfl (by assumption) (by first | rfl | assumption)); conv => lhs; whnf) | apply o_no rfl | refine o_b rfl rfl rfl (by constructor; omega) ?_ | refine o_f rfl rfl rfl (by constructor; omega) ?_ | refine o_s rfl rfl rfl (by constructor; first | omega | assumption) ?_ | refine o_t rfl rfl rfl (by constructor; assumption) ?_ | (apply o_easy rfl rfl rfl; conv => lhs; whnf) | apply o_non rfl))
    (apply o_end; (repeat (first | exact OutS.nil | exact GetS.hit | exact PutS.hit | apply GetS.miss rfl | apply PutS.miss rfl | apply OutS.cons | apply OutS.skip rfl)))
    ((repeat refine c_seq ?_); refine c_else rfl ?_)
    exact c_exit (hq ha _ _ _)
  | cons c rest ih =>
    intro k a L x13 x12 x7 x22 hdr hk hdig ha hV hL
    obtain ⟨L, rfl⟩ : ∃ L', L = L' + 1 := ⟨L - 1, by omega⟩
    have hc : ds[k]? = some c := by rw [← List.head?_drop, hdr]; rfl
    have hcd := hdig c List.mem_cons_self
    have hkl := lt_of_getElem? hc
    have hdr' : ds.drop (k + 1) = rest := by rw [← List.drop_drop, hdr]; rfl
    obtain ⟨hc1, hc2⟩ := hcd
    have hcc : ((c.toNat : Int) - 48) = ((c.toNat - 48 : Nat) : Int) := by omega
    have haa : ((a : Int) * 10 + ((c.toNat - 48 : Nat) : Int)) = ((a * 10 + (c.toNat - 48) : Nat) : Int) := by omega
    simp only [valM] at hV
    apply l_round
    ((repeat refine c_seq ?_); refine c_region ?_; (repeat (first | ((first | apply o_move rfl rfl | apply o_easy1 rfl rfl rfl | apply o_ld rfl rfl (by assumption) (by first | rfl | assumption)); conv => lhs; whnf) | apply o_no rfl | refine o_b rfl rfl rfl (by constructor; omega) ?_ | refine o_f rfl rfl rfl (by constructor; omega) ?_ | refine o_s rfl rfl rfl (by constructor; first | omega | assumption) ?_ | refine o_t rfl rfl rfl (by constructor; assumption) ?_ | (apply o_easy rfl rfl rfl; conv => lhs; whnf) | apply o_non rfl)))
    refine o_nextS (k := k) rfl rfl rfl hc ⟨hc1, hc2⟩ hb ?_
    (repeat (first | ((first | apply o_move rfl rfl | apply o_easy1 rfl rfl rfl | apply o_ld rfl rfl (by assumption) (by first | rfl | assumption)); conv => lhs; whnf) | apply o_no rfl | refine o_b rfl rfl rfl (by constructor; omega) ?_ | refine o_f rfl rfl rfl (by constructor; omega) ?_ | refine o_s rfl rfl rfl (by constructor; first | omega | assumption) ?_ | refine o_t rfl rfl rfl (by constructor; assumption) ?_ | (apply o_easy rfl rfl rfl; conv => lhs; whnf) | apply o_non rfl))
    (apply o_end; (repeat (first | exact OutS.nil | exact GetS.hit | exact PutS.hit | apply GetS.miss rfl | apply PutS.miss rfl | apply OutS.cons | apply OutS.skip rfl)))
    ((repeat refine c_seq ?_); refine c_if rfl ?_)
    refine c_skip ?_
    ((repeat refine c_seq ?_); refine c_block ?_)
    ((repeat refine c_seq ?_); refine c_region ?_; (repeat (first | ((first | apply o_move rfl rfl | apply o_easy1 rfl rfl rfl | apply o_ld rfl rfl (by assumption) (by first | rfl | assumption)); conv => lhs; whnf) | apply o_no rfl | refine o_b rfl rfl rfl (by constructor; omega) ?_ | refine o_f rfl rfl rfl (by constructor; omega) ?_ | refine o_s rfl rfl rfl (by constructor; first | omega | assumption) ?_ | refine o_t rfl rfl rfl (by constructor; assumption) ?_ | (apply o_easy rfl rfl rfl; conv => lhs; whnf) | apply o_non rfl)); apply o_end; (repeat (first | exact OutS.nil | exact GetS.hit | exact PutS.hit | apply GetS.miss rfl | apply PutS.miss rfl | apply OutS.cons | apply OutS.skip rfl)))
    ((repeat refine c_seq ?_); refine c_region ?_; (repeat (first | ((first | apply o_move rfl rfl | apply o_easy1 rfl rfl rfl | apply o_ld rfl rfl (by assumption) (by first | rfl | assumption)); conv => lhs; whnf) | apply o_no rfl | refine o_b rfl rfl rfl (by constructor; omega) ?_ | refine o_f rfl rfl rfl (by constructor; omega) ?_ | refine o_s rfl rfl rfl (by constructor; first | omega | assumption) ?_ | refine o_t rfl rfl rfl (by constructor; assumption) ?_ | (apply o_easy rfl rfl rfl; conv => lhs; whnf) | apply o_non rfl)))
    refine o_subk rfl rfl rfl (wrap_i32 (by omega) (by omega)) ?_
    refine o_cv rfl rfl (wrap_i64 (by omega) (by omega)) ?_
    (repeat (first | ((first | apply o_move rfl rfl | apply o_easy1 rfl rfl rfl | apply o_ld rfl rfl (by assumption) (by first | rfl | assumption)); conv => lhs; whnf) | apply o_no rfl | refine o_b rfl rfl rfl (by constructor; omega) ?_ | refine o_f rfl rfl rfl (by constructor; omega) ?_ | refine o_s rfl rfl rfl (by constructor; first | omega | assumption) ?_ | refine o_t rfl rfl rfl (by constructor; assumption) ?_ | (apply o_easy rfl rfl rfl; conv => lhs; whnf) | apply o_non rfl))
    (apply o_end; (repeat (first | exact OutS.nil | exact GetS.hit | exact PutS.hit | apply GetS.miss rfl | apply PutS.miss rfl | apply OutS.cons | apply OutS.skip rfl)))
    rw [hcc, haa]
    have hg' := getCells_push (.siter ds (k + 1)) hg
    by_cases hbig : a * 10 + (c.toNat - 48) > 255
    · ((repeat refine c_seq ?_); refine c_region ?_; (repeat (first | ((first | apply o_move rfl rfl | apply o_easy1 rfl rfl rfl | apply o_ld rfl rfl (by assumption) (by first | rfl | assumption)); conv => lhs; whnf) | apply o_no rfl | refine o_b rfl rfl rfl (by constructor; omega) ?_ | refine o_f rfl rfl rfl (by constructor; omega) ?_ | refine o_s rfl rfl rfl (by constructor; first | omega | assumption) ?_ | refine o_t rfl rfl rfl (by constructor; assumption) ?_ | (apply o_easy rfl rfl rfl; conv => lhs; whnf) | apply o_non rfl)); apply o_end; (repeat (first | exact OutS.nil | exact GetS.hit | exact PutS.hit | apply GetS.miss rfl | apply PutS.miss rfl | apply OutS.cons | apply OutS.skip rfl)))
      ((repeat refine c_seq ?_); refine c_if rfl ?_)
      ((repeat refine c_seq ?_); refine c_region ?_; (repeat (first | ((first | apply o_move rfl rfl | apply o_easy1 rfl rfl rfl | apply o_ld rfl rfl (by assumption) (by first | rfl | assumption)); conv => lhs; whnf) | apply o_no rfl | refine o_b rfl rfl rfl (by constructor; omega) ?_ | refine o_f rfl rfl rfl (by constructor; omega) ?_ | refine o_s rfl rfl rfl (by constructor; first | omega | assumption) ?_ | refine o_t rfl rfl rfl (by constructor; assumption) ?_ | (apply o_easy rfl rfl rfl; conv => lhs; whnf) | apply o_non rfl)))
      refine o_callp rfl rfl (fail_spec m _ t u o mx at' i r out 25 (by decide) _ hg') ?_
      exact hp (by have := valM_le rest (a * 10 + (c.toNat - 48)); omega) _ _ _ _ _ _
    · ((repeat refine c_seq ?_); refine c_region ?_; (repeat (first | ((first | apply o_move rfl rfl | apply o_easy1 rfl rfl rfl | apply o_ld rfl rfl (by assumption) (by first | rfl | assumption)); conv => lhs; whnf) | apply o_no rfl | refine o_b rfl rfl rfl (by constructor; omega) ?_ | refine o_f rfl rfl rfl (by constructor; omega) ?_ | refine o_s rfl rfl rfl (by constructor; first | omega | assumption) ?_ | refine o_t rfl rfl rfl (by constructor; assumption) ?_ | (apply o_easy rfl rfl rfl; conv => lhs; whnf) | apply o_non rfl)); apply o_end; (repeat (first | exact OutS.nil | exact GetS.hit | exact PutS.hit | apply GetS.miss rfl | apply PutS.miss rfl | apply OutS.cons | apply OutS.skip rfl)))
      ((repeat refine c_seq ?_); refine c_else rfl ?_)
      refine c_skip ?_
      exact ih (k + 1) _ L _ _ _ _ hdr' (by omega) (fun d hd => hdig d (List.mem_cons_of_mem _ hd)) (by omega) hV (by simp at hL; omega)

end Go.Tok

namespace Go.Tok
open Go Go.Am Go.Proofs

theorem take_push (s s1 : Sg) (o : AObj) (h : s1.heap.length = s.heap.length) (h2 : s1.toks = s.toks) : ({ heap := (s1.push o).heap.take s.heap.length, toks := s.toks } : Sg) = s1 := by
  rw [← h, ← h2]
  have : (s1.push o).heap.take s1.heap.length = s1.heap := by simp [Sg.push]
  rw [this]

/-- what number comes to -/
def NumAt (ds : List UInt8) (at' : Nat) (s1 : Sg) : Option (Out × Sg) :=
  if valM ds 0 ≤ 255 then some (.ret (.tup [.int .i64 (valM ds 0), .bool (!ds.isEmpty)]), s1)
  else some (.panic (.iface 43 (.agg [.int .i64 25, .int .i64 at'])), s1)

theorem number_spec (m : Nat) (b : Bar) (t : List UInt8) (u : Bool) (o mx : Int) (at' i r : Nat) (out : AV) (ds : List UInt8) (s : Sg) (ht : t.length < 2 ^ 40) (hb : b.w ≤ r) (hd : DigAt t i ds) (hi : i ≤ t.length) (hm : ds.length + 1 ≤ m + 1) (hg : getCells s.heap r 0 = some (lx t u o mx at' i out)) :
    callF T (m + 3) b 38 [.ptr r 0 0] s = NumAt ds at' (s.put r (.cells (lx t u o mx at' (i + ds.length) out) 0)) := by
  have hr := getCells_lt hg
  have hdl : i + ds.length ≤ t.length := by
    obtain ⟨_, rest, h2, _⟩ := hd
    have := congrArg List.length h2
    simp at this
    omega
  have hg1 := getCells_put (cs' := lx t u o mx at' (i + ds.length) out) (g' := 0) hg
  have hlen := s.put_len r (.cells (lx t u o mx at' (i + ds.length) out) 0)
  have hto : (s.put r (.cells (lx t u o mx at' (i + ds.length) out) 0)).toks = s.toks := rfl
  suffices h : OkF (callF T (m + 3) b 38 [.ptr r 0 0] s) (fun x s' => NumAt ds at' (s.put r (.cells (lx t u o mx at' (i + ds.length) out) 0)) = some (x, s')) by
    obtain ⟨x, s', h1, h2⟩ := h.ok
    rw [h1, h2]
  (apply f_wp rfl rfl; (repeat (first | exact Shape.nil | (apply Shape.cons; conv => lhs; whnf))))
  ((repeat refine c_seq ?_); refine c_region ?_; (repeat (first | ((first | apply o_move rfl rfl | apply o_easy1 rfl rfl rfl | apply o_ld rfl rfl (by assumption) (by first | rfl | assumption)); conv => lhs; whnf) | apply o_no rfl | refine o_b rfl rfl rfl (by constructor; omega) ?_ | refine o_f rfl rfl rfl (by constructor; omega) ?_ | refine o_s rfl rfl rfl (by constructor; first | omega | assumption) ?_ | refine o_t rfl rfl rfl (by constructor; assumption) ?_ | (apply o_easy rfl rfl rfl; conv => lhs; whnf) | apply o_non rfl)); apply o_end; (repeat (first | exact OutS.nil | exact GetS.hit | exact PutS.hit | apply GetS.miss rfl | apply PutS.miss rfl | apply OutS.cons | apply OutS.skip rfl)))
  ((repeat refine c_seq ?_); refine c_region ?_; (repeat (first | ((first | apply o_move rfl rfl | apply o_easy1 rfl rfl rfl | apply o_ld rfl rfl (by assumption) (by first | rfl | assumption)); conv => lhs; whnf) | apply o_no rfl | refine o_b rfl rfl rfl (by constructor; omega) ?_ | refine o_f rfl rfl rfl (by constructor; omega) ?_ | refine o_s rfl rfl rfl (by constructor; first | omega | assumption) ?_ | refine o_t rfl rfl rfl (by constructor; assumption) ?_ | (apply o_easy rfl rfl rfl; conv => lhs; whnf) | apply o_non rfl)))
  refine o_call rfl rfl (run_spec m _ t u o mx at' i r out ds s ht hb hd hi hm hg) ?_
  (repeat (first | ((first | apply o_move rfl rfl | apply o_easy1 rfl rfl rfl | apply o_ld rfl rfl (by assumption) (by first | rfl | assumption)); conv => lhs; whnf) | apply o_no rfl | refine o_b rfl rfl rfl (by constructor; omega) ?_ | refine o_f rfl rfl rfl (by constructor; omega) ?_ | refine o_s rfl rfl rfl (by constructor; first | omega | assumption) ?_ | refine o_t rfl rfl rfl (by constructor; assumption) ?_ | (apply o_easy rfl rfl rfl; conv => lhs; whnf) | apply o_non rfl))
  (apply o_end; (repeat (first | exact OutS.nil | exact GetS.hit | exact PutS.hit | apply GetS.miss rfl | apply PutS.miss rfl | apply OutS.cons | apply OutS.skip rfl)))
  ((repeat refine c_seq ?_); refine c_region ?_; (repeat (first | ((first | apply o_move rfl rfl | apply o_easy1 rfl rfl rfl | apply o_ld rfl rfl (by assumption) (by first | rfl | assumption)); conv => lhs; whnf) | apply o_no rfl | refine o_b rfl rfl rfl (by constructor; omega) ?_ | refine o_f rfl rfl rfl (by constructor; omega) ?_ | refine o_s rfl rfl rfl (by constructor; first | omega | assumption) ?_ | refine o_t rfl rfl rfl (by constructor; assumption) ?_ | (apply o_easy rfl rfl rfl; conv => lhs; whnf) | apply o_non rfl)); apply o_end; (repeat (first | exact OutS.nil | exact GetS.hit | exact PutS.hit | apply GetS.miss rfl | apply PutS.miss rfl | apply OutS.cons | apply OutS.skip rfl)))
  generalize s.put r (.cells (lx t u o mx at' (i + ds.length) out) 0) = s1 at hg1 hlen hto ⊢
  ((repeat refine c_seq ?_); refine c_region ?_; (repeat (first | ((first | apply o_move rfl rfl | apply o_easy1 rfl rfl rfl | apply o_ld rfl rfl (by assumption) (by first | rfl | assumption)); conv => lhs; whnf) | apply o_no rfl | refine o_b rfl rfl rfl (by constructor; omega) ?_ | refine o_f rfl rfl rfl (by constructor; omega) ?_ | refine o_s rfl rfl rfl (by constructor; first | omega | assumption) ?_ | refine o_t rfl rfl rfl (by constructor; assumption) ?_ | (apply o_easy rfl rfl rfl; conv => lhs; whnf) | apply o_non rfl)))
  refine o_rangeS rfl rfl ?_
  (apply o_end; (repeat (first | exact OutS.nil | exact GetS.hit | exact PutS.hit | apply GetS.miss rfl | apply PutS.miss rfl | apply OutS.cons | apply OutS.skip rfl)))
  ((repeat refine c_seq ?_); refine c_block ?_)
  refine c_loop (x := lp38_0) ?_
  refine number_loop (m + 1) (b.into af38.mode s) t u o mx at' (i + ds.length) r out ds s1 (by show b.w ≤ _; omega) (by omega) hg1 (valM ds 0) ?_ ?_ ds 0 0 _ _ _ _ _ rfl (Nat.zero_le _) hd.1 (by omega) rfl (by omega)
  · intro hV x12 x7 x22
    show OkC _ _ _ _ _ _ _
    rcases List.eq_nil_or_concat ds with he | ⟨_, _, he⟩
    · subst he
      ((repeat refine c_seq ?_); refine c_region ?_; (repeat (first | ((first | apply o_move rfl rfl | apply o_easy1 rfl rfl rfl | apply o_ld rfl rfl (by assumption) (by first | rfl | assumption)); conv => lhs; whnf) | apply o_no rfl | refine o_b rfl rfl rfl (by constructor; omega) ?_ | refine o_f rfl rfl rfl (by constructor; omega) ?_ | refine o_s rfl rfl rfl (by constructor; first | omega | assumption) ?_ | refine o_t rfl rfl rfl (by constructor; assumption) ?_ | (apply o_easy rfl rfl rfl; conv => lhs; whnf) | apply o_non rfl)); apply o_end; (repeat (first | exact OutS.nil | exact GetS.hit | exact PutS.hit | apply GetS.miss rfl | apply PutS.miss rfl | apply OutS.cons | apply OutS.skip rfl)))
      refine c_ret ⟨_, _, rfl, ?_⟩
      simp only [NumAt, if_pos hV]
      rw [take_push s s1 _ hlen hto]
      rfl
    · have hne : ds ≠ [] := by rw [he]; simp
      ((repeat refine c_seq ?_); refine c_region ?_; (repeat (first | ((first | apply o_move rfl rfl | apply o_easy1 rfl rfl rfl | apply o_ld rfl rfl (by assumption) (by first | rfl | assumption)); conv => lhs; whnf) | apply o_no rfl | refine o_b rfl rfl rfl (by constructor; omega) ?_ | refine o_f rfl rfl rfl (by constructor; omega) ?_ | refine o_s rfl rfl rfl (by constructor; first | omega | assumption) ?_ | refine o_t rfl rfl rfl (by constructor; assumption) ?_ | (apply o_easy rfl rfl rfl; conv => lhs; whnf) | apply o_non rfl)); apply o_end; (repeat (first | exact OutS.nil | exact GetS.hit | exact PutS.hit | apply GetS.miss rfl | apply PutS.miss rfl | apply OutS.cons | apply OutS.skip rfl)))
      refine c_ret ⟨_, _, rfl, ?_⟩
      simp only [NumAt, if_pos hV]
      rw [take_push s s1 _ hlen hto]
      have : ds.isEmpty = false := by cases ds; exact absurd rfl hne; rfl
      rw [this]
      rfl
  · intro hV n x13 x12 x7 x22 k
    refine fin_panic (leave_eff (lay_cons rfl lay_nil) (by rfl)) ?_
    simp only [NumAt, if_neg (Nat.not_le.2 hV)]
    rw [take_push s s1 _ hlen hto]
    rfl

end Go.Tok

namespace Go.Tok
open Go Go.Am Go.Proofs

/-- the loop 0 of function 62 -/
def lp62_0 : ACode := .seq (.seq (.drawn [⟨(some 5), .v (.load none (.tmp 0)), none⟩, ⟨(some 6), .v (.load none (.tmp 1)), none⟩, ⟨(some 7), .v (.nilCheck (.tmp 6)), none⟩, ⟨(some 8), .v (.fieldAddr 0 none (.tmp 7)), none⟩, ⟨(some 9), .v (.load none (.tmp 8)), none⟩, ⟨(some 10), .v (.len 0 (.tmp 9)), none⟩, ⟨(some 11), .v (.bin .lss (.tmp 5) (.tmp 10)), none⟩, ⟨(some 12), .v (.move (.tmp 11)), none⟩, ⟨(some 13), .v (.load none (.tmp 1)), (some (12, true))⟩, ⟨(some 14), .v (.nilCheck (.tmp 13)), (some (12, true))⟩, ⟨(some 15), .v (.fieldAddr 0 none (.tmp 14)), (some (12, true))⟩, ⟨(some 16), .v (.load none (.tmp 15)), (some (12, true))⟩, ⟨(some 17), .v (.load none (.tmp 0)), (some (12, true))⟩, ⟨(some 18), .v (.indexS (.tmp 16) (.tmp 17)), (some (12, true))⟩, ⟨(some 19), .call 41 [(.tmp 18)], (some (12, true))⟩, ⟨(some 20), .v (.pick (.tmp 12) (.tmp 19) (.const (.bool false))), none⟩] [20] [] false 0) (.cond (.tmp 20) (.skip) (.exit 0))) (.block 1 (.region [⟨(some 21), .v (.load none (.tmp 0)), none⟩, ⟨(some 22), .v (.bin .add (.tmp 21) (.const (.int .i64 1))), none⟩, ⟨none, .e (.store 1 (.tmp 0) (.tmp 22)), none⟩] []))

abbrev fr62 (j x i : Nat) (x20 : AV) : Fr :=
  ⟨[(0, .ptr j 0 0), (1, .ptr x 0 0), (2, .bool false), (20, x20), (3, .int .i64 i)], [], .off⟩

set_option maxHeartbeats 1000000 in
theorem clo_loop (m : Nat) (b : Bar) (t : List UInt8) (u : Bool) (o mx : Int) (at' p i r j x : Nat) (out : AV) (ht : t.length < 2 ^ 40) (hb : b.w ≤ j) (hjx : x ≠ j) (hjr : r ≠ j) {Q : Ex → Fr → Sg → Prop} :
    ∀ (ds : List UInt8) (k L : Nat) (x20 : AV) (s : Sg), DigAt t k ds → k ≤ t.length → ds.length + 1 ≤ L → getCells s.heap r 0 = some (lx t u o mx at' p out) → getCells s.heap x 0 = some [.ptr r 0 0] → getCells s.heap j 0 = some [.int .i64 k] →
    (∀ x20, Q (.exit 0) (fr62 j x i x20) (s.put j (.cells [.int .i64 (k + ds.length : Nat)] 0))) →
    OkL L (fun fr s => ACode.run (loopN (m + 1)) (callF T (m + 1)) b lp62_0 fr s) (fr62 j x i x20) s Q := by
  intro ds
  induction ds with
  | nil =>
    intro k L x20 s hd hk hL hg hx hj hq
    obtain ⟨L, rfl⟩ : ∃ L', L = L' + 1 := ⟨L - 1, by omega⟩
    have hq' := hq (.bool false)
    rw [List.length_nil, Nat.add_zero, Sg.put_same hj] at hq'
    apply l_round
    rcases Nat.lt_or_ge k t.length with h | h
    · obtain ⟨c, hc⟩ : ∃ c, t[k]? = some c := ⟨_, List.getElem?_eq_getElem h⟩
      ((repeat refine c_seq ?_); refine c_drawn ?_; (repeat (first | ((first | apply o_move rfl rfl | apply o_easy1 rfl rfl rfl | apply o_ld rfl rfl (by assumption) (by first | rfl | assumption)); conv => lhs; whnf) | apply o_no rfl | refine o_b rfl rfl rfl (by constructor; omega) ?_ | refine o_f rfl rfl rfl (by constructor; omega) ?_ | refine o_s rfl rfl rfl (by constructor; first | omega | assumption) ?_ | refine o_t rfl rfl rfl (by constructor; assumption) ?_ | (apply o_easy rfl rfl rfl; conv => lhs; whnf) | apply o_non rfl)))
      refine o_idxS (j := k) rfl rfl rfl rfl hc ?_
      refine o_call rfl rfl (digit_no m _ c s (hd.nil c hc)) ?_
      (repeat (first | ((first | apply o_move rfl rfl | apply o_easy1 rfl rfl rfl | apply o_ld rfl rfl (by assumption) (by first | rfl | assumption)); conv => lhs; whnf) | apply o_no rfl | refine o_b rfl rfl rfl (by constructor; omega) ?_ | refine o_f rfl rfl rfl (by constructor; omega) ?_ | refine o_s rfl rfl rfl (by constructor; first | omega | assumption) ?_ | refine o_t rfl rfl rfl (by constructor; assumption) ?_ | (apply o_easy rfl rfl rfl; conv => lhs; whnf) | apply o_non rfl))
      (apply d_end rfl; (repeat (first | exact OutS.nil | exact GetS.hit | exact PutS.hit | apply GetS.miss rfl | apply PutS.miss rfl | apply OutS.cons | apply OutS.skip rfl)))
      ((repeat refine c_seq ?_); refine c_else rfl ?_)
      exact c_exit hq'
    · ((repeat refine c_seq ?_); refine c_drawn ?_; (repeat (first | ((first | apply o_move rfl rfl | apply o_easy1 rfl rfl rfl | apply o_ld rfl rfl (by assumption) (by first | rfl | assumption)); conv => lhs; whnf) | apply o_no rfl | refine o_b rfl rfl rfl (by constructor; omega) ?_ | refine o_f rfl rfl rfl (by constructor; omega) ?_ | refine o_s rfl rfl rfl (by constructor; first | omega | assumption) ?_ | refine o_t rfl rfl rfl (by constructor; assumption) ?_ | (apply o_easy rfl rfl rfl; conv => lhs; whnf) | apply o_non rfl)); apply d_end rfl; (repeat (first | exact OutS.nil | exact GetS.hit | exact PutS.hit | apply GetS.miss rfl | apply PutS.miss rfl | apply OutS.cons | apply OutS.skip rfl)))
      ((repeat refine c_seq ?_); refine c_else rfl ?_)
      exact c_exit hq'
  | cons c ds ih =>
    intro k L x20 s hd hk hL hg hx hj hq
    obtain ⟨L, rfl⟩ : ∃ L', L = L' + 1 := ⟨L - 1, by omega⟩
    obtain ⟨hc, hcd, hd'⟩ := hd.step
    have hkl := lt_of_getElem? hc
    apply l_round
    ((repeat refine c_seq ?_); refine c_drawn ?_; (repeat (first | ((first | apply o_move rfl rfl | apply o_easy1 rfl rfl rfl | apply o_ld rfl rfl (by assumption) (by first | rfl | assumption)); conv => lhs; whnf) | apply o_no rfl | refine o_b rfl rfl rfl (by constructor; omega) ?_ | refine o_f rfl rfl rfl (by constructor; omega) ?_ | refine o_s rfl rfl rfl (by constructor; first | omega | assumption) ?_ | refine o_t rfl rfl rfl (by constructor; assumption) ?_ | (apply o_easy rfl rfl rfl; conv => lhs; whnf) | apply o_non rfl)))
    refine o_idxS (j := k) rfl rfl rfl rfl hc ?_
    refine o_call rfl rfl (digit_yes m _ c s hcd) ?_
    (repeat (first | ((first | apply o_move rfl rfl | apply o_easy1 rfl rfl rfl | apply o_ld rfl rfl (by assumption) (by first | rfl | assumption)); conv => lhs; whnf) | apply o_no rfl | refine o_b rfl rfl rfl (by constructor; omega) ?_ | refine o_f rfl rfl rfl (by constructor; omega) ?_ | refine o_s rfl rfl rfl (by constructor; first | omega | assumption) ?_ | refine o_t rfl rfl rfl (by constructor; assumption) ?_ | (apply o_easy rfl rfl rfl; conv => lhs; whnf) | apply o_non rfl))
    (apply d_end rfl; (repeat (first | exact OutS.nil | exact GetS.hit | exact PutS.hit | apply GetS.miss rfl | apply PutS.miss rfl | apply OutS.cons | apply OutS.skip rfl)))
    ((repeat refine c_seq ?_); refine c_if rfl ?_)
    refine c_skip ?_
    ((repeat refine c_seq ?_); refine c_block ?_)
    ((repeat refine c_seq ?_); refine c_region ?_; (repeat (first | ((first | apply o_move rfl rfl | apply o_easy1 rfl rfl rfl | apply o_ld rfl rfl (by assumption) (by first | rfl | assumption)); conv => lhs; whnf) | apply o_no rfl | refine o_b rfl rfl rfl (by constructor; omega) ?_ | refine o_f rfl rfl rfl (by constructor; omega) ?_ | refine o_s rfl rfl rfl (by constructor; first | omega | assumption) ?_ | refine o_t rfl rfl rfl (by constructor; assumption) ?_ | (apply o_easy rfl rfl rfl; conv => lhs; whnf) | apply o_non rfl)))
    refine o_st rfl rfl rfl rfl hj rfl (lets_of (blt_no hb) (fun e => rfl)) (cs' := [.int .i64 (k + 1 : Nat)]) rfl ?_
    (apply o_end; (repeat (first | exact OutS.nil | exact GetS.hit | exact PutS.hit | apply GetS.miss rfl | apply PutS.miss rfl | apply OutS.cons | apply OutS.skip rfl)))
    refine ih (k + 1) L _ _ hd' (by omega) (by simp at hL; omega) (getCells_put_ne hjr hg) (getCells_put_ne hjx hx) (getCells_put hj) fun x => ?_
    rw [Sg.put_put, Nat.add_assoc, Nat.add_comm 1]
    exact hq x

/-- the closure of shaped -/
theorem clo_spec (m : Nat) (b : Bar) (t : List UInt8) (u : Bool) (o mx : Int) (at' p i r j x : Nat) (out : AV) (ds : List UInt8) (s : Sg) (ht : t.length < 2 ^ 40) (hb : b.w ≤ j) (hjx : x ≠ j) (hjr : r ≠ j) (hd : DigAt t i ds) (hi : i ≤ t.length) (hm : ds.length + 1 ≤ m + 1) (hg : getCells s.heap r 0 = some (lx t u o mx at' p out)) (hx : getCells s.heap x 0 = some [.ptr r 0 0]) (hj : getCells s.heap j 0 = some [.int .i64 i]) :
    callF T (m + 2) b 62 [.ptr j 0 0, .ptr x 0 0] s = some (.ret (.bool (!ds.isEmpty)), s.put j (.cells [.int .i64 (i + ds.length : Nat)] 0)) := by
  have hdl : i + ds.length ≤ t.length := by
    obtain ⟨_, rest, h2, _⟩ := hd
    have := congrArg List.length h2
    simp at this
    omega
  (apply f_of rfl rfl; (repeat (first | exact Shape.nil | (apply Shape.cons; conv => lhs; whnf))))
  ((repeat refine c_seq ?_); refine c_region ?_; (repeat (first | ((first | apply o_move rfl rfl | apply o_easy1 rfl rfl rfl | apply o_ld rfl rfl (by assumption) (by first | rfl | assumption)); conv => lhs; whnf) | apply o_no rfl | refine o_b rfl rfl rfl (by constructor; omega) ?_ | refine o_f rfl rfl rfl (by constructor; omega) ?_ | refine o_s rfl rfl rfl (by constructor; first | omega | assumption) ?_ | refine o_t rfl rfl rfl (by constructor; assumption) ?_ | (apply o_easy rfl rfl rfl; conv => lhs; whnf) | apply o_non rfl)); apply o_end; (repeat (first | exact OutS.nil | exact GetS.hit | exact PutS.hit | apply GetS.miss rfl | apply PutS.miss rfl | apply OutS.cons | apply OutS.skip rfl)))
  ((repeat refine c_seq ?_); refine c_region ?_; (repeat (first | ((first | apply o_move rfl rfl | apply o_easy1 rfl rfl rfl | apply o_ld rfl rfl (by assumption) (by first | rfl | assumption)); conv => lhs; whnf) | apply o_no rfl | refine o_b rfl rfl rfl (by constructor; omega) ?_ | refine o_f rfl rfl rfl (by constructor; omega) ?_ | refine o_s rfl rfl rfl (by constructor; first | omega | assumption) ?_ | refine o_t rfl rfl rfl (by constructor; assumption) ?_ | (apply o_easy rfl rfl rfl; conv => lhs; whnf) | apply o_non rfl)); apply o_end; (repeat (first | exact OutS.nil | exact GetS.hit | exact PutS.hit | apply GetS.miss rfl | apply PutS.miss rfl | apply OutS.cons | apply OutS.skip rfl)))
  refine c_seq ?_
  ((repeat refine c_seq ?_); refine c_block ?_)
  refine c_loop (x := lp62_0) ?_
  refine clo_loop m (b.into af62.mode s) t u o mx at' p i r j x out ht hb hjx hjr ds i _ _ s hd hi hm hg hx hj fun x20 => ?_
  have hj' := getCells_put (cs' := [.int .i64 (i + ds.length : Nat)]) (g' := 0) hj
  have hlen := s.put_len j (.cells [.int .i64 (i + ds.length : Nat)] 0)
  show OkC _ _ _ _ _ _ _
  cases ds with
  | nil =>
    have hl0 : ([] : List UInt8).length = 0 := rfl
    ((repeat refine c_seq ?_); refine c_region ?_; (repeat (first | ((first | apply o_move rfl rfl | apply o_easy1 rfl rfl rfl | apply o_ld rfl rfl (by assumption) (by first | rfl | assumption)); conv => lhs; whnf) | apply o_no rfl | refine o_b rfl rfl rfl (by constructor; omega) ?_ | refine o_f rfl rfl rfl (by constructor; omega) ?_ | refine o_s rfl rfl rfl (by constructor; first | omega | assumption) ?_ | refine o_t rfl rfl rfl (by constructor; assumption) ?_ | (apply o_easy rfl rfl rfl; conv => lhs; whnf) | apply o_non rfl)); apply o_end; (repeat (first | exact OutS.nil | exact GetS.hit | exact PutS.hit | apply GetS.miss rfl | apply PutS.miss rfl | apply OutS.cons | apply OutS.skip rfl)))
    refine c_ret ?_
    show some (Out.ret _, ({ heap := (s.put j _).heap.take s.heap.length, toks := s.toks } : Sg)) = _
    rw [← hlen, List.take_length]
    rfl
  | cons c ds =>
    have hl0 : (c :: ds).length = ds.length + 1 := rfl
    ((repeat refine c_seq ?_); refine c_region ?_; (repeat (first | ((first | apply o_move rfl rfl | apply o_easy1 rfl rfl rfl | apply o_ld rfl rfl (by assumption) (by first | rfl | assumption)); conv => lhs; whnf) | apply o_no rfl | refine o_b rfl rfl rfl (by constructor; omega) ?_ | refine o_f rfl rfl rfl (by constructor; omega) ?_ | refine o_s rfl rfl rfl (by constructor; first | omega | assumption) ?_ | refine o_t rfl rfl rfl (by constructor; assumption) ?_ | (apply o_easy rfl rfl rfl; conv => lhs; whnf) | apply o_non rfl)); apply o_end; (repeat (first | exact OutS.nil | exact GetS.hit | exact PutS.hit | apply GetS.miss rfl | apply PutS.miss rfl | apply OutS.cons | apply OutS.skip rfl)))
    refine c_ret ?_
    show some (Out.ret _, ({ heap := (s.put j _).heap.take s.heap.length, toks := s.toks } : Sg)) = _
    rw [← hlen, List.take_length]
    rfl

end Go.Tok

namespace Go.Tok
open Go Go.Am Go.Proofs

/-- what shaped finds: a number, a comma, perhaps a number, a brace -/
structure ShapeAt (t : List UInt8) (i : Nat) (D E : List UInt8) : Prop where
  d : DigAt t i D
  ne : D ≠ []
  comma : t[i + D.length]? = some 44
  e : DigAt t (i + D.length + 1) E
  close : t[i + D.length + 1 + E.length]? = some 125

theorem emp_ne {D : List UInt8} (h : D ≠ []) : D.isEmpty = false := by cases D; exact absurd rfl h; rfl

theorem shaped_spec (m : Nat) (b : Bar) (t : List UInt8) (u : Bool) (o mx : Int) (at' i r : Nat) (out : AV) (D E : List UInt8) (s : Sg) (ht : t.length < 2 ^ 40) (h : ShapeAt t i D E) (hm : t.length ≤ m) (hg : getCells s.heap r 0 = some (lx t u o mx at' i out)) :
    callF T (m + 4) b 37 [.ptr r 0 0] s = some (.ret (.int .i64 (i + D.length + 1 + E.length + 1 : Nat)), s) := by
  obtain ⟨hD, hne, hco, hE, hcl⟩ := h
  have hr := getCells_lt hg
  have l1 := lt_of_getElem? hco
  have l2 := lt_of_getElem? hcl
  have heD := emp_ne hne
  (apply f_of rfl rfl; (repeat (first | exact Shape.nil | (apply Shape.cons; conv => lhs; whnf))))
  ((repeat refine c_seq ?_); refine c_region ?_; (repeat (first | ((first | apply o_move rfl rfl | apply o_easy1 rfl rfl rfl | apply o_ld rfl rfl (by assumption) (by first | rfl | assumption)); conv => lhs; whnf) | apply o_no rfl | refine o_b rfl rfl rfl (by constructor; omega) ?_ | refine o_f rfl rfl rfl (by constructor; omega) ?_ | refine o_s rfl rfl rfl (by constructor; first | omega | assumption) ?_ | refine o_t rfl rfl rfl (by constructor; assumption) ?_ | (apply o_easy rfl rfl rfl; conv => lhs; whnf) | apply o_non rfl)))
  refine o_box (v := .ptr r 0 0) (l := [.ptr r 0 0]) rfl rfl rfl ?_
  (repeat (first | ((first | apply o_move rfl rfl | apply o_easy1 rfl rfl rfl | apply o_ld rfl rfl (by assumption) (by first | rfl | assumption)); conv => lhs; whnf) | apply o_no rfl | refine o_b rfl rfl rfl (by constructor; omega) ?_ | refine o_f rfl rfl rfl (by constructor; omega) ?_ | refine o_s rfl rfl rfl (by constructor; first | omega | assumption) ?_ | refine o_t rfl rfl rfl (by constructor; assumption) ?_ | (apply o_easy rfl rfl rfl; conv => lhs; whnf) | apply o_non rfl))
  (apply o_end; (repeat (first | exact OutS.nil | exact GetS.hit | exact PutS.hit | apply GetS.miss rfl | apply PutS.miss rfl | apply OutS.cons | apply OutS.skip rfl)))
  have hx := getCells_new s [.ptr r 0 0] 0
  have hg1 := getCells_push (.cells [.ptr r 0 0] 0) hg
  ((repeat refine c_seq ?_); refine c_region ?_; (repeat (first | ((first | apply o_move rfl rfl | apply o_easy1 rfl rfl rfl | apply o_ld rfl rfl (by assumption) (by first | rfl | assumption)); conv => lhs; whnf) | apply o_no rfl | refine o_b rfl rfl rfl (by constructor; omega) ?_ | refine o_f rfl rfl rfl (by constructor; omega) ?_ | refine o_s rfl rfl rfl (by constructor; first | omega | assumption) ?_ | refine o_t rfl rfl rfl (by constructor; assumption) ?_ | (apply o_easy rfl rfl rfl; conv => lhs; whnf) | apply o_non rfl)))
  refine o_alloc rfl ?_
  have hx2 := getCells_push (.cells [.int .i64 0] 0) hx
  have hg2 := getCells_push (.cells [.int .i64 0] 0) hg1
  have hj2 := getCells_new (s.push (.cells [.ptr r 0 0] 0)) [.int .i64 0] 0
  have lj : (s.push (.cells [.ptr r 0 0] 0)).heap.length = s.heap.length + 1 := by simp [Sg.push]
  generalize hJ : (s.push (.cells [.ptr r 0 0] 0)).heap.length = J at hj2 lj ⊢
  generalize (s.push (.cells [.ptr r 0 0] 0)).push (.cells [.int .i64 0] 0) = s2 at hx2 hg2 hj2 ⊢
  refine o_st rfl rfl rfl rfl hj2 rfl (lets_of (blt_no (by show s.heap.length ≤ J; omega)) (fun e => rfl)) (cs' := [.int .i64 i]) rfl ?_
  (apply o_end; (repeat (first | exact OutS.nil | exact GetS.hit | exact PutS.hit | apply GetS.miss rfl | apply PutS.miss rfl | apply OutS.cons | apply OutS.skip rfl)))
  have hx3 := getCells_put_ne (i := J) (o := .cells [.int .i64 i] 0) (by omega) hx2
  have hg3 := getCells_put_ne (i := J) (o := .cells [.int .i64 i] 0) (by omega) hg2
  have hj3 := getCells_put (cs' := [.int .i64 i]) (g' := 0) hj2
  generalize s2.put J (.cells [.int .i64 i] 0) = s3 at hx3 hg3 hj3 ⊢
  ((repeat refine c_seq ?_); refine c_region ?_; (repeat (first | ((first | apply o_move rfl rfl | apply o_easy1 rfl rfl rfl | apply o_ld rfl rfl (by assumption) (by first | rfl | assumption)); conv => lhs; whnf) | apply o_no rfl | refine o_b rfl rfl rfl (by constructor; omega) ?_ | refine o_f rfl rfl rfl (by constructor; omega) ?_ | refine o_s rfl rfl rfl (by constructor; first | omega | assumption) ?_ | refine o_t rfl rfl rfl (by constructor; assumption) ?_ | (apply o_easy rfl rfl rfl; conv => lhs; whnf) | apply o_non rfl)); apply o_end; (repeat (first | exact OutS.nil | exact GetS.hit | exact PutS.hit | apply GetS.miss rfl | apply PutS.miss rfl | apply OutS.cons | apply OutS.skip rfl)))
  ((repeat refine c_seq ?_); refine c_region ?_; (repeat (first | ((first | apply o_move rfl rfl | apply o_easy1 rfl rfl rfl | apply o_ld rfl rfl (by assumption) (by first | rfl | assumption)); conv => lhs; whnf) | apply o_no rfl | refine o_b rfl rfl rfl (by constructor; omega) ?_ | refine o_f rfl rfl rfl (by constructor; omega) ?_ | refine o_s rfl rfl rfl (by constructor; first | omega | assumption) ?_ | refine o_t rfl rfl rfl (by constructor; assumption) ?_ | (apply o_easy rfl rfl rfl; conv => lhs; whnf) | apply o_non rfl)))
  refine o_callv rfl rfl rfl rfl (clo_spec (m + 1) _ t u o mx at' i i r J s.heap.length out D s3 ht (by show s.heap.length ≤ J; omega) (by omega) (by omega) hD (by omega) (by omega) hg3 hx3 hj3) ?_
  rw [heD]
  (repeat (first | ((first | apply o_move rfl rfl | apply o_easy1 rfl rfl rfl | apply o_ld rfl rfl (by assumption) (by first | rfl | assumption)); conv => lhs; whnf) | apply o_no rfl | refine o_b rfl rfl rfl (by constructor; omega) ?_ | refine o_f rfl rfl rfl (by constructor; omega) ?_ | refine o_s rfl rfl rfl (by constructor; first | omega | assumption) ?_ | refine o_t rfl rfl rfl (by constructor; assumption) ?_ | (apply o_easy rfl rfl rfl; conv => lhs; whnf) | apply o_non rfl))
  (apply o_end; (repeat (first | exact OutS.nil | exact GetS.hit | exact PutS.hit | apply GetS.miss rfl | apply PutS.miss rfl | apply OutS.cons | apply OutS.skip rfl)))
  ((repeat refine c_seq ?_); refine c_else rfl ?_)
  refine c_skip ?_
  have hx4 := getCells_put_ne (i := J) (o := .cells [.int .i64 (i + D.length : Nat)] 0) (by omega) hx3
  have hg4 := getCells_put_ne (i := J) (o := .cells [.int .i64 (i + D.length : Nat)] 0) (by omega) hg3
  have hj4 := getCells_put (cs' := [.int .i64 (i + D.length : Nat)]) (g' := 0) hj3
  generalize s3.put J (.cells [.int .i64 (i + D.length : Nat)] 0) = s4 at hx4 hg4 hj4 ⊢
  ((repeat refine c_seq ?_); refine c_drawn ?_; (repeat (first | ((first | apply o_move rfl rfl | apply o_easy1 rfl rfl rfl | apply o_ld rfl rfl (by assumption) (by first | rfl | assumption)); conv => lhs; whnf) | apply o_no rfl | refine o_b rfl rfl rfl (by constructor; omega) ?_ | refine o_f rfl rfl rfl (by constructor; omega) ?_ | refine o_s rfl rfl rfl (by constructor; first | omega | assumption) ?_ | refine o_t rfl rfl rfl (by constructor; assumption) ?_ | (apply o_easy rfl rfl rfl; conv => lhs; whnf) | apply o_non rfl)))
  refine o_idxS (j := i + D.length) rfl rfl rfl rfl hco ?_
  (repeat (first | ((first | apply o_move rfl rfl | apply o_easy1 rfl rfl rfl | apply o_ld rfl rfl (by assumption) (by first | rfl | assumption)); conv => lhs; whnf) | apply o_no rfl | refine o_b rfl rfl rfl (by constructor; omega) ?_ | refine o_f rfl rfl rfl (by constructor; omega) ?_ | refine o_s rfl rfl rfl (by constructor; first | omega | assumption) ?_ | refine o_t rfl rfl rfl (by constructor; assumption) ?_ | (apply o_easy rfl rfl rfl; conv => lhs; whnf) | apply o_non rfl))
  (apply d_end rfl; (repeat (first | exact OutS.nil | exact GetS.hit | exact PutS.hit | apply GetS.miss rfl | apply PutS.miss rfl | apply OutS.cons | apply OutS.skip rfl)))
  ((repeat refine c_seq ?_); refine c_if rfl ?_)
  ((repeat refine c_seq ?_); refine c_region ?_; (repeat (first | ((first | apply o_move rfl rfl | apply o_easy1 rfl rfl rfl | apply o_ld rfl rfl (by assumption) (by first | rfl | assumption)); conv => lhs; whnf) | apply o_no rfl | refine o_b rfl rfl rfl (by constructor; omega) ?_ | refine o_f rfl rfl rfl (by constructor; omega) ?_ | refine o_s rfl rfl rfl (by constructor; first | omega | assumption) ?_ | refine o_t rfl rfl rfl (by constructor; assumption) ?_ | (apply o_easy rfl rfl rfl; conv => lhs; whnf) | apply o_non rfl)))
  refine o_st rfl rfl rfl rfl hj4 rfl (lets_of (blt_no (by show s.heap.length ≤ J; omega)) (fun e => rfl)) (cs' := [.int .i64 (i + D.length + 1 : Nat)]) rfl ?_
  (apply o_end; (repeat (first | exact OutS.nil | exact GetS.hit | exact PutS.hit | apply GetS.miss rfl | apply PutS.miss rfl | apply OutS.cons | apply OutS.skip rfl)))
  have hx5 := getCells_put_ne (i := J) (o := .cells [.int .i64 (i + D.length + 1 : Nat)] 0) (by omega) hx4
  have hg5 := getCells_put_ne (i := J) (o := .cells [.int .i64 (i + D.length + 1 : Nat)] 0) (by omega) hg4
  have hj5 := getCells_put (cs' := [.int .i64 (i + D.length + 1 : Nat)]) (g' := 0) hj4
  generalize s4.put J (.cells [.int .i64 (i + D.length + 1 : Nat)] 0) = s5 at hx5 hg5 hj5 ⊢
  ((repeat refine c_seq ?_); refine c_region ?_; (repeat (first | ((first | apply o_move rfl rfl | apply o_easy1 rfl rfl rfl | apply o_ld rfl rfl (by assumption) (by first | rfl | assumption)); conv => lhs; whnf) | apply o_no rfl | refine o_b rfl rfl rfl (by constructor; omega) ?_ | refine o_f rfl rfl rfl (by constructor; omega) ?_ | refine o_s rfl rfl rfl (by constructor; first | omega | assumption) ?_ | refine o_t rfl rfl rfl (by constructor; assumption) ?_ | (apply o_easy rfl rfl rfl; conv => lhs; whnf) | apply o_non rfl)))
  refine o_callv rfl rfl rfl rfl (clo_spec (m + 1) _ t u o mx at' i (i + D.length + 1) r J s.heap.length out E s5 ht (by show s.heap.length ≤ J; omega) (by omega) (by omega) hE (by omega) (by omega) hg5 hx5 hj5) ?_
  (repeat (first | ((first | apply o_move rfl rfl | apply o_easy1 rfl rfl rfl | apply o_ld rfl rfl (by assumption) (by first | rfl | assumption)); conv => lhs; whnf) | apply o_no rfl | refine o_b rfl rfl rfl (by constructor; omega) ?_ | refine o_f rfl rfl rfl (by constructor; omega) ?_ | refine o_s rfl rfl rfl (by constructor; first | omega | assumption) ?_ | refine o_t rfl rfl rfl (by constructor; assumption) ?_ | (apply o_easy rfl rfl rfl; conv => lhs; whnf) | apply o_non rfl))
  (apply o_end; (repeat (first | exact OutS.nil | exact GetS.hit | exact PutS.hit | apply GetS.miss rfl | apply PutS.miss rfl | apply OutS.cons | apply OutS.skip rfl)))
  have hx6 := getCells_put_ne (i := J) (o := .cells [.int .i64 (i + D.length + 1 + E.length : Nat)] 0) (by omega) hx5
  have hg6 := getCells_put_ne (i := J) (o := .cells [.int .i64 (i + D.length + 1 + E.length : Nat)] 0) (by omega) hg5
  have hj6 := getCells_put (cs' := [.int .i64 (i + D.length + 1 + E.length : Nat)]) (g' := 0) hj5
  generalize s5.put J (.cells [.int .i64 (i + D.length + 1 + E.length : Nat)] 0) = s6 at hx6 hg6 hj6 ⊢
  ((repeat refine c_seq ?_); refine c_drawn ?_; (repeat (first | ((first | apply o_move rfl rfl | apply o_easy1 rfl rfl rfl | apply o_ld rfl rfl (by assumption) (by first | rfl | assumption)); conv => lhs; whnf) | apply o_no rfl | refine o_b rfl rfl rfl (by constructor; omega) ?_ | refine o_f rfl rfl rfl (by constructor; omega) ?_ | refine o_s rfl rfl rfl (by constructor; first | omega | assumption) ?_ | refine o_t rfl rfl rfl (by constructor; assumption) ?_ | (apply o_easy rfl rfl rfl; conv => lhs; whnf) | apply o_non rfl)))
  refine o_idxS (j := i + D.length + 1 + E.length) rfl rfl rfl rfl hcl ?_
  (repeat (first | ((first | apply o_move rfl rfl | apply o_easy1 rfl rfl rfl | apply o_ld rfl rfl (by assumption) (by first | rfl | assumption)); conv => lhs; whnf) | apply o_no rfl | refine o_b rfl rfl rfl (by constructor; omega) ?_ | refine o_f rfl rfl rfl (by constructor; omega) ?_ | refine o_s rfl rfl rfl (by constructor; first | omega | assumption) ?_ | refine o_t rfl rfl rfl (by constructor; assumption) ?_ | (apply o_easy rfl rfl rfl; conv => lhs; whnf) | apply o_non rfl))
  (apply d_end rfl; (repeat (first | exact OutS.nil | exact GetS.hit | exact PutS.hit | apply GetS.miss rfl | apply PutS.miss rfl | apply OutS.cons | apply OutS.skip rfl)))
  ((repeat refine c_seq ?_); refine c_if rfl ?_)
  ((repeat refine c_seq ?_); refine c_region ?_; (repeat (first | ((first | apply o_move rfl rfl | apply o_easy1 rfl rfl rfl | apply o_ld rfl rfl (by assumption) (by first | rfl | assumption)); conv => lhs; whnf) | apply o_no rfl | refine o_b rfl rfl rfl (by constructor; omega) ?_ | refine o_f rfl rfl rfl (by constructor; omega) ?_ | refine o_s rfl rfl rfl (by constructor; first | omega | assumption) ?_ | refine o_t rfl rfl rfl (by constructor; assumption) ?_ | (apply o_easy rfl rfl rfl; conv => lhs; whnf) | apply o_non rfl)); apply o_end; (repeat (first | exact OutS.nil | exact GetS.hit | exact PutS.hit | apply GetS.miss rfl | apply PutS.miss rfl | apply OutS.cons | apply OutS.skip rfl)))
  exact c_ret rfl

end Go.Tok

namespace Go.Tok
open Go Go.Am Go.Proofs

/-- (*lexer).take, of what is there -/
theorem take_yes (m : Nat) (b : Bar) (t : List UInt8) (u : Bool) (o mx : Int) (at' i r : Nat) (out : AV) (c : UInt8) (s : Sg) (ht : t.length < 2 ^ 40) (hb : b.w ≤ r) (hc : t[i]? = some c) (hg : getCells s.heap r 0 = some (lx t u o mx at' i out)) :
    callF T (m + 3) b 17 [.ptr r 0 0, .str [c]] s = some (.ret (.bool true), s.put r (.cells (lx t u o mx at' (i + 1) out) 0)) := by
  have hi := lt_of_getElem? hc
  have hh : ((t.drop i).head? == some c) = true := by
    rw [List.head?_drop, hc]
    simp
  have hl1 : [c].length = 1 := rfl
  have hlen := s.put_len r (.cells (lx t u o mx at' (i + 1) out) 0)
  (apply f_of rfl rfl; (repeat (first | exact Shape.nil | (apply Shape.cons; conv => lhs; whnf))))
  ((repeat refine c_seq ?_); refine c_region ?_; (repeat (first | ((first | apply o_move rfl rfl | apply o_easy1 rfl rfl rfl | apply o_ld rfl rfl (by assumption) (by first | rfl | assumption)); conv => lhs; whnf) | apply o_no rfl | refine o_b rfl rfl rfl (by constructor; omega) ?_ | refine o_f rfl rfl rfl (by constructor; omega) ?_ | refine o_s rfl rfl rfl (by constructor; first | omega | assumption) ?_ | refine o_t rfl rfl rfl (by constructor; assumption) ?_ | (apply o_easy rfl rfl rfl; conv => lhs; whnf) | apply o_non rfl)); apply o_end; (repeat (first | exact OutS.nil | exact GetS.hit | exact PutS.hit | apply GetS.miss rfl | apply PutS.miss rfl | apply OutS.cons | apply OutS.skip rfl)))
  ((repeat refine c_seq ?_); refine c_drawn ?_; (repeat (first | ((first | apply o_move rfl rfl | apply o_easy1 rfl rfl rfl | apply o_ld rfl rfl (by assumption) (by first | rfl | assumption)); conv => lhs; whnf) | apply o_no rfl | refine o_b rfl rfl rfl (by constructor; omega) ?_ | refine o_f rfl rfl rfl (by constructor; omega) ?_ | refine o_s rfl rfl rfl (by constructor; first | omega | assumption) ?_ | refine o_t rfl rfl rfl (by constructor; assumption) ?_ | (apply o_easy rfl rfl rfl; conv => lhs; whnf) | apply o_non rfl)))
  refine o_slFrom (l := t) (i := i) rfl rfl rfl rfl (by omega) ?_
  (repeat (first | ((first | apply o_move rfl rfl | apply o_easy1 rfl rfl rfl | apply o_ld rfl rfl (by assumption) (by first | rfl | assumption)); conv => lhs; whnf) | apply o_no rfl | refine o_b rfl rfl rfl (by constructor; omega) ?_ | refine o_f rfl rfl rfl (by constructor; omega) ?_ | refine o_s rfl rfl rfl (by constructor; first | omega | assumption) ?_ | refine o_t rfl rfl rfl (by constructor; assumption) ?_ | (apply o_easy rfl rfl rfl; conv => lhs; whnf) | apply o_non rfl))
  refine o_call rfl rfl (pre_spec m _ (t.drop i) c true s (by rw [List.length_drop]; omega) hh.symm) ?_
  (repeat (first | ((first | apply o_move rfl rfl | apply o_easy1 rfl rfl rfl | apply o_ld rfl rfl (by assumption) (by first | rfl | assumption)); conv => lhs; whnf) | apply o_no rfl | refine o_b rfl rfl rfl (by constructor; omega) ?_ | refine o_f rfl rfl rfl (by constructor; omega) ?_ | refine o_s rfl rfl rfl (by constructor; first | omega | assumption) ?_ | refine o_t rfl rfl rfl (by constructor; assumption) ?_ | (apply o_easy rfl rfl rfl; conv => lhs; whnf) | apply o_non rfl))
  (apply d_end rfl; (repeat (first | exact OutS.nil | exact GetS.hit | exact PutS.hit | apply GetS.miss rfl | apply PutS.miss rfl | apply OutS.cons | apply OutS.skip rfl)))
  ((repeat refine c_seq ?_); refine c_if rfl ?_)
  ((repeat refine c_seq ?_); refine c_region ?_; (repeat (first | ((first | apply o_move rfl rfl | apply o_easy1 rfl rfl rfl | apply o_ld rfl rfl (by assumption) (by first | rfl | assumption)); conv => lhs; whnf) | apply o_no rfl | refine o_b rfl rfl rfl (by constructor; omega) ?_ | refine o_f rfl rfl rfl (by constructor; omega) ?_ | refine o_s rfl rfl rfl (by constructor; first | omega | assumption) ?_ | refine o_t rfl rfl rfl (by constructor; assumption) ?_ | (apply o_easy rfl rfl rfl; conv => lhs; whnf) | apply o_non rfl)))
  refine o_st rfl rfl rfl rfl hg rfl (lets_of (blt_no hb) (fun e => rfl)) (cs' := lx t u o mx at' (i + 1) out) rfl ?_
  (apply o_end; (repeat (first | exact OutS.nil | exact GetS.hit | exact PutS.hit | apply GetS.miss rfl | apply PutS.miss rfl | apply OutS.cons | apply OutS.skip rfl)))
  ((repeat refine c_seq ?_); refine c_region ?_; (repeat (first | ((first | apply o_move rfl rfl | apply o_easy1 rfl rfl rfl | apply o_ld rfl rfl (by assumption) (by first | rfl | assumption)); conv => lhs; whnf) | apply o_no rfl | refine o_b rfl rfl rfl (by constructor; omega) ?_ | refine o_f rfl rfl rfl (by constructor; omega) ?_ | refine o_s rfl rfl rfl (by constructor; first | omega | assumption) ?_ | refine o_t rfl rfl rfl (by constructor; assumption) ?_ | (apply o_easy rfl rfl rfl; conv => lhs; whnf) | apply o_non rfl)); apply o_end; (repeat (first | exact OutS.nil | exact GetS.hit | exact PutS.hit | apply GetS.miss rfl | apply PutS.miss rfl | apply OutS.cons | apply OutS.skip rfl)))
  refine c_ret ?_
  show some (Out.ret _, ({ heap := (s.put r _).heap.take s.heap.length, toks := s.toks } : Sg)) = _
  rw [← hlen, List.take_length]
  rfl

/-- what says a quantifier's mode -/
def ModeAt (t : List UInt8) (i : Nat) (md i2 : Nat) : Prop :=
  (md = 0 ∧ t[i]? = none ∧ i2 = i) ∨ (md = 1 ∧ t[i]? = some 63 ∧ i2 = i + 1) ∨ (md = 2 ∧ t[i]? = some 43 ∧ i2 = i + 1)

theorem quant_spec (m : Nat) (b : Bar) (s0 : Sg) (t : List UInt8) (u : Bool) (o mx : Int) (at' i i2 md r : Nat) (nn mm : Int) (l : List Tk) (s : Sg) (hb : b.w ≤ r) (hes : b.es = []) (ht : t.length < 2 ^ 40) (hi : i ≤ t.length) (hl : l.length < 2 ^ 20) (hmd : ModeAt t i md i2) (h : LS s0 r t u o mx at' i l s) :
    OkF (callF T (m + 4) b 22 [.ptr r 0 0, .int .i64 nn, .int .i64 mm] s) fun out s' => out = .ret (.tup []) ∧ LS s0 r t u o mx at' i2 (l ++ [⟨9, at', i2, 0, nn, mm, md⟩]) s' := by
  have h' := h
  obtain ⟨⟨out, hg, ho⟩, hlow⟩ := h'
  rcases hmd with ⟨rfl, hc, rfl⟩ | ⟨rfl, hc, rfl⟩ | ⟨rfl, hc, rfl⟩
  · (apply f_wp rfl rfl; (repeat (first | exact Shape.nil | (apply Shape.cons; conv => lhs; whnf))))
    ((repeat refine c_seq ?_); refine c_region ?_; (repeat (first | ((first | apply o_move rfl rfl | apply o_easy1 rfl rfl rfl | apply o_ld rfl rfl (by assumption) (by first | rfl | assumption)); conv => lhs; whnf) | apply o_no rfl | refine o_b rfl rfl rfl (by constructor; omega) ?_ | refine o_f rfl rfl rfl (by constructor; omega) ?_ | refine o_s rfl rfl rfl (by constructor; first | omega | assumption) ?_ | refine o_t rfl rfl rfl (by constructor; assumption) ?_ | (apply o_easy rfl rfl rfl; conv => lhs; whnf) | apply o_non rfl)); apply o_end; (repeat (first | exact OutS.nil | exact GetS.hit | exact PutS.hit | apply GetS.miss rfl | apply PutS.miss rfl | apply OutS.cons | apply OutS.skip rfl)))
    ((repeat refine c_seq ?_); refine c_region ?_; (repeat (first | ((first | apply o_move rfl rfl | apply o_easy1 rfl rfl rfl | apply o_ld rfl rfl (by assumption) (by first | rfl | assumption)); conv => lhs; whnf) | apply o_no rfl | refine o_b rfl rfl rfl (by constructor; omega) ?_ | refine o_f rfl rfl rfl (by constructor; omega) ?_ | refine o_s rfl rfl rfl (by constructor; first | omega | assumption) ?_ | refine o_t rfl rfl rfl (by constructor; assumption) ?_ | (apply o_easy rfl rfl rfl; conv => lhs; whnf) | apply o_non rfl)))
    refine o_call rfl rfl (take_no m _ t u o mx at' i2 r out 63 s ht hi (by rw [hc]; simp) hg) ?_
    (apply o_end; (repeat (first | exact OutS.nil | exact GetS.hit | exact PutS.hit | apply GetS.miss rfl | apply PutS.miss rfl | apply OutS.cons | apply OutS.skip rfl)))
    ((repeat refine c_seq ?_); refine c_else rfl ?_)
    ((repeat refine c_seq ?_); refine c_region ?_; (repeat (first | ((first | apply o_move rfl rfl | apply o_easy1 rfl rfl rfl | apply o_ld rfl rfl (by assumption) (by first | rfl | assumption)); conv => lhs; whnf) | apply o_no rfl | refine o_b rfl rfl rfl (by constructor; omega) ?_ | refine o_f rfl rfl rfl (by constructor; omega) ?_ | refine o_s rfl rfl rfl (by constructor; first | omega | assumption) ?_ | refine o_t rfl rfl rfl (by constructor; assumption) ?_ | (apply o_easy rfl rfl rfl; conv => lhs; whnf) | apply o_non rfl)))
    refine o_call rfl rfl (take_no m _ t u o mx at' i2 r out 43 s ht hi (by rw [hc]; simp) hg) ?_
    (apply o_end; (repeat (first | exact OutS.nil | exact GetS.hit | exact PutS.hit | apply GetS.miss rfl | apply PutS.miss rfl | apply OutS.cons | apply OutS.skip rfl)))
    ((repeat refine c_seq ?_); refine c_else rfl ?_)
    refine c_skip ?_
    ((repeat refine c_seq ?_); refine c_region ?_; (repeat (first | ((first | apply o_move rfl rfl | apply o_easy1 rfl rfl rfl | apply o_ld rfl rfl (by assumption) (by first | rfl | assumption)); conv => lhs; whnf) | apply o_no rfl | refine o_b rfl rfl rfl (by constructor; omega) ?_ | refine o_f rfl rfl rfl (by constructor; omega) ?_ | refine o_s rfl rfl rfl (by constructor; first | omega | assumption) ?_ | refine o_t rfl rfl rfl (by constructor; assumption) ?_ | (apply o_easy rfl rfl rfl; conv => lhs; whnf) | apply o_non rfl)))
    refine o_callw (l := [.ptr r 0 0, (⟨9, 0, 0, 0, nn, mm, (0 : Nat)⟩ : Tk).av]) rfl rfl ((put_spec (m + 2) (b.into af22.mode s) s0 t u o mx at' i2 r l ⟨9, 0, 0, 0, nn, mm, (0 : Nat)⟩ _ hb hes hl h).mono ?_)
    rintro _ s2 ⟨rfl, h2⟩
    (apply o_end; (repeat (first | exact OutS.nil | exact GetS.hit | exact PutS.hit | apply GetS.miss rfl | apply PutS.miss rfl | apply OutS.cons | apply OutS.skip rfl)))
    exact ⟨_, _, rfl, rfl, h2⟩
  · have hL : LS s0 r t u o mx at' (i + 1) l (s.put r (.cells (lx t u o mx at' (i + 1) out) 0)) := LS.put hg ho hlow
    (apply f_wp rfl rfl; (repeat (first | exact Shape.nil | (apply Shape.cons; conv => lhs; whnf))))
    ((repeat refine c_seq ?_); refine c_region ?_; (repeat (first | ((first | apply o_move rfl rfl | apply o_easy1 rfl rfl rfl | apply o_ld rfl rfl (by assumption) (by first | rfl | assumption)); conv => lhs; whnf) | apply o_no rfl | refine o_b rfl rfl rfl (by constructor; omega) ?_ | refine o_f rfl rfl rfl (by constructor; omega) ?_ | refine o_s rfl rfl rfl (by constructor; first | omega | assumption) ?_ | refine o_t rfl rfl rfl (by constructor; assumption) ?_ | (apply o_easy rfl rfl rfl; conv => lhs; whnf) | apply o_non rfl)); apply o_end; (repeat (first | exact OutS.nil | exact GetS.hit | exact PutS.hit | apply GetS.miss rfl | apply PutS.miss rfl | apply OutS.cons | apply OutS.skip rfl)))
    ((repeat refine c_seq ?_); refine c_region ?_; (repeat (first | ((first | apply o_move rfl rfl | apply o_easy1 rfl rfl rfl | apply o_ld rfl rfl (by assumption) (by first | rfl | assumption)); conv => lhs; whnf) | apply o_no rfl | refine o_b rfl rfl rfl (by constructor; omega) ?_ | refine o_f rfl rfl rfl (by constructor; omega) ?_ | refine o_s rfl rfl rfl (by constructor; first | omega | assumption) ?_ | refine o_t rfl rfl rfl (by constructor; assumption) ?_ | (apply o_easy rfl rfl rfl; conv => lhs; whnf) | apply o_non rfl)))
    refine o_call rfl rfl (take_yes m _ t u o mx at' i r out 63 s ht hb hc hg) ?_
    (apply o_end; (repeat (first | exact OutS.nil | exact GetS.hit | exact PutS.hit | apply GetS.miss rfl | apply PutS.miss rfl | apply OutS.cons | apply OutS.skip rfl)))
    ((repeat refine c_seq ?_); refine c_if rfl ?_)
    ((repeat refine c_seq ?_); refine c_region ?_; (repeat (first | ((first | apply o_move rfl rfl | apply o_easy1 rfl rfl rfl | apply o_ld rfl rfl (by assumption) (by first | rfl | assumption)); conv => lhs; whnf) | apply o_no rfl | refine o_b rfl rfl rfl (by constructor; omega) ?_ | refine o_f rfl rfl rfl (by constructor; omega) ?_ | refine o_s rfl rfl rfl (by constructor; first | omega | assumption) ?_ | refine o_t rfl rfl rfl (by constructor; assumption) ?_ | (apply o_easy rfl rfl rfl; conv => lhs; whnf) | apply o_non rfl)); apply o_end; (repeat (first | exact OutS.nil | exact GetS.hit | exact PutS.hit | apply GetS.miss rfl | apply PutS.miss rfl | apply OutS.cons | apply OutS.skip rfl)))
    ((repeat refine c_seq ?_); refine c_region ?_; (repeat (first | ((first | apply o_move rfl rfl | apply o_easy1 rfl rfl rfl | apply o_ld rfl rfl (by assumption) (by first | rfl | assumption)); conv => lhs; whnf) | apply o_no rfl | refine o_b rfl rfl rfl (by constructor; omega) ?_ | refine o_f rfl rfl rfl (by constructor; omega) ?_ | refine o_s rfl rfl rfl (by constructor; first | omega | assumption) ?_ | refine o_t rfl rfl rfl (by constructor; assumption) ?_ | (apply o_easy rfl rfl rfl; conv => lhs; whnf) | apply o_non rfl)))
    refine o_callw (l := [.ptr r 0 0, (⟨9, 0, 0, 0, nn, mm, (1 : Nat)⟩ : Tk).av]) rfl rfl ((put_spec (m + 2) (b.into af22.mode s) s0 t u o mx at' (i + 1) r l ⟨9, 0, 0, 0, nn, mm, (1 : Nat)⟩ _ hb hes hl hL).mono ?_)
    rintro _ s2 ⟨rfl, h2⟩
    (apply o_end; (repeat (first | exact OutS.nil | exact GetS.hit | exact PutS.hit | apply GetS.miss rfl | apply PutS.miss rfl | apply OutS.cons | apply OutS.skip rfl)))
    exact ⟨_, _, rfl, rfl, h2⟩
  · have hL : LS s0 r t u o mx at' (i + 1) l (s.put r (.cells (lx t u o mx at' (i + 1) out) 0)) := LS.put hg ho hlow
    (apply f_wp rfl rfl; (repeat (first | exact Shape.nil | (apply Shape.cons; conv => lhs; whnf))))
    ((repeat refine c_seq ?_); refine c_region ?_; (repeat (first | ((first | apply o_move rfl rfl | apply o_easy1 rfl rfl rfl | apply o_ld rfl rfl (by assumption) (by first | rfl | assumption)); conv => lhs; whnf) | apply o_no rfl | refine o_b rfl rfl rfl (by constructor; omega) ?_ | refine o_f rfl rfl rfl (by constructor; omega) ?_ | refine o_s rfl rfl rfl (by constructor; first | omega | assumption) ?_ | refine o_t rfl rfl rfl (by constructor; assumption) ?_ | (apply o_easy rfl rfl rfl; conv => lhs; whnf) | apply o_non rfl)); apply o_end; (repeat (first | exact OutS.nil | exact GetS.hit | exact PutS.hit | apply GetS.miss rfl | apply PutS.miss rfl | apply OutS.cons | apply OutS.skip rfl)))
    ((repeat refine c_seq ?_); refine c_region ?_; (repeat (first | ((first | apply o_move rfl rfl | apply o_easy1 rfl rfl rfl | apply o_ld rfl rfl (by assumption) (by first | rfl | assumption)); conv => lhs; whnf) | apply o_no rfl | refine o_b rfl rfl rfl (by constructor; omega) ?_ | refine o_f rfl rfl rfl (by constructor; omega) ?_ | refine o_s rfl rfl rfl (by constructor; first | omega | assumption) ?_ | refine o_t rfl rfl rfl (by constructor; assumption) ?_ | (apply o_easy rfl rfl rfl; conv => lhs; whnf) | apply o_non rfl)))
    refine o_call rfl rfl (take_no m _ t u o mx at' i r out 63 s ht hi (by rw [hc]; simp) hg) ?_
    (apply o_end; (repeat (first | exact OutS.nil | exact GetS.hit | exact PutS.hit | apply GetS.miss rfl | apply PutS.miss rfl | apply OutS.cons | apply OutS.skip rfl)))
    ((repeat refine c_seq ?_); refine c_else rfl ?_)
    ((repeat refine c_seq ?_); refine c_region ?_; (repeat (first | ((first | apply o_move rfl rfl | apply o_easy1 rfl rfl rfl | apply o_ld rfl rfl (by assumption) (by first | rfl | assumption)); conv => lhs; whnf) | apply o_no rfl | refine o_b rfl rfl rfl (by constructor; omega) ?_ | refine o_f rfl rfl rfl (by constructor; omega) ?_ | refine o_s rfl rfl rfl (by constructor; first | omega | assumption) ?_ | refine o_t rfl rfl rfl (by constructor; assumption) ?_ | (apply o_easy rfl rfl rfl; conv => lhs; whnf) | apply o_non rfl)))
    refine o_call rfl rfl (take_yes m _ t u o mx at' i r out 43 s ht hb hc hg) ?_
    (apply o_end; (repeat (first | exact OutS.nil | exact GetS.hit | exact PutS.hit | apply GetS.miss rfl | apply PutS.miss rfl | apply OutS.cons | apply OutS.skip rfl)))
    ((repeat refine c_seq ?_); refine c_if rfl ?_)
    ((repeat refine c_seq ?_); refine c_region ?_; (repeat (first | ((first | apply o_move rfl rfl | apply o_easy1 rfl rfl rfl | apply o_ld rfl rfl (by assumption) (by first | rfl | assumption)); conv => lhs; whnf) | apply o_no rfl | refine o_b rfl rfl rfl (by constructor; omega) ?_ | refine o_f rfl rfl rfl (by constructor; omega) ?_ | refine o_s rfl rfl rfl (by constructor; first | omega | assumption) ?_ | refine o_t rfl rfl rfl (by constructor; assumption) ?_ | (apply o_easy rfl rfl rfl; conv => lhs; whnf) | apply o_non rfl)); apply o_end; (repeat (first | exact OutS.nil | exact GetS.hit | exact PutS.hit | apply GetS.miss rfl | apply PutS.miss rfl | apply OutS.cons | apply OutS.skip rfl)))
    ((repeat refine c_seq ?_); refine c_region ?_; (repeat (first | ((first | apply o_move rfl rfl | apply o_easy1 rfl rfl rfl | apply o_ld rfl rfl (by assumption) (by first | rfl | assumption)); conv => lhs; whnf) | apply o_no rfl | refine o_b rfl rfl rfl (by constructor; omega) ?_ | refine o_f rfl rfl rfl (by constructor; omega) ?_ | refine o_s rfl rfl rfl (by constructor; first | omega | assumption) ?_ | refine o_t rfl rfl rfl (by constructor; assumption) ?_ | (apply o_easy rfl rfl rfl; conv => lhs; whnf) | apply o_non rfl)))
    refine o_callw (l := [.ptr r 0 0, (⟨9, 0, 0, 0, nn, mm, (2 : Nat)⟩ : Tk).av]) rfl rfl ((put_spec (m + 2) (b.into af22.mode s) s0 t u o mx at' (i + 1) r l ⟨9, 0, 0, 0, nn, mm, (2 : Nat)⟩ _ hb hes hl hL).mono ?_)
    rintro _ s2 ⟨rfl, h2⟩
    (apply o_end; (repeat (first | exact OutS.nil | exact GetS.hit | exact PutS.hit | apply GetS.miss rfl | apply PutS.miss rfl | apply OutS.cons | apply OutS.skip rfl)))
    exact ⟨_, _, rfl, rfl, h2⟩

end Go.Tok
