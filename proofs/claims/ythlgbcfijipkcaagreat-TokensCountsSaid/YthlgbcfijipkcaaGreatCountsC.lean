/-
  A quantifier of any two numbers has them, with each mode, or is refused: TokensCounts answers true, whatever the three numbers.
-/
import Derived.Test.YthlgbcfijipkcaaGreatCountsB
import Derived.Test.YthlgbcfijipkcaaGreatRows
import Derived.Test.YthlgbcfijipkcaaGreatMachD

namespace Go.Tok
open Go Go.Am Go.Proofs

/-- what a quantifier's numbers are refused for; 0: they are not -/
def errOf (D E : List UInt8) : Int :=
  if valM D 0 > 255 then 25 else if valM E 0 > 255 then 25 else if E ≠ [] ∧ valM E 0 < valM D 0 then 23 else 0

def topOf (E : List UInt8) : Int := if E = [] then -1 else valM E 0

/-- what a quantifier in braces comes to -/
def BraceQ (s0 : Sg) (r : Nat) (t : List UInt8) (u : Bool) (o mx : Int) (at' i3 : Nat) (l : List Tk) (D E : List UInt8) (md : Nat) (out : Out) (s' : Sg) : Prop :=
  (errOf D E = 0 ∧ out = .ret (.tup []) ∧ LS s0 r t u o mx at' i3 (l ++ [⟨9, at', i3, 0, valM D 0, topOf E, md⟩]) s') ∨
  (errOf D E ≠ 0 ∧ out = .panic (.iface 43 (.agg [.int .i64 (errOf D E), .int .i64 at'])) ∧ ∀ q, q < r → s'.heap[q]? = s0.heap[q]?)

theorem brace_spec (m : Nat) (b : Bar) (s0 : Sg) (t : List UInt8) (u : Bool) (o mx : Int) (at' i i3 md r : Nat) (l : List Tk) (D E : List UInt8) (s : Sg) (hb : b.w ≤ r) (hes : b.es = []) (ht : t.length < 2 ^ 40) (hm : t.length ≤ m) (hl : l.length < 2 ^ 20) (hsh : ShapeAt t i D E) (hmd : ModeAt t (i + D.length + 1 + E.length + 1) md i3) (h : LS s0 r t u o mx at' i l s) :
    OkF (callF T (m + 5) b 23 [.ptr r 0 0] s) (BraceQ s0 r t u o mx at' i3 l D E md) := by
  obtain ⟨⟨out, hg, ho⟩, hlow⟩ := h
  have hsh' := hsh
  obtain ⟨hD, hne, hco, hE, hcl⟩ := hsh'
  have hr := getCells_lt hg
  have l1 := lt_of_getElem? hco
  have l2 := lt_of_getElem? hcl
  have heD := emp_ne hne
  (apply f_wp rfl rfl; (repeat (first | exact Shape.nil | (apply Shape.cons; conv => lhs; whnf))))
  ((repeat refine c_seq ?_); refine c_region ?_; (repeat (first | ((first | apply o_move rfl rfl | apply o_easy1 rfl rfl rfl | apply o_ld rfl rfl (by assumption) (by first | rfl | assumption)); conv => lhs; whnf) | apply o_no rfl | refine o_b rfl rfl rfl (by constructor; omega) ?_ | refine o_f rfl rfl rfl (by constructor; omega) ?_ | refine o_s rfl rfl rfl (by constructor; first | omega | assumption) ?_ | refine o_t rfl rfl rfl (by constructor; assumption) ?_ | (apply o_easy rfl rfl rfl; conv => lhs; whnf) | apply o_non rfl)))
  refine o_call rfl rfl (shaped_spec m _ t u o mx at' i r out D E s ht hsh hm hg) ?_
  (repeat (first | ((first | apply o_move rfl rfl | apply o_easy1 rfl rfl rfl | apply o_ld rfl rfl (by assumption) (by first | rfl | assumption)); conv => lhs; whnf) | apply o_no rfl | refine o_b rfl rfl rfl (by constructor; omega) ?_ | refine o_f rfl rfl rfl (by constructor; omega) ?_ | refine o_s rfl rfl rfl (by constructor; first | omega | assumption) ?_ | refine o_t rfl rfl rfl (by constructor; assumption) ?_ | (apply o_easy rfl rfl rfl; conv => lhs; whnf) | apply o_non rfl))
  (apply o_end; (repeat (first | exact OutS.nil | exact GetS.hit | exact PutS.hit | apply GetS.miss rfl | apply PutS.miss rfl | apply OutS.cons | apply OutS.skip rfl)))
  ((repeat refine c_seq ?_); refine c_region ?_; (repeat (first | ((first | apply o_move rfl rfl | apply o_easy1 rfl rfl rfl | apply o_ld rfl rfl (by assumption) (by first | rfl | assumption)); conv => lhs; whnf) | apply o_no rfl | refine o_b rfl rfl rfl (by constructor; omega) ?_ | refine o_f rfl rfl rfl (by constructor; omega) ?_ | refine o_s rfl rfl rfl (by constructor; first | omega | assumption) ?_ | refine o_t rfl rfl rfl (by constructor; assumption) ?_ | (apply o_easy rfl rfl rfl; conv => lhs; whnf) | apply o_non rfl)); apply o_end; (repeat (first | exact OutS.nil | exact GetS.hit | exact PutS.hit | apply GetS.miss rfl | apply PutS.miss rfl | apply OutS.cons | apply OutS.skip rfl)))
  ((repeat refine c_seq ?_); refine c_else rfl ?_)
  refine c_skip ?_
  have hg1 := getCells_put (cs' := lx t u o mx at' (i + D.length) out) (g' := 0) hg
  have hL1 : ∀ a k, LS s0 r t u o mx a k l (s.put r (.cells (lx t u o mx a k out) 0)) := fun a k => LS.put hg ho hlow
  have hlow1 : ∀ k q, q < r → (s.put r (.cells (lx t u o mx at' k out) 0)).heap[q]? = s0.heap[q]? := fun k q hq => by rw [Sg.put_get _ _ _ (by omega)]; exact hlow q hq
  ((repeat refine c_seq ?_); refine c_region ?_; (repeat (first | ((first | apply o_move rfl rfl | apply o_easy1 rfl rfl rfl | apply o_ld rfl rfl (by assumption) (by first | rfl | assumption)); conv => lhs; whnf) | apply o_no rfl | refine o_b rfl rfl rfl (by constructor; omega) ?_ | refine o_f rfl rfl rfl (by constructor; omega) ?_ | refine o_s rfl rfl rfl (by constructor; first | omega | assumption) ?_ | refine o_t rfl rfl rfl (by constructor; assumption) ?_ | (apply o_easy rfl rfl rfl; conv => lhs; whnf) | apply o_non rfl)))
  by_cases hV1 : valM D 0 > 255
  · refine o_callp rfl rfl ((number_spec (m + 1) _ t u o mx at' i r out D s ht hb hD (by omega) (by omega) hg).trans (if_neg (Nat.not_le.2 hV1))) ?_
    refine fin_panic (l := [.iface 43 (.agg [.int .i64 25, .int .i64 at'])]) rfl ?_
    refine .inr ⟨?_, ?_, hlow1 _⟩
    · simp only [errOf, if_pos hV1]; decide
    · simp only [errOf, if_pos hV1]; rfl
  · refine o_call rfl rfl ((number_spec (m + 1) _ t u o mx at' i r out D s ht hb hD (by omega) (by omega) hg).trans (if_pos (Nat.not_lt.1 hV1))) ?_
    (repeat (first | ((first | apply o_move rfl rfl | apply o_easy1 rfl rfl rfl | apply o_ld rfl rfl (by assumption) (by first | rfl | assumption)); conv => lhs; whnf) | apply o_no rfl | refine o_b rfl rfl rfl (by constructor; omega) ?_ | refine o_f rfl rfl rfl (by constructor; omega) ?_ | refine o_s rfl rfl rfl (by constructor; first | omega | assumption) ?_ | refine o_t rfl rfl rfl (by constructor; assumption) ?_ | (apply o_easy rfl rfl rfl; conv => lhs; whnf) | apply o_non rfl))
    (apply o_end; (repeat (first | exact OutS.nil | exact GetS.hit | exact PutS.hit | apply GetS.miss rfl | apply PutS.miss rfl | apply OutS.cons | apply OutS.skip rfl)))
    ((repeat refine c_seq ?_); refine c_region ?_; (repeat (first | ((first | apply o_move rfl rfl | apply o_easy1 rfl rfl rfl | apply o_ld rfl rfl (by assumption) (by first | rfl | assumption)); conv => lhs; whnf) | apply o_no rfl | refine o_b rfl rfl rfl (by constructor; omega) ?_ | refine o_f rfl rfl rfl (by constructor; omega) ?_ | refine o_s rfl rfl rfl (by constructor; first | omega | assumption) ?_ | refine o_t rfl rfl rfl (by constructor; assumption) ?_ | (apply o_easy rfl rfl rfl; conv => lhs; whnf) | apply o_non rfl)); apply o_end; (repeat (first | exact OutS.nil | exact GetS.hit | exact PutS.hit | apply GetS.miss rfl | apply PutS.miss rfl | apply OutS.cons | apply OutS.skip rfl)))
    ((repeat refine c_seq ?_); refine c_region ?_; (repeat (first | ((first | apply o_move rfl rfl | apply o_easy1 rfl rfl rfl | apply o_ld rfl rfl (by assumption) (by first | rfl | assumption)); conv => lhs; whnf) | apply o_no rfl | refine o_b rfl rfl rfl (by constructor; omega) ?_ | refine o_f rfl rfl rfl (by constructor; omega) ?_ | refine o_s rfl rfl rfl (by constructor; first | omega | assumption) ?_ | refine o_t rfl rfl rfl (by constructor; assumption) ?_ | (apply o_easy rfl rfl rfl; conv => lhs; whnf) | apply o_non rfl)))
    refine o_call rfl rfl (take_yes (m + 1) _ t u o mx at' (i + D.length) r out 44 _ ht hb hco hg1) ?_
    rw [Sg.put_put]
    (apply o_end; (repeat (first | exact OutS.nil | exact GetS.hit | exact PutS.hit | apply GetS.miss rfl | apply PutS.miss rfl | apply OutS.cons | apply OutS.skip rfl)))
    ((repeat refine c_seq ?_); refine c_if rfl ?_)
    have hg2 := getCells_put (cs' := lx t u o mx at' (i + D.length + 1) out) (g' := 0) hg
    ((repeat refine c_seq ?_); refine c_region ?_; (repeat (first | ((first | apply o_move rfl rfl | apply o_easy1 rfl rfl rfl | apply o_ld rfl rfl (by assumption) (by first | rfl | assumption)); conv => lhs; whnf) | apply o_no rfl | refine o_b rfl rfl rfl (by constructor; omega) ?_ | refine o_f rfl rfl rfl (by constructor; omega) ?_ | refine o_s rfl rfl rfl (by constructor; first | omega | assumption) ?_ | refine o_t rfl rfl rfl (by constructor; assumption) ?_ | (apply o_easy rfl rfl rfl; conv => lhs; whnf) | apply o_non rfl)))
    by_cases hV2 : valM E 0 > 255
    · refine o_callp rfl rfl ((number_spec (m + 1) _ t u o mx at' (i + D.length + 1) r out E _ ht hb hE (by omega) (by omega) hg2).trans (if_neg (Nat.not_le.2 hV2))) ?_
      rw [Sg.put_put]
      refine fin_panic (l := [.iface 43 (.agg [.int .i64 25, .int .i64 at'])]) rfl ?_
      refine .inr ⟨?_, ?_, hlow1 _⟩
      · simp only [errOf, if_neg hV1, if_pos hV2]; decide
      · simp only [errOf, if_neg hV1, if_pos hV2]; rfl
    · refine o_call rfl rfl ((number_spec (m + 1) _ t u o mx at' (i + D.length + 1) r out E _ ht hb hE (by omega) (by omega) hg2).trans (if_pos (Nat.not_lt.1 hV2))) ?_
      rw [Sg.put_put]
      have hg3 := getCells_put (cs' := lx t u o mx at' (i + D.length + 1 + E.length) out) (g' := 0) hg
      by_cases hEn : E = []
      · subst hEn
        (repeat (first | ((first | apply o_move rfl rfl | apply o_easy1 rfl rfl rfl | apply o_ld rfl rfl (by assumption) (by first | rfl | assumption)); conv => lhs; whnf) | apply o_no rfl | refine o_b rfl rfl rfl (by constructor; omega) ?_ | refine o_f rfl rfl rfl (by constructor; omega) ?_ | refine o_s rfl rfl rfl (by constructor; first | omega | assumption) ?_ | refine o_t rfl rfl rfl (by constructor; assumption) ?_ | (apply o_easy rfl rfl rfl; conv => lhs; whnf) | apply o_non rfl))
        (apply o_end; (repeat (first | exact OutS.nil | exact GetS.hit | exact PutS.hit | apply GetS.miss rfl | apply PutS.miss rfl | apply OutS.cons | apply OutS.skip rfl)))
        ((repeat refine c_seq ?_); refine c_region ?_; (repeat (first | ((first | apply o_move rfl rfl | apply o_easy1 rfl rfl rfl | apply o_ld rfl rfl (by assumption) (by first | rfl | assumption)); conv => lhs; whnf) | apply o_no rfl | refine o_b rfl rfl rfl (by constructor; omega) ?_ | refine o_f rfl rfl rfl (by constructor; omega) ?_ | refine o_s rfl rfl rfl (by constructor; first | omega | assumption) ?_ | refine o_t rfl rfl rfl (by constructor; assumption) ?_ | (apply o_easy rfl rfl rfl; conv => lhs; whnf) | apply o_non rfl)); apply o_end; (repeat (first | exact OutS.nil | exact GetS.hit | exact PutS.hit | apply GetS.miss rfl | apply PutS.miss rfl | apply OutS.cons | apply OutS.skip rfl)))
        ((repeat refine c_seq ?_); refine c_else rfl ?_)
        ((repeat refine c_seq ?_); refine c_region ?_; (repeat (first | ((first | apply o_move rfl rfl | apply o_easy1 rfl rfl rfl | apply o_ld rfl rfl (by assumption) (by first | rfl | assumption)); conv => lhs; whnf) | apply o_no rfl | refine o_b rfl rfl rfl (by constructor; omega) ?_ | refine o_f rfl rfl rfl (by constructor; omega) ?_ | refine o_s rfl rfl rfl (by constructor; first | omega | assumption) ?_ | refine o_t rfl rfl rfl (by constructor; assumption) ?_ | (apply o_easy rfl rfl rfl; conv => lhs; whnf) | apply o_non rfl)); apply o_end; (repeat (first | exact OutS.nil | exact GetS.hit | exact PutS.hit | apply GetS.miss rfl | apply PutS.miss rfl | apply OutS.cons | apply OutS.skip rfl)))
        ((repeat refine c_seq ?_); refine c_region ?_; (repeat (first | ((first | apply o_move rfl rfl | apply o_easy1 rfl rfl rfl | apply o_ld rfl rfl (by assumption) (by first | rfl | assumption)); conv => lhs; whnf) | apply o_no rfl | refine o_b rfl rfl rfl (by constructor; omega) ?_ | refine o_f rfl rfl rfl (by constructor; omega) ?_ | refine o_s rfl rfl rfl (by constructor; first | omega | assumption) ?_ | refine o_t rfl rfl rfl (by constructor; assumption) ?_ | (apply o_easy rfl rfl rfl; conv => lhs; whnf) | apply o_non rfl)))
        refine o_st rfl rfl rfl rfl hg3 rfl (lets_nil (blt_no hb) hes) (cs' := lx t u o mx at' (i + D.length + 1 + 0 + 1) out) rfl ?_
        rw [Sg.put_put]
        (apply o_end; (repeat (first | exact OutS.nil | exact GetS.hit | exact PutS.hit | apply GetS.miss rfl | apply PutS.miss rfl | apply OutS.cons | apply OutS.skip rfl)))
        ((repeat refine c_seq ?_); refine c_region ?_; (repeat (first | ((first | apply o_move rfl rfl | apply o_easy1 rfl rfl rfl | apply o_ld rfl rfl (by assumption) (by first | rfl | assumption)); conv => lhs; whnf) | apply o_no rfl | refine o_b rfl rfl rfl (by constructor; omega) ?_ | refine o_f rfl rfl rfl (by constructor; omega) ?_ | refine o_s rfl rfl rfl (by constructor; first | omega | assumption) ?_ | refine o_t rfl rfl rfl (by constructor; assumption) ?_ | (apply o_easy rfl rfl rfl; conv => lhs; whnf) | apply o_non rfl)))
        refine o_callw (l := [.ptr r 0 0, .int .i64 (valM D 0), .int .i64 (-1)]) rfl rfl ((quant_spec m (b.into af23.mode s) s0 t u o mx at' (i + D.length + 1 + 0 + 1) i3 md r (valM D 0) (-1) l _ hb hes ht (by omega) hl hmd (hL1 _ _)).mono ?_)
        rintro _ s2 ⟨rfl, h2⟩
        (apply o_end; (repeat (first | exact OutS.nil | exact GetS.hit | exact PutS.hit | apply GetS.miss rfl | apply PutS.miss rfl | apply OutS.cons | apply OutS.skip rfl)))
        refine ⟨_, _, rfl, .inl ⟨?_, rfl, h2⟩⟩
        simp only [errOf, if_neg hV1, if_neg hV2]; simp
      · have heE := emp_ne hEn
        rw [heE]
        (repeat (first | ((first | apply o_move rfl rfl | apply o_easy1 rfl rfl rfl | apply o_ld rfl rfl (by assumption) (by first | rfl | assumption)); conv => lhs; whnf) | apply o_no rfl | refine o_b rfl rfl rfl (by constructor; omega) ?_ | refine o_f rfl rfl rfl (by constructor; omega) ?_ | refine o_s rfl rfl rfl (by constructor; first | omega | assumption) ?_ | refine o_t rfl rfl rfl (by constructor; assumption) ?_ | (apply o_easy rfl rfl rfl; conv => lhs; whnf) | apply o_non rfl))
        (apply o_end; (repeat (first | exact OutS.nil | exact GetS.hit | exact PutS.hit | apply GetS.miss rfl | apply PutS.miss rfl | apply OutS.cons | apply OutS.skip rfl)))
        ((repeat refine c_seq ?_); refine c_region ?_; (repeat (first | ((first | apply o_move rfl rfl | apply o_easy1 rfl rfl rfl | apply o_ld rfl rfl (by assumption) (by first | rfl | assumption)); conv => lhs; whnf) | apply o_no rfl | refine o_b rfl rfl rfl (by constructor; omega) ?_ | refine o_f rfl rfl rfl (by constructor; omega) ?_ | refine o_s rfl rfl rfl (by constructor; first | omega | assumption) ?_ | refine o_t rfl rfl rfl (by constructor; assumption) ?_ | (apply o_easy rfl rfl rfl; conv => lhs; whnf) | apply o_non rfl)); apply o_end; (repeat (first | exact OutS.nil | exact GetS.hit | exact PutS.hit | apply GetS.miss rfl | apply PutS.miss rfl | apply OutS.cons | apply OutS.skip rfl)))
        ((repeat refine c_seq ?_); refine c_if rfl ?_)
        ((repeat refine c_seq ?_); refine c_region ?_; (repeat (first | ((first | apply o_move rfl rfl | apply o_easy1 rfl rfl rfl | apply o_ld rfl rfl (by assumption) (by first | rfl | assumption)); conv => lhs; whnf) | apply o_no rfl | refine o_b rfl rfl rfl (by constructor; omega) ?_ | refine o_f rfl rfl rfl (by constructor; omega) ?_ | refine o_s rfl rfl rfl (by constructor; first | omega | assumption) ?_ | refine o_t rfl rfl rfl (by constructor; assumption) ?_ | (apply o_easy rfl rfl rfl; conv => lhs; whnf) | apply o_non rfl)); apply o_end; (repeat (first | exact OutS.nil | exact GetS.hit | exact PutS.hit | apply GetS.miss rfl | apply PutS.miss rfl | apply OutS.cons | apply OutS.skip rfl)))
        by_cases hlt : valM E 0 < valM D 0
        · ((repeat refine c_seq ?_); refine c_region ?_; (repeat (first | ((first | apply o_move rfl rfl | apply o_easy1 rfl rfl rfl | apply o_ld rfl rfl (by assumption) (by first | rfl | assumption)); conv => lhs; whnf) | apply o_no rfl | refine o_b rfl rfl rfl (by constructor; omega) ?_ | refine o_f rfl rfl rfl (by constructor; omega) ?_ | refine o_s rfl rfl rfl (by constructor; first | omega | assumption) ?_ | refine o_t rfl rfl rfl (by constructor; assumption) ?_ | (apply o_easy rfl rfl rfl; conv => lhs; whnf) | apply o_non rfl)); apply o_end; (repeat (first | exact OutS.nil | exact GetS.hit | exact PutS.hit | apply GetS.miss rfl | apply PutS.miss rfl | apply OutS.cons | apply OutS.skip rfl)))
          ((repeat refine c_seq ?_); refine c_if rfl ?_)
          ((repeat refine c_seq ?_); refine c_region ?_; (repeat (first | ((first | apply o_move rfl rfl | apply o_easy1 rfl rfl rfl | apply o_ld rfl rfl (by assumption) (by first | rfl | assumption)); conv => lhs; whnf) | apply o_no rfl | refine o_b rfl rfl rfl (by constructor; omega) ?_ | refine o_f rfl rfl rfl (by constructor; omega) ?_ | refine o_s rfl rfl rfl (by constructor; first | omega | assumption) ?_ | refine o_t rfl rfl rfl (by constructor; assumption) ?_ | (apply o_easy rfl rfl rfl; conv => lhs; whnf) | apply o_non rfl)))
          refine o_callp rfl rfl (fail_spec _ _ t u o mx at' _ r out 23 (by decide) _ hg3) ?_
          refine fin_panic (l := [.iface 43 (.agg [.int .i64 23, .int .i64 at'])]) rfl ?_
          refine .inr ⟨?_, ?_, hlow1 _⟩
          · simp only [errOf, if_neg hV1, if_neg hV2, if_pos (And.intro hEn hlt)]; decide
          · simp only [errOf, if_neg hV1, if_neg hV2, if_pos (And.intro hEn hlt)]; rfl
        · ((repeat refine c_seq ?_); refine c_region ?_; (repeat (first | ((first | apply o_move rfl rfl | apply o_easy1 rfl rfl rfl | apply o_ld rfl rfl (by assumption) (by first | rfl | assumption)); conv => lhs; whnf) | apply o_no rfl | refine o_b rfl rfl rfl (by constructor; omega) ?_ | refine o_f rfl rfl rfl (by constructor; omega) ?_ | refine o_s rfl rfl rfl (by constructor; first | omega | assumption) ?_ | refine o_t rfl rfl rfl (by constructor; assumption) ?_ | (apply o_easy rfl rfl rfl; conv => lhs; whnf) | apply o_non rfl)); apply o_end; (repeat (first | exact OutS.nil | exact GetS.hit | exact PutS.hit | apply GetS.miss rfl | apply PutS.miss rfl | apply OutS.cons | apply OutS.skip rfl)))
          ((repeat refine c_seq ?_); refine c_else rfl ?_)
          refine c_skip ?_
          ((repeat refine c_seq ?_); refine c_region ?_; (repeat (first | ((first | apply o_move rfl rfl | apply o_easy1 rfl rfl rfl | apply o_ld rfl rfl (by assumption) (by first | rfl | assumption)); conv => lhs; whnf) | apply o_no rfl | refine o_b rfl rfl rfl (by constructor; omega) ?_ | refine o_f rfl rfl rfl (by constructor; omega) ?_ | refine o_s rfl rfl rfl (by constructor; first | omega | assumption) ?_ | refine o_t rfl rfl rfl (by constructor; assumption) ?_ | (apply o_easy rfl rfl rfl; conv => lhs; whnf) | apply o_non rfl)))
          refine o_st rfl rfl rfl rfl hg3 rfl (lets_nil (blt_no hb) hes) (cs' := lx t u o mx at' (i + D.length + 1 + E.length + 1) out) rfl ?_
          rw [Sg.put_put]
          (apply o_end; (repeat (first | exact OutS.nil | exact GetS.hit | exact PutS.hit | apply GetS.miss rfl | apply PutS.miss rfl | apply OutS.cons | apply OutS.skip rfl)))
          ((repeat refine c_seq ?_); refine c_region ?_; (repeat (first | ((first | apply o_move rfl rfl | apply o_easy1 rfl rfl rfl | apply o_ld rfl rfl (by assumption) (by first | rfl | assumption)); conv => lhs; whnf) | apply o_no rfl | refine o_b rfl rfl rfl (by constructor; omega) ?_ | refine o_f rfl rfl rfl (by constructor; omega) ?_ | refine o_s rfl rfl rfl (by constructor; first | omega | assumption) ?_ | refine o_t rfl rfl rfl (by constructor; assumption) ?_ | (apply o_easy rfl rfl rfl; conv => lhs; whnf) | apply o_non rfl)))
          refine o_callw (l := [.ptr r 0 0, .int .i64 (valM D 0), .int .i64 (valM E 0)]) rfl rfl ((quant_spec m (b.into af23.mode s) s0 t u o mx at' (i + D.length + 1 + E.length + 1) i3 md r (valM D 0) (valM E 0) l _ hb hes ht (by omega) hl hmd (hL1 _ _)).mono ?_)
          rintro _ s2 ⟨rfl, h2⟩
          (apply o_end; (repeat (first | exact OutS.nil | exact GetS.hit | exact PutS.hit | apply GetS.miss rfl | apply PutS.miss rfl | apply OutS.cons | apply OutS.skip rfl)))
          have hto : topOf E = valM E 0 := by simp only [topOf, if_neg hEn]
          refine ⟨_, _, rfl, .inl ⟨?_, rfl, by rw [hto]; exact h2⟩⟩
          simp only [errOf, if_neg hV1, if_neg hV2]; simp [hlt]

end Go.Tok

namespace Go.Tok
open Go Go.Am Go.Proofs

/-- a round of the lexer at a brace -/
theorem one_brace (m : Nat) (b : Bar) (s0 : Sg) (t : List UInt8) (mx : Int) (at' i i3 md r : Nat) (l : List Tk) (D E : List UInt8) (s : Sg) (hb : b.w ≤ r) (hes : b.es = []) (ht : t.length < 2 ^ 40) (hm : t.length ≤ m) (hl : l.length < 2 ^ 20) (hc : t[i]? = some 123) (hsh : ShapeAt t (i + 1) D E) (hmd : ModeAt t (i + 1 + D.length + 1 + E.length + 1) md i3) (h : LS s0 r t false 0 mx at' i l s) :
    OkF (callF T (m + 6) b 12 [.ptr r 0 0] s) (BraceQ s0 r t false 0 mx at' i3 l D E md) := by
  obtain ⟨⟨out, hg, ho⟩, hlow⟩ := h
  have hr := getCells_lt hg
  (apply f_wp rfl rfl; (repeat (first | exact Shape.nil | (apply Shape.cons; conv => lhs; whnf))))
  ((repeat refine c_seq ?_); refine c_region ?_; (repeat (first | ((first | apply o_move rfl rfl | apply o_easy1 rfl rfl rfl | apply o_ld rfl rfl (by assumption) (by first | rfl | assumption)); conv => lhs; whnf) | apply o_no rfl | refine o_b rfl rfl rfl (by constructor; omega) ?_ | refine o_f rfl rfl rfl (by constructor; omega) ?_ | refine o_s rfl rfl rfl (by constructor; first | omega | assumption) ?_ | refine o_t rfl rfl rfl (by constructor; assumption) ?_ | (apply o_easy rfl rfl rfl; conv => lhs; whnf) | apply o_non rfl)))
  refine o_call rfl rfl (char_spec (m + 3) _ t 0 mx at' i r out 123 s hb ht hc hg) ?_
  (repeat (first | ((first | apply o_move rfl rfl | apply o_easy1 rfl rfl rfl | apply o_ld rfl rfl (by assumption) (by first | rfl | assumption)); conv => lhs; whnf) | apply o_no rfl | refine o_b rfl rfl rfl (by constructor; omega) ?_ | refine o_f rfl rfl rfl (by constructor; omega) ?_ | refine o_s rfl rfl rfl (by constructor; first | omega | assumption) ?_ | refine o_t rfl rfl rfl (by constructor; assumption) ?_ | (apply o_easy rfl rfl rfl; conv => lhs; whnf) | apply o_non rfl))
  (apply o_end; (repeat (first | exact OutS.nil | exact GetS.hit | exact PutS.hit | apply GetS.miss rfl | apply PutS.miss rfl | apply OutS.cons | apply OutS.skip rfl)))
  have hL : LS s0 r t false 0 mx at' (i + 1) l (s.put r (.cells (lx t false 0 mx at' (i + 1) out) 0)) := LS.put hg ho hlow
  have hg' := getCells_put (cs' := lx t false 0 mx at' (i + 1) out) (g' := 0) hg
  ((repeat refine c_seq ?_); refine c_block ?_)
  ((repeat refine c_seq ?_); refine c_region ?_; (repeat (first | ((first | apply o_move rfl rfl | apply o_easy1 rfl rfl rfl | apply o_ld rfl rfl (by assumption) (by first | rfl | assumption)); conv => lhs; whnf) | apply o_no rfl | refine o_b rfl rfl rfl (by constructor; omega) ?_ | refine o_f rfl rfl rfl (by constructor; omega) ?_ | refine o_s rfl rfl rfl (by constructor; first | omega | assumption) ?_ | refine o_t rfl rfl rfl (by constructor; assumption) ?_ | (apply o_easy rfl rfl rfl; conv => lhs; whnf) | apply o_non rfl)))
  refine o_w (v := .int .i64 0) rfl rfl ?_
  (repeat (first | ((first | apply o_move rfl rfl | apply o_easy1 rfl rfl rfl | apply o_ld rfl rfl (by assumption) (by first | rfl | assumption)); conv => lhs; whnf) | apply o_no rfl | refine o_b rfl rfl rfl (by constructor; omega) ?_ | refine o_f rfl rfl rfl (by constructor; omega) ?_ | refine o_s rfl rfl rfl (by constructor; first | omega | assumption) ?_ | refine o_t rfl rfl rfl (by constructor; assumption) ?_ | (apply o_easy rfl rfl rfl; conv => lhs; whnf) | apply o_non rfl))
  (apply o_end; (repeat (first | exact OutS.nil | exact GetS.hit | exact PutS.hit | apply GetS.miss rfl | apply PutS.miss rfl | apply OutS.cons | apply OutS.skip rfl)))
  ((repeat refine c_seq ?_); refine c_else rfl ?_)
  ((repeat refine c_seq ?_); refine c_region ?_; (repeat (first | ((first | apply o_move rfl rfl | apply o_easy1 rfl rfl rfl | apply o_ld rfl rfl (by assumption) (by first | rfl | assumption)); conv => lhs; whnf) | apply o_no rfl | refine o_b rfl rfl rfl (by constructor; omega) ?_ | refine o_f rfl rfl rfl (by constructor; omega) ?_ | refine o_s rfl rfl rfl (by constructor; first | omega | assumption) ?_ | refine o_t rfl rfl rfl (by constructor; assumption) ?_ | (apply o_easy rfl rfl rfl; conv => lhs; whnf) | apply o_non rfl)))
  refine o_w (v := .int .i64 0) rfl rfl ?_
  (repeat (first | ((first | apply o_move rfl rfl | apply o_easy1 rfl rfl rfl | apply o_ld rfl rfl (by assumption) (by first | rfl | assumption)); conv => lhs; whnf) | apply o_no rfl | refine o_b rfl rfl rfl (by constructor; omega) ?_ | refine o_f rfl rfl rfl (by constructor; omega) ?_ | refine o_s rfl rfl rfl (by constructor; first | omega | assumption) ?_ | refine o_t rfl rfl rfl (by constructor; assumption) ?_ | (apply o_easy rfl rfl rfl; conv => lhs; whnf) | apply o_non rfl))
  (apply o_end; (repeat (first | exact OutS.nil | exact GetS.hit | exact PutS.hit | apply GetS.miss rfl | apply PutS.miss rfl | apply OutS.cons | apply OutS.skip rfl)))
  ((repeat refine c_seq ?_); refine c_else rfl ?_)
  ((repeat refine c_seq ?_); refine c_region ?_; (repeat (first | ((first | apply o_move rfl rfl | apply o_easy1 rfl rfl rfl | apply o_ld rfl rfl (by assumption) (by first | rfl | assumption)); conv => lhs; whnf) | apply o_no rfl | refine o_b rfl rfl rfl (by constructor; omega) ?_ | refine o_f rfl rfl rfl (by constructor; omega) ?_ | refine o_s rfl rfl rfl (by constructor; first | omega | assumption) ?_ | refine o_t rfl rfl rfl (by constructor; assumption) ?_ | (apply o_easy rfl rfl rfl; conv => lhs; whnf) | apply o_non rfl)); apply o_end; (repeat (first | exact OutS.nil | exact GetS.hit | exact PutS.hit | apply GetS.miss rfl | apply PutS.miss rfl | apply OutS.cons | apply OutS.skip rfl)))
  ((repeat refine c_seq ?_); refine c_else rfl ?_)
  ((repeat refine c_seq ?_); refine c_region ?_; (repeat (first | ((first | apply o_move rfl rfl | apply o_easy1 rfl rfl rfl | apply o_ld rfl rfl (by assumption) (by first | rfl | assumption)); conv => lhs; whnf) | apply o_no rfl | refine o_b rfl rfl rfl (by constructor; omega) ?_ | refine o_f rfl rfl rfl (by constructor; omega) ?_ | refine o_s rfl rfl rfl (by constructor; first | omega | assumption) ?_ | refine o_t rfl rfl rfl (by constructor; assumption) ?_ | (apply o_easy rfl rfl rfl; conv => lhs; whnf) | apply o_non rfl)); apply o_end; (repeat (first | exact OutS.nil | exact GetS.hit | exact PutS.hit | apply GetS.miss rfl | apply PutS.miss rfl | apply OutS.cons | apply OutS.skip rfl)))
  ((repeat refine c_seq ?_); refine c_else rfl ?_)
  ((repeat refine c_seq ?_); refine c_region ?_; (repeat (first | ((first | apply o_move rfl rfl | apply o_easy1 rfl rfl rfl | apply o_ld rfl rfl (by assumption) (by first | rfl | assumption)); conv => lhs; whnf) | apply o_no rfl | refine o_b rfl rfl rfl (by constructor; omega) ?_ | refine o_f rfl rfl rfl (by constructor; omega) ?_ | refine o_s rfl rfl rfl (by constructor; first | omega | assumption) ?_ | refine o_t rfl rfl rfl (by constructor; assumption) ?_ | (apply o_easy rfl rfl rfl; conv => lhs; whnf) | apply o_non rfl)); apply o_end; (repeat (first | exact OutS.nil | exact GetS.hit | exact PutS.hit | apply GetS.miss rfl | apply PutS.miss rfl | apply OutS.cons | apply OutS.skip rfl)))
  ((repeat refine c_seq ?_); refine c_else rfl ?_)
  ((repeat refine c_seq ?_); refine c_region ?_; (repeat (first | ((first | apply o_move rfl rfl | apply o_easy1 rfl rfl rfl | apply o_ld rfl rfl (by assumption) (by first | rfl | assumption)); conv => lhs; whnf) | apply o_no rfl | refine o_b rfl rfl rfl (by constructor; omega) ?_ | refine o_f rfl rfl rfl (by constructor; omega) ?_ | refine o_s rfl rfl rfl (by constructor; first | omega | assumption) ?_ | refine o_t rfl rfl rfl (by constructor; assumption) ?_ | (apply o_easy rfl rfl rfl; conv => lhs; whnf) | apply o_non rfl)); apply o_end; (repeat (first | exact OutS.nil | exact GetS.hit | exact PutS.hit | apply GetS.miss rfl | apply PutS.miss rfl | apply OutS.cons | apply OutS.skip rfl)))
  ((repeat refine c_seq ?_); refine c_else rfl ?_)
  ((repeat refine c_seq ?_); refine c_region ?_; (repeat (first | ((first | apply o_move rfl rfl | apply o_easy1 rfl rfl rfl | apply o_ld rfl rfl (by assumption) (by first | rfl | assumption)); conv => lhs; whnf) | apply o_no rfl | refine o_b rfl rfl rfl (by constructor; omega) ?_ | refine o_f rfl rfl rfl (by constructor; omega) ?_ | refine o_s rfl rfl rfl (by constructor; first | omega | assumption) ?_ | refine o_t rfl rfl rfl (by constructor; assumption) ?_ | (apply o_easy rfl rfl rfl; conv => lhs; whnf) | apply o_non rfl)); apply o_end; (repeat (first | exact OutS.nil | exact GetS.hit | exact PutS.hit | apply GetS.miss rfl | apply PutS.miss rfl | apply OutS.cons | apply OutS.skip rfl)))
  ((repeat refine c_seq ?_); refine c_else rfl ?_)
  ((repeat refine c_seq ?_); refine c_region ?_; (repeat (first | ((first | apply o_move rfl rfl | apply o_easy1 rfl rfl rfl | apply o_ld rfl rfl (by assumption) (by first | rfl | assumption)); conv => lhs; whnf) | apply o_no rfl | refine o_b rfl rfl rfl (by constructor; omega) ?_ | refine o_f rfl rfl rfl (by constructor; omega) ?_ | refine o_s rfl rfl rfl (by constructor; first | omega | assumption) ?_ | refine o_t rfl rfl rfl (by constructor; assumption) ?_ | (apply o_easy rfl rfl rfl; conv => lhs; whnf) | apply o_non rfl)); apply o_end; (repeat (first | exact OutS.nil | exact GetS.hit | exact PutS.hit | apply GetS.miss rfl | apply PutS.miss rfl | apply OutS.cons | apply OutS.skip rfl)))
  ((repeat refine c_seq ?_); refine c_else rfl ?_)
  ((repeat refine c_seq ?_); refine c_region ?_; (repeat (first | ((first | apply o_move rfl rfl | apply o_easy1 rfl rfl rfl | apply o_ld rfl rfl (by assumption) (by first | rfl | assumption)); conv => lhs; whnf) | apply o_no rfl | refine o_b rfl rfl rfl (by constructor; omega) ?_ | refine o_f rfl rfl rfl (by constructor; omega) ?_ | refine o_s rfl rfl rfl (by constructor; first | omega | assumption) ?_ | refine o_t rfl rfl rfl (by constructor; assumption) ?_ | (apply o_easy rfl rfl rfl; conv => lhs; whnf) | apply o_non rfl)); apply o_end; (repeat (first | exact OutS.nil | exact GetS.hit | exact PutS.hit | apply GetS.miss rfl | apply PutS.miss rfl | apply OutS.cons | apply OutS.skip rfl)))
  ((repeat refine c_seq ?_); refine c_else rfl ?_)
  ((repeat refine c_seq ?_); refine c_region ?_; (repeat (first | ((first | apply o_move rfl rfl | apply o_easy1 rfl rfl rfl | apply o_ld rfl rfl (by assumption) (by first | rfl | assumption)); conv => lhs; whnf) | apply o_no rfl | refine o_b rfl rfl rfl (by constructor; omega) ?_ | refine o_f rfl rfl rfl (by constructor; omega) ?_ | refine o_s rfl rfl rfl (by constructor; first | omega | assumption) ?_ | refine o_t rfl rfl rfl (by constructor; assumption) ?_ | (apply o_easy rfl rfl rfl; conv => lhs; whnf) | apply o_non rfl)); apply o_end; (repeat (first | exact OutS.nil | exact GetS.hit | exact PutS.hit | apply GetS.miss rfl | apply PutS.miss rfl | apply OutS.cons | apply OutS.skip rfl)))
  ((repeat refine c_seq ?_); refine c_else rfl ?_)
  ((repeat refine c_seq ?_); refine c_region ?_; (repeat (first | ((first | apply o_move rfl rfl | apply o_easy1 rfl rfl rfl | apply o_ld rfl rfl (by assumption) (by first | rfl | assumption)); conv => lhs; whnf) | apply o_no rfl | refine o_b rfl rfl rfl (by constructor; omega) ?_ | refine o_f rfl rfl rfl (by constructor; omega) ?_ | refine o_s rfl rfl rfl (by constructor; first | omega | assumption) ?_ | refine o_t rfl rfl rfl (by constructor; assumption) ?_ | (apply o_easy rfl rfl rfl; conv => lhs; whnf) | apply o_non rfl)); apply o_end; (repeat (first | exact OutS.nil | exact GetS.hit | exact PutS.hit | apply GetS.miss rfl | apply PutS.miss rfl | apply OutS.cons | apply OutS.skip rfl)))
  ((repeat refine c_seq ?_); refine c_else rfl ?_)
  ((repeat refine c_seq ?_); refine c_region ?_; (repeat (first | ((first | apply o_move rfl rfl | apply o_easy1 rfl rfl rfl | apply o_ld rfl rfl (by assumption) (by first | rfl | assumption)); conv => lhs; whnf) | apply o_no rfl | refine o_b rfl rfl rfl (by constructor; omega) ?_ | refine o_f rfl rfl rfl (by constructor; omega) ?_ | refine o_s rfl rfl rfl (by constructor; first | omega | assumption) ?_ | refine o_t rfl rfl rfl (by constructor; assumption) ?_ | (apply o_easy rfl rfl rfl; conv => lhs; whnf) | apply o_non rfl)); apply o_end; (repeat (first | exact OutS.nil | exact GetS.hit | exact PutS.hit | apply GetS.miss rfl | apply PutS.miss rfl | apply OutS.cons | apply OutS.skip rfl)))
  ((repeat refine c_seq ?_); refine c_else rfl ?_)
  ((repeat refine c_seq ?_); refine c_region ?_; (repeat (first | ((first | apply o_move rfl rfl | apply o_easy1 rfl rfl rfl | apply o_ld rfl rfl (by assumption) (by first | rfl | assumption)); conv => lhs; whnf) | apply o_no rfl | refine o_b rfl rfl rfl (by constructor; omega) ?_ | refine o_f rfl rfl rfl (by constructor; omega) ?_ | refine o_s rfl rfl rfl (by constructor; first | omega | assumption) ?_ | refine o_t rfl rfl rfl (by constructor; assumption) ?_ | (apply o_easy rfl rfl rfl; conv => lhs; whnf) | apply o_non rfl)); apply o_end; (repeat (first | exact OutS.nil | exact GetS.hit | exact PutS.hit | apply GetS.miss rfl | apply PutS.miss rfl | apply OutS.cons | apply OutS.skip rfl)))
  ((repeat refine c_seq ?_); refine c_else rfl ?_)
  ((repeat refine c_seq ?_); refine c_region ?_; (repeat (first | ((first | apply o_move rfl rfl | apply o_easy1 rfl rfl rfl | apply o_ld rfl rfl (by assumption) (by first | rfl | assumption)); conv => lhs; whnf) | apply o_no rfl | refine o_b rfl rfl rfl (by constructor; omega) ?_ | refine o_f rfl rfl rfl (by constructor; omega) ?_ | refine o_s rfl rfl rfl (by constructor; first | omega | assumption) ?_ | refine o_t rfl rfl rfl (by constructor; assumption) ?_ | (apply o_easy rfl rfl rfl; conv => lhs; whnf) | apply o_non rfl)); apply o_end; (repeat (first | exact OutS.nil | exact GetS.hit | exact PutS.hit | apply GetS.miss rfl | apply PutS.miss rfl | apply OutS.cons | apply OutS.skip rfl)))
  ((repeat refine c_seq ?_); refine c_if rfl ?_)
  ((repeat refine c_seq ?_); refine c_region ?_; (repeat (first | ((first | apply o_move rfl rfl | apply o_easy1 rfl rfl rfl | apply o_ld rfl rfl (by assumption) (by first | rfl | assumption)); conv => lhs; whnf) | apply o_no rfl | refine o_b rfl rfl rfl (by constructor; omega) ?_ | refine o_f rfl rfl rfl (by constructor; omega) ?_ | refine o_s rfl rfl rfl (by constructor; first | omega | assumption) ?_ | refine o_t rfl rfl rfl (by constructor; assumption) ?_ | (apply o_easy rfl rfl rfl; conv => lhs; whnf) | apply o_non rfl)))
  refine o_callw (l := [.ptr r 0 0]) rfl rfl ((brace_spec m (b.into af12.mode s) s0 t false 0 mx at' (i + 1) i3 md r l D E _ hb hes ht hm hl hsh hmd hL).mono ?_)
  rintro o s2 (⟨h1, rfl, h2⟩ | ⟨h1, rfl, h2⟩)
  · (apply o_end; (repeat (first | exact OutS.nil | exact GetS.hit | exact PutS.hit | apply GetS.miss rfl | apply PutS.miss rfl | apply OutS.cons | apply OutS.skip rfl)))
    exact ⟨_, _, rfl, .inl ⟨h1, rfl, h2⟩⟩
  · refine fin_panic (l := [.iface 43 (.agg [.int .i64 (errOf D E), .int .i64 at'])]) rfl ?_
    exact .inr ⟨h1, rfl, h2⟩

end Go.Tok

namespace Go.Tok
open Go Go.Am Go.Proofs

def tk1 : Tk := ⟨1, 0, (1 : Nat), 97, 0, 0, 0⟩
def toks2 (t D E : List UInt8) (md : Nat) : List Tk := [tk1, ⟨9, (1 : Nat), t.length, 0, valM D 0, topOf E, md⟩]

/-- what Lex comes to, of one character and its quantifier in braces -/
def lexV (t D E : List UInt8) (md : Nat) : AV :=
  if errOf D E = 0 then .tup [.vec (tavs (toks2 t D E md)) .shut, .int .i64 0, .int .i64 0] else .tup [.vec [] .shut, .int .i64 (errOf D E), .int .i64 1]

set_option maxHeartbeats 1000000 in
theorem lex_counts (t D E : List UInt8) (md : Nat) (ht : t.length ≤ 1000) (c0 : t[0]? = some 97) (c1 : t[1]? = some 123) (hsh : ShapeAt t 2 D E) (hmd : ModeAt t (2 + D.length + 1 + E.length + 1) md t.length) (m : Nat) (hm : t.length ≤ m) (b : Bar) (s : Sg) (a0 : AV) (h0 : a0.weak = .vec (Am.byteCells t) .shut) :
    callF T (m + 7) b 8 [a0, .int .i64 0] s = some (.ret (lexV t D E md), s) := by
  have hbl := Am.byteCells_length t
  have lt1 := lt_of_getElem? c1
  suffices h : OkF (callF T (m + 7) b 8 [a0, .int .i64 0] s) (fun o s' => o = .ret (lexV t D E md) ∧ s' = s) by
    obtain ⟨o, s', h1, rfl, rfl⟩ := h.ok
    exact h1
  have hw0 : AV.weakAll [a0, .int .i64 0] = [.vec (Am.byteCells t) .shut, .int .i64 0] := by
    simp only [AV.weakAll, h0]
    rfl
  apply f_wp rfl rfl
  · show Shape (bindArgs (AV.weakAll [a0, .int .i64 0]) _) _
    rw [hw0]
    repeat (first | exact Shape.nil | (apply Shape.cons; (conv => lhs; whnf)))
  ((repeat refine c_seq ?_); refine c_region ?_; (repeat (first | ((first | apply o_move rfl rfl | apply o_easy1 rfl rfl rfl | apply o_ld rfl rfl (by assumption) (by first | rfl | assumption)); conv => lhs; whnf) | apply o_no rfl | refine o_b rfl rfl rfl (by constructor; omega) ?_ | refine o_f rfl rfl rfl (by constructor; omega) ?_ | refine o_s rfl rfl rfl (by constructor; first | omega | assumption) ?_ | refine o_t rfl rfl rfl (by constructor; assumption) ?_ | (apply o_easy rfl rfl rfl; conv => lhs; whnf) | apply o_non rfl)))
  refine o_alloc rfl ?_
  refine o_alloc rfl ?_
  refine o_alloc rfl ?_
  (apply o_end; (repeat (first | exact OutS.nil | exact GetS.hit | exact PutS.hit | apply GetS.miss rfl | apply PutS.miss rfl | apply OutS.cons | apply OutS.skip rfl)))
  ((repeat refine c_seq ?_); refine c_region ?_; (repeat (first | ((first | apply o_move rfl rfl | apply o_easy1 rfl rfl rfl | apply o_ld rfl rfl (by assumption) (by first | rfl | assumption)); conv => lhs; whnf) | apply o_no rfl | refine o_b rfl rfl rfl (by constructor; omega) ?_ | refine o_f rfl rfl rfl (by constructor; omega) ?_ | refine o_s rfl rfl rfl (by constructor; first | omega | assumption) ?_ | refine o_t rfl rfl rfl (by constructor; assumption) ?_ | (apply o_easy rfl rfl rfl; conv => lhs; whnf) | apply o_non rfl)); apply o_end; (repeat (first | exact OutS.nil | exact GetS.hit | exact PutS.hit | apply GetS.miss rfl | apply PutS.miss rfl | apply OutS.cons | apply OutS.skip rfl)))
  ((repeat refine c_seq ?_); refine c_else rfl ?_)
  refine c_skip ?_
  ((repeat refine c_seq ?_); refine c_region ?_; (repeat (first | ((first | apply o_move rfl rfl | apply o_easy1 rfl rfl rfl | apply o_ld rfl rfl (by assumption) (by first | rfl | assumption)); conv => lhs; whnf) | apply o_no rfl | refine o_b rfl rfl rfl (by constructor; omega) ?_ | refine o_f rfl rfl rfl (by constructor; omega) ?_ | refine o_s rfl rfl rfl (by constructor; first | omega | assumption) ?_ | refine o_t rfl rfl rfl (by constructor; assumption) ?_ | (apply o_easy rfl rfl rfl; conv => lhs; whnf) | apply o_non rfl)); apply o_end; (repeat (first | exact OutS.nil | exact GetS.hit | exact PutS.hit | apply GetS.miss rfl | apply PutS.miss rfl | apply OutS.cons | apply OutS.skip rfl)))
  ((repeat refine c_seq ?_); refine c_else rfl ?_)
  refine c_skip ?_
  ((repeat refine c_seq ?_); refine c_region ?_; (repeat (first | ((first | apply o_move rfl rfl | apply o_easy1 rfl rfl rfl | apply o_ld rfl rfl (by assumption) (by first | rfl | assumption)); conv => lhs; whnf) | apply o_no rfl | refine o_b rfl rfl rfl (by constructor; omega) ?_ | refine o_f rfl rfl rfl (by constructor; omega) ?_ | refine o_s rfl rfl rfl (by constructor; first | omega | assumption) ?_ | refine o_t rfl rfl rfl (by constructor; assumption) ?_ | (apply o_easy rfl rfl rfl; conv => lhs; whnf) | apply o_non rfl)))
  refine o_bs rfl rfl (bytesOf_cells t) ?_
  (repeat (first | ((first | apply o_move rfl rfl | apply o_easy1 rfl rfl rfl | apply o_ld rfl rfl (by assumption) (by first | rfl | assumption)); conv => lhs; whnf) | apply o_no rfl | refine o_b rfl rfl rfl (by constructor; omega) ?_ | refine o_f rfl rfl rfl (by constructor; omega) ?_ | refine o_s rfl rfl rfl (by constructor; first | omega | assumption) ?_ | refine o_t rfl rfl rfl (by constructor; assumption) ?_ | (apply o_easy rfl rfl rfl; conv => lhs; whnf) | apply o_non rfl))
  refine o_w (v := .int .i64 0) rfl rfl ?_
  (repeat (first | ((first | apply o_move rfl rfl | apply o_easy1 rfl rfl rfl | apply o_ld rfl rfl (by assumption) (by first | rfl | assumption)); conv => lhs; whnf) | apply o_no rfl | refine o_b rfl rfl rfl (by constructor; omega) ?_ | refine o_f rfl rfl rfl (by constructor; omega) ?_ | refine o_s rfl rfl rfl (by constructor; first | omega | assumption) ?_ | refine o_t rfl rfl rfl (by constructor; assumption) ?_ | (apply o_easy rfl rfl rfl; conv => lhs; whnf) | apply o_non rfl))
  refine o_box (v := .agg (lx t false 0 255 0 0 .nilsl)) (l := lx t false 0 255 0 0 .nilsl) rfl rfl rfl ?_
  (repeat (first | ((first | apply o_move rfl rfl | apply o_easy1 rfl rfl rfl | apply o_ld rfl rfl (by assumption) (by first | rfl | assumption)); conv => lhs; whnf) | apply o_no rfl | refine o_b rfl rfl rfl (by constructor; omega) ?_ | refine o_f rfl rfl rfl (by constructor; omega) ?_ | refine o_s rfl rfl rfl (by constructor; first | omega | assumption) ?_ | refine o_t rfl rfl rfl (by constructor; assumption) ?_ | (apply o_easy rfl rfl rfl; conv => lhs; whnf) | apply o_non rfl))
  (apply o_end; (repeat (first | exact OutS.nil | exact GetS.hit | exact PutS.hit | apply GetS.miss rfl | apply PutS.miss rfl | apply OutS.cons | apply OutS.skip rfl)))
  have hA := getCells_push (.cells (lx t false 0 255 0 0 .nilsl) 0) (getCells_push (.cells [.int .i64 0] 0) (getCells_push (.cells [.int .i64 0] 0) (getCells_new s [.nilsl] 0)))
  have hB := getCells_push (.cells (lx t false 0 255 0 0 .nilsl) 0) (getCells_push (.cells [.int .i64 0] 0) (getCells_new (s.push (.cells [.nilsl] 0)) [.int .i64 0] 0))
  have hC := getCells_push (.cells (lx t false 0 255 0 0 .nilsl) 0) (getCells_new ((s.push (.cells [.nilsl] 0)).push (.cells [.int .i64 0] 0)) [.int .i64 0] 0)
  have hR := getCells_new (((s.push (.cells [.nilsl] 0)).push (.cells [.int .i64 0] 0)).push (.cells [.int .i64 0] 0)) (lx t false 0 255 0 0 .nilsl) 0
  have lA : s.heap.length < (s.push (.cells [.nilsl] 0)).heap.length := by rw [Sg.push_len]; omega
  have lB : (s.push (.cells [.nilsl] 0)).heap.length < ((s.push (.cells [.nilsl] 0)).push (.cells [.int .i64 0] 0)).heap.length := by rw [Sg.push_len (s.push _)]; omega
  have lC : ((s.push (.cells [.nilsl] 0)).push (.cells [.int .i64 0] 0)).heap.length < (((s.push (.cells [.nilsl] 0)).push (.cells [.int .i64 0] 0)).push (.cells [.int .i64 0] 0)).heap.length := by rw [Sg.push_len ((s.push _).push _)]; omega
  generalize ((((s.push (.cells [.nilsl] 0)).push (.cells [.int .i64 0] 0)).push (.cells [.int .i64 0] 0)).push (.cells (lx t false 0 255 0 0 .nilsl) 0)) = s1 at hA hB hC hR ⊢
  generalize (((s.push (.cells [.nilsl] 0)).push (.cells [.int .i64 0] 0)).push (.cells [.int .i64 0] 0)).heap.length = R at hR lC ⊢
  generalize ((s.push (.cells [.nilsl] 0)).push (.cells [.int .i64 0] 0)).heap.length = C at hC lB lC ⊢
  generalize (s.push (.cells [.nilsl] 0)).heap.length = B at hB lA lB ⊢
  ((repeat refine c_seq ?_); refine c_region ?_; (repeat (first | ((first | apply o_move rfl rfl | apply o_easy1 rfl rfl rfl | apply o_ld rfl rfl (by assumption) (by first | rfl | assumption)); conv => lhs; whnf) | apply o_no rfl | refine o_b rfl rfl rfl (by constructor; omega) ?_ | refine o_f rfl rfl rfl (by constructor; omega) ?_ | refine o_s rfl rfl rfl (by constructor; first | omega | assumption) ?_ | refine o_t rfl rfl rfl (by constructor; assumption) ?_ | (apply o_easy rfl rfl rfl; conv => lhs; whnf) | apply o_non rfl)); apply o_end; (repeat (first | exact OutS.nil | exact GetS.hit | exact PutS.hit | apply GetS.miss rfl | apply PutS.miss rfl | apply OutS.cons | apply OutS.skip rfl)))
  ((repeat refine c_seq ?_); refine c_else rfl ?_)
  refine c_skip ?_
  ((repeat refine c_seq ?_); refine c_region ?_; (repeat (first | ((first | apply o_move rfl rfl | apply o_easy1 rfl rfl rfl | apply o_ld rfl rfl (by assumption) (by first | rfl | assumption)); conv => lhs; whnf) | apply o_no rfl | refine o_b rfl rfl rfl (by constructor; omega) ?_ | refine o_f rfl rfl rfl (by constructor; omega) ?_ | refine o_s rfl rfl rfl (by constructor; first | omega | assumption) ?_ | refine o_t rfl rfl rfl (by constructor; assumption) ?_ | (apply o_easy rfl rfl rfl; conv => lhs; whnf) | apply o_non rfl)))
  refine o_defer rfl rfl rfl rfl rfl ?_
  (apply o_end; (repeat (first | exact OutS.nil | exact GetS.hit | exact PutS.hit | apply GetS.miss rfl | apply PutS.miss rfl | apply OutS.cons | apply OutS.skip rfl)))
  refine c_seq ?_
  ((repeat refine c_seq ?_); refine c_block ?_)
  refine c_loop (x := lp8_0) ?_
  have hb : (b.into .pure s).w ≤ R := by show s.heap.length ≤ R; omega
  have h0 : LS s1 R t false 0 255 0 0 [] s1 := ⟨⟨_, hR, .inl ⟨rfl, rfl⟩⟩, fun _ _ => rfl⟩
  obtain ⟨out0, hg0, ho0⟩ := h0.out
  have hlow0 := h0.low
  apply l_round
  ((repeat refine c_seq ?_); refine c_drawn ?_; (repeat (first | ((first | apply o_move rfl rfl | apply o_easy1 rfl rfl rfl | apply o_ld rfl rfl (by assumption) (by first | rfl | assumption)); conv => lhs; whnf) | apply o_no rfl | refine o_b rfl rfl rfl (by constructor; omega) ?_ | refine o_f rfl rfl rfl (by constructor; omega) ?_ | refine o_s rfl rfl rfl (by constructor; first | omega | assumption) ?_ | refine o_t rfl rfl rfl (by constructor; assumption) ?_ | (apply o_easy rfl rfl rfl; conv => lhs; whnf) | apply o_non rfl)); apply d_end rfl; (repeat (first | exact OutS.nil | exact GetS.hit | exact PutS.hit | apply GetS.miss rfl | apply PutS.miss rfl | apply OutS.cons | apply OutS.skip rfl)))
  ((repeat refine c_seq ?_); refine c_if rfl ?_)
  refine c_skip ?_
  ((repeat refine c_seq ?_); refine c_block ?_)
  ((repeat refine c_seq ?_); refine c_region ?_; (repeat (first | ((first | apply o_move rfl rfl | apply o_easy1 rfl rfl rfl | apply o_ld rfl rfl (by assumption) (by first | rfl | assumption)); conv => lhs; whnf) | apply o_no rfl | refine o_b rfl rfl rfl (by constructor; omega) ?_ | refine o_f rfl rfl rfl (by constructor; omega) ?_ | refine o_s rfl rfl rfl (by constructor; first | omega | assumption) ?_ | refine o_t rfl rfl rfl (by constructor; assumption) ?_ | (apply o_easy rfl rfl rfl; conv => lhs; whnf) | apply o_non rfl)))
  refine o_st rfl rfl rfl rfl hg0 rfl (lets_nil (blt_no hb) rfl) (cs' := lx t false 0 255 (0 : Nat) (0 : Nat) out0) rfl ?_
  (apply o_end; (repeat (first | exact OutS.nil | exact GetS.hit | exact PutS.hit | apply GetS.miss rfl | apply PutS.miss rfl | apply OutS.cons | apply OutS.skip rfl)))
  have hL0 : LS s1 R t false 0 255 0 0 [] (s1.put R (.cells (lx t false 0 255 (0 : Nat) (0 : Nat) out0) 0)) := LS.put hg0 ho0 hlow0
  ((repeat refine c_seq ?_); refine c_region ?_; (repeat (first | ((first | apply o_move rfl rfl | apply o_easy1 rfl rfl rfl | apply o_ld rfl rfl (by assumption) (by first | rfl | assumption)); conv => lhs; whnf) | apply o_no rfl | refine o_b rfl rfl rfl (by constructor; omega) ?_ | refine o_f rfl rfl rfl (by constructor; omega) ?_ | refine o_s rfl rfl rfl (by constructor; first | omega | assumption) ?_ | refine o_t rfl rfl rfl (by constructor; assumption) ?_ | (apply o_easy rfl rfl rfl; conv => lhs; whnf) | apply o_non rfl)))
  refine o_callw (l := [.ptr R 0 0]) rfl rfl ((one_spec (m + 3) _ s1 t 255 0 0 R [] 97 _ hb rfl (by omega) (by simp) c0 (by unfold isIt; decide) hL0).mono ?_)
  rintro _ s2 ⟨rfl, h2⟩
  (apply o_end; (repeat (first | exact OutS.nil | exact GetS.hit | exact PutS.hit | apply GetS.miss rfl | apply PutS.miss rfl | apply OutS.cons | apply OutS.skip rfl)))
  obtain ⟨⟨out1, hg1, ho1⟩, hlow1⟩ := h2
  apply l_round
  ((repeat refine c_seq ?_); refine c_drawn ?_; (repeat (first | ((first | apply o_move rfl rfl | apply o_easy1 rfl rfl rfl | apply o_ld rfl rfl (by assumption) (by first | rfl | assumption)); conv => lhs; whnf) | apply o_no rfl | refine o_b rfl rfl rfl (by constructor; omega) ?_ | refine o_f rfl rfl rfl (by constructor; omega) ?_ | refine o_s rfl rfl rfl (by constructor; first | omega | assumption) ?_ | refine o_t rfl rfl rfl (by constructor; assumption) ?_ | (apply o_easy rfl rfl rfl; conv => lhs; whnf) | apply o_non rfl)); apply d_end rfl; (repeat (first | exact OutS.nil | exact GetS.hit | exact PutS.hit | apply GetS.miss rfl | apply PutS.miss rfl | apply OutS.cons | apply OutS.skip rfl)))
  ((repeat refine c_seq ?_); refine c_if rfl ?_)
  refine c_skip ?_
  ((repeat refine c_seq ?_); refine c_block ?_)
  ((repeat refine c_seq ?_); refine c_region ?_; (repeat (first | ((first | apply o_move rfl rfl | apply o_easy1 rfl rfl rfl | apply o_ld rfl rfl (by assumption) (by first | rfl | assumption)); conv => lhs; whnf) | apply o_no rfl | refine o_b rfl rfl rfl (by constructor; omega) ?_ | refine o_f rfl rfl rfl (by constructor; omega) ?_ | refine o_s rfl rfl rfl (by constructor; first | omega | assumption) ?_ | refine o_t rfl rfl rfl (by constructor; assumption) ?_ | (apply o_easy rfl rfl rfl; conv => lhs; whnf) | apply o_non rfl)))
  refine o_st rfl rfl rfl rfl hg1 rfl (lets_nil (blt_no hb) rfl) (cs' := lx t false 0 255 (0 + 1 : Nat) (0 + 1 : Nat) out1) rfl ?_
  (apply o_end; (repeat (first | exact OutS.nil | exact GetS.hit | exact PutS.hit | apply GetS.miss rfl | apply PutS.miss rfl | apply OutS.cons | apply OutS.skip rfl)))
  have hL1 : LS s1 R t false 0 255 1 1 [tk1] (s2.put R (.cells (lx t false 0 255 (0 + 1 : Nat) (0 + 1 : Nat) out1) 0)) := LS.put hg1 ho1 hlow1
  ((repeat refine c_seq ?_); refine c_region ?_; (repeat (first | ((first | apply o_move rfl rfl | apply o_easy1 rfl rfl rfl | apply o_ld rfl rfl (by assumption) (by first | rfl | assumption)); conv => lhs; whnf) | apply o_no rfl | refine o_b rfl rfl rfl (by constructor; omega) ?_ | refine o_f rfl rfl rfl (by constructor; omega) ?_ | refine o_s rfl rfl rfl (by constructor; first | omega | assumption) ?_ | refine o_t rfl rfl rfl (by constructor; assumption) ?_ | (apply o_easy rfl rfl rfl; conv => lhs; whnf) | apply o_non rfl)))
  refine o_callw (l := [.ptr R 0 0]) rfl rfl ((one_brace m _ s1 t 255 1 1 t.length md R [tk1] D E _ hb rfl (by omega) hm (by simp) c1 hsh hmd hL1).mono ?_)
  rintro o s3 (⟨he, rfl, h3⟩ | ⟨he, rfl, hlow⟩)
  · (apply o_end; (repeat (first | exact OutS.nil | exact GetS.hit | exact PutS.hit | apply GetS.miss rfl | apply PutS.miss rfl | apply OutS.cons | apply OutS.skip rfl)))
    have hlv : lexV t D E md = .tup [.vec (tavs (toks2 t D E md)) .shut, .int .i64 0, .int .i64 0] := if_pos he
    rw [hlv]
    obtain ⟨⟨out2, hg2, ho2⟩, hlow⟩ := h3
    have hl2 : [tk1] ++ [(⟨9, (1 : Nat), t.length, 0, valM D 0, topOf E, md⟩ : Tk)] = toks2 t D E md := rfl
    rw [hl2] at ho2
    apply l_round
    ((repeat refine c_seq ?_); refine c_drawn ?_; (repeat (first | ((first | apply o_move rfl rfl | apply o_easy1 rfl rfl rfl | apply o_ld rfl rfl (by assumption) (by first | rfl | assumption)); conv => lhs; whnf) | apply o_no rfl | refine o_b rfl rfl rfl (by constructor; omega) ?_ | refine o_f rfl rfl rfl (by constructor; omega) ?_ | refine o_s rfl rfl rfl (by constructor; first | omega | assumption) ?_ | refine o_t rfl rfl rfl (by constructor; assumption) ?_ | (apply o_easy rfl rfl rfl; conv => lhs; whnf) | apply o_non rfl)); apply d_end rfl; (repeat (first | exact OutS.nil | exact GetS.hit | exact PutS.hit | apply GetS.miss rfl | apply PutS.miss rfl | apply OutS.cons | apply OutS.skip rfl)))
    ((repeat refine c_seq ?_); refine c_else rfl ?_)
    refine c_exit ?_
    have hA1 := getCells_at hA (hlow _ (by omega))
    have hB1 := getCells_at hB (hlow _ (by omega))
    have hC1 := getCells_at hC (hlow _ (by omega))
    have hl2n : (toks2 t D E md).length = 2 := rfl
    generalize toks2 t D E md = l2 at ho2 hl2n ⊢
    rcases ho2 with ⟨hz, _⟩ | ⟨hne, j, g, rfl, hj, h3⟩
    · rw [hz] at hl2n; simp at hl2n
    have hlay : layOne (((s3.put s.heap.length (.cells [.ms j g 0 l2.length l2.length 12] 0)).put B (.cells [.int .i64 0] 0)).put C (.cells [.int .i64 0] 0)).heap s.heap.length (some (some 12)) (.ms j g 0 l2.length l2.length 12) = some (.vec (tavs l2) .shut) :=
      layOne_ms (by omega) (getCells_put_ne (by omega) (getCells_put_ne (by omega) (getCells_put_ne (by omega) h3))) (tavs_chunk _) (tavs_old _ _)
    show OkC _ _ _ _ _ _ _
    ((repeat refine c_seq ?_); refine c_region ?_; (repeat (first | ((first | apply o_move rfl rfl | apply o_easy1 rfl rfl rfl | apply o_ld rfl rfl (by assumption) (by first | rfl | assumption)); conv => lhs; whnf) | apply o_no rfl | refine o_b rfl rfl rfl (by constructor; omega) ?_ | refine o_f rfl rfl rfl (by constructor; omega) ?_ | refine o_s rfl rfl rfl (by constructor; first | omega | assumption) ?_ | refine o_t rfl rfl rfl (by constructor; assumption) ?_ | (apply o_easy rfl rfl rfl; conv => lhs; whnf) | apply o_non rfl)))
    refine o_st rfl rfl rfl rfl hA1 rfl (lets_nil (blt_no (by show s.heap.length ≤ s.heap.length; omega)) rfl) (cs' := [.ms j g 0 l2.length l2.length 12]) rfl ?_
    have hA2 := getCells_put (cs' := [.ms j g 0 l2.length l2.length 12]) (g' := 0) hA1
    have hB2 := getCells_put_ne (i := s.heap.length) (o := .cells [.ms j g 0 l2.length l2.length 12] 0) (by omega) hB1
    have hC2 := getCells_put_ne (i := s.heap.length) (o := .cells [.ms j g 0 l2.length l2.length 12] 0) (by omega) hC1
    refine o_st rfl rfl rfl rfl hB2 rfl (lets_of (blt_no (by show s.heap.length ≤ B; omega)) (fun e => rfl)) (cs' := [.int .i64 0]) rfl ?_
    have hA3 := getCells_put_ne (i := B) (o := .cells [.int .i64 0] 0) (by omega) hA2
    have hB3 := getCells_put (cs' := [.int .i64 0]) (g' := 0) hB2
    have hC3 := getCells_put_ne (i := B) (o := .cells [.int .i64 0] 0) (by omega) hC2
    refine o_st rfl rfl rfl rfl hC3 rfl (lets_of (blt_no (by show s.heap.length ≤ C; omega)) (fun e => rfl)) (cs' := [.int .i64 0]) rfl ?_
    have hA4 := getCells_put_ne (i := C) (o := .cells [.int .i64 0] 0) (by omega) hA3
    have hB4 := getCells_put_ne (i := C) (o := .cells [.int .i64 0] 0) (by omega) hB3
    have hC4 := getCells_put (cs' := [.int .i64 0]) (g' := 0) hC3
    generalize ((s3.put s.heap.length (.cells [.ms j g 0 l2.length l2.length 12] 0)).put B (.cells [.int .i64 0] 0)).put C (.cells [.int .i64 0] 0) = s4 at hA4 hB4 hC4 hlay ⊢
    (apply o_end; (repeat (first | exact OutS.nil | exact GetS.hit | exact PutS.hit | apply GetS.miss rfl | apply PutS.miss rfl | apply OutS.cons | apply OutS.skip rfl)))
    refine c_ret (fin_def (.inl ⟨rfl, rfl⟩) ?_)
    apply d_wp rfl rfl
    · repeat (first | exact Shape.nil | (apply Shape.cons; (conv => lhs; whnf)))
    refine c_seq (c_region ?_)
    refine o_recq rfl ?_
    (apply o_end; (repeat (first | exact OutS.nil | exact GetS.hit | exact PutS.hit | apply GetS.miss rfl | apply PutS.miss rfl | apply OutS.cons | apply OutS.skip rfl)))
    ((repeat refine c_seq ?_); refine c_block ?_)
    ((repeat refine c_seq ?_); refine c_region ?_; (repeat (first | ((first | apply o_move rfl rfl | apply o_easy1 rfl rfl rfl | apply o_ld rfl rfl (by assumption) (by first | rfl | assumption)); conv => lhs; whnf) | apply o_no rfl | refine o_b rfl rfl rfl (by constructor; omega) ?_ | refine o_f rfl rfl rfl (by constructor; omega) ?_ | refine o_s rfl rfl rfl (by constructor; first | omega | assumption) ?_ | refine o_t rfl rfl rfl (by constructor; assumption) ?_ | (apply o_easy rfl rfl rfl; conv => lhs; whnf) | apply o_non rfl)); apply o_end; (repeat (first | exact OutS.nil | exact GetS.hit | exact PutS.hit | apply GetS.miss rfl | apply PutS.miss rfl | apply OutS.cons | apply OutS.skip rfl)))
    ((repeat refine c_seq ?_); refine c_if rfl ?_)
    ((repeat refine c_seq ?_); refine c_region ?_; (repeat (first | ((first | apply o_move rfl rfl | apply o_easy1 rfl rfl rfl | apply o_ld rfl rfl (by assumption) (by first | rfl | assumption)); conv => lhs; whnf) | apply o_no rfl | refine o_b rfl rfl rfl (by constructor; omega) ?_ | refine o_f rfl rfl rfl (by constructor; omega) ?_ | refine o_s rfl rfl rfl (by constructor; first | omega | assumption) ?_ | refine o_t rfl rfl rfl (by constructor; assumption) ?_ | (apply o_easy rfl rfl rfl; conv => lhs; whnf) | apply o_non rfl)); apply o_end; (repeat (first | exact OutS.nil | exact GetS.hit | exact PutS.hit | apply GetS.miss rfl | apply PutS.miss rfl | apply OutS.cons | apply OutS.skip rfl)))
    refine ⟨.inl rfl, rfl, rfl, ?_⟩
    exact end_ret (read_cell rfl hA4 rfl (read_cell rfl hB4 rfl (read_cell rfl hC4 rfl read_nil))) (leave_pure (lay_cons hlay (lay_cons rfl (lay_cons rfl lay_nil))) (by simp only [AV.oldAll, AV.old, tavs_old, Bool.and_true]; rfl)) ⟨rfl, rfl⟩
  · have hlv : lexV t D E md = .tup [.vec [] .shut, .int .i64 (errOf D E), .int .i64 1] := if_neg he
    rw [hlv]
    have hA1 := getCells_at hA (hlow _ (by omega))
    have hB1 := getCells_at hB (hlow _ (by omega))
    have hC1 := getCells_at hC (hlow _ (by omega))
    generalize errOf D E = ee
    refine fin_def (.inr ⟨_, rfl, rfl⟩) ?_
    apply d_wp rfl rfl
    · repeat (first | exact Shape.nil | (apply Shape.cons; (conv => lhs; whnf)))
    refine c_seq (c_region ?_)
    refine o_rec rfl ?_
    (apply o_end; (repeat (first | exact OutS.nil | exact GetS.hit | exact PutS.hit | apply GetS.miss rfl | apply PutS.miss rfl | apply OutS.cons | apply OutS.skip rfl)))
    ((repeat refine c_seq ?_); refine c_block ?_)
    ((repeat refine c_seq ?_); refine c_region ?_; (repeat (first | ((first | apply o_move rfl rfl | apply o_easy1 rfl rfl rfl | apply o_ld rfl rfl (by assumption) (by first | rfl | assumption)); conv => lhs; whnf) | apply o_no rfl | refine o_b rfl rfl rfl (by constructor; omega) ?_ | refine o_f rfl rfl rfl (by constructor; omega) ?_ | refine o_s rfl rfl rfl (by constructor; first | omega | assumption) ?_ | refine o_t rfl rfl rfl (by constructor; assumption) ?_ | (apply o_easy rfl rfl rfl; conv => lhs; whnf) | apply o_non rfl)); apply o_end; (repeat (first | exact OutS.nil | exact GetS.hit | exact PutS.hit | apply GetS.miss rfl | apply PutS.miss rfl | apply OutS.cons | apply OutS.skip rfl)))
    ((repeat refine c_seq ?_); refine c_else rfl ?_)
    ((repeat refine c_seq ?_); refine c_region ?_; (repeat (first | ((first | apply o_move rfl rfl | apply o_easy1 rfl rfl rfl | apply o_ld rfl rfl (by assumption) (by first | rfl | assumption)); conv => lhs; whnf) | apply o_no rfl | refine o_b rfl rfl rfl (by constructor; omega) ?_ | refine o_f rfl rfl rfl (by constructor; omega) ?_ | refine o_s rfl rfl rfl (by constructor; first | omega | assumption) ?_ | refine o_t rfl rfl rfl (by constructor; assumption) ?_ | (apply o_easy rfl rfl rfl; conv => lhs; whnf) | apply o_non rfl)); apply o_end; (repeat (first | exact OutS.nil | exact GetS.hit | exact PutS.hit | apply GetS.miss rfl | apply PutS.miss rfl | apply OutS.cons | apply OutS.skip rfl)))
    ((repeat refine c_seq ?_); refine c_if rfl ?_)
    ((repeat refine c_seq ?_); refine c_region ?_; (repeat (first | ((first | apply o_move rfl rfl | apply o_easy1 rfl rfl rfl | apply o_ld rfl rfl (by assumption) (by first | rfl | assumption)); conv => lhs; whnf) | apply o_no rfl | refine o_b rfl rfl rfl (by constructor; omega) ?_ | refine o_f rfl rfl rfl (by constructor; omega) ?_ | refine o_s rfl rfl rfl (by constructor; first | omega | assumption) ?_ | refine o_t rfl rfl rfl (by constructor; assumption) ?_ | (apply o_easy rfl rfl rfl; conv => lhs; whnf) | apply o_non rfl)))
    refine o_alloc rfl ?_
    (repeat (first | ((first | apply o_move rfl rfl | apply o_easy1 rfl rfl rfl | apply o_ld rfl rfl (by assumption) (by first | rfl | assumption)); conv => lhs; whnf) | apply o_no rfl | refine o_b rfl rfl rfl (by constructor; omega) ?_ | refine o_f rfl rfl rfl (by constructor; omega) ?_ | refine o_s rfl rfl rfl (by constructor; first | omega | assumption) ?_ | refine o_t rfl rfl rfl (by constructor; assumption) ?_ | (apply o_easy rfl rfl rfl; conv => lhs; whnf) | apply o_non rfl))
    have hN := getCells_new s3 [.int .i64 0, .int .i64 0] 0
    refine o_st rfl rfl rfl rfl hN rfl (lets_of (blt_no (by show s.heap.length ≤ s3.heap.length; have := getCells_lt hA1; omega)) (fun e => rfl)) (cs' := [.int .i64 ee, .int .i64 (1 : Nat)]) rfl ?_
    (apply o_end; (repeat (first | exact OutS.nil | exact GetS.hit | exact PutS.hit | apply GetS.miss rfl | apply PutS.miss rfl | apply OutS.cons | apply OutS.skip rfl)))
    have hA2 := getCells_put_ne (i := s3.heap.length) (o := .cells [.int .i64 ee, .int .i64 (1 : Nat)] 0) (by have := getCells_lt hA1; omega) (getCells_push (.cells [.int .i64 0, .int .i64 0] 0) hA1)
    have hB2 := getCells_put_ne (i := s3.heap.length) (o := .cells [.int .i64 ee, .int .i64 (1 : Nat)] 0) (by have := getCells_lt hB1; omega) (getCells_push (.cells [.int .i64 0, .int .i64 0] 0) hB1)
    have hC2 := getCells_put_ne (i := s3.heap.length) (o := .cells [.int .i64 ee, .int .i64 (1 : Nat)] 0) (by have := getCells_lt hC1; omega) (getCells_push (.cells [.int .i64 0, .int .i64 0] 0) hC1)
    have hN2 := getCells_put (cs' := [.int .i64 ee, .int .i64 (1 : Nat)]) (g' := 0) hN
    have nA := getCells_lt hA1
    have nB := getCells_lt hB1
    generalize (s3.push (.cells [.int .i64 0, .int .i64 0] 0)).put s3.heap.length (.cells [.int .i64 ee, .int .i64 (1 : Nat)] 0) = s4 at hA2 hB2 hC2 hN2 ⊢
    generalize s3.heap.length = N at nA nB hN2 ⊢
    ((repeat refine c_seq ?_); refine c_drawn ?_; (repeat (first | ((first | apply o_move rfl rfl | apply o_easy1 rfl rfl rfl | apply o_ld rfl rfl (by assumption) (by first | rfl | assumption)); conv => lhs; whnf) | apply o_no rfl | refine o_b rfl rfl rfl (by constructor; omega) ?_ | refine o_f rfl rfl rfl (by constructor; omega) ?_ | refine o_s rfl rfl rfl (by constructor; first | omega | assumption) ?_ | refine o_t rfl rfl rfl (by constructor; assumption) ?_ | (apply o_easy rfl rfl rfl; conv => lhs; whnf) | apply o_non rfl)))
    refine o_st rfl rfl rfl rfl hA2 rfl (lets_of (blt_no (by show s.heap.length ≤ s.heap.length; omega)) (fun e => rfl)) (cs' := [.nilsl]) rfl ?_
    have hA3 := getCells_put (cs' := [.nilsl]) (g' := 0) hA2
    have hB3 := getCells_put_ne (i := s.heap.length) (o := .cells [.nilsl] 0) (by omega) hB2
    have hC3 := getCells_put_ne (i := s.heap.length) (o := .cells [.nilsl] 0) (by omega) hC2
    refine o_st rfl rfl rfl rfl hB3 rfl (lets_of (blt_no (by show s.heap.length ≤ B; omega)) (fun e => rfl)) (cs' := [.int .i64 ee]) rfl ?_
    have hA4 := getCells_put_ne (i := B) (o := .cells [.int .i64 ee] 0) (by omega) hA3
    have hB4 := getCells_put (cs' := [.int .i64 ee]) (g' := 0) hB3
    have hC4 := getCells_put_ne (i := B) (o := .cells [.int .i64 ee] 0) (by omega) hC3
    refine o_st rfl rfl rfl rfl hC4 rfl (lets_of (blt_no (by show s.heap.length ≤ C; omega)) (fun e => rfl)) (cs' := [.int .i64 (1 : Nat)]) rfl ?_
    have hA5 := getCells_put_ne (i := C) (o := .cells [.int .i64 (1 : Nat)] 0) (by omega) hA4
    have hB5 := getCells_put_ne (i := C) (o := .cells [.int .i64 (1 : Nat)] 0) (by omega) hB4
    have hC5 := getCells_put (cs' := [.int .i64 (1 : Nat)]) (g' := 0) hC4
    refine d_end ?_ (by (repeat (first | exact OutS.nil | exact GetS.hit | exact PutS.hit | apply GetS.miss rfl | apply PutS.miss rfl | apply OutS.cons | apply OutS.skip rfl))) ?_
    · show (!(Nat.beq N s.heap.length) && (!(Nat.beq N s.heap.length) && (!(Nat.beq N B) && true))) = true
      rw [beq_no (by omega), beq_no (by omega)]
      rfl
    refine ⟨.inl rfl, rfl, rfl, ?_⟩
    exact end_ret (read_cell rfl hA5 rfl (read_cell rfl hB5 rfl (read_cell rfl hC5 rfl read_nil))) (leave_pure (lay_cons rfl (lay_cons rfl (lay_cons rfl lay_nil))) (by simp [AV.oldAll, AV.old, AV.weak])) ⟨rfl, rfl⟩

end Go.Tok

namespace Go.Tok
open Go Go.Am Go.Proofs

def endOf : Nat → List UInt8
  | 0 => []
  | 1 => [63]
  | _ => [43]

/-- one character and its quantifier in braces -/
def txt (D E : List UInt8) (md : Nat) : List UInt8 := 97 :: 123 :: (D ++ 44 :: (E ++ 125 :: endOf md))

theorem txt_len (D E : List UInt8) (md : Nat) : (txt D E md).length = D.length + E.length + 4 + (endOf md).length := by
  simp [txt]; omega

theorem txt_drop (D E : List UInt8) (md : Nat) : (txt D E md).drop 2 = D ++ 44 :: (E ++ 125 :: endOf md) := rfl
theorem txt_drop2 (D E : List UInt8) (md : Nat) : (txt D E md).drop (2 + D.length) = 44 :: (E ++ 125 :: endOf md) := by
  rw [← List.drop_drop, txt_drop, List.drop_left]
theorem txt_drop3 (D E : List UInt8) (md : Nat) : (txt D E md).drop (2 + D.length + 1) = E ++ 125 :: endOf md := by
  rw [← List.drop_drop, txt_drop2]; rfl
theorem txt_drop4 (D E : List UInt8) (md : Nat) : (txt D E md).drop (2 + D.length + 1 + E.length) = 125 :: endOf md := by
  rw [← List.drop_drop, txt_drop3, List.drop_left]
theorem txt_drop5 (D E : List UInt8) (md : Nat) : (txt D E md).drop (2 + D.length + 1 + E.length + 1) = endOf md := by
  rw [← List.drop_drop, txt_drop4]; rfl

theorem txt_shape (D E : List UInt8) (md : Nat) (hD : ∀ c ∈ D, isDig c) (hne : D ≠ []) (hE : ∀ c ∈ E, isDig c) : ShapeAt (txt D E md) 2 D E where
  d := ⟨hD, _, txt_drop D E md, fun c hc => by
    simp only [List.head?_cons, Option.some.injEq] at hc
    subst hc; unfold isDig; decide⟩
  ne := hne
  comma := by rw [← List.head?_drop, txt_drop2]; rfl
  e := ⟨hE, _, txt_drop3 D E md, fun c hc => by
    simp only [List.head?_cons, Option.some.injEq] at hc
    subst hc; unfold isDig; decide⟩
  close := by rw [← List.head?_drop, txt_drop4]; rfl

theorem txt_mode (D E : List UInt8) (md : Nat) (h : md < 3) : ModeAt (txt D E md) (2 + D.length + 1 + E.length + 1) md (txt D E md).length := by
  have hl := txt_len D E md
  have hd := List.head?_drop (l := txt D E md) (i := 2 + D.length + 1 + E.length + 1)
  rw [txt_drop5] at hd
  match md, h with
  | 0, _ => exact .inl ⟨rfl, hd.symm, by rw [hl]; simp [endOf]; omega⟩
  | 1, _ => exact .inr (.inl ⟨rfl, hd.symm, by rw [hl]; simp [endOf]; omega⟩)
  | 2, _ => exact .inr (.inr ⟨rfl, hd.symm, by rw [hl]; simp [endOf]; omega⟩)

theorem lexV_split (t D E : List UInt8) (md : Nat) : ∃ ts e a, lexV t D E md = .tup [.vec ts .shut, .int .i64 e, .int .i64 a] ∧ ((errOf D E = 0 ∧ e = 0 ∧ ts = tavs (toks2 t D E md)) ∨ (errOf D E ≠ 0 ∧ e = errOf D E ∧ a = 1)) := by
  by_cases h : errOf D E = 0
  · exact ⟨_, _, _, if_pos h, .inl ⟨h, rfl, rfl⟩⟩
  · exact ⟨_, _, _, if_neg h, .inr ⟨h, rfl, rfl⟩⟩

theorem lex_txt (D E : List UInt8) (md : Nat) (hmd : md < 3) (hD : ∀ c ∈ D, isDig c) (hne : D ≠ []) (hE : ∀ c ∈ E, isDig c) (lD : D.length ≤ 5) (lE : E.length ≤ 5) (m : Nat) (b : Bar) (s : Sg) (a0 : AV) (h0 : a0.weak = .vec (Am.byteCells (txt D E md)) .shut) :
    callF T (m + 107) b 8 [a0, .int .i64 0] s = some (.ret (lexV (txt D E md) D E md), s) := by
  have hl := txt_len D E md
  have he : (endOf md).length ≤ 1 := by
    match md, hmd with
    | 0, _ => decide
    | 1, _ => decide
    | 2, _ => decide
  exact lex_counts (txt D E md) D E md (by omega) rfl rfl (txt_shape D E md hD hne hE) (txt_mode D E md hmd) (m + 100) (by omega) b s a0 h0

end Go.Tok

namespace Go.Tok
open Go Go.Am Go.Proofs


set_option maxHeartbeats 4000000 in
theorem counts_true (nn mm mode : Int) (hm : -(2 ^ 63) ≤ mode ∧ mode < 2 ^ 63) : ∃ N, callF T N bar0 6 [.int .i64 nn, .int .i64 mm, .int .i64 mode] sg0 = some (.ret (.bool true), sg0) := by
  refine ⟨504 + 1 + 1, ?_⟩
  (apply f_of rfl rfl; (repeat (first | exact Shape.nil | (apply Shape.cons; conv => lhs; whnf))))
  ((repeat refine c_seq ?_); refine c_region ?_; (repeat (first | ((first | apply o_move rfl rfl | apply o_easy1 rfl rfl rfl | apply o_ld rfl rfl (by assumption) (by first | rfl | assumption)); conv => lhs; whnf) | apply o_no rfl | refine o_b rfl rfl rfl (by constructor; omega) ?_ | refine o_f rfl rfl rfl (by constructor; omega) ?_ | refine o_s rfl rfl rfl (by constructor; first | omega | assumption) ?_ | refine o_t rfl rfl rfl (by constructor; assumption) ?_ | (apply o_easy rfl rfl rfl; conv => lhs; whnf) | apply o_non rfl)); apply o_end; (repeat (first | exact OutS.nil | exact GetS.hit | exact PutS.hit | apply GetS.miss rfl | apply PutS.miss rfl | apply OutS.cons | apply OutS.skip rfl)))
  ((repeat refine c_seq ?_); refine c_region ?_; (repeat (first | ((first | apply o_move rfl rfl | apply o_easy1 rfl rfl rfl | apply o_ld rfl rfl (by assumption) (by first | rfl | assumption)); conv => lhs; whnf) | apply o_no rfl | refine o_b rfl rfl rfl (by constructor; omega) ?_ | refine o_f rfl rfl rfl (by constructor; omega) ?_ | refine o_s rfl rfl rfl (by constructor; first | omega | assumption) ?_ | refine o_t rfl rfl rfl (by constructor; assumption) ?_ | (apply o_easy rfl rfl rfl; conv => lhs; whnf) | apply o_non rfl)))
  refine o_call rfl rfl (awake' _ (by omega)) ?_
  (repeat (first | ((first | apply o_move rfl rfl | apply o_easy1 rfl rfl rfl | apply o_ld rfl rfl (by assumption) (by first | rfl | assumption)); conv => lhs; whnf) | apply o_no rfl | refine o_b rfl rfl rfl (by constructor; omega) ?_ | refine o_f rfl rfl rfl (by constructor; omega) ?_ | refine o_s rfl rfl rfl (by constructor; first | omega | assumption) ?_ | refine o_t rfl rfl rfl (by constructor; assumption) ?_ | (apply o_easy rfl rfl rfl; conv => lhs; whnf) | apply o_non rfl))
  (apply o_end; (repeat (first | exact OutS.nil | exact GetS.hit | exact PutS.hit | apply GetS.miss rfl | apply PutS.miss rfl | apply OutS.cons | apply OutS.skip rfl)))
  ((repeat refine c_seq ?_); refine c_region ?_; (repeat (first | ((first | apply o_move rfl rfl | apply o_easy1 rfl rfl rfl | apply o_ld rfl rfl (by assumption) (by first | rfl | assumption)); conv => lhs; whnf) | apply o_no rfl | refine o_b rfl rfl rfl (by constructor; omega) ?_ | refine o_f rfl rfl rfl (by constructor; omega) ?_ | refine o_s rfl rfl rfl (by constructor; first | omega | assumption) ?_ | refine o_t rfl rfl rfl (by constructor; assumption) ?_ | (apply o_easy rfl rfl rfl; conv => lhs; whnf) | apply o_non rfl)); apply o_end; (repeat (first | exact OutS.nil | exact GetS.hit | exact PutS.hit | apply GetS.miss rfl | apply PutS.miss rfl | apply OutS.cons | apply OutS.skip rfl)))
  ((repeat refine c_seq ?_); refine c_else rfl ?_)
  refine c_skip ?_
  by_cases hn : 0 ≤ nn ∧ nn ≤ 99999 ∧ 0 ≤ mm ∧ mm ≤ 99999
  · obtain ⟨n, rfl⟩ : ∃ n : Nat, nn = n := ⟨nn.toNat, by omega⟩
    obtain ⟨k, rfl⟩ : ∃ k : Nat, mm = k := ⟨mm.toNat, by omega⟩
    obtain ⟨_, hn1, _, hk1⟩ := hn
    ((repeat refine c_seq ?_); refine c_region ?_; (repeat (first | ((first | apply o_move rfl rfl | apply o_easy1 rfl rfl rfl | apply o_ld rfl rfl (by assumption) (by first | rfl | assumption)); conv => lhs; whnf) | apply o_no rfl | refine o_b rfl rfl rfl (by constructor; omega) ?_ | refine o_f rfl rfl rfl (by constructor; omega) ?_ | refine o_s rfl rfl rfl (by constructor; first | omega | assumption) ?_ | refine o_t rfl rfl rfl (by constructor; assumption) ?_ | (apply o_easy rfl rfl rfl; conv => lhs; whnf) | apply o_non rfl)); apply o_end; (repeat (first | exact OutS.nil | exact GetS.hit | exact PutS.hit | apply GetS.miss rfl | apply PutS.miss rfl | apply OutS.cons | apply OutS.skip rfl)))
    ((repeat refine c_seq ?_); refine c_else rfl ?_)
    refine c_skip ?_
    by_cases hneg : mode < 0
    · ((repeat refine c_seq ?_); refine c_region ?_; (repeat (first | ((first | apply o_move rfl rfl | apply o_easy1 rfl rfl rfl | apply o_ld rfl rfl (by assumption) (by first | rfl | assumption)); conv => lhs; whnf) | apply o_no rfl | refine o_b rfl rfl rfl (by constructor; omega) ?_ | refine o_f rfl rfl rfl (by constructor; omega) ?_ | refine o_s rfl rfl rfl (by constructor; first | omega | assumption) ?_ | refine o_t rfl rfl rfl (by constructor; assumption) ?_ | (apply o_easy rfl rfl rfl; conv => lhs; whnf) | apply o_non rfl)); apply o_end; (repeat (first | exact OutS.nil | exact GetS.hit | exact PutS.hit | apply GetS.miss rfl | apply PutS.miss rfl | apply OutS.cons | apply OutS.skip rfl)))
      ((repeat refine c_seq ?_); refine c_if rfl ?_)
      ((repeat refine c_seq ?_); refine c_region ?_; (repeat (first | ((first | apply o_move rfl rfl | apply o_easy1 rfl rfl rfl | apply o_ld rfl rfl (by assumption) (by first | rfl | assumption)); conv => lhs; whnf) | apply o_no rfl | refine o_b rfl rfl rfl (by constructor; omega) ?_ | refine o_f rfl rfl rfl (by constructor; omega) ?_ | refine o_s rfl rfl rfl (by constructor; first | omega | assumption) ?_ | refine o_t rfl rfl rfl (by constructor; assumption) ?_ | (apply o_easy rfl rfl rfl; conv => lhs; whnf) | apply o_non rfl)))
      (apply o_end; (repeat (first | exact OutS.nil | exact GetS.hit | exact PutS.hit | apply GetS.miss rfl | apply PutS.miss rfl | apply OutS.cons | apply OutS.skip rfl)))
      have hw : IntKind.i64.wrap (0 - (mode + 1)) = 0 - (mode + 1) := wrap_i64 (by omega) (by omega)
      rw [hw]
      obtain ⟨a, ha⟩ : ∃ a : Int, 0 - (mode + 1) = a := ⟨_, rfl⟩
      have ha0 : 0 ≤ a := by omega
      rw [ha]
      obtain ⟨md, hmd3, hmda⟩ : ∃ md : Nat, md < 3 ∧ a.tmod 3 = (md : Int) := by
        have hk0 : 0 ≤ a.tmod 3 := Int.tmod_nonneg 3 ha0
        have hk1 : a.tmod 3 < 3 := Int.tmod_lt_of_pos a (by decide)
        exact ⟨(a.tmod 3).toNat, by omega, by omega⟩
      have hend : ([.str [], .str [63], .str [43]] : List AV)[md]? = some (.str (endOf md)) := by
        match md, hmd3 with
        | 0, _ => rfl
        | 1, _ => rfl
        | 2, _ => rfl
      have hel : (endOf md).length ≤ 1 := by
        match md, hmd3 with
        | 0, _ => decide
        | 1, _ => decide
        | 2, _ => decide
      ((repeat refine c_seq ?_); refine c_region ?_; (repeat (first | ((first | apply o_move rfl rfl | apply o_easy1 rfl rfl rfl | apply o_ld rfl rfl (by assumption) (by first | rfl | assumption)); conv => lhs; whnf) | apply o_no rfl | refine o_b rfl rfl rfl (by constructor; omega) ?_ | refine o_f rfl rfl rfl (by constructor; omega) ?_ | refine o_s rfl rfl rfl (by constructor; first | omega | assumption) ?_ | refine o_t rfl rfl rfl (by constructor; assumption) ?_ | (apply o_easy rfl rfl rfl; conv => lhs; whnf) | apply o_non rfl)))
      refine o_rem (z := (md : Int)) rfl rfl rfl (by omega) hmda ?_
      refine o_ixvec (j := md) (v := .str (endOf md)) rfl rfl rfl rfl hend rfl ?_
      (repeat (first | ((first | apply o_move rfl rfl | apply o_easy1 rfl rfl rfl | apply o_ld rfl rfl (by assumption) (by first | rfl | assumption)); conv => lhs; whnf) | apply o_no rfl | refine o_b rfl rfl rfl (by constructor; omega) ?_ | refine o_f rfl rfl rfl (by constructor; omega) ?_ | refine o_s rfl rfl rfl (by constructor; first | omega | assumption) ?_ | refine o_t rfl rfl rfl (by constructor; assumption) ?_ | (apply o_easy rfl rfl rfl; conv => lhs; whnf) | apply o_non rfl))
      (apply o_end; (repeat (first | exact OutS.nil | exact GetS.hit | exact PutS.hit | apply GetS.miss rfl | apply PutS.miss rfl | apply OutS.cons | apply OutS.skip rfl)))
      have hdn : ∀ b s, callF T 505 b 9 [.int .i64 n] s = some (.ret (.str (digM 4 n)), s) := fun b s => digits_spec 4 500 n b s (by omega) (by omega)
      have hdk : ∀ b s, callF T 505 b 9 [.int .i64 k] s = some (.ret (.str (digM 4 k)), s) := fun b s => digits_spec 4 500 k b s (by omega) (by omega)
      have e1 : ((([97, 123] ++ digM 4 n) ++ [44]) ++ digM 4 k) ++ [125] ++ endOf md = txt (digM 4 n) (digM 4 k) md := by simp [txt]
      have e2 : (([97, 123] ++ digM 4 n) ++ [44, 125]) ++ endOf md = txt (digM 4 n) [] md := by simp [txt]
      have hDd := digM_dig 4 n
      have hEd := digM_dig 4 k
      have hDn := digM_ne 4 n
      have hEn := digM_ne 4 k
      have hDv := digM_val 4 n (by omega)
      have hEv := digM_val 4 k (by omega)
      have hDl := digM_len 4 n
      have hEl := digM_len 4 k
      have hl1 := lex_txt (digM 4 n) (digM 4 k) md hmd3 hDd hDn hEd hDl hEl
      have hl2 := lex_txt (digM 4 n) [] md hmd3 hDd hDn (fun c hc => absurd hc List.not_mem_nil) hDl (by simp)
      obtain ⟨ts1, v1, p1, hv1, hf1⟩ := lexV_split (txt (digM 4 n) (digM 4 k) md) (digM 4 n) (digM 4 k) md
      obtain ⟨ts2, v2, p2, hv2, hf2⟩ := lexV_split (txt (digM 4 n) [] md) (digM 4 n) [] md
      have hE1 : errOf (digM 4 n) (digM 4 k) = if n > 255 then 25 else if k > 255 then 25 else if k < n then 23 else 0 := by simp only [errOf, hDv, hEv, ne_eq, hEn, not_false_eq_true, true_and]
      have hE2 : errOf (digM 4 n) [] = if n > 255 then 25 else 0 := by simp [errOf, hDv, valM]
      have hT1 : topOf (digM 4 k) = k := by simp only [topOf, if_neg hEn, hEv]
      have hT2 : topOf [] = -1 := rfl
      simp only [toks2, hDv, hT1] at hf1
      simp only [toks2, hDv, hT2] at hf2
      rw [hv1] at hl1
      rw [hv2] at hl2
      generalize digM 4 n = D at *
      generalize digM 4 k = E at *
      ((repeat refine c_seq ?_); refine c_region ?_; (repeat (first | ((first | apply o_move rfl rfl | apply o_easy1 rfl rfl rfl | apply o_ld rfl rfl (by assumption) (by first | rfl | assumption)); conv => lhs; whnf) | apply o_no rfl | refine o_b rfl rfl rfl (by constructor; omega) ?_ | refine o_f rfl rfl rfl (by constructor; omega) ?_ | refine o_s rfl rfl rfl (by constructor; first | omega | assumption) ?_ | refine o_t rfl rfl rfl (by constructor; assumption) ?_ | (apply o_easy rfl rfl rfl; conv => lhs; whnf) | apply o_non rfl)))
      refine o_call rfl rfl (hdn _ sg0) ?_
      refine o_sadd rfl rfl rfl (by simp; omega) ?_
      refine o_sadd rfl rfl rfl (by simp; omega) ?_
      (repeat (first | ((first | apply o_move rfl rfl | apply o_easy1 rfl rfl rfl | apply o_ld rfl rfl (by assumption) (by first | rfl | assumption)); conv => lhs; whnf) | apply o_no rfl | refine o_b rfl rfl rfl (by constructor; omega) ?_ | refine o_f rfl rfl rfl (by constructor; omega) ?_ | refine o_s rfl rfl rfl (by constructor; first | omega | assumption) ?_ | refine o_t rfl rfl rfl (by constructor; assumption) ?_ | (apply o_easy rfl rfl rfl; conv => lhs; whnf) | apply o_non rfl))
      refine o_call rfl rfl (hdk _ sg0) ?_
      refine o_sadd rfl rfl rfl (by simp; omega) ?_
      refine o_sadd rfl rfl rfl (by simp; omega) ?_
      (repeat (first | ((first | apply o_move rfl rfl | apply o_easy1 rfl rfl rfl | apply o_ld rfl rfl (by assumption) (by first | rfl | assumption)); conv => lhs; whnf) | apply o_no rfl | refine o_b rfl rfl rfl (by constructor; omega) ?_ | refine o_f rfl rfl rfl (by constructor; omega) ?_ | refine o_s rfl rfl rfl (by constructor; first | omega | assumption) ?_ | refine o_t rfl rfl rfl (by constructor; assumption) ?_ | (apply o_easy rfl rfl rfl; conv => lhs; whnf) | apply o_non rfl))
      refine o_sadd rfl rfl rfl (by simp; omega) ?_
      rw [e1]
      (repeat (first | ((first | apply o_move rfl rfl | apply o_easy1 rfl rfl rfl | apply o_ld rfl rfl (by assumption) (by first | rfl | assumption)); conv => lhs; whnf) | apply o_no rfl | refine o_b rfl rfl rfl (by constructor; omega) ?_ | refine o_f rfl rfl rfl (by constructor; omega) ?_ | refine o_s rfl rfl rfl (by constructor; first | omega | assumption) ?_ | refine o_t rfl rfl rfl (by constructor; assumption) ?_ | (apply o_easy rfl rfl rfl; conv => lhs; whnf) | apply o_non rfl))
      refine o_call rfl rfl (hl1 398 _ sg0 _ rfl) ?_
      (repeat (first | ((first | apply o_move rfl rfl | apply o_easy1 rfl rfl rfl | apply o_ld rfl rfl (by assumption) (by first | rfl | assumption)); conv => lhs; whnf) | apply o_no rfl | refine o_b rfl rfl rfl (by constructor; omega) ?_ | refine o_f rfl rfl rfl (by constructor; omega) ?_ | refine o_s rfl rfl rfl (by constructor; first | omega | assumption) ?_ | refine o_t rfl rfl rfl (by constructor; assumption) ?_ | (apply o_easy rfl rfl rfl; conv => lhs; whnf) | apply o_non rfl))
      (apply o_end; (repeat (first | exact OutS.nil | exact GetS.hit | exact PutS.hit | apply GetS.miss rfl | apply PutS.miss rfl | apply OutS.cons | apply OutS.skip rfl)))
      ((repeat refine c_seq ?_); refine c_region ?_; (repeat (first | ((first | apply o_move rfl rfl | apply o_easy1 rfl rfl rfl | apply o_ld rfl rfl (by assumption) (by first | rfl | assumption)); conv => lhs; whnf) | apply o_no rfl | refine o_b rfl rfl rfl (by constructor; omega) ?_ | refine o_f rfl rfl rfl (by constructor; omega) ?_ | refine o_s rfl rfl rfl (by constructor; first | omega | assumption) ?_ | refine o_t rfl rfl rfl (by constructor; assumption) ?_ | (apply o_easy rfl rfl rfl; conv => lhs; whnf) | apply o_non rfl)))
      refine o_call rfl rfl (hdn _ sg0) ?_
      refine o_sadd rfl rfl rfl (by simp; omega) ?_
      refine o_sadd rfl rfl rfl (by simp; omega) ?_
      (repeat (first | ((first | apply o_move rfl rfl | apply o_easy1 rfl rfl rfl | apply o_ld rfl rfl (by assumption) (by first | rfl | assumption)); conv => lhs; whnf) | apply o_no rfl | refine o_b rfl rfl rfl (by constructor; omega) ?_ | refine o_f rfl rfl rfl (by constructor; omega) ?_ | refine o_s rfl rfl rfl (by constructor; first | omega | assumption) ?_ | refine o_t rfl rfl rfl (by constructor; assumption) ?_ | (apply o_easy rfl rfl rfl; conv => lhs; whnf) | apply o_non rfl))
      refine o_sadd rfl rfl rfl (by simp; omega) ?_
      rw [e2]
      (repeat (first | ((first | apply o_move rfl rfl | apply o_easy1 rfl rfl rfl | apply o_ld rfl rfl (by assumption) (by first | rfl | assumption)); conv => lhs; whnf) | apply o_no rfl | refine o_b rfl rfl rfl (by constructor; omega) ?_ | refine o_f rfl rfl rfl (by constructor; omega) ?_ | refine o_s rfl rfl rfl (by constructor; first | omega | assumption) ?_ | refine o_t rfl rfl rfl (by constructor; assumption) ?_ | (apply o_easy rfl rfl rfl; conv => lhs; whnf) | apply o_non rfl))
      refine o_call rfl rfl (hl2 398 _ sg0 _ rfl) ?_
      (repeat (first | ((first | apply o_move rfl rfl | apply o_easy1 rfl rfl rfl | apply o_ld rfl rfl (by assumption) (by first | rfl | assumption)); conv => lhs; whnf) | apply o_no rfl | refine o_b rfl rfl rfl (by constructor; omega) ?_ | refine o_f rfl rfl rfl (by constructor; omega) ?_ | refine o_s rfl rfl rfl (by constructor; first | omega | assumption) ?_ | refine o_t rfl rfl rfl (by constructor; assumption) ?_ | (apply o_easy rfl rfl rfl; conv => lhs; whnf) | apply o_non rfl))
      (apply o_end; (repeat (first | exact OutS.nil | exact GetS.hit | exact PutS.hit | apply GetS.miss rfl | apply PutS.miss rfl | apply OutS.cons | apply OutS.skip rfl)))
      by_cases hn255 : n > 255
      · rw [if_pos hn255] at hE1 hE2
        obtain ⟨_, rfl, rfl⟩ : errOf D E ≠ 0 ∧ v1 = 25 ∧ p1 = 1 := by
          rcases hf1 with ⟨h, _⟩ | ⟨h, h2, h3⟩
          · rw [hE1] at h; exact absurd h (by decide)
          · exact ⟨h, by rw [h2, hE1], h3⟩
        obtain rfl : v2 = 25 := by
          rcases hf2 with ⟨h, _⟩ | ⟨h, h2, h3⟩
          · rw [hE2] at h; exact absurd h (by decide)
          · rw [h2, hE2]
        ((repeat refine c_seq ?_); refine c_region ?_; (repeat (first | ((first | apply o_move rfl rfl | apply o_easy1 rfl rfl rfl | apply o_ld rfl rfl (by assumption) (by first | rfl | assumption)); conv => lhs; whnf) | apply o_no rfl | refine o_b rfl rfl rfl (by constructor; omega) ?_ | refine o_f rfl rfl rfl (by constructor; omega) ?_ | refine o_s rfl rfl rfl (by constructor; first | omega | assumption) ?_ | refine o_t rfl rfl rfl (by constructor; assumption) ?_ | (apply o_easy rfl rfl rfl; conv => lhs; whnf) | apply o_non rfl)); apply o_end; (repeat (first | exact OutS.nil | exact GetS.hit | exact PutS.hit | apply GetS.miss rfl | apply PutS.miss rfl | apply OutS.cons | apply OutS.skip rfl)))
        ((repeat refine c_seq ?_); refine c_if rfl ?_)
        ((repeat refine c_seq ?_); refine c_region ?_; (repeat (first | ((first | apply o_move rfl rfl | apply o_easy1 rfl rfl rfl | apply o_ld rfl rfl (by assumption) (by first | rfl | assumption)); conv => lhs; whnf) | apply o_no rfl | refine o_b rfl rfl rfl (by constructor; omega) ?_ | refine o_f rfl rfl rfl (by constructor; omega) ?_ | refine o_s rfl rfl rfl (by constructor; first | omega | assumption) ?_ | refine o_t rfl rfl rfl (by constructor; assumption) ?_ | (apply o_easy rfl rfl rfl; conv => lhs; whnf) | apply o_non rfl)); apply o_end; (repeat (first | exact OutS.nil | exact GetS.hit | exact PutS.hit | apply GetS.miss rfl | apply PutS.miss rfl | apply OutS.cons | apply OutS.skip rfl)))
        exact c_ret rfl
      · rw [if_neg hn255] at hE1 hE2
        obtain ⟨rfl, hn2, hx2⟩ : v2 = 0 ∧ ts2.length = 2 ∧ ts2[1]? = some (.agg [.int .i64 9, .int .i64 (1 : Nat), .int .i64 (txt D [] md).length, .int .i64 0, .nilsl, .bool false, .int .i64 n, .int .i64 (-1), .int .i64 md, .str [], .int .i64 0, .int .i64 0]) := by
          rcases hf2 with ⟨h, h2, h3⟩ | ⟨h, _⟩
          · exact ⟨h2, by rw [h3]; rfl, by rw [h3]; rfl⟩
          · exact absurd hE2 h
        clear hf2
        by_cases hk255 : k > 255
        · rw [if_pos hk255] at hE1
          obtain ⟨_, rfl, rfl⟩ : errOf D E ≠ 0 ∧ v1 = 25 ∧ p1 = 1 := by
            rcases hf1 with ⟨h, _⟩ | ⟨h, h2, h3⟩
            · rw [hE1] at h; exact absurd h (by decide)
            · exact ⟨h, by rw [h2, hE1], h3⟩
          ((repeat refine c_seq ?_); refine c_region ?_; (repeat (first | ((first | apply o_move rfl rfl | apply o_easy1 rfl rfl rfl | apply o_ld rfl rfl (by assumption) (by first | rfl | assumption)); conv => lhs; whnf) | apply o_no rfl | refine o_b rfl rfl rfl (by constructor; omega) ?_ | refine o_f rfl rfl rfl (by constructor; omega) ?_ | refine o_s rfl rfl rfl (by constructor; first | omega | assumption) ?_ | refine o_t rfl rfl rfl (by constructor; assumption) ?_ | (apply o_easy rfl rfl rfl; conv => lhs; whnf) | apply o_non rfl)); apply o_end; (repeat (first | exact OutS.nil | exact GetS.hit | exact PutS.hit | apply GetS.miss rfl | apply PutS.miss rfl | apply OutS.cons | apply OutS.skip rfl)))
          ((repeat refine c_seq ?_); refine c_if rfl ?_)
          ((repeat refine c_seq ?_); refine c_region ?_; (repeat (first | ((first | apply o_move rfl rfl | apply o_easy1 rfl rfl rfl | apply o_ld rfl rfl (by assumption) (by first | rfl | assumption)); conv => lhs; whnf) | apply o_no rfl | refine o_b rfl rfl rfl (by constructor; omega) ?_ | refine o_f rfl rfl rfl (by constructor; omega) ?_ | refine o_s rfl rfl rfl (by constructor; first | omega | assumption) ?_ | refine o_t rfl rfl rfl (by constructor; assumption) ?_ | (apply o_easy rfl rfl rfl; conv => lhs; whnf) | apply o_non rfl)); apply o_end; (repeat (first | exact OutS.nil | exact GetS.hit | exact PutS.hit | apply GetS.miss rfl | apply PutS.miss rfl | apply OutS.cons | apply OutS.skip rfl)))
          exact c_ret rfl
        · rw [if_neg hk255] at hE1
          ((repeat refine c_seq ?_); refine c_region ?_; (repeat (first | ((first | apply o_move rfl rfl | apply o_easy1 rfl rfl rfl | apply o_ld rfl rfl (by assumption) (by first | rfl | assumption)); conv => lhs; whnf) | apply o_no rfl | refine o_b rfl rfl rfl (by constructor; omega) ?_ | refine o_f rfl rfl rfl (by constructor; omega) ?_ | refine o_s rfl rfl rfl (by constructor; first | omega | assumption) ?_ | refine o_t rfl rfl rfl (by constructor; assumption) ?_ | (apply o_easy rfl rfl rfl; conv => lhs; whnf) | apply o_non rfl)); apply o_end; (repeat (first | exact OutS.nil | exact GetS.hit | exact PutS.hit | apply GetS.miss rfl | apply PutS.miss rfl | apply OutS.cons | apply OutS.skip rfl)))
          ((repeat refine c_seq ?_); refine c_else rfl ?_)
          refine c_skip ?_
          ((repeat refine c_seq ?_); refine c_region ?_; (repeat (first | ((first | apply o_move rfl rfl | apply o_easy1 rfl rfl rfl | apply o_ld rfl rfl (by assumption) (by first | rfl | assumption)); conv => lhs; whnf) | apply o_no rfl | refine o_b rfl rfl rfl (by constructor; omega) ?_ | refine o_f rfl rfl rfl (by constructor; omega) ?_ | refine o_s rfl rfl rfl (by constructor; first | omega | assumption) ?_ | refine o_t rfl rfl rfl (by constructor; assumption) ?_ | (apply o_easy rfl rfl rfl; conv => lhs; whnf) | apply o_non rfl)))
          refine o_ixvec (j := 1) rfl rfl rfl rfl hx2 (by rfl) ?_
          (repeat (first | ((first | apply o_move rfl rfl | apply o_easy1 rfl rfl rfl | apply o_ld rfl rfl (by assumption) (by first | rfl | assumption)); conv => lhs; whnf) | apply o_no rfl | refine o_b rfl rfl rfl (by constructor; omega) ?_ | refine o_f rfl rfl rfl (by constructor; omega) ?_ | refine o_s rfl rfl rfl (by constructor; first | omega | assumption) ?_ | refine o_t rfl rfl rfl (by constructor; assumption) ?_ | (apply o_easy rfl rfl rfl; conv => lhs; whnf) | apply o_non rfl))
          refine o_ixvec (j := 1) rfl rfl rfl rfl hx2 (by rfl) ?_
          (repeat (first | ((first | apply o_move rfl rfl | apply o_easy1 rfl rfl rfl | apply o_ld rfl rfl (by assumption) (by first | rfl | assumption)); conv => lhs; whnf) | apply o_no rfl | refine o_b rfl rfl rfl (by constructor; omega) ?_ | refine o_f rfl rfl rfl (by constructor; omega) ?_ | refine o_s rfl rfl rfl (by constructor; first | omega | assumption) ?_ | refine o_t rfl rfl rfl (by constructor; assumption) ?_ | (apply o_easy rfl rfl rfl; conv => lhs; whnf) | apply o_non rfl))
          refine o_ixvec (j := 1) rfl rfl rfl rfl hx2 (by rfl) ?_
          (repeat (first | ((first | apply o_move rfl rfl | apply o_easy1 rfl rfl rfl | apply o_ld rfl rfl (by assumption) (by first | rfl | assumption)); conv => lhs; whnf) | apply o_no rfl | refine o_b rfl rfl rfl (by constructor; omega) ?_ | refine o_f rfl rfl rfl (by constructor; omega) ?_ | refine o_s rfl rfl rfl (by constructor; first | omega | assumption) ?_ | refine o_t rfl rfl rfl (by constructor; assumption) ?_ | (apply o_easy rfl rfl rfl; conv => lhs; whnf) | apply o_non rfl))
          refine o_rem (z := (md : Int)) rfl rfl rfl (by omega) hmda ?_
          (repeat (first | ((first | apply o_move rfl rfl | apply o_easy1 rfl rfl rfl | apply o_ld rfl rfl (by assumption) (by first | rfl | assumption)); conv => lhs; whnf) | apply o_no rfl | refine o_b rfl rfl rfl (by constructor; omega) ?_ | refine o_f rfl rfl rfl (by constructor; omega) ?_ | refine o_s rfl rfl rfl (by constructor; first | omega | assumption) ?_ | refine o_t rfl rfl rfl (by constructor; assumption) ?_ | (apply o_easy rfl rfl rfl; conv => lhs; whnf) | apply o_non rfl))
          (apply o_end; (repeat (first | exact OutS.nil | exact GetS.hit | exact PutS.hit | apply GetS.miss rfl | apply PutS.miss rfl | apply OutS.cons | apply OutS.skip rfl)))
          ((repeat refine c_seq ?_); refine c_else rfl ?_)
          refine c_skip ?_
          by_cases hlt : k < n
          · rw [if_pos hlt] at hE1
            obtain ⟨_, rfl, rfl⟩ : errOf D E ≠ 0 ∧ v1 = 23 ∧ p1 = 1 := by
              rcases hf1 with ⟨h, _⟩ | ⟨h, h2, h3⟩
              · rw [hE1] at h; exact absurd h (by decide)
              · exact ⟨h, by rw [h2, hE1], h3⟩
            ((repeat refine c_seq ?_); refine c_region ?_; (repeat (first | ((first | apply o_move rfl rfl | apply o_easy1 rfl rfl rfl | apply o_ld rfl rfl (by assumption) (by first | rfl | assumption)); conv => lhs; whnf) | apply o_no rfl | refine o_b rfl rfl rfl (by constructor; omega) ?_ | refine o_f rfl rfl rfl (by constructor; omega) ?_ | refine o_s rfl rfl rfl (by constructor; first | omega | assumption) ?_ | refine o_t rfl rfl rfl (by constructor; assumption) ?_ | (apply o_easy rfl rfl rfl; conv => lhs; whnf) | apply o_non rfl)); apply o_end; (repeat (first | exact OutS.nil | exact GetS.hit | exact PutS.hit | apply GetS.miss rfl | apply PutS.miss rfl | apply OutS.cons | apply OutS.skip rfl)))
            ((repeat refine c_seq ?_); refine c_if rfl ?_)
            ((repeat refine c_seq ?_); refine c_region ?_; (repeat (first | ((first | apply o_move rfl rfl | apply o_easy1 rfl rfl rfl | apply o_ld rfl rfl (by assumption) (by first | rfl | assumption)); conv => lhs; whnf) | apply o_no rfl | refine o_b rfl rfl rfl (by constructor; omega) ?_ | refine o_f rfl rfl rfl (by constructor; omega) ?_ | refine o_s rfl rfl rfl (by constructor; first | omega | assumption) ?_ | refine o_t rfl rfl rfl (by constructor; assumption) ?_ | (apply o_easy rfl rfl rfl; conv => lhs; whnf) | apply o_non rfl)); apply o_end; (repeat (first | exact OutS.nil | exact GetS.hit | exact PutS.hit | apply GetS.miss rfl | apply PutS.miss rfl | apply OutS.cons | apply OutS.skip rfl)))
            exact c_ret rfl
          · rw [if_neg hlt] at hE1
            obtain ⟨rfl, hn1, hx1⟩ : v1 = 0 ∧ ts1.length = 2 ∧ ts1[1]? = some (.agg [.int .i64 9, .int .i64 (1 : Nat), .int .i64 (txt D E md).length, .int .i64 0, .nilsl, .bool false, .int .i64 n, .int .i64 k, .int .i64 md, .str [], .int .i64 0, .int .i64 0]) := by
              rcases hf1 with ⟨h, h2, h3⟩ | ⟨h, _⟩
              · exact ⟨h2, by rw [h3]; rfl, by rw [h3]; rfl⟩
              · exact absurd hE1 h
            ((repeat refine c_seq ?_); refine c_region ?_; (repeat (first | ((first | apply o_move rfl rfl | apply o_easy1 rfl rfl rfl | apply o_ld rfl rfl (by assumption) (by first | rfl | assumption)); conv => lhs; whnf) | apply o_no rfl | refine o_b rfl rfl rfl (by constructor; omega) ?_ | refine o_f rfl rfl rfl (by constructor; omega) ?_ | refine o_s rfl rfl rfl (by constructor; first | omega | assumption) ?_ | refine o_t rfl rfl rfl (by constructor; assumption) ?_ | (apply o_easy rfl rfl rfl; conv => lhs; whnf) | apply o_non rfl)); apply o_end; (repeat (first | exact OutS.nil | exact GetS.hit | exact PutS.hit | apply GetS.miss rfl | apply PutS.miss rfl | apply OutS.cons | apply OutS.skip rfl)))
            ((repeat refine c_seq ?_); refine c_else rfl ?_)
            refine c_skip ?_
            ((repeat refine c_seq ?_); refine c_region ?_; (repeat (first | ((first | apply o_move rfl rfl | apply o_easy1 rfl rfl rfl | apply o_ld rfl rfl (by assumption) (by first | rfl | assumption)); conv => lhs; whnf) | apply o_no rfl | refine o_b rfl rfl rfl (by constructor; omega) ?_ | refine o_f rfl rfl rfl (by constructor; omega) ?_ | refine o_s rfl rfl rfl (by constructor; first | omega | assumption) ?_ | refine o_t rfl rfl rfl (by constructor; assumption) ?_ | (apply o_easy rfl rfl rfl; conv => lhs; whnf) | apply o_non rfl)))
            refine o_ixvec (j := 1) rfl rfl rfl rfl hx1 (by rfl) ?_
            (repeat (first | ((first | apply o_move rfl rfl | apply o_easy1 rfl rfl rfl | apply o_ld rfl rfl (by assumption) (by first | rfl | assumption)); conv => lhs; whnf) | apply o_no rfl | refine o_b rfl rfl rfl (by constructor; omega) ?_ | refine o_f rfl rfl rfl (by constructor; omega) ?_ | refine o_s rfl rfl rfl (by constructor; first | omega | assumption) ?_ | refine o_t rfl rfl rfl (by constructor; assumption) ?_ | (apply o_easy rfl rfl rfl; conv => lhs; whnf) | apply o_non rfl))
            refine o_ixvec (j := 1) rfl rfl rfl rfl hx1 (by rfl) ?_
            (repeat (first | ((first | apply o_move rfl rfl | apply o_easy1 rfl rfl rfl | apply o_ld rfl rfl (by assumption) (by first | rfl | assumption)); conv => lhs; whnf) | apply o_no rfl | refine o_b rfl rfl rfl (by constructor; omega) ?_ | refine o_f rfl rfl rfl (by constructor; omega) ?_ | refine o_s rfl rfl rfl (by constructor; first | omega | assumption) ?_ | refine o_t rfl rfl rfl (by constructor; assumption) ?_ | (apply o_easy rfl rfl rfl; conv => lhs; whnf) | apply o_non rfl))
            refine o_ixvec (j := 1) rfl rfl rfl rfl hx1 (by rfl) ?_
            (repeat (first | ((first | apply o_move rfl rfl | apply o_easy1 rfl rfl rfl | apply o_ld rfl rfl (by assumption) (by first | rfl | assumption)); conv => lhs; whnf) | apply o_no rfl | refine o_b rfl rfl rfl (by constructor; omega) ?_ | refine o_f rfl rfl rfl (by constructor; omega) ?_ | refine o_s rfl rfl rfl (by constructor; first | omega | assumption) ?_ | refine o_t rfl rfl rfl (by constructor; assumption) ?_ | (apply o_easy rfl rfl rfl; conv => lhs; whnf) | apply o_non rfl))
            refine o_rem (z := (md : Int)) rfl rfl rfl (by omega) hmda ?_
            (repeat (first | ((first | apply o_move rfl rfl | apply o_easy1 rfl rfl rfl | apply o_ld rfl rfl (by assumption) (by first | rfl | assumption)); conv => lhs; whnf) | apply o_no rfl | refine o_b rfl rfl rfl (by constructor; omega) ?_ | refine o_f rfl rfl rfl (by constructor; omega) ?_ | refine o_s rfl rfl rfl (by constructor; first | omega | assumption) ?_ | refine o_t rfl rfl rfl (by constructor; assumption) ?_ | (apply o_easy rfl rfl rfl; conv => lhs; whnf) | apply o_non rfl))
            (apply o_end; (repeat (first | exact OutS.nil | exact GetS.hit | exact PutS.hit | apply GetS.miss rfl | apply PutS.miss rfl | apply OutS.cons | apply OutS.skip rfl)))
            exact c_ret rfl
    · ((repeat refine c_seq ?_); refine c_region ?_; (repeat (first | ((first | apply o_move rfl rfl | apply o_easy1 rfl rfl rfl | apply o_ld rfl rfl (by assumption) (by first | rfl | assumption)); conv => lhs; whnf) | apply o_no rfl | refine o_b rfl rfl rfl (by constructor; omega) ?_ | refine o_f rfl rfl rfl (by constructor; omega) ?_ | refine o_s rfl rfl rfl (by constructor; first | omega | assumption) ?_ | refine o_t rfl rfl rfl (by constructor; assumption) ?_ | (apply o_easy rfl rfl rfl; conv => lhs; whnf) | apply o_non rfl)); apply o_end; (repeat (first | exact OutS.nil | exact GetS.hit | exact PutS.hit | apply GetS.miss rfl | apply PutS.miss rfl | apply OutS.cons | apply OutS.skip rfl)))
      ((repeat refine c_seq ?_); refine c_else rfl ?_)
      refine c_skip ?_
      obtain ⟨a, rfl⟩ : ∃ a : Int, a = mode := ⟨_, rfl⟩
      have ha0 : 0 ≤ a := by omega
      obtain ⟨md, hmd3, hmda⟩ : ∃ md : Nat, md < 3 ∧ a.tmod 3 = (md : Int) := by
        have hk0 : 0 ≤ a.tmod 3 := Int.tmod_nonneg 3 ha0
        have hk1 : a.tmod 3 < 3 := Int.tmod_lt_of_pos a (by decide)
        exact ⟨(a.tmod 3).toNat, by omega, by omega⟩
      have hend : ([.str [], .str [63], .str [43]] : List AV)[md]? = some (.str (endOf md)) := by
        match md, hmd3 with
        | 0, _ => rfl
        | 1, _ => rfl
        | 2, _ => rfl
      have hel : (endOf md).length ≤ 1 := by
        match md, hmd3 with
        | 0, _ => decide
        | 1, _ => decide
        | 2, _ => decide
      ((repeat refine c_seq ?_); refine c_region ?_; (repeat (first | ((first | apply o_move rfl rfl | apply o_easy1 rfl rfl rfl | apply o_ld rfl rfl (by assumption) (by first | rfl | assumption)); conv => lhs; whnf) | apply o_no rfl | refine o_b rfl rfl rfl (by constructor; omega) ?_ | refine o_f rfl rfl rfl (by constructor; omega) ?_ | refine o_s rfl rfl rfl (by constructor; first | omega | assumption) ?_ | refine o_t rfl rfl rfl (by constructor; assumption) ?_ | (apply o_easy rfl rfl rfl; conv => lhs; whnf) | apply o_non rfl)))
      refine o_rem (z := (md : Int)) rfl rfl rfl (by omega) hmda ?_
      refine o_ixvec (j := md) (v := .str (endOf md)) rfl rfl rfl rfl hend rfl ?_
      (repeat (first | ((first | apply o_move rfl rfl | apply o_easy1 rfl rfl rfl | apply o_ld rfl rfl (by assumption) (by first | rfl | assumption)); conv => lhs; whnf) | apply o_no rfl | refine o_b rfl rfl rfl (by constructor; omega) ?_ | refine o_f rfl rfl rfl (by constructor; omega) ?_ | refine o_s rfl rfl rfl (by constructor; first | omega | assumption) ?_ | refine o_t rfl rfl rfl (by constructor; assumption) ?_ | (apply o_easy rfl rfl rfl; conv => lhs; whnf) | apply o_non rfl))
      (apply o_end; (repeat (first | exact OutS.nil | exact GetS.hit | exact PutS.hit | apply GetS.miss rfl | apply PutS.miss rfl | apply OutS.cons | apply OutS.skip rfl)))
      have hdn : ∀ b s, callF T 505 b 9 [.int .i64 n] s = some (.ret (.str (digM 4 n)), s) := fun b s => digits_spec 4 500 n b s (by omega) (by omega)
      have hdk : ∀ b s, callF T 505 b 9 [.int .i64 k] s = some (.ret (.str (digM 4 k)), s) := fun b s => digits_spec 4 500 k b s (by omega) (by omega)
      have e1 : ((([97, 123] ++ digM 4 n) ++ [44]) ++ digM 4 k) ++ [125] ++ endOf md = txt (digM 4 n) (digM 4 k) md := by simp [txt]
      have e2 : (([97, 123] ++ digM 4 n) ++ [44, 125]) ++ endOf md = txt (digM 4 n) [] md := by simp [txt]
      have hDd := digM_dig 4 n
      have hEd := digM_dig 4 k
      have hDn := digM_ne 4 n
      have hEn := digM_ne 4 k
      have hDv := digM_val 4 n (by omega)
      have hEv := digM_val 4 k (by omega)
      have hDl := digM_len 4 n
      have hEl := digM_len 4 k
      have hl1 := lex_txt (digM 4 n) (digM 4 k) md hmd3 hDd hDn hEd hDl hEl
      have hl2 := lex_txt (digM 4 n) [] md hmd3 hDd hDn (fun c hc => absurd hc List.not_mem_nil) hDl (by simp)
      obtain ⟨ts1, v1, p1, hv1, hf1⟩ := lexV_split (txt (digM 4 n) (digM 4 k) md) (digM 4 n) (digM 4 k) md
      obtain ⟨ts2, v2, p2, hv2, hf2⟩ := lexV_split (txt (digM 4 n) [] md) (digM 4 n) [] md
      have hE1 : errOf (digM 4 n) (digM 4 k) = if n > 255 then 25 else if k > 255 then 25 else if k < n then 23 else 0 := by simp only [errOf, hDv, hEv, ne_eq, hEn, not_false_eq_true, true_and]
      have hE2 : errOf (digM 4 n) [] = if n > 255 then 25 else 0 := by simp [errOf, hDv, valM]
      have hT1 : topOf (digM 4 k) = k := by simp only [topOf, if_neg hEn, hEv]
      have hT2 : topOf [] = -1 := rfl
      simp only [toks2, hDv, hT1] at hf1
      simp only [toks2, hDv, hT2] at hf2
      rw [hv1] at hl1
      rw [hv2] at hl2
      generalize digM 4 n = D at *
      generalize digM 4 k = E at *
      ((repeat refine c_seq ?_); refine c_region ?_; (repeat (first | ((first | apply o_move rfl rfl | apply o_easy1 rfl rfl rfl | apply o_ld rfl rfl (by assumption) (by first | rfl | assumption)); conv => lhs; whnf) | apply o_no rfl | refine o_b rfl rfl rfl (by constructor; omega) ?_ | refine o_f rfl rfl rfl (by constructor; omega) ?_ | refine o_s rfl rfl rfl (by constructor; first | omega | assumption) ?_ | refine o_t rfl rfl rfl (by constructor; assumption) ?_ | (apply o_easy rfl rfl rfl; conv => lhs; whnf) | apply o_non rfl)))
      refine o_call rfl rfl (hdn _ sg0) ?_
      refine o_sadd rfl rfl rfl (by simp; omega) ?_
      refine o_sadd rfl rfl rfl (by simp; omega) ?_
      (repeat (first | ((first | apply o_move rfl rfl | apply o_easy1 rfl rfl rfl | apply o_ld rfl rfl (by assumption) (by first | rfl | assumption)); conv => lhs; whnf) | apply o_no rfl | refine o_b rfl rfl rfl (by constructor; omega) ?_ | refine o_f rfl rfl rfl (by constructor; omega) ?_ | refine o_s rfl rfl rfl (by constructor; first | omega | assumption) ?_ | refine o_t rfl rfl rfl (by constructor; assumption) ?_ | (apply o_easy rfl rfl rfl; conv => lhs; whnf) | apply o_non rfl))
      refine o_call rfl rfl (hdk _ sg0) ?_
      refine o_sadd rfl rfl rfl (by simp; omega) ?_
      refine o_sadd rfl rfl rfl (by simp; omega) ?_
      (repeat (first | ((first | apply o_move rfl rfl | apply o_easy1 rfl rfl rfl | apply o_ld rfl rfl (by assumption) (by first | rfl | assumption)); conv => lhs; whnf) | apply o_no rfl | refine o_b rfl rfl rfl (by constructor; omega) ?_ | refine o_f rfl rfl rfl (by constructor; omega) ?_ | refine o_s rfl rfl rfl (by constructor; first | omega | assumption) ?_ | refine o_t rfl rfl rfl (by constructor; assumption) ?_ | (apply o_easy rfl rfl rfl; conv => lhs; whnf) | apply o_non rfl))
      refine o_sadd rfl rfl rfl (by simp; omega) ?_
      rw [e1]
      (repeat (first | ((first | apply o_move rfl rfl | apply o_easy1 rfl rfl rfl | apply o_ld rfl rfl (by assumption) (by first | rfl | assumption)); conv => lhs; whnf) | apply o_no rfl | refine o_b rfl rfl rfl (by constructor; omega) ?_ | refine o_f rfl rfl rfl (by constructor; omega) ?_ | refine o_s rfl rfl rfl (by constructor; first | omega | assumption) ?_ | refine o_t rfl rfl rfl (by constructor; assumption) ?_ | (apply o_easy rfl rfl rfl; conv => lhs; whnf) | apply o_non rfl))
      refine o_call rfl rfl (hl1 398 _ sg0 _ rfl) ?_
      (repeat (first | ((first | apply o_move rfl rfl | apply o_easy1 rfl rfl rfl | apply o_ld rfl rfl (by assumption) (by first | rfl | assumption)); conv => lhs; whnf) | apply o_no rfl | refine o_b rfl rfl rfl (by constructor; omega) ?_ | refine o_f rfl rfl rfl (by constructor; omega) ?_ | refine o_s rfl rfl rfl (by constructor; first | omega | assumption) ?_ | refine o_t rfl rfl rfl (by constructor; assumption) ?_ | (apply o_easy rfl rfl rfl; conv => lhs; whnf) | apply o_non rfl))
      (apply o_end; (repeat (first | exact OutS.nil | exact GetS.hit | exact PutS.hit | apply GetS.miss rfl | apply PutS.miss rfl | apply OutS.cons | apply OutS.skip rfl)))
      ((repeat refine c_seq ?_); refine c_region ?_; (repeat (first | ((first | apply o_move rfl rfl | apply o_easy1 rfl rfl rfl | apply o_ld rfl rfl (by assumption) (by first | rfl | assumption)); conv => lhs; whnf) | apply o_no rfl | refine o_b rfl rfl rfl (by constructor; omega) ?_ | refine o_f rfl rfl rfl (by constructor; omega) ?_ | refine o_s rfl rfl rfl (by constructor; first | omega | assumption) ?_ | refine o_t rfl rfl rfl (by constructor; assumption) ?_ | (apply o_easy rfl rfl rfl; conv => lhs; whnf) | apply o_non rfl)))
      refine o_call rfl rfl (hdn _ sg0) ?_
      refine o_sadd rfl rfl rfl (by simp; omega) ?_
      refine o_sadd rfl rfl rfl (by simp; omega) ?_
      (repeat (first | ((first | apply o_move rfl rfl | apply o_easy1 rfl rfl rfl | apply o_ld rfl rfl (by assumption) (by first | rfl | assumption)); conv => lhs; whnf) | apply o_no rfl | refine o_b rfl rfl rfl (by constructor; omega) ?_ | refine o_f rfl rfl rfl (by constructor; omega) ?_ | refine o_s rfl rfl rfl (by constructor; first | omega | assumption) ?_ | refine o_t rfl rfl rfl (by constructor; assumption) ?_ | (apply o_easy rfl rfl rfl; conv => lhs; whnf) | apply o_non rfl))
      refine o_sadd rfl rfl rfl (by simp; omega) ?_
      rw [e2]
      (repeat (first | ((first | apply o_move rfl rfl | apply o_easy1 rfl rfl rfl | apply o_ld rfl rfl (by assumption) (by first | rfl | assumption)); conv => lhs; whnf) | apply o_no rfl | refine o_b rfl rfl rfl (by constructor; omega) ?_ | refine o_f rfl rfl rfl (by constructor; omega) ?_ | refine o_s rfl rfl rfl (by constructor; first | omega | assumption) ?_ | refine o_t rfl rfl rfl (by constructor; assumption) ?_ | (apply o_easy rfl rfl rfl; conv => lhs; whnf) | apply o_non rfl))
      refine o_call rfl rfl (hl2 398 _ sg0 _ rfl) ?_
      (repeat (first | ((first | apply o_move rfl rfl | apply o_easy1 rfl rfl rfl | apply o_ld rfl rfl (by assumption) (by first | rfl | assumption)); conv => lhs; whnf) | apply o_no rfl | refine o_b rfl rfl rfl (by constructor; omega) ?_ | refine o_f rfl rfl rfl (by constructor; omega) ?_ | refine o_s rfl rfl rfl (by constructor; first | omega | assumption) ?_ | refine o_t rfl rfl rfl (by constructor; assumption) ?_ | (apply o_easy rfl rfl rfl; conv => lhs; whnf) | apply o_non rfl))
      (apply o_end; (repeat (first | exact OutS.nil | exact GetS.hit | exact PutS.hit | apply GetS.miss rfl | apply PutS.miss rfl | apply OutS.cons | apply OutS.skip rfl)))
      by_cases hn255 : n > 255
      · rw [if_pos hn255] at hE1 hE2
        obtain ⟨_, rfl, rfl⟩ : errOf D E ≠ 0 ∧ v1 = 25 ∧ p1 = 1 := by
          rcases hf1 with ⟨h, _⟩ | ⟨h, h2, h3⟩
          · rw [hE1] at h; exact absurd h (by decide)
          · exact ⟨h, by rw [h2, hE1], h3⟩
        obtain rfl : v2 = 25 := by
          rcases hf2 with ⟨h, _⟩ | ⟨h, h2, h3⟩
          · rw [hE2] at h; exact absurd h (by decide)
          · rw [h2, hE2]
        ((repeat refine c_seq ?_); refine c_region ?_; (repeat (first | ((first | apply o_move rfl rfl | apply o_easy1 rfl rfl rfl | apply o_ld rfl rfl (by assumption) (by first | rfl | assumption)); conv => lhs; whnf) | apply o_no rfl | refine o_b rfl rfl rfl (by constructor; omega) ?_ | refine o_f rfl rfl rfl (by constructor; omega) ?_ | refine o_s rfl rfl rfl (by constructor; first | omega | assumption) ?_ | refine o_t rfl rfl rfl (by constructor; assumption) ?_ | (apply o_easy rfl rfl rfl; conv => lhs; whnf) | apply o_non rfl)); apply o_end; (repeat (first | exact OutS.nil | exact GetS.hit | exact PutS.hit | apply GetS.miss rfl | apply PutS.miss rfl | apply OutS.cons | apply OutS.skip rfl)))
        ((repeat refine c_seq ?_); refine c_if rfl ?_)
        ((repeat refine c_seq ?_); refine c_region ?_; (repeat (first | ((first | apply o_move rfl rfl | apply o_easy1 rfl rfl rfl | apply o_ld rfl rfl (by assumption) (by first | rfl | assumption)); conv => lhs; whnf) | apply o_no rfl | refine o_b rfl rfl rfl (by constructor; omega) ?_ | refine o_f rfl rfl rfl (by constructor; omega) ?_ | refine o_s rfl rfl rfl (by constructor; first | omega | assumption) ?_ | refine o_t rfl rfl rfl (by constructor; assumption) ?_ | (apply o_easy rfl rfl rfl; conv => lhs; whnf) | apply o_non rfl)); apply o_end; (repeat (first | exact OutS.nil | exact GetS.hit | exact PutS.hit | apply GetS.miss rfl | apply PutS.miss rfl | apply OutS.cons | apply OutS.skip rfl)))
        exact c_ret rfl
      · rw [if_neg hn255] at hE1 hE2
        obtain ⟨rfl, hn2, hx2⟩ : v2 = 0 ∧ ts2.length = 2 ∧ ts2[1]? = some (.agg [.int .i64 9, .int .i64 (1 : Nat), .int .i64 (txt D [] md).length, .int .i64 0, .nilsl, .bool false, .int .i64 n, .int .i64 (-1), .int .i64 md, .str [], .int .i64 0, .int .i64 0]) := by
          rcases hf2 with ⟨h, h2, h3⟩ | ⟨h, _⟩
          · exact ⟨h2, by rw [h3]; rfl, by rw [h3]; rfl⟩
          · exact absurd hE2 h
        clear hf2
        by_cases hk255 : k > 255
        · rw [if_pos hk255] at hE1
          obtain ⟨_, rfl, rfl⟩ : errOf D E ≠ 0 ∧ v1 = 25 ∧ p1 = 1 := by
            rcases hf1 with ⟨h, _⟩ | ⟨h, h2, h3⟩
            · rw [hE1] at h; exact absurd h (by decide)
            · exact ⟨h, by rw [h2, hE1], h3⟩
          ((repeat refine c_seq ?_); refine c_region ?_; (repeat (first | ((first | apply o_move rfl rfl | apply o_easy1 rfl rfl rfl | apply o_ld rfl rfl (by assumption) (by first | rfl | assumption)); conv => lhs; whnf) | apply o_no rfl | refine o_b rfl rfl rfl (by constructor; omega) ?_ | refine o_f rfl rfl rfl (by constructor; omega) ?_ | refine o_s rfl rfl rfl (by constructor; first | omega | assumption) ?_ | refine o_t rfl rfl rfl (by constructor; assumption) ?_ | (apply o_easy rfl rfl rfl; conv => lhs; whnf) | apply o_non rfl)); apply o_end; (repeat (first | exact OutS.nil | exact GetS.hit | exact PutS.hit | apply GetS.miss rfl | apply PutS.miss rfl | apply OutS.cons | apply OutS.skip rfl)))
          ((repeat refine c_seq ?_); refine c_if rfl ?_)
          ((repeat refine c_seq ?_); refine c_region ?_; (repeat (first | ((first | apply o_move rfl rfl | apply o_easy1 rfl rfl rfl | apply o_ld rfl rfl (by assumption) (by first | rfl | assumption)); conv => lhs; whnf) | apply o_no rfl | refine o_b rfl rfl rfl (by constructor; omega) ?_ | refine o_f rfl rfl rfl (by constructor; omega) ?_ | refine o_s rfl rfl rfl (by constructor; first | omega | assumption) ?_ | refine o_t rfl rfl rfl (by constructor; assumption) ?_ | (apply o_easy rfl rfl rfl; conv => lhs; whnf) | apply o_non rfl)); apply o_end; (repeat (first | exact OutS.nil | exact GetS.hit | exact PutS.hit | apply GetS.miss rfl | apply PutS.miss rfl | apply OutS.cons | apply OutS.skip rfl)))
          exact c_ret rfl
        · rw [if_neg hk255] at hE1
          ((repeat refine c_seq ?_); refine c_region ?_; (repeat (first | ((first | apply o_move rfl rfl | apply o_easy1 rfl rfl rfl | apply o_ld rfl rfl (by assumption) (by first | rfl | assumption)); conv => lhs; whnf) | apply o_no rfl | refine o_b rfl rfl rfl (by constructor; omega) ?_ | refine o_f rfl rfl rfl (by constructor; omega) ?_ | refine o_s rfl rfl rfl (by constructor; first | omega | assumption) ?_ | refine o_t rfl rfl rfl (by constructor; assumption) ?_ | (apply o_easy rfl rfl rfl; conv => lhs; whnf) | apply o_non rfl)); apply o_end; (repeat (first | exact OutS.nil | exact GetS.hit | exact PutS.hit | apply GetS.miss rfl | apply PutS.miss rfl | apply OutS.cons | apply OutS.skip rfl)))
          ((repeat refine c_seq ?_); refine c_else rfl ?_)
          refine c_skip ?_
          ((repeat refine c_seq ?_); refine c_region ?_; (repeat (first | ((first | apply o_move rfl rfl | apply o_easy1 rfl rfl rfl | apply o_ld rfl rfl (by assumption) (by first | rfl | assumption)); conv => lhs; whnf) | apply o_no rfl | refine o_b rfl rfl rfl (by constructor; omega) ?_ | refine o_f rfl rfl rfl (by constructor; omega) ?_ | refine o_s rfl rfl rfl (by constructor; first | omega | assumption) ?_ | refine o_t rfl rfl rfl (by constructor; assumption) ?_ | (apply o_easy rfl rfl rfl; conv => lhs; whnf) | apply o_non rfl)))
          refine o_ixvec (j := 1) rfl rfl rfl rfl hx2 (by rfl) ?_
          (repeat (first | ((first | apply o_move rfl rfl | apply o_easy1 rfl rfl rfl | apply o_ld rfl rfl (by assumption) (by first | rfl | assumption)); conv => lhs; whnf) | apply o_no rfl | refine o_b rfl rfl rfl (by constructor; omega) ?_ | refine o_f rfl rfl rfl (by constructor; omega) ?_ | refine o_s rfl rfl rfl (by constructor; first | omega | assumption) ?_ | refine o_t rfl rfl rfl (by constructor; assumption) ?_ | (apply o_easy rfl rfl rfl; conv => lhs; whnf) | apply o_non rfl))
          refine o_ixvec (j := 1) rfl rfl rfl rfl hx2 (by rfl) ?_
          (repeat (first | ((first | apply o_move rfl rfl | apply o_easy1 rfl rfl rfl | apply o_ld rfl rfl (by assumption) (by first | rfl | assumption)); conv => lhs; whnf) | apply o_no rfl | refine o_b rfl rfl rfl (by constructor; omega) ?_ | refine o_f rfl rfl rfl (by constructor; omega) ?_ | refine o_s rfl rfl rfl (by constructor; first | omega | assumption) ?_ | refine o_t rfl rfl rfl (by constructor; assumption) ?_ | (apply o_easy rfl rfl rfl; conv => lhs; whnf) | apply o_non rfl))
          refine o_ixvec (j := 1) rfl rfl rfl rfl hx2 (by rfl) ?_
          (repeat (first | ((first | apply o_move rfl rfl | apply o_easy1 rfl rfl rfl | apply o_ld rfl rfl (by assumption) (by first | rfl | assumption)); conv => lhs; whnf) | apply o_no rfl | refine o_b rfl rfl rfl (by constructor; omega) ?_ | refine o_f rfl rfl rfl (by constructor; omega) ?_ | refine o_s rfl rfl rfl (by constructor; first | omega | assumption) ?_ | refine o_t rfl rfl rfl (by constructor; assumption) ?_ | (apply o_easy rfl rfl rfl; conv => lhs; whnf) | apply o_non rfl))
          refine o_rem (z := (md : Int)) rfl rfl rfl (by omega) hmda ?_
          (repeat (first | ((first | apply o_move rfl rfl | apply o_easy1 rfl rfl rfl | apply o_ld rfl rfl (by assumption) (by first | rfl | assumption)); conv => lhs; whnf) | apply o_no rfl | refine o_b rfl rfl rfl (by constructor; omega) ?_ | refine o_f rfl rfl rfl (by constructor; omega) ?_ | refine o_s rfl rfl rfl (by constructor; first | omega | assumption) ?_ | refine o_t rfl rfl rfl (by constructor; assumption) ?_ | (apply o_easy rfl rfl rfl; conv => lhs; whnf) | apply o_non rfl))
          (apply o_end; (repeat (first | exact OutS.nil | exact GetS.hit | exact PutS.hit | apply GetS.miss rfl | apply PutS.miss rfl | apply OutS.cons | apply OutS.skip rfl)))
          ((repeat refine c_seq ?_); refine c_else rfl ?_)
          refine c_skip ?_
          by_cases hlt : k < n
          · rw [if_pos hlt] at hE1
            obtain ⟨_, rfl, rfl⟩ : errOf D E ≠ 0 ∧ v1 = 23 ∧ p1 = 1 := by
              rcases hf1 with ⟨h, _⟩ | ⟨h, h2, h3⟩
              · rw [hE1] at h; exact absurd h (by decide)
              · exact ⟨h, by rw [h2, hE1], h3⟩
            ((repeat refine c_seq ?_); refine c_region ?_; (repeat (first | ((first | apply o_move rfl rfl | apply o_easy1 rfl rfl rfl | apply o_ld rfl rfl (by assumption) (by first | rfl | assumption)); conv => lhs; whnf) | apply o_no rfl | refine o_b rfl rfl rfl (by constructor; omega) ?_ | refine o_f rfl rfl rfl (by constructor; omega) ?_ | refine o_s rfl rfl rfl (by constructor; first | omega | assumption) ?_ | refine o_t rfl rfl rfl (by constructor; assumption) ?_ | (apply o_easy rfl rfl rfl; conv => lhs; whnf) | apply o_non rfl)); apply o_end; (repeat (first | exact OutS.nil | exact GetS.hit | exact PutS.hit | apply GetS.miss rfl | apply PutS.miss rfl | apply OutS.cons | apply OutS.skip rfl)))
            ((repeat refine c_seq ?_); refine c_if rfl ?_)
            ((repeat refine c_seq ?_); refine c_region ?_; (repeat (first | ((first | apply o_move rfl rfl | apply o_easy1 rfl rfl rfl | apply o_ld rfl rfl (by assumption) (by first | rfl | assumption)); conv => lhs; whnf) | apply o_no rfl | refine o_b rfl rfl rfl (by constructor; omega) ?_ | refine o_f rfl rfl rfl (by constructor; omega) ?_ | refine o_s rfl rfl rfl (by constructor; first | omega | assumption) ?_ | refine o_t rfl rfl rfl (by constructor; assumption) ?_ | (apply o_easy rfl rfl rfl; conv => lhs; whnf) | apply o_non rfl)); apply o_end; (repeat (first | exact OutS.nil | exact GetS.hit | exact PutS.hit | apply GetS.miss rfl | apply PutS.miss rfl | apply OutS.cons | apply OutS.skip rfl)))
            exact c_ret rfl
          · rw [if_neg hlt] at hE1
            obtain ⟨rfl, hn1, hx1⟩ : v1 = 0 ∧ ts1.length = 2 ∧ ts1[1]? = some (.agg [.int .i64 9, .int .i64 (1 : Nat), .int .i64 (txt D E md).length, .int .i64 0, .nilsl, .bool false, .int .i64 n, .int .i64 k, .int .i64 md, .str [], .int .i64 0, .int .i64 0]) := by
              rcases hf1 with ⟨h, h2, h3⟩ | ⟨h, _⟩
              · exact ⟨h2, by rw [h3]; rfl, by rw [h3]; rfl⟩
              · exact absurd hE1 h
            ((repeat refine c_seq ?_); refine c_region ?_; (repeat (first | ((first | apply o_move rfl rfl | apply o_easy1 rfl rfl rfl | apply o_ld rfl rfl (by assumption) (by first | rfl | assumption)); conv => lhs; whnf) | apply o_no rfl | refine o_b rfl rfl rfl (by constructor; omega) ?_ | refine o_f rfl rfl rfl (by constructor; omega) ?_ | refine o_s rfl rfl rfl (by constructor; first | omega | assumption) ?_ | refine o_t rfl rfl rfl (by constructor; assumption) ?_ | (apply o_easy rfl rfl rfl; conv => lhs; whnf) | apply o_non rfl)); apply o_end; (repeat (first | exact OutS.nil | exact GetS.hit | exact PutS.hit | apply GetS.miss rfl | apply PutS.miss rfl | apply OutS.cons | apply OutS.skip rfl)))
            ((repeat refine c_seq ?_); refine c_else rfl ?_)
            refine c_skip ?_
            ((repeat refine c_seq ?_); refine c_region ?_; (repeat (first | ((first | apply o_move rfl rfl | apply o_easy1 rfl rfl rfl | apply o_ld rfl rfl (by assumption) (by first | rfl | assumption)); conv => lhs; whnf) | apply o_no rfl | refine o_b rfl rfl rfl (by constructor; omega) ?_ | refine o_f rfl rfl rfl (by constructor; omega) ?_ | refine o_s rfl rfl rfl (by constructor; first | omega | assumption) ?_ | refine o_t rfl rfl rfl (by constructor; assumption) ?_ | (apply o_easy rfl rfl rfl; conv => lhs; whnf) | apply o_non rfl)))
            refine o_ixvec (j := 1) rfl rfl rfl rfl hx1 (by rfl) ?_
            (repeat (first | ((first | apply o_move rfl rfl | apply o_easy1 rfl rfl rfl | apply o_ld rfl rfl (by assumption) (by first | rfl | assumption)); conv => lhs; whnf) | apply o_no rfl | refine o_b rfl rfl rfl (by constructor; omega) ?_ | refine o_f rfl rfl rfl (by constructor; omega) ?_ | refine o_s rfl rfl rfl (by constructor; first | omega | assumption) ?_ | refine o_t rfl rfl rfl (by constructor; assumption) ?_ | (apply o_easy rfl rfl rfl; conv => lhs; whnf) | apply o_non rfl))
            refine o_ixvec (j := 1) rfl rfl rfl rfl hx1 (by rfl) ?_
            (repeat (first | ((first | apply o_move rfl rfl | apply o_easy1 rfl rfl rfl | apply o_ld rfl rfl (by assumption) (by first | rfl | assumption)); conv => lhs; whnf) | apply o_no rfl | refine o_b rfl rfl rfl (by constructor; omega) ?_ | refine o_f rfl rfl rfl (by constructor; omega) ?_ | refine o_s rfl rfl rfl (by constructor; first | omega | assumption) ?_ | refine o_t rfl rfl rfl (by constructor; assumption) ?_ | (apply o_easy rfl rfl rfl; conv => lhs; whnf) | apply o_non rfl))
            refine o_ixvec (j := 1) rfl rfl rfl rfl hx1 (by rfl) ?_
            (repeat (first | ((first | apply o_move rfl rfl | apply o_easy1 rfl rfl rfl | apply o_ld rfl rfl (by assumption) (by first | rfl | assumption)); conv => lhs; whnf) | apply o_no rfl | refine o_b rfl rfl rfl (by constructor; omega) ?_ | refine o_f rfl rfl rfl (by constructor; omega) ?_ | refine o_s rfl rfl rfl (by constructor; first | omega | assumption) ?_ | refine o_t rfl rfl rfl (by constructor; assumption) ?_ | (apply o_easy rfl rfl rfl; conv => lhs; whnf) | apply o_non rfl))
            refine o_rem (z := (md : Int)) rfl rfl rfl (by omega) hmda ?_
            (repeat (first | ((first | apply o_move rfl rfl | apply o_easy1 rfl rfl rfl | apply o_ld rfl rfl (by assumption) (by first | rfl | assumption)); conv => lhs; whnf) | apply o_no rfl | refine o_b rfl rfl rfl (by constructor; omega) ?_ | refine o_f rfl rfl rfl (by constructor; omega) ?_ | refine o_s rfl rfl rfl (by constructor; first | omega | assumption) ?_ | refine o_t rfl rfl rfl (by constructor; assumption) ?_ | (apply o_easy rfl rfl rfl; conv => lhs; whnf) | apply o_non rfl))
            (apply o_end; (repeat (first | exact OutS.nil | exact GetS.hit | exact PutS.hit | apply GetS.miss rfl | apply PutS.miss rfl | apply OutS.cons | apply OutS.skip rfl)))
            exact c_ret rfl
  · rcases Int.lt_or_le nn 0 with h1 | h1
    · ((repeat refine c_seq ?_); refine c_region ?_; (repeat (first | ((first | apply o_move rfl rfl | apply o_easy1 rfl rfl rfl | apply o_ld rfl rfl (by assumption) (by first | rfl | assumption)); conv => lhs; whnf) | apply o_no rfl | refine o_b rfl rfl rfl (by constructor; omega) ?_ | refine o_f rfl rfl rfl (by constructor; omega) ?_ | refine o_s rfl rfl rfl (by constructor; first | omega | assumption) ?_ | refine o_t rfl rfl rfl (by constructor; assumption) ?_ | (apply o_easy rfl rfl rfl; conv => lhs; whnf) | apply o_non rfl)); apply o_end; (repeat (first | exact OutS.nil | exact GetS.hit | exact PutS.hit | apply GetS.miss rfl | apply PutS.miss rfl | apply OutS.cons | apply OutS.skip rfl)))
      ((repeat refine c_seq ?_); refine c_if rfl ?_)
      ((repeat refine c_seq ?_); refine c_region ?_; (repeat (first | ((first | apply o_move rfl rfl | apply o_easy1 rfl rfl rfl | apply o_ld rfl rfl (by assumption) (by first | rfl | assumption)); conv => lhs; whnf) | apply o_no rfl | refine o_b rfl rfl rfl (by constructor; omega) ?_ | refine o_f rfl rfl rfl (by constructor; omega) ?_ | refine o_s rfl rfl rfl (by constructor; first | omega | assumption) ?_ | refine o_t rfl rfl rfl (by constructor; assumption) ?_ | (apply o_easy rfl rfl rfl; conv => lhs; whnf) | apply o_non rfl)); apply o_end; (repeat (first | exact OutS.nil | exact GetS.hit | exact PutS.hit | apply GetS.miss rfl | apply PutS.miss rfl | apply OutS.cons | apply OutS.skip rfl)))
      exact c_ret rfl
    · rcases Int.lt_or_le 99999 nn with h2 | h2
      · ((repeat refine c_seq ?_); refine c_region ?_; (repeat (first | ((first | apply o_move rfl rfl | apply o_easy1 rfl rfl rfl | apply o_ld rfl rfl (by assumption) (by first | rfl | assumption)); conv => lhs; whnf) | apply o_no rfl | refine o_b rfl rfl rfl (by constructor; omega) ?_ | refine o_f rfl rfl rfl (by constructor; omega) ?_ | refine o_s rfl rfl rfl (by constructor; first | omega | assumption) ?_ | refine o_t rfl rfl rfl (by constructor; assumption) ?_ | (apply o_easy rfl rfl rfl; conv => lhs; whnf) | apply o_non rfl)); apply o_end; (repeat (first | exact OutS.nil | exact GetS.hit | exact PutS.hit | apply GetS.miss rfl | apply PutS.miss rfl | apply OutS.cons | apply OutS.skip rfl)))
        ((repeat refine c_seq ?_); refine c_if rfl ?_)
        ((repeat refine c_seq ?_); refine c_region ?_; (repeat (first | ((first | apply o_move rfl rfl | apply o_easy1 rfl rfl rfl | apply o_ld rfl rfl (by assumption) (by first | rfl | assumption)); conv => lhs; whnf) | apply o_no rfl | refine o_b rfl rfl rfl (by constructor; omega) ?_ | refine o_f rfl rfl rfl (by constructor; omega) ?_ | refine o_s rfl rfl rfl (by constructor; first | omega | assumption) ?_ | refine o_t rfl rfl rfl (by constructor; assumption) ?_ | (apply o_easy rfl rfl rfl; conv => lhs; whnf) | apply o_non rfl)); apply o_end; (repeat (first | exact OutS.nil | exact GetS.hit | exact PutS.hit | apply GetS.miss rfl | apply PutS.miss rfl | apply OutS.cons | apply OutS.skip rfl)))
        exact c_ret rfl
      · rcases Int.lt_or_le mm 0 with h3 | h3
        · ((repeat refine c_seq ?_); refine c_region ?_; (repeat (first | ((first | apply o_move rfl rfl | apply o_easy1 rfl rfl rfl | apply o_ld rfl rfl (by assumption) (by first | rfl | assumption)); conv => lhs; whnf) | apply o_no rfl | refine o_b rfl rfl rfl (by constructor; omega) ?_ | refine o_f rfl rfl rfl (by constructor; omega) ?_ | refine o_s rfl rfl rfl (by constructor; first | omega | assumption) ?_ | refine o_t rfl rfl rfl (by constructor; assumption) ?_ | (apply o_easy rfl rfl rfl; conv => lhs; whnf) | apply o_non rfl)); apply o_end; (repeat (first | exact OutS.nil | exact GetS.hit | exact PutS.hit | apply GetS.miss rfl | apply PutS.miss rfl | apply OutS.cons | apply OutS.skip rfl)))
          ((repeat refine c_seq ?_); refine c_if rfl ?_)
          ((repeat refine c_seq ?_); refine c_region ?_; (repeat (first | ((first | apply o_move rfl rfl | apply o_easy1 rfl rfl rfl | apply o_ld rfl rfl (by assumption) (by first | rfl | assumption)); conv => lhs; whnf) | apply o_no rfl | refine o_b rfl rfl rfl (by constructor; omega) ?_ | refine o_f rfl rfl rfl (by constructor; omega) ?_ | refine o_s rfl rfl rfl (by constructor; first | omega | assumption) ?_ | refine o_t rfl rfl rfl (by constructor; assumption) ?_ | (apply o_easy rfl rfl rfl; conv => lhs; whnf) | apply o_non rfl)); apply o_end; (repeat (first | exact OutS.nil | exact GetS.hit | exact PutS.hit | apply GetS.miss rfl | apply PutS.miss rfl | apply OutS.cons | apply OutS.skip rfl)))
          exact c_ret rfl
        · have h4 : 99999 < mm := by omega
          ((repeat refine c_seq ?_); refine c_region ?_; (repeat (first | ((first | apply o_move rfl rfl | apply o_easy1 rfl rfl rfl | apply o_ld rfl rfl (by assumption) (by first | rfl | assumption)); conv => lhs; whnf) | apply o_no rfl | refine o_b rfl rfl rfl (by constructor; omega) ?_ | refine o_f rfl rfl rfl (by constructor; omega) ?_ | refine o_s rfl rfl rfl (by constructor; first | omega | assumption) ?_ | refine o_t rfl rfl rfl (by constructor; assumption) ?_ | (apply o_easy rfl rfl rfl; conv => lhs; whnf) | apply o_non rfl)); apply o_end; (repeat (first | exact OutS.nil | exact GetS.hit | exact PutS.hit | apply GetS.miss rfl | apply PutS.miss rfl | apply OutS.cons | apply OutS.skip rfl)))
          ((repeat refine c_seq ?_); refine c_if rfl ?_)
          ((repeat refine c_seq ?_); refine c_region ?_; (repeat (first | ((first | apply o_move rfl rfl | apply o_easy1 rfl rfl rfl | apply o_ld rfl rfl (by assumption) (by first | rfl | assumption)); conv => lhs; whnf) | apply o_no rfl | refine o_b rfl rfl rfl (by constructor; omega) ?_ | refine o_f rfl rfl rfl (by constructor; omega) ?_ | refine o_s rfl rfl rfl (by constructor; first | omega | assumption) ?_ | refine o_t rfl rfl rfl (by constructor; assumption) ?_ | (apply o_easy rfl rfl rfl; conv => lhs; whnf) | apply o_non rfl)); apply o_end; (repeat (first | exact OutS.nil | exact GetS.hit | exact PutS.hit | apply GetS.miss rfl | apply PutS.miss rfl | apply OutS.cons | apply OutS.skip rfl)))
          exact c_ret rfl

end Go.Tok

/-
  A quantifier of any two numbers has them, with each mode, or is refused: TokensCounts answers true, whatever the three numbers.
-/
namespace Go.Proofs.YthlgbcfijipkcaaGreat
open Go.ChangeShapes Go.WideShapes Go.ChangeAt Go.RowKit

theorem own : ownKnob Tryz.prog.godebug = none := by kernel_rfl
theorem laidOut : laidOutB Tryz.prog = true := by kernel_rfl
theorem rowed : mapsRowed Tryz.prog = true := by kernel_rfl
theorem full : ∀ t e, t < Tryz.prog.types.size → Tryz.prog.underlying t = some (.slice e) → 0 < Tryz.prog.cellsOf e := slices_full_of Tryz.prog (by kernel_rfl)
theorem cells5 : Tryz.prog.cellsOf 5 = 1 := by kernel_rfl

set_option maxRecDepth 100000 in
theorem counts_lifted (os : Os) (started : os.Started) (H : Type) (enc : TypeId × Value → H) :
    ReturnsInHanded {} Tryz.checked os 6 .any (Rows.tokensCountsSpec.pre6 enc Tryz.prog Tryz.f6 Rows.tokensCountsRow.domain false) (Rows.tokensCountsSpec.post enc Tryz.prog Tryz.f6 false true false false) := by
  refine returnsInHanded_of_change (C := Tryz.checked) own started (by kernel_rfl) Tryz.func6
    (ChangeSpec.witness6 (enc := enc) (C := Tryz.checked) false ⟨#[], #[.int .i64 0, .int .i64 0, .int .i64 0], []⟩ 8 (by kernel_rfl) (by kernel_rfl) (by kernel_rfl) (by kernel_rfl)) ?_
  intro W base args ds gs before hval0 hW hcnd _
  have hval : ∀ (j : Nat) t v, Tryz.f6.params[j]? = some t → args[j]? = some v → Value.okWide Tryz.prog W .any base t v := hval0
  have hW' : DataW.Whole enc Tryz.prog Tryz.f6.params.toList Rows.tokensCountsSpec.vars false W args.toList ds gs before := hW
  obtain ⟨p, q, hA0, hV, rfl, hfz, hnd⟩ := hW
  have hA : DataW.TrodAll enc Tryz.prog W 0 (fun _ => true) true Tryz.f6.params.toList args.toList ds p := hA0
  have hts : ∀ t ∈ Tryz.f6.params.toList, t < Tryz.prog.types.size := of_decide_eq_true (by kernel_rfl)
  rw [Tryz.params6] at hA hval
  obtain ⟨v0, v1, v2, d0, d1, d2, p0, p1, p2, rfl, rfl, rfl, h0, h1, h2⟩ := trodAll_three hA
  have hgs : gs = [] ∧ q = [] := trodVars_none hV
  obtain ⟨rfl, rfl⟩ := hgs
  obtain ⟨n, hv0, _⟩ := Am.lay_int Tryz.underlying3 (hval 0 3 v0 rfl rfl) h0
  obtain ⟨k, hv1, _⟩ := Am.lay_int Tryz.underlying3 (hval 1 3 v1 rfl rfl) h1
  obtain ⟨mode, hv2, hm⟩ := Am.lay_int Tryz.underlying3 (hval 2 3 v2 rfl rfl) h2
  have hmode : -(2 ^ 63) ≤ mode ∧ mode < 2 ^ 63 := by
    simp only [Lit.wf, IntKind.min, IntKind.max, IntKind.signed, IntKind.bits, Bool.and_eq_true, decide_eq_true_eq] at hm
    simp at hm
    omega
  obtain ⟨N, hn⟩ := Tok.counts_true n k mode hmode
  have hc := Am.law_true Tok.tab_ok hn (Am.vrs_cons hv0 (Am.vrs_cons hv1 (Am.vrs_cons hv2 Am.vrs_nil))) Tryz.func6 rfl (by decide +kernel)
  exact hc.mono fun e W' he => ⟨_, he.1, Am.law_post laidOut rowed full hts rfl rfl Tryz.underlying4 hW' rfl rfl rfl he.2⟩

theorem tokensCounts : Rows.TokensCountsSaid :=
  OpenClaim.holds_of_wide 6 Tryz.f6 rfl rfl rfl rfl rfl rfl rfl ⟨rfl, rfl, rfl, rfl, rfl⟩ rfl rfl rfl rfl rfl (by kernel_rfl) Tryz.func6 (by kernel_rfl)
    (of_decide_eq_true (by kernel_rfl)) (by unfold Func.isWrapper; first | (rw [if_pos (by decide +kernel)]; kernel_rfl) | (rw [if_neg (by decide +kernel)]; exact ⟨rfl, rfl⟩))
    (fun os started H enc _ => counts_lifted os started H enc)

#print axioms tokensCounts
end Go.Proofs.YthlgbcfijipkcaaGreat
