/-
  The reference of the template package: its own functions, first part.
-/
import Derived.Test.YtdbjemmoaldelaaMachC
import Derived.Test.YtdbjemmoaldelaaTmplB
import Derived.Test.YtdbjemmoaldelaaTmplC

namespace Go.Tpl
open Go Go.Am Go.Proofs

/-- the reference's text, as it lies -/
abbrev tx (t : List UInt8) (gr : Int) : List AV := [.str t, .int .i64 gr, .vec [] .shut]

/-- Text.is -/
theorem is_spec (m : Nat) (b : Bar) (s : Sg) (t p : List UInt8) (gr : Int) (i : Nat) (hi : i ≤ t.length) (ht : t.length < 2 ^ 40) (hp : p.length < 2 ^ 40) : callF T (m + 1) b 22 [.agg (tx t gr), .int .i64 i, .str p] s = some (.ret (.bool (stands t i p)), s) := by
  have hb := getCells_new s (tx t gr) 0
  have hd : (t.drop i).length = t.length - i := by simp
  by_cases h1 : i + p.length ≤ t.length
  · by_cases h2 : (t.drop i).take p.length = p
    · have hs : stands t i p = true := by
        simp only [stands, h2, beq_self_eq_true, Bool.and_true, decide_eq_true_eq]; omega
      rw [hs]
      (apply f_of rfl rfl; (repeat (first | exact Shape.nil | (apply Shape.cons; conv => lhs; whnf))))
      ((repeat refine c_seq ?_); refine c_region ?_; (repeat (first | ((first | apply o_move rfl rfl | apply o_easy1 rfl rfl rfl | apply o_ld rfl rfl (by assumption) (by first | rfl | assumption)); conv => lhs; whnf) | apply o_no rfl | refine o_b rfl rfl rfl (by constructor; omega) ?_ | refine o_f rfl rfl rfl (by constructor; omega) ?_ | refine o_s rfl rfl rfl (by constructor; first | omega | assumption) ?_ | refine o_t rfl rfl rfl (by constructor; assumption) ?_ | (apply o_easy rfl rfl rfl; conv => lhs; whnf) | apply o_non rfl)))
      refine o_box (v := .agg (tx t gr)) (l := tx t gr) rfl rfl rfl ?_
      (repeat (first | ((first | apply o_move rfl rfl | apply o_easy1 rfl rfl rfl | apply o_ld rfl rfl (by assumption) (by first | rfl | assumption)); conv => lhs; whnf) | apply o_no rfl | refine o_b rfl rfl rfl (by constructor; omega) ?_ | refine o_f rfl rfl rfl (by constructor; omega) ?_ | refine o_s rfl rfl rfl (by constructor; first | omega | assumption) ?_ | refine o_t rfl rfl rfl (by constructor; assumption) ?_ | (apply o_easy rfl rfl rfl; conv => lhs; whnf) | apply o_non rfl))
      (apply o_end; (repeat (first | exact OutS.nil | exact GetS.hit | exact PutS.hit | apply GetS.miss rfl | apply PutS.miss rfl | apply OutS.cons | apply OutS.skip rfl)))
      ((repeat refine c_seq ?_); refine c_region ?_; (repeat (first | ((first | apply o_move rfl rfl | apply o_easy1 rfl rfl rfl | apply o_ld rfl rfl (by assumption) (by first | rfl | assumption)); conv => lhs; whnf) | apply o_no rfl | refine o_b rfl rfl rfl (by constructor; omega) ?_ | refine o_f rfl rfl rfl (by constructor; omega) ?_ | refine o_s rfl rfl rfl (by constructor; first | omega | assumption) ?_ | refine o_t rfl rfl rfl (by constructor; assumption) ?_ | (apply o_easy rfl rfl rfl; conv => lhs; whnf) | apply o_non rfl)))
      refine o_slS2 (q := p) (i := i) (j := i + p.length) rfl rfl rfl rfl rfl (by omega) (by omega) (by omega) (by rw [show i + p.length - i = p.length by omega]; exact h2) ?_
      have hpp : p = p := rfl
      (repeat (first | ((first | apply o_move rfl rfl | apply o_easy1 rfl rfl rfl | apply o_ld rfl rfl (by assumption) (by first | rfl | assumption)); conv => lhs; whnf) | apply o_no rfl | refine o_b rfl rfl rfl (by constructor; omega) ?_ | refine o_f rfl rfl rfl (by constructor; omega) ?_ | refine o_s rfl rfl rfl (by constructor; first | omega | assumption) ?_ | refine o_t rfl rfl rfl (by constructor; assumption) ?_ | (apply o_easy rfl rfl rfl; conv => lhs; whnf) | apply o_non rfl))
      (apply o_end; (repeat (first | exact OutS.nil | exact GetS.hit | exact PutS.hit | apply GetS.miss rfl | apply PutS.miss rfl | apply OutS.cons | apply OutS.skip rfl)))
      exact c_ret rfl
    · have hs : stands t i p = false := by
        simp only [stands, beq_eq_false_iff_ne.mpr h2, Bool.and_false]
      rw [hs]
      (apply f_of rfl rfl; (repeat (first | exact Shape.nil | (apply Shape.cons; conv => lhs; whnf))))
      ((repeat refine c_seq ?_); refine c_region ?_; (repeat (first | ((first | apply o_move rfl rfl | apply o_easy1 rfl rfl rfl | apply o_ld rfl rfl (by assumption) (by first | rfl | assumption)); conv => lhs; whnf) | apply o_no rfl | refine o_b rfl rfl rfl (by constructor; omega) ?_ | refine o_f rfl rfl rfl (by constructor; omega) ?_ | refine o_s rfl rfl rfl (by constructor; first | omega | assumption) ?_ | refine o_t rfl rfl rfl (by constructor; assumption) ?_ | (apply o_easy rfl rfl rfl; conv => lhs; whnf) | apply o_non rfl)))
      refine o_box (v := .agg (tx t gr)) (l := tx t gr) rfl rfl rfl ?_
      (repeat (first | ((first | apply o_move rfl rfl | apply o_easy1 rfl rfl rfl | apply o_ld rfl rfl (by assumption) (by first | rfl | assumption)); conv => lhs; whnf) | apply o_no rfl | refine o_b rfl rfl rfl (by constructor; omega) ?_ | refine o_f rfl rfl rfl (by constructor; omega) ?_ | refine o_s rfl rfl rfl (by constructor; first | omega | assumption) ?_ | refine o_t rfl rfl rfl (by constructor; assumption) ?_ | (apply o_easy rfl rfl rfl; conv => lhs; whnf) | apply o_non rfl))
      (apply o_end; (repeat (first | exact OutS.nil | exact GetS.hit | exact PutS.hit | apply GetS.miss rfl | apply PutS.miss rfl | apply OutS.cons | apply OutS.skip rfl)))
      ((repeat refine c_seq ?_); refine c_region ?_; (repeat (first | ((first | apply o_move rfl rfl | apply o_easy1 rfl rfl rfl | apply o_ld rfl rfl (by assumption) (by first | rfl | assumption)); conv => lhs; whnf) | apply o_no rfl | refine o_b rfl rfl rfl (by constructor; omega) ?_ | refine o_f rfl rfl rfl (by constructor; omega) ?_ | refine o_s rfl rfl rfl (by constructor; first | omega | assumption) ?_ | refine o_t rfl rfl rfl (by constructor; assumption) ?_ | (apply o_easy rfl rfl rfl; conv => lhs; whnf) | apply o_non rfl)))
      refine o_slS2 (i := i) (j := i + p.length) rfl rfl rfl rfl rfl (by omega) (by omega) (by omega) (q := (t.drop i).take p.length) (by rw [show i + p.length - i = p.length by omega]) ?_
      (repeat (first | ((first | apply o_move rfl rfl | apply o_easy1 rfl rfl rfl | apply o_ld rfl rfl (by assumption) (by first | rfl | assumption)); conv => lhs; whnf) | apply o_no rfl | refine o_b rfl rfl rfl (by constructor; omega) ?_ | refine o_f rfl rfl rfl (by constructor; omega) ?_ | refine o_s rfl rfl rfl (by constructor; first | omega | assumption) ?_ | refine o_t rfl rfl rfl (by constructor; assumption) ?_ | (apply o_easy rfl rfl rfl; conv => lhs; whnf) | apply o_non rfl))
      (apply o_end; (repeat (first | exact OutS.nil | exact GetS.hit | exact PutS.hit | apply GetS.miss rfl | apply PutS.miss rfl | apply OutS.cons | apply OutS.skip rfl)))
      exact c_ret rfl
  · have hs : stands t i p = false := by
      simp only [stands, Bool.and_eq_false_iff, decide_eq_false_iff_not]; left; omega
    rw [hs]
    (apply f_of rfl rfl; (repeat (first | exact Shape.nil | (apply Shape.cons; conv => lhs; whnf))))
    ((repeat refine c_seq ?_); refine c_region ?_; (repeat (first | ((first | apply o_move rfl rfl | apply o_easy1 rfl rfl rfl | apply o_ld rfl rfl (by assumption) (by first | rfl | assumption)); conv => lhs; whnf) | apply o_no rfl | refine o_b rfl rfl rfl (by constructor; omega) ?_ | refine o_f rfl rfl rfl (by constructor; omega) ?_ | refine o_s rfl rfl rfl (by constructor; first | omega | assumption) ?_ | refine o_t rfl rfl rfl (by constructor; assumption) ?_ | (apply o_easy rfl rfl rfl; conv => lhs; whnf) | apply o_non rfl)))
    refine o_box (v := .agg (tx t gr)) (l := tx t gr) rfl rfl rfl ?_
    (repeat (first | ((first | apply o_move rfl rfl | apply o_easy1 rfl rfl rfl | apply o_ld rfl rfl (by assumption) (by first | rfl | assumption)); conv => lhs; whnf) | apply o_no rfl | refine o_b rfl rfl rfl (by constructor; omega) ?_ | refine o_f rfl rfl rfl (by constructor; omega) ?_ | refine o_s rfl rfl rfl (by constructor; first | omega | assumption) ?_ | refine o_t rfl rfl rfl (by constructor; assumption) ?_ | (apply o_easy rfl rfl rfl; conv => lhs; whnf) | apply o_non rfl))
    (apply o_end; (repeat (first | exact OutS.nil | exact GetS.hit | exact PutS.hit | apply GetS.miss rfl | apply PutS.miss rfl | apply OutS.cons | apply OutS.skip rfl)))
    ((repeat refine c_seq ?_); refine c_region ?_; (repeat (first | ((first | apply o_move rfl rfl | apply o_easy1 rfl rfl rfl | apply o_ld rfl rfl (by assumption) (by first | rfl | assumption)); conv => lhs; whnf) | apply o_no rfl | refine o_b rfl rfl rfl (by constructor; omega) ?_ | refine o_f rfl rfl rfl (by constructor; omega) ?_ | refine o_s rfl rfl rfl (by constructor; first | omega | assumption) ?_ | refine o_t rfl rfl rfl (by constructor; assumption) ?_ | (apply o_easy rfl rfl rfl; conv => lhs; whnf) | apply o_non rfl)); apply o_end; (repeat (first | exact OutS.nil | exact GetS.hit | exact PutS.hit | apply GetS.miss rfl | apply PutS.miss rfl | apply OutS.cons | apply OutS.skip rfl)))
    exact c_ret rfl

/-- the reference's digit -/
theorem dig29_spec (m : Nat) (b : Bar) (c : UInt8) (s : Sg) : callF T (m + 1) b 29 [.int .u8 c.toNat] s = some (.ret (.bool (isDig c)), s) := by
  by_cases h1 : c.toNat < 48
  · have hs : isDig c = false := by simp only [isDig, Bool.and_eq_false_iff, decide_eq_false_iff_not]; omega
    rw [hs]
    (apply f_of rfl rfl; (repeat (first | exact Shape.nil | (apply Shape.cons; conv => lhs; whnf))))
    ((repeat refine c_seq ?_); refine c_region ?_; (repeat (first | ((first | apply o_move rfl rfl | apply o_easy1 rfl rfl rfl | apply o_ld rfl rfl (by assumption) (by first | rfl | assumption)); conv => lhs; whnf) | apply o_no rfl | refine o_b rfl rfl rfl (by constructor; omega) ?_ | refine o_f rfl rfl rfl (by constructor; omega) ?_ | refine o_s rfl rfl rfl (by constructor; first | omega | assumption) ?_ | refine o_t rfl rfl rfl (by constructor; assumption) ?_ | (apply o_easy rfl rfl rfl; conv => lhs; whnf) | apply o_non rfl)); apply o_end; (repeat (first | exact OutS.nil | exact GetS.hit | exact PutS.hit | apply GetS.miss rfl | apply PutS.miss rfl | apply OutS.cons | apply OutS.skip rfl)))
    ((repeat refine c_seq ?_); refine c_region ?_; (repeat (first | ((first | apply o_move rfl rfl | apply o_easy1 rfl rfl rfl | apply o_ld rfl rfl (by assumption) (by first | rfl | assumption)); conv => lhs; whnf) | apply o_no rfl | refine o_b rfl rfl rfl (by constructor; omega) ?_ | refine o_f rfl rfl rfl (by constructor; omega) ?_ | refine o_s rfl rfl rfl (by constructor; first | omega | assumption) ?_ | refine o_t rfl rfl rfl (by constructor; assumption) ?_ | (apply o_easy rfl rfl rfl; conv => lhs; whnf) | apply o_non rfl)); apply o_end; (repeat (first | exact OutS.nil | exact GetS.hit | exact PutS.hit | apply GetS.miss rfl | apply PutS.miss rfl | apply OutS.cons | apply OutS.skip rfl)))
    exact c_ret rfl
  · by_cases h2 : 57 < c.toNat
    · have hs : isDig c = false := by simp only [isDig, Bool.and_eq_false_iff, decide_eq_false_iff_not]; omega
      rw [hs]
      (apply f_of rfl rfl; (repeat (first | exact Shape.nil | (apply Shape.cons; conv => lhs; whnf))))
      ((repeat refine c_seq ?_); refine c_region ?_; (repeat (first | ((first | apply o_move rfl rfl | apply o_easy1 rfl rfl rfl | apply o_ld rfl rfl (by assumption) (by first | rfl | assumption)); conv => lhs; whnf) | apply o_no rfl | refine o_b rfl rfl rfl (by constructor; omega) ?_ | refine o_f rfl rfl rfl (by constructor; omega) ?_ | refine o_s rfl rfl rfl (by constructor; first | omega | assumption) ?_ | refine o_t rfl rfl rfl (by constructor; assumption) ?_ | (apply o_easy rfl rfl rfl; conv => lhs; whnf) | apply o_non rfl)); apply o_end; (repeat (first | exact OutS.nil | exact GetS.hit | exact PutS.hit | apply GetS.miss rfl | apply PutS.miss rfl | apply OutS.cons | apply OutS.skip rfl)))
      ((repeat refine c_seq ?_); refine c_region ?_; (repeat (first | ((first | apply o_move rfl rfl | apply o_easy1 rfl rfl rfl | apply o_ld rfl rfl (by assumption) (by first | rfl | assumption)); conv => lhs; whnf) | apply o_no rfl | refine o_b rfl rfl rfl (by constructor; omega) ?_ | refine o_f rfl rfl rfl (by constructor; omega) ?_ | refine o_s rfl rfl rfl (by constructor; first | omega | assumption) ?_ | refine o_t rfl rfl rfl (by constructor; assumption) ?_ | (apply o_easy rfl rfl rfl; conv => lhs; whnf) | apply o_non rfl)); apply o_end; (repeat (first | exact OutS.nil | exact GetS.hit | exact PutS.hit | apply GetS.miss rfl | apply PutS.miss rfl | apply OutS.cons | apply OutS.skip rfl)))
      exact c_ret rfl
    · have hs : isDig c = true := by simp only [isDig, Bool.and_eq_true, decide_eq_true_eq]; omega
      rw [hs]
      (apply f_of rfl rfl; (repeat (first | exact Shape.nil | (apply Shape.cons; conv => lhs; whnf))))
      ((repeat refine c_seq ?_); refine c_region ?_; (repeat (first | ((first | apply o_move rfl rfl | apply o_easy1 rfl rfl rfl | apply o_ld rfl rfl (by assumption) (by first | rfl | assumption)); conv => lhs; whnf) | apply o_no rfl | refine o_b rfl rfl rfl (by constructor; omega) ?_ | refine o_f rfl rfl rfl (by constructor; omega) ?_ | refine o_s rfl rfl rfl (by constructor; first | omega | assumption) ?_ | refine o_t rfl rfl rfl (by constructor; assumption) ?_ | (apply o_easy rfl rfl rfl; conv => lhs; whnf) | apply o_non rfl)); apply o_end; (repeat (first | exact OutS.nil | exact GetS.hit | exact PutS.hit | apply GetS.miss rfl | apply PutS.miss rfl | apply OutS.cons | apply OutS.skip rfl)))
      ((repeat refine c_seq ?_); refine c_region ?_; (repeat (first | ((first | apply o_move rfl rfl | apply o_easy1 rfl rfl rfl | apply o_ld rfl rfl (by assumption) (by first | rfl | assumption)); conv => lhs; whnf) | apply o_no rfl | refine o_b rfl rfl rfl (by constructor; omega) ?_ | refine o_f rfl rfl rfl (by constructor; omega) ?_ | refine o_s rfl rfl rfl (by constructor; first | omega | assumption) ?_ | refine o_t rfl rfl rfl (by constructor; assumption) ?_ | (apply o_easy rfl rfl rfl; conv => lhs; whnf) | apply o_non rfl)); apply o_end; (repeat (first | exact OutS.nil | exact GetS.hit | exact PutS.hit | apply GetS.miss rfl | apply PutS.miss rfl | apply OutS.cons | apply OutS.skip rfl)))
      exact c_ret rfl

/-- the reference's letter says yes or no -/
theorem letter_spec (m : Nat) (b : Bar) (c : UInt8) (s : Sg) : ∃ r, callF T (m + 1) b 36 [.int .u8 c.toNat] s = some (.ret (.bool r), s) := by
  by_cases h95 : c.toNat = 95
  · by_cases h1 : 97 ≤ c.toNat
    · omega
    · by_cases h4 : 90 < c.toNat
      · refine ⟨true, ?_⟩
        (apply f_of rfl rfl; (repeat (first | exact Shape.nil | (apply Shape.cons; conv => lhs; whnf))))
        ((repeat refine c_seq ?_); refine c_region ?_; (repeat (first | ((first | apply o_move rfl rfl | apply o_easy1 rfl rfl rfl | apply o_ld rfl rfl (by assumption) (by first | rfl | assumption)); conv => lhs; whnf) | apply o_no rfl | refine o_b rfl rfl rfl (by constructor; omega) ?_ | refine o_f rfl rfl rfl (by constructor; omega) ?_ | refine o_s rfl rfl rfl (by constructor; first | omega | assumption) ?_ | refine o_t rfl rfl rfl (by constructor; assumption) ?_ | (apply o_easy rfl rfl rfl; conv => lhs; whnf) | apply o_non rfl)); apply o_end; (repeat (first | exact OutS.nil | exact GetS.hit | exact PutS.hit | apply GetS.miss rfl | apply PutS.miss rfl | apply OutS.cons | apply OutS.skip rfl)))
        ((repeat refine c_seq ?_); refine c_region ?_; (repeat (first | ((first | apply o_move rfl rfl | apply o_easy1 rfl rfl rfl | apply o_ld rfl rfl (by assumption) (by first | rfl | assumption)); conv => lhs; whnf) | apply o_no rfl | refine o_b rfl rfl rfl (by constructor; omega) ?_ | refine o_f rfl rfl rfl (by constructor; omega) ?_ | refine o_s rfl rfl rfl (by constructor; first | omega | assumption) ?_ | refine o_t rfl rfl rfl (by constructor; assumption) ?_ | (apply o_easy rfl rfl rfl; conv => lhs; whnf) | apply o_non rfl)); apply o_end; (repeat (first | exact OutS.nil | exact GetS.hit | exact PutS.hit | apply GetS.miss rfl | apply PutS.miss rfl | apply OutS.cons | apply OutS.skip rfl)))
        exact c_ret rfl
      · omega
  · by_cases h1 : 97 ≤ c.toNat
    · by_cases h2 : c.toNat ≤ 122
      · refine ⟨true, ?_⟩
        (apply f_of rfl rfl; (repeat (first | exact Shape.nil | (apply Shape.cons; conv => lhs; whnf))))
        ((repeat refine c_seq ?_); refine c_region ?_; (repeat (first | ((first | apply o_move rfl rfl | apply o_easy1 rfl rfl rfl | apply o_ld rfl rfl (by assumption) (by first | rfl | assumption)); conv => lhs; whnf) | apply o_no rfl | refine o_b rfl rfl rfl (by constructor; omega) ?_ | refine o_f rfl rfl rfl (by constructor; omega) ?_ | refine o_s rfl rfl rfl (by constructor; first | omega | assumption) ?_ | refine o_t rfl rfl rfl (by constructor; assumption) ?_ | (apply o_easy rfl rfl rfl; conv => lhs; whnf) | apply o_non rfl)); apply o_end; (repeat (first | exact OutS.nil | exact GetS.hit | exact PutS.hit | apply GetS.miss rfl | apply PutS.miss rfl | apply OutS.cons | apply OutS.skip rfl)))
        ((repeat refine c_seq ?_); refine c_region ?_; (repeat (first | ((first | apply o_move rfl rfl | apply o_easy1 rfl rfl rfl | apply o_ld rfl rfl (by assumption) (by first | rfl | assumption)); conv => lhs; whnf) | apply o_no rfl | refine o_b rfl rfl rfl (by constructor; omega) ?_ | refine o_f rfl rfl rfl (by constructor; omega) ?_ | refine o_s rfl rfl rfl (by constructor; first | omega | assumption) ?_ | refine o_t rfl rfl rfl (by constructor; assumption) ?_ | (apply o_easy rfl rfl rfl; conv => lhs; whnf) | apply o_non rfl)); apply o_end; (repeat (first | exact OutS.nil | exact GetS.hit | exact PutS.hit | apply GetS.miss rfl | apply PutS.miss rfl | apply OutS.cons | apply OutS.skip rfl)))
        exact c_ret rfl
      · refine ⟨false, ?_⟩
        (apply f_of rfl rfl; (repeat (first | exact Shape.nil | (apply Shape.cons; conv => lhs; whnf))))
        ((repeat refine c_seq ?_); refine c_region ?_; (repeat (first | ((first | apply o_move rfl rfl | apply o_easy1 rfl rfl rfl | apply o_ld rfl rfl (by assumption) (by first | rfl | assumption)); conv => lhs; whnf) | apply o_no rfl | refine o_b rfl rfl rfl (by constructor; omega) ?_ | refine o_f rfl rfl rfl (by constructor; omega) ?_ | refine o_s rfl rfl rfl (by constructor; first | omega | assumption) ?_ | refine o_t rfl rfl rfl (by constructor; assumption) ?_ | (apply o_easy rfl rfl rfl; conv => lhs; whnf) | apply o_non rfl)); apply o_end; (repeat (first | exact OutS.nil | exact GetS.hit | exact PutS.hit | apply GetS.miss rfl | apply PutS.miss rfl | apply OutS.cons | apply OutS.skip rfl)))
        ((repeat refine c_seq ?_); refine c_region ?_; (repeat (first | ((first | apply o_move rfl rfl | apply o_easy1 rfl rfl rfl | apply o_ld rfl rfl (by assumption) (by first | rfl | assumption)); conv => lhs; whnf) | apply o_no rfl | refine o_b rfl rfl rfl (by constructor; omega) ?_ | refine o_f rfl rfl rfl (by constructor; omega) ?_ | refine o_s rfl rfl rfl (by constructor; first | omega | assumption) ?_ | refine o_t rfl rfl rfl (by constructor; assumption) ?_ | (apply o_easy rfl rfl rfl; conv => lhs; whnf) | apply o_non rfl)); apply o_end; (repeat (first | exact OutS.nil | exact GetS.hit | exact PutS.hit | apply GetS.miss rfl | apply PutS.miss rfl | apply OutS.cons | apply OutS.skip rfl)))
        exact c_ret rfl
    · by_cases h3 : 65 ≤ c.toNat
      · by_cases h4 : c.toNat ≤ 90
        · refine ⟨true, ?_⟩
          (apply f_of rfl rfl; (repeat (first | exact Shape.nil | (apply Shape.cons; conv => lhs; whnf))))
          ((repeat refine c_seq ?_); refine c_region ?_; (repeat (first | ((first | apply o_move rfl rfl | apply o_easy1 rfl rfl rfl | apply o_ld rfl rfl (by assumption) (by first | rfl | assumption)); conv => lhs; whnf) | apply o_no rfl | refine o_b rfl rfl rfl (by constructor; omega) ?_ | refine o_f rfl rfl rfl (by constructor; omega) ?_ | refine o_s rfl rfl rfl (by constructor; first | omega | assumption) ?_ | refine o_t rfl rfl rfl (by constructor; assumption) ?_ | (apply o_easy rfl rfl rfl; conv => lhs; whnf) | apply o_non rfl)); apply o_end; (repeat (first | exact OutS.nil | exact GetS.hit | exact PutS.hit | apply GetS.miss rfl | apply PutS.miss rfl | apply OutS.cons | apply OutS.skip rfl)))
          ((repeat refine c_seq ?_); refine c_region ?_; (repeat (first | ((first | apply o_move rfl rfl | apply o_easy1 rfl rfl rfl | apply o_ld rfl rfl (by assumption) (by first | rfl | assumption)); conv => lhs; whnf) | apply o_no rfl | refine o_b rfl rfl rfl (by constructor; omega) ?_ | refine o_f rfl rfl rfl (by constructor; omega) ?_ | refine o_s rfl rfl rfl (by constructor; first | omega | assumption) ?_ | refine o_t rfl rfl rfl (by constructor; assumption) ?_ | (apply o_easy rfl rfl rfl; conv => lhs; whnf) | apply o_non rfl)); apply o_end; (repeat (first | exact OutS.nil | exact GetS.hit | exact PutS.hit | apply GetS.miss rfl | apply PutS.miss rfl | apply OutS.cons | apply OutS.skip rfl)))
          exact c_ret rfl
        · refine ⟨false, ?_⟩
          (apply f_of rfl rfl; (repeat (first | exact Shape.nil | (apply Shape.cons; conv => lhs; whnf))))
          ((repeat refine c_seq ?_); refine c_region ?_; (repeat (first | ((first | apply o_move rfl rfl | apply o_easy1 rfl rfl rfl | apply o_ld rfl rfl (by assumption) (by first | rfl | assumption)); conv => lhs; whnf) | apply o_no rfl | refine o_b rfl rfl rfl (by constructor; omega) ?_ | refine o_f rfl rfl rfl (by constructor; omega) ?_ | refine o_s rfl rfl rfl (by constructor; first | omega | assumption) ?_ | refine o_t rfl rfl rfl (by constructor; assumption) ?_ | (apply o_easy rfl rfl rfl; conv => lhs; whnf) | apply o_non rfl)); apply o_end; (repeat (first | exact OutS.nil | exact GetS.hit | exact PutS.hit | apply GetS.miss rfl | apply PutS.miss rfl | apply OutS.cons | apply OutS.skip rfl)))
          ((repeat refine c_seq ?_); refine c_region ?_; (repeat (first | ((first | apply o_move rfl rfl | apply o_easy1 rfl rfl rfl | apply o_ld rfl rfl (by assumption) (by first | rfl | assumption)); conv => lhs; whnf) | apply o_no rfl | refine o_b rfl rfl rfl (by constructor; omega) ?_ | refine o_f rfl rfl rfl (by constructor; omega) ?_ | refine o_s rfl rfl rfl (by constructor; first | omega | assumption) ?_ | refine o_t rfl rfl rfl (by constructor; assumption) ?_ | (apply o_easy rfl rfl rfl; conv => lhs; whnf) | apply o_non rfl)); apply o_end; (repeat (first | exact OutS.nil | exact GetS.hit | exact PutS.hit | apply GetS.miss rfl | apply PutS.miss rfl | apply OutS.cons | apply OutS.skip rfl)))
          exact c_ret rfl
      · refine ⟨false, ?_⟩
        (apply f_of rfl rfl; (repeat (first | exact Shape.nil | (apply Shape.cons; conv => lhs; whnf))))
        ((repeat refine c_seq ?_); refine c_region ?_; (repeat (first | ((first | apply o_move rfl rfl | apply o_easy1 rfl rfl rfl | apply o_ld rfl rfl (by assumption) (by first | rfl | assumption)); conv => lhs; whnf) | apply o_no rfl | refine o_b rfl rfl rfl (by constructor; omega) ?_ | refine o_f rfl rfl rfl (by constructor; omega) ?_ | refine o_s rfl rfl rfl (by constructor; first | omega | assumption) ?_ | refine o_t rfl rfl rfl (by constructor; assumption) ?_ | (apply o_easy rfl rfl rfl; conv => lhs; whnf) | apply o_non rfl)); apply o_end; (repeat (first | exact OutS.nil | exact GetS.hit | exact PutS.hit | apply GetS.miss rfl | apply PutS.miss rfl | apply OutS.cons | apply OutS.skip rfl)))
        ((repeat refine c_seq ?_); refine c_region ?_; (repeat (first | ((first | apply o_move rfl rfl | apply o_easy1 rfl rfl rfl | apply o_ld rfl rfl (by assumption) (by first | rfl | assumption)); conv => lhs; whnf) | apply o_no rfl | refine o_b rfl rfl rfl (by constructor; omega) ?_ | refine o_f rfl rfl rfl (by constructor; omega) ?_ | refine o_s rfl rfl rfl (by constructor; first | omega | assumption) ?_ | refine o_t rfl rfl rfl (by constructor; assumption) ?_ | (apply o_easy rfl rfl rfl; conv => lhs; whnf) | apply o_non rfl)); apply o_end; (repeat (first | exact OutS.nil | exact GetS.hit | exact PutS.hit | apply GetS.miss rfl | apply PutS.miss rfl | apply OutS.cons | apply OutS.skip rfl)))
        exact c_ret rfl

/-- the loop 0 of function 30 -/
def lp30_0 : ACode := .seq (.seq (.region [⟨(some 10), .v (.move (.tmp 1)), none⟩, ⟨(some 11), .v (.fieldAddr 0 none (.tmp 2)), none⟩, ⟨(some 12), .v (.load none (.tmp 11)), none⟩, ⟨(some 13), .v (.len 0 (.tmp 12)), none⟩, ⟨(some 14), .v (.bin .lss (.tmp 10) (.tmp 13)), none⟩, ⟨(some 15), .v (.move (.tmp 14)), none⟩, ⟨(some 16), .v (.move (.tmp 1)), (some (15, true))⟩, ⟨(some 17), .v (.move (.tmp 6)), (some (15, true))⟩, ⟨(some 18), .v (.bin .add (.tmp 17) (.const (.int .i64 3))), (some (15, true))⟩, ⟨(some 19), .v (.bin .lss (.tmp 16) (.tmp 18)), (some (15, true))⟩, ⟨(some 20), .v (.pick (.tmp 15) (.tmp 19) (.const (.bool false))), none⟩, ⟨(some 21), .v (.move (.tmp 20)), none⟩, ⟨(some 22), .v (.fieldAddr 0 none (.tmp 2)), (some (21, true))⟩, ⟨(some 23), .v (.load none (.tmp 22)), (some (21, true))⟩, ⟨(some 24), .v (.move (.tmp 1)), (some (21, true))⟩, ⟨(some 25), .v (.indexS (.tmp 23) (.tmp 24)), (some (21, true))⟩, ⟨(some 26), .call 29 [(.tmp 25)], (some (21, true))⟩, ⟨(some 27), .v (.pick (.tmp 21) (.tmp 26) (.const (.bool false))), none⟩] [27]) (.cond (.tmp 27) (.skip) (.exit 0))) (.block 1 (.seq (.region [⟨(some 28), .v (.move (.tmp 7)), none⟩, ⟨(some 29), .v (.bin .mul (.tmp 28) (.const (.int .i64 10))), none⟩, ⟨(some 30), .v (.fieldAddr 0 none (.tmp 2)), none⟩, ⟨(some 31), .v (.load none (.tmp 30)), none⟩, ⟨(some 32), .v (.move (.tmp 1)), none⟩, ⟨(some 33), .v (.indexS (.tmp 31) (.tmp 32)), none⟩, ⟨(some 34), .v (.conv (.intInt .i64) (.tmp 33)), none⟩, ⟨(some 35), .v (.bin .add (.tmp 29) (.tmp 34)), none⟩, ⟨(some 36), .v (.bin .sub (.tmp 35) (.const (.int .i64 48))), none⟩, ⟨(some 7), .v (.move (.tmp 36)), none⟩] [7]) (.region [⟨(some 37), .v (.move (.tmp 1)), none⟩, ⟨(some 38), .v (.bin .add (.tmp 37) (.const (.int .i64 1))), none⟩, ⟨(some 1), .v (.move (.tmp 38)), none⟩] [1])))

theorem num30_loop (m : Nat) (b : Bar) (t : List UInt8) (gr : Int) (bx fr0 : Nat) (s : Sg) (hbx : getCells s.heap bx 0 = some (tx t gr)) (ht : t.length < 2 ^ 40) {Q : Ex → Fr → Sg → Prop} :
    ∀ (k L : Nat) (i n : Nat) (x : AV), k + 1 ≤ L → i + k = fr0 + 3 → k ≤ 3 → i ≤ t.length → n < 10 ^ (3 - k) →
    Q (.exit 0) ⟨[(0, .agg (tx t gr)), (1, .int .i64 (numM t k i n).2), (4, .int .i64 0), (5, .int .i64 0), (2, .ptr bx 0 0), (6, .int .i64 fr0), (27, .bool false), (7, .int .i64 (numM t k i n).1), (41, .undef), (45, .undef), (72, .undef), (8, .undef), (84, .undef), (98, .undef)], [], .off⟩ s →
    OkL L (fun fr s => ACode.run (loopN (m + 1)) (callF T (m + 1)) b lp30_0 fr s) ⟨[(0, .agg (tx t gr)), (1, .int .i64 i), (4, .int .i64 0), (5, .int .i64 0), (2, .ptr bx 0 0), (6, .int .i64 fr0), (27, x), (7, .int .i64 n), (41, .undef), (45, .undef), (72, .undef), (8, .undef), (84, .undef), (98, .undef)], [], .off⟩ s Q := by
  intro k
  induction k with
  | zero =>
    intro L i n x hL hi hk hit hn hq
    obtain ⟨L, rfl⟩ : ∃ L', L = L' + 1 := ⟨L - 1, by omega⟩
    simp only [numM] at hq
    apply l_round
    by_cases h1 : i < t.length
    · ((repeat refine c_seq ?_); refine c_region ?_; (repeat (first | ((first | apply o_move rfl rfl | apply o_easy1 rfl rfl rfl | apply o_ld rfl rfl (by assumption) (by first | rfl | assumption)); conv => lhs; whnf) | apply o_no rfl | refine o_b rfl rfl rfl (by constructor; omega) ?_ | refine o_f rfl rfl rfl (by constructor; omega) ?_ | refine o_s rfl rfl rfl (by constructor; first | omega | assumption) ?_ | refine o_t rfl rfl rfl (by constructor; assumption) ?_ | (apply o_easy rfl rfl rfl; conv => lhs; whnf) | apply o_non rfl)); apply o_end; (repeat (first | exact OutS.nil | exact GetS.hit | exact PutS.hit | apply GetS.miss rfl | apply PutS.miss rfl | apply OutS.cons | apply OutS.skip rfl)))
      ((repeat refine c_seq ?_); refine c_else rfl ?_)
      exact c_exit hq
    · ((repeat refine c_seq ?_); refine c_region ?_; (repeat (first | ((first | apply o_move rfl rfl | apply o_easy1 rfl rfl rfl | apply o_ld rfl rfl (by assumption) (by first | rfl | assumption)); conv => lhs; whnf) | apply o_no rfl | refine o_b rfl rfl rfl (by constructor; omega) ?_ | refine o_f rfl rfl rfl (by constructor; omega) ?_ | refine o_s rfl rfl rfl (by constructor; first | omega | assumption) ?_ | refine o_t rfl rfl rfl (by constructor; assumption) ?_ | (apply o_easy rfl rfl rfl; conv => lhs; whnf) | apply o_non rfl)); apply o_end; (repeat (first | exact OutS.nil | exact GetS.hit | exact PutS.hit | apply GetS.miss rfl | apply PutS.miss rfl | apply OutS.cons | apply OutS.skip rfl)))
      ((repeat refine c_seq ?_); refine c_else rfl ?_)
      exact c_exit hq
  | succ k ih =>
    intro L i n x hL hi hk hit hn hq
    obtain ⟨L, rfl⟩ : ∃ L', L = L' + 1 := ⟨L - 1, by omega⟩
    apply l_round
    cases hc : t[i]? with
    | none =>
      have h1 : t.length ≤ i := by simpa using hc
      simp only [numM, hc] at hq
      ((repeat refine c_seq ?_); refine c_region ?_; (repeat (first | ((first | apply o_move rfl rfl | apply o_easy1 rfl rfl rfl | apply o_ld rfl rfl (by assumption) (by first | rfl | assumption)); conv => lhs; whnf) | apply o_no rfl | refine o_b rfl rfl rfl (by constructor; omega) ?_ | refine o_f rfl rfl rfl (by constructor; omega) ?_ | refine o_s rfl rfl rfl (by constructor; first | omega | assumption) ?_ | refine o_t rfl rfl rfl (by constructor; assumption) ?_ | (apply o_easy rfl rfl rfl; conv => lhs; whnf) | apply o_non rfl)); apply o_end; (repeat (first | exact OutS.nil | exact GetS.hit | exact PutS.hit | apply GetS.miss rfl | apply PutS.miss rfl | apply OutS.cons | apply OutS.skip rfl)))
      ((repeat refine c_seq ?_); refine c_else rfl ?_)
      exact c_exit hq
    | some c =>
      have h1 : i < t.length := lt_of_getElem? hc
      cases hd : isDig c with
      | false =>
        simp only [numM, hc, hd, Bool.false_eq_true, if_false] at hq
        ((repeat refine c_seq ?_); refine c_region ?_; (repeat (first | ((first | apply o_move rfl rfl | apply o_easy1 rfl rfl rfl | apply o_ld rfl rfl (by assumption) (by first | rfl | assumption)); conv => lhs; whnf) | apply o_no rfl | refine o_b rfl rfl rfl (by constructor; omega) ?_ | refine o_f rfl rfl rfl (by constructor; omega) ?_ | refine o_s rfl rfl rfl (by constructor; first | omega | assumption) ?_ | refine o_t rfl rfl rfl (by constructor; assumption) ?_ | (apply o_easy rfl rfl rfl; conv => lhs; whnf) | apply o_non rfl)))
        refine o_idxS (j := i) rfl rfl rfl rfl hc ?_
        refine o_call rfl rfl (dig29_spec m _ c s) ?_
        rw [hd]
        (repeat (first | ((first | apply o_move rfl rfl | apply o_easy1 rfl rfl rfl | apply o_ld rfl rfl (by assumption) (by first | rfl | assumption)); conv => lhs; whnf) | apply o_no rfl | refine o_b rfl rfl rfl (by constructor; omega) ?_ | refine o_f rfl rfl rfl (by constructor; omega) ?_ | refine o_s rfl rfl rfl (by constructor; first | omega | assumption) ?_ | refine o_t rfl rfl rfl (by constructor; assumption) ?_ | (apply o_easy rfl rfl rfl; conv => lhs; whnf) | apply o_non rfl))
        (apply o_end; (repeat (first | exact OutS.nil | exact GetS.hit | exact PutS.hit | apply GetS.miss rfl | apply PutS.miss rfl | apply OutS.cons | apply OutS.skip rfl)))
        ((repeat refine c_seq ?_); refine c_else rfl ?_)
        exact c_exit hq
      | true =>
        simp only [numM, hc, hd, if_true] at hq
        ((repeat refine c_seq ?_); refine c_region ?_; (repeat (first | ((first | apply o_move rfl rfl | apply o_easy1 rfl rfl rfl | apply o_ld rfl rfl (by assumption) (by first | rfl | assumption)); conv => lhs; whnf) | apply o_no rfl | refine o_b rfl rfl rfl (by constructor; omega) ?_ | refine o_f rfl rfl rfl (by constructor; omega) ?_ | refine o_s rfl rfl rfl (by constructor; first | omega | assumption) ?_ | refine o_t rfl rfl rfl (by constructor; assumption) ?_ | (apply o_easy rfl rfl rfl; conv => lhs; whnf) | apply o_non rfl)))
        refine o_idxS (j := i) rfl rfl rfl rfl hc ?_
        refine o_call rfl rfl (dig29_spec m _ c s) ?_
        rw [hd]
        (repeat (first | ((first | apply o_move rfl rfl | apply o_easy1 rfl rfl rfl | apply o_ld rfl rfl (by assumption) (by first | rfl | assumption)); conv => lhs; whnf) | apply o_no rfl | refine o_b rfl rfl rfl (by constructor; omega) ?_ | refine o_f rfl rfl rfl (by constructor; omega) ?_ | refine o_s rfl rfl rfl (by constructor; first | omega | assumption) ?_ | refine o_t rfl rfl rfl (by constructor; assumption) ?_ | (apply o_easy rfl rfl rfl; conv => lhs; whnf) | apply o_non rfl))
        (apply o_end; (repeat (first | exact OutS.nil | exact GetS.hit | exact PutS.hit | apply GetS.miss rfl | apply PutS.miss rfl | apply OutS.cons | apply OutS.skip rfl)))
        ((repeat refine c_seq ?_); refine c_if rfl ?_)
        refine c_skip ?_
        ((repeat refine c_seq ?_); refine c_block ?_)
        have hn3 : n < 1000 := by
          have h3 : 10 ^ (3 - (k + 1)) ≤ 10 ^ 3 := Nat.pow_le_pow_right (by omega) (by omega)
          omega
        have hcs : c.toNat < 256 := c.toNat_lt
        have hd' := hd
        simp only [isDig, Bool.and_eq_true, decide_eq_true_eq] at hd'
        ((repeat refine c_seq ?_); refine c_region ?_; (repeat (first | ((first | apply o_move rfl rfl | apply o_easy1 rfl rfl rfl | apply o_ld rfl rfl (by assumption) (by first | rfl | assumption)); conv => lhs; whnf) | apply o_no rfl | refine o_b rfl rfl rfl (by constructor; omega) ?_ | refine o_f rfl rfl rfl (by constructor; omega) ?_ | refine o_s rfl rfl rfl (by constructor; first | omega | assumption) ?_ | refine o_t rfl rfl rfl (by constructor; assumption) ?_ | (apply o_easy rfl rfl rfl; conv => lhs; whnf) | apply o_non rfl)))
        refine o_idxS (j := i) rfl rfl rfl rfl hc ?_
        refine o_convi rfl rfl (wrap_i64 (by omega) (by omega)) ?_
        (repeat (first | ((first | apply o_move rfl rfl | apply o_easy1 rfl rfl rfl | apply o_ld rfl rfl (by assumption) (by first | rfl | assumption)); conv => lhs; whnf) | apply o_no rfl | refine o_b rfl rfl rfl (by constructor; omega) ?_ | refine o_f rfl rfl rfl (by constructor; omega) ?_ | refine o_s rfl rfl rfl (by constructor; first | omega | assumption) ?_ | refine o_t rfl rfl rfl (by constructor; assumption) ?_ | (apply o_easy rfl rfl rfl; conv => lhs; whnf) | apply o_non rfl))
        (apply o_end; (repeat (first | exact OutS.nil | exact GetS.hit | exact PutS.hit | apply GetS.miss rfl | apply PutS.miss rfl | apply OutS.cons | apply OutS.skip rfl)))
        ((repeat refine c_seq ?_); refine c_region ?_; (repeat (first | ((first | apply o_move rfl rfl | apply o_easy1 rfl rfl rfl | apply o_ld rfl rfl (by assumption) (by first | rfl | assumption)); conv => lhs; whnf) | apply o_no rfl | refine o_b rfl rfl rfl (by constructor; omega) ?_ | refine o_f rfl rfl rfl (by constructor; omega) ?_ | refine o_s rfl rfl rfl (by constructor; first | omega | assumption) ?_ | refine o_t rfl rfl rfl (by constructor; assumption) ?_ | (apply o_easy rfl rfl rfl; conv => lhs; whnf) | apply o_non rfl)); apply o_end; (repeat (first | exact OutS.nil | exact GetS.hit | exact PutS.hit | apply GetS.miss rfl | apply PutS.miss rfl | apply OutS.cons | apply OutS.skip rfl)))
        have hp : n * 10 + (c.toNat - 48) < 10 ^ (3 - k) := by
          have e : 3 - k = (3 - (k + 1)) + 1 := by omega
          rw [e, Nat.pow_succ]
          omega
        have hx := ih L (i + 1) (n * 10 + (c.toNat - 48)) (.bool true) (by omega) (by omega) (by omega) (by omega) hp hq
        have e7 : ((n * 10 + (c.toNat - 48) : Nat) : Int) = (n : Int) * 10 + c.toNat - 48 := by omega
        rw [e7] at hx
        exact hx

end Go.Tpl

namespace Go.Tpl
open Go Go.Am Go.Proofs

/-- the loop 1 of function 30 -/
def lp30_1 : ACode := .seq (.seq (.region [⟨(some 49), .v (.move (.tmp 1)), none⟩, ⟨(some 50), .v (.fieldAddr 0 none (.tmp 2)), none⟩, ⟨(some 51), .v (.load none (.tmp 50)), none⟩, ⟨(some 52), .v (.len 0 (.tmp 51)), none⟩, ⟨(some 53), .v (.bin .lss (.tmp 49) (.tmp 52)), none⟩, ⟨(some 54), .v (.move (.tmp 53)), none⟩, ⟨(some 55), .v (.fieldAddr 0 none (.tmp 2)), (some (54, true))⟩, ⟨(some 56), .v (.load none (.tmp 55)), (some (54, true))⟩, ⟨(some 57), .v (.move (.tmp 1)), (some (54, true))⟩, ⟨(some 58), .v (.indexS (.tmp 56) (.tmp 57)), (some (54, true))⟩, ⟨(some 59), .call 36 [(.tmp 58)], (some (54, true))⟩, ⟨(some 60), .v (.move (.tmp 59)), (some (54, true))⟩, ⟨(some 61), .v (.move (.tmp 1)), (some (60, false))⟩, ⟨(some 62), .v (.move (.tmp 6)), (some (60, false))⟩, ⟨(some 63), .v (.bin .gtr (.tmp 61) (.tmp 62)), (some (60, false))⟩, ⟨(some 64), .v (.move (.tmp 63)), (some (60, false))⟩, ⟨(some 65), .v (.fieldAddr 0 none (.tmp 2)), (some (64, true))⟩, ⟨(some 66), .v (.load none (.tmp 65)), (some (64, true))⟩, ⟨(some 67), .v (.move (.tmp 1)), (some (64, true))⟩, ⟨(some 68), .v (.indexS (.tmp 66) (.tmp 67)), (some (64, true))⟩, ⟨(some 69), .call 29 [(.tmp 68)], (some (64, true))⟩, ⟨(some 70), .v (.pick (.tmp 64) (.tmp 69) (.const (.bool false))), (some (60, false))⟩, ⟨(some 71), .v (.pick (.tmp 60) (.const (.bool true)) (.tmp 70)), (some (54, true))⟩, ⟨(some 72), .v (.pick (.tmp 54) (.tmp 71) (.const (.bool false))), none⟩] [72]) (.cond (.tmp 72) (.skip) (.exit 2))) (.block 3 (.region [⟨(some 73), .v (.move (.tmp 1)), none⟩, ⟨(some 74), .v (.bin .add (.tmp 73) (.const (.int .i64 1))), none⟩, ⟨(some 1), .v (.move (.tmp 74)), none⟩] [1]))

theorem name30_loop (m : Nat) (b : Bar) (t : List UInt8) (gr : Int) (bx fr0 : Nat) (x7 : AV) (s : Sg) (hbx : getCells s.heap bx 0 = some (tx t gr)) (ht : t.length < 2 ^ 40) {Q : Ex → Fr → Sg → Prop}
    (hq : ∀ j : Nat, Q (.exit 2) ⟨[(0, .agg (tx t gr)), (1, .int .i64 j), (4, .int .i64 0), (5, .int .i64 0), (2, .ptr bx 0 0), (6, .int .i64 fr0), (27, .bool false), (7, x7), (41, .bool false), (45, .undef), (72, .bool false), (8, .undef), (84, .undef), (98, .undef)], [], .off⟩ s) :
    ∀ (k L : Nat) (i : Nat) (x : AV), k + 1 ≤ L → i + k = t.length →
    OkL L (fun fr s => ACode.run (loopN (m + 1)) (callF T (m + 1)) b lp30_1 fr s) ⟨[(0, .agg (tx t gr)), (1, .int .i64 i), (4, .int .i64 0), (5, .int .i64 0), (2, .ptr bx 0 0), (6, .int .i64 fr0), (27, .bool false), (7, x7), (41, .bool false), (45, .undef), (72, x), (8, .undef), (84, .undef), (98, .undef)], [], .off⟩ s Q := by
  intro k
  induction k with
  | zero =>
    intro L i x hL hi
    obtain ⟨L, rfl⟩ : ∃ L', L = L' + 1 := ⟨L - 1, by omega⟩
    apply l_round
    ((repeat refine c_seq ?_); refine c_region ?_; (repeat (first | ((first | apply o_move rfl rfl | apply o_easy1 rfl rfl rfl | apply o_ld rfl rfl (by assumption) (by first | rfl | assumption)); conv => lhs; whnf) | apply o_no rfl | refine o_b rfl rfl rfl (by constructor; omega) ?_ | refine o_f rfl rfl rfl (by constructor; omega) ?_ | refine o_s rfl rfl rfl (by constructor; first | omega | assumption) ?_ | refine o_t rfl rfl rfl (by constructor; assumption) ?_ | (apply o_easy rfl rfl rfl; conv => lhs; whnf) | apply o_non rfl)); apply o_end; (repeat (first | exact OutS.nil | exact GetS.hit | exact PutS.hit | apply GetS.miss rfl | apply PutS.miss rfl | apply OutS.cons | apply OutS.skip rfl)))
    ((repeat refine c_seq ?_); refine c_else rfl ?_)
    exact c_exit (hq i)
  | succ k ih =>
    intro L i x hL hi
    obtain ⟨L, rfl⟩ : ∃ L', L = L' + 1 := ⟨L - 1, by omega⟩
    have hlt : i < t.length := by omega
    obtain ⟨c, hc⟩ : ∃ c, t[i]? = some c := ⟨t[i], by simp [hlt]⟩
    obtain ⟨r, hr⟩ := letter_spec m b c s
    apply l_round
    ((repeat refine c_seq ?_); refine c_region ?_; (repeat (first | ((first | apply o_move rfl rfl | apply o_easy1 rfl rfl rfl | apply o_ld rfl rfl (by assumption) (by first | rfl | assumption)); conv => lhs; whnf) | apply o_no rfl | refine o_b rfl rfl rfl (by constructor; omega) ?_ | refine o_f rfl rfl rfl (by constructor; omega) ?_ | refine o_s rfl rfl rfl (by constructor; first | omega | assumption) ?_ | refine o_t rfl rfl rfl (by constructor; assumption) ?_ | (apply o_easy rfl rfl rfl; conv => lhs; whnf) | apply o_non rfl)))
    refine o_idxS (j := i) rfl rfl rfl rfl hc ?_
    refine o_call rfl rfl hr ?_
    cases r with
    | true =>
      (repeat (first | ((first | apply o_move rfl rfl | apply o_easy1 rfl rfl rfl | apply o_ld rfl rfl (by assumption) (by first | rfl | assumption)); conv => lhs; whnf) | apply o_no rfl | refine o_b rfl rfl rfl (by constructor; omega) ?_ | refine o_f rfl rfl rfl (by constructor; omega) ?_ | refine o_s rfl rfl rfl (by constructor; first | omega | assumption) ?_ | refine o_t rfl rfl rfl (by constructor; assumption) ?_ | (apply o_easy rfl rfl rfl; conv => lhs; whnf) | apply o_non rfl))
      (apply o_end; (repeat (first | exact OutS.nil | exact GetS.hit | exact PutS.hit | apply GetS.miss rfl | apply PutS.miss rfl | apply OutS.cons | apply OutS.skip rfl)))
      ((repeat refine c_seq ?_); refine c_if rfl ?_)
      refine c_skip ?_
      ((repeat refine c_seq ?_); refine c_block ?_)
      ((repeat refine c_seq ?_); refine c_region ?_; (repeat (first | ((first | apply o_move rfl rfl | apply o_easy1 rfl rfl rfl | apply o_ld rfl rfl (by assumption) (by first | rfl | assumption)); conv => lhs; whnf) | apply o_no rfl | refine o_b rfl rfl rfl (by constructor; omega) ?_ | refine o_f rfl rfl rfl (by constructor; omega) ?_ | refine o_s rfl rfl rfl (by constructor; first | omega | assumption) ?_ | refine o_t rfl rfl rfl (by constructor; assumption) ?_ | (apply o_easy rfl rfl rfl; conv => lhs; whnf) | apply o_non rfl)); apply o_end; (repeat (first | exact OutS.nil | exact GetS.hit | exact PutS.hit | apply GetS.miss rfl | apply PutS.miss rfl | apply OutS.cons | apply OutS.skip rfl)))
      exact ih L (i + 1) _ (by omega) (by omega)
    | false =>
      by_cases hfr : i > fr0
      · (repeat (first | ((first | apply o_move rfl rfl | apply o_easy1 rfl rfl rfl | apply o_ld rfl rfl (by assumption) (by first | rfl | assumption)); conv => lhs; whnf) | apply o_no rfl | refine o_b rfl rfl rfl (by constructor; omega) ?_ | refine o_f rfl rfl rfl (by constructor; omega) ?_ | refine o_s rfl rfl rfl (by constructor; first | omega | assumption) ?_ | refine o_t rfl rfl rfl (by constructor; assumption) ?_ | (apply o_easy rfl rfl rfl; conv => lhs; whnf) | apply o_non rfl))
        refine o_idxS (j := i) rfl rfl rfl rfl hc ?_
        refine o_call rfl rfl (dig29_spec m _ c s) ?_
        cases isDig c with
        | true =>
          (repeat (first | ((first | apply o_move rfl rfl | apply o_easy1 rfl rfl rfl | apply o_ld rfl rfl (by assumption) (by first | rfl | assumption)); conv => lhs; whnf) | apply o_no rfl | refine o_b rfl rfl rfl (by constructor; omega) ?_ | refine o_f rfl rfl rfl (by constructor; omega) ?_ | refine o_s rfl rfl rfl (by constructor; first | omega | assumption) ?_ | refine o_t rfl rfl rfl (by constructor; assumption) ?_ | (apply o_easy rfl rfl rfl; conv => lhs; whnf) | apply o_non rfl))
          (apply o_end; (repeat (first | exact OutS.nil | exact GetS.hit | exact PutS.hit | apply GetS.miss rfl | apply PutS.miss rfl | apply OutS.cons | apply OutS.skip rfl)))
          ((repeat refine c_seq ?_); refine c_if rfl ?_)
          refine c_skip ?_
          ((repeat refine c_seq ?_); refine c_block ?_)
          ((repeat refine c_seq ?_); refine c_region ?_; (repeat (first | ((first | apply o_move rfl rfl | apply o_easy1 rfl rfl rfl | apply o_ld rfl rfl (by assumption) (by first | rfl | assumption)); conv => lhs; whnf) | apply o_no rfl | refine o_b rfl rfl rfl (by constructor; omega) ?_ | refine o_f rfl rfl rfl (by constructor; omega) ?_ | refine o_s rfl rfl rfl (by constructor; first | omega | assumption) ?_ | refine o_t rfl rfl rfl (by constructor; assumption) ?_ | (apply o_easy rfl rfl rfl; conv => lhs; whnf) | apply o_non rfl)); apply o_end; (repeat (first | exact OutS.nil | exact GetS.hit | exact PutS.hit | apply GetS.miss rfl | apply PutS.miss rfl | apply OutS.cons | apply OutS.skip rfl)))
          exact ih L (i + 1) _ (by omega) (by omega)
        | false =>
          (repeat (first | ((first | apply o_move rfl rfl | apply o_easy1 rfl rfl rfl | apply o_ld rfl rfl (by assumption) (by first | rfl | assumption)); conv => lhs; whnf) | apply o_no rfl | refine o_b rfl rfl rfl (by constructor; omega) ?_ | refine o_f rfl rfl rfl (by constructor; omega) ?_ | refine o_s rfl rfl rfl (by constructor; first | omega | assumption) ?_ | refine o_t rfl rfl rfl (by constructor; assumption) ?_ | (apply o_easy rfl rfl rfl; conv => lhs; whnf) | apply o_non rfl))
          (apply o_end; (repeat (first | exact OutS.nil | exact GetS.hit | exact PutS.hit | apply GetS.miss rfl | apply PutS.miss rfl | apply OutS.cons | apply OutS.skip rfl)))
          ((repeat refine c_seq ?_); refine c_else rfl ?_)
          exact c_exit (hq i)
      · (repeat (first | ((first | apply o_move rfl rfl | apply o_easy1 rfl rfl rfl | apply o_ld rfl rfl (by assumption) (by first | rfl | assumption)); conv => lhs; whnf) | apply o_no rfl | refine o_b rfl rfl rfl (by constructor; omega) ?_ | refine o_f rfl rfl rfl (by constructor; omega) ?_ | refine o_s rfl rfl rfl (by constructor; first | omega | assumption) ?_ | refine o_t rfl rfl rfl (by constructor; assumption) ?_ | (apply o_easy rfl rfl rfl; conv => lhs; whnf) | apply o_non rfl))
        (apply o_end; (repeat (first | exact OutS.nil | exact GetS.hit | exact PutS.hit | apply GetS.miss rfl | apply PutS.miss rfl | apply OutS.cons | apply OutS.skip rfl)))
        ((repeat refine c_seq ?_); refine c_else rfl ?_)
        exact c_exit (hq i)


/-- the reference's reference: a number -/
theorem refer30_yes (m : Nat) (b : Bar) (t : List UInt8) (gr : Int) (i : Nat) (s : Sg) (ht : t.length < 2 ^ 40) (hi : i ≤ t.length) (hn : i < (numM t 3 i 0).2) :
    callF T (m + 6) b 30 [.agg (tx t gr), .int .i64 i] s = some (.ret (.tup [.int .i64 (if ((numM t 3 i 0).1 : Int) ≤ gr then ((numM t 3 i 0).1 : Int) else -1), .int .i64 (numM t 3 i 0).2]), s) := by
  have hb := getCells_new s (tx t gr) 0
  (apply f_of rfl rfl; (repeat (first | exact Shape.nil | (apply Shape.cons; conv => lhs; whnf))))
  ((repeat refine c_seq ?_); refine c_region ?_; (repeat (first | ((first | apply o_move rfl rfl | apply o_easy1 rfl rfl rfl | apply o_ld rfl rfl (by assumption) (by first | rfl | assumption)); conv => lhs; whnf) | apply o_no rfl | refine o_b rfl rfl rfl (by constructor; omega) ?_ | refine o_f rfl rfl rfl (by constructor; omega) ?_ | refine o_s rfl rfl rfl (by constructor; first | omega | assumption) ?_ | refine o_t rfl rfl rfl (by constructor; assumption) ?_ | (apply o_easy rfl rfl rfl; conv => lhs; whnf) | apply o_non rfl)))
  refine o_box (v := .agg (tx t gr)) (l := tx t gr) rfl rfl rfl ?_
  (repeat (first | ((first | apply o_move rfl rfl | apply o_easy1 rfl rfl rfl | apply o_ld rfl rfl (by assumption) (by first | rfl | assumption)); conv => lhs; whnf) | apply o_no rfl | refine o_b rfl rfl rfl (by constructor; omega) ?_ | refine o_f rfl rfl rfl (by constructor; omega) ?_ | refine o_s rfl rfl rfl (by constructor; first | omega | assumption) ?_ | refine o_t rfl rfl rfl (by constructor; assumption) ?_ | (apply o_easy rfl rfl rfl; conv => lhs; whnf) | apply o_non rfl))
  (apply o_end; (repeat (first | exact OutS.nil | exact GetS.hit | exact PutS.hit | apply GetS.miss rfl | apply PutS.miss rfl | apply OutS.cons | apply OutS.skip rfl)))
  ((repeat refine c_seq ?_); refine c_region ?_; (repeat (first | ((first | apply o_move rfl rfl | apply o_easy1 rfl rfl rfl | apply o_ld rfl rfl (by assumption) (by first | rfl | assumption)); conv => lhs; whnf) | apply o_no rfl | refine o_b rfl rfl rfl (by constructor; omega) ?_ | refine o_f rfl rfl rfl (by constructor; omega) ?_ | refine o_s rfl rfl rfl (by constructor; first | omega | assumption) ?_ | refine o_t rfl rfl rfl (by constructor; assumption) ?_ | (apply o_easy rfl rfl rfl; conv => lhs; whnf) | apply o_non rfl)); apply o_end; (repeat (first | exact OutS.nil | exact GetS.hit | exact PutS.hit | apply GetS.miss rfl | apply PutS.miss rfl | apply OutS.cons | apply OutS.skip rfl)))
  ((repeat refine c_seq ?_); refine c_region ?_; (repeat (first | ((first | apply o_move rfl rfl | apply o_easy1 rfl rfl rfl | apply o_ld rfl rfl (by assumption) (by first | rfl | assumption)); conv => lhs; whnf) | apply o_no rfl | refine o_b rfl rfl rfl (by constructor; omega) ?_ | refine o_f rfl rfl rfl (by constructor; omega) ?_ | refine o_s rfl rfl rfl (by constructor; first | omega | assumption) ?_ | refine o_t rfl rfl rfl (by constructor; assumption) ?_ | (apply o_easy rfl rfl rfl; conv => lhs; whnf) | apply o_non rfl)); apply o_end; (repeat (first | exact OutS.nil | exact GetS.hit | exact PutS.hit | apply GetS.miss rfl | apply PutS.miss rfl | apply OutS.cons | apply OutS.skip rfl)))
  ((repeat refine c_seq ?_); refine c_block ?_)
  refine c_loop (x := lp30_0) ?_
  refine num30_loop (m + 4) _ t gr _ i _ hb ht 3 _ i 0 _ (by omega) (by omega) (by omega) hi (by omega) ?_
  generalize numM t 3 i 0 = nj at hn ⊢
  obtain ⟨v, j⟩ := nj
  dsimp only at hn ⊢
  ((repeat refine c_seq ?_); refine c_region ?_; (repeat (first | ((first | apply o_move rfl rfl | apply o_easy1 rfl rfl rfl | apply o_ld rfl rfl (by assumption) (by first | rfl | assumption)); conv => lhs; whnf) | apply o_no rfl | refine o_b rfl rfl rfl (by constructor; omega) ?_ | refine o_f rfl rfl rfl (by constructor; omega) ?_ | refine o_s rfl rfl rfl (by constructor; first | omega | assumption) ?_ | refine o_t rfl rfl rfl (by constructor; assumption) ?_ | (apply o_easy rfl rfl rfl; conv => lhs; whnf) | apply o_non rfl)); apply o_end; (repeat (first | exact OutS.nil | exact GetS.hit | exact PutS.hit | apply GetS.miss rfl | apply PutS.miss rfl | apply OutS.cons | apply OutS.skip rfl)))
  ((repeat refine c_seq ?_); refine c_if rfl ?_)
  by_cases hle : (v : Int) ≤ gr
  · rw [if_pos hle]
    ((repeat refine c_seq ?_); refine c_region ?_; (repeat (first | ((first | apply o_move rfl rfl | apply o_easy1 rfl rfl rfl | apply o_ld rfl rfl (by assumption) (by first | rfl | assumption)); conv => lhs; whnf) | apply o_no rfl | refine o_b rfl rfl rfl (by constructor; omega) ?_ | refine o_f rfl rfl rfl (by constructor; omega) ?_ | refine o_s rfl rfl rfl (by constructor; first | omega | assumption) ?_ | refine o_t rfl rfl rfl (by constructor; assumption) ?_ | (apply o_easy rfl rfl rfl; conv => lhs; whnf) | apply o_non rfl)); apply o_end; (repeat (first | exact OutS.nil | exact GetS.hit | exact PutS.hit | apply GetS.miss rfl | apply PutS.miss rfl | apply OutS.cons | apply OutS.skip rfl)))
    ((repeat refine c_seq ?_); refine c_else rfl ?_)
    refine c_skip ?_
    ((repeat refine c_seq ?_); refine c_region ?_; (repeat (first | ((first | apply o_move rfl rfl | apply o_easy1 rfl rfl rfl | apply o_ld rfl rfl (by assumption) (by first | rfl | assumption)); conv => lhs; whnf) | apply o_no rfl | refine o_b rfl rfl rfl (by constructor; omega) ?_ | refine o_f rfl rfl rfl (by constructor; omega) ?_ | refine o_s rfl rfl rfl (by constructor; first | omega | assumption) ?_ | refine o_t rfl rfl rfl (by constructor; assumption) ?_ | (apply o_easy rfl rfl rfl; conv => lhs; whnf) | apply o_non rfl)); apply o_end; (repeat (first | exact OutS.nil | exact GetS.hit | exact PutS.hit | apply GetS.miss rfl | apply PutS.miss rfl | apply OutS.cons | apply OutS.skip rfl)))
    exact c_ret rfl
  · rw [if_neg hle]
    ((repeat refine c_seq ?_); refine c_region ?_; (repeat (first | ((first | apply o_move rfl rfl | apply o_easy1 rfl rfl rfl | apply o_ld rfl rfl (by assumption) (by first | rfl | assumption)); conv => lhs; whnf) | apply o_no rfl | refine o_b rfl rfl rfl (by constructor; omega) ?_ | refine o_f rfl rfl rfl (by constructor; omega) ?_ | refine o_s rfl rfl rfl (by constructor; first | omega | assumption) ?_ | refine o_t rfl rfl rfl (by constructor; assumption) ?_ | (apply o_easy rfl rfl rfl; conv => lhs; whnf) | apply o_non rfl)); apply o_end; (repeat (first | exact OutS.nil | exact GetS.hit | exact PutS.hit | apply GetS.miss rfl | apply PutS.miss rfl | apply OutS.cons | apply OutS.skip rfl)))
    ((repeat refine c_seq ?_); refine c_if rfl ?_)
    ((repeat refine c_seq ?_); refine c_region ?_; (repeat (first | ((first | apply o_move rfl rfl | apply o_easy1 rfl rfl rfl | apply o_ld rfl rfl (by assumption) (by first | rfl | assumption)); conv => lhs; whnf) | apply o_no rfl | refine o_b rfl rfl rfl (by constructor; omega) ?_ | refine o_f rfl rfl rfl (by constructor; omega) ?_ | refine o_s rfl rfl rfl (by constructor; first | omega | assumption) ?_ | refine o_t rfl rfl rfl (by constructor; assumption) ?_ | (apply o_easy rfl rfl rfl; conv => lhs; whnf) | apply o_non rfl)); apply o_end; (repeat (first | exact OutS.nil | exact GetS.hit | exact PutS.hit | apply GetS.miss rfl | apply PutS.miss rfl | apply OutS.cons | apply OutS.skip rfl)))
    exact c_ret rfl

/-- the loop 2 of function 30 -/
def lp30_2 : ACode := .seq (.seq (.region [⟨(some 75), .v (.move (.tmp 8)), none⟩, ⟨(some 76), .v (.fieldAddr 2 none (.tmp 2)), none⟩, ⟨(some 77), .v (.load none (.tmp 76)), none⟩, ⟨(some 78), .v (.len 1 (.tmp 77)), none⟩, ⟨(some 79), .v (.bin .lss (.tmp 75) (.tmp 78)), none⟩, ⟨(some 80), .v (.move (.tmp 79)), none⟩, ⟨(some 81), .v (.move (.tmp 1)), (some (80, true))⟩, ⟨(some 82), .v (.move (.tmp 6)), (some (80, true))⟩, ⟨(some 83), .v (.bin .gtr (.tmp 81) (.tmp 82)), (some (80, true))⟩, ⟨(some 84), .v (.pick (.tmp 80) (.tmp 83) (.const (.bool false))), none⟩] [84]) (.cond (.tmp 84) (.skip) (.exit 4))) (.seq (.block 5 (.seq (.drawn [⟨(some 87), .v (.fieldAddr 2 none (.tmp 2)), none⟩, ⟨(some 88), .v (.load none (.tmp 87)), none⟩, ⟨(some 89), .v (.move (.tmp 8)), none⟩, ⟨(some 90), .v (.indexAddrS (some 2) (.tmp 88) (.tmp 89)), none⟩, ⟨(some 91), .v (.fieldAddr 0 none (.tmp 90)), none⟩, ⟨(some 92), .v (.load none (.tmp 91)), none⟩, ⟨(some 93), .v (.fieldAddr 0 none (.tmp 2)), none⟩, ⟨(some 94), .v (.load none (.tmp 93)), none⟩, ⟨(some 95), .v (.move (.tmp 6)), none⟩, ⟨(some 96), .v (.move (.tmp 1)), none⟩, ⟨(some 97), .v (.sliceS (.tmp 94) (some (.tmp 95)) (some (.tmp 96))), none⟩, ⟨(some 98), .v (.bin .eql (.tmp 92) (.tmp 97)), none⟩] [98] []) (.cond (.tmp 98) (.seq (.region [⟨(some 99), .v (.fieldAddr 2 none (.tmp 2)), none⟩, ⟨(some 100), .v (.load none (.tmp 99)), none⟩, ⟨(some 101), .v (.move (.tmp 8)), none⟩, ⟨(some 102), .v (.indexAddrS (some 2) (.tmp 100) (.tmp 101)), none⟩, ⟨(some 103), .v (.fieldAddr 1 none (.tmp 102)), none⟩, ⟨(some 104), .v (.load none (.tmp 103)), none⟩, ⟨(some 105), .v (.move (.tmp 1)), none⟩, ⟨(some 4), .v (.move (.tmp 104)), none⟩, ⟨(some 5), .v (.move (.tmp 105)), none⟩] [4, 5]) (.ret)) (.skip)))) (.region [⟨(some 85), .v (.move (.tmp 8)), none⟩, ⟨(some 86), .v (.bin .add (.tmp 85) (.const (.int .i64 1))), none⟩, ⟨(some 8), .v (.move (.tmp 86)), none⟩] [8]))

/-- the reference's reference: none -/
theorem refer30_no (m : Nat) (b : Bar) (t : List UInt8) (gr : Int) (i : Nat) (s : Sg) (ht : t.length < 2 ^ 40) (hi : i ≤ t.length) (hm : t.length + 8 ≤ m) (hn : ¬ i < (numM t 3 i 0).2) :
    OkF (callF T (m + 1) b 30 [.agg (tx t gr), .int .i64 i] s) fun o s' => ∃ j : Nat, o = .ret (.tup [.int .i64 (-1), .int .i64 j]) ∧ s' = s := by
  have hb := getCells_new s (tx t gr) 0
  obtain ⟨m, rfl⟩ : ∃ m', m = m' + 6 := ⟨m - 6, by omega⟩
  have hle := numM_le t 3 i 0 hi
  (apply f_wp rfl rfl; (repeat (first | exact Shape.nil | (apply Shape.cons; conv => lhs; whnf))))
  ((repeat refine c_seq ?_); refine c_region ?_; (repeat (first | ((first | apply o_move rfl rfl | apply o_easy1 rfl rfl rfl | apply o_ld rfl rfl (by assumption) (by first | rfl | assumption)); conv => lhs; whnf) | apply o_no rfl | refine o_b rfl rfl rfl (by constructor; omega) ?_ | refine o_f rfl rfl rfl (by constructor; omega) ?_ | refine o_s rfl rfl rfl (by constructor; first | omega | assumption) ?_ | refine o_t rfl rfl rfl (by constructor; assumption) ?_ | (apply o_easy rfl rfl rfl; conv => lhs; whnf) | apply o_non rfl)))
  refine o_box (v := .agg (tx t gr)) (l := tx t gr) rfl rfl rfl ?_
  (repeat (first | ((first | apply o_move rfl rfl | apply o_easy1 rfl rfl rfl | apply o_ld rfl rfl (by assumption) (by first | rfl | assumption)); conv => lhs; whnf) | apply o_no rfl | refine o_b rfl rfl rfl (by constructor; omega) ?_ | refine o_f rfl rfl rfl (by constructor; omega) ?_ | refine o_s rfl rfl rfl (by constructor; first | omega | assumption) ?_ | refine o_t rfl rfl rfl (by constructor; assumption) ?_ | (apply o_easy rfl rfl rfl; conv => lhs; whnf) | apply o_non rfl))
  (apply o_end; (repeat (first | exact OutS.nil | exact GetS.hit | exact PutS.hit | apply GetS.miss rfl | apply PutS.miss rfl | apply OutS.cons | apply OutS.skip rfl)))
  ((repeat refine c_seq ?_); refine c_region ?_; (repeat (first | ((first | apply o_move rfl rfl | apply o_easy1 rfl rfl rfl | apply o_ld rfl rfl (by assumption) (by first | rfl | assumption)); conv => lhs; whnf) | apply o_no rfl | refine o_b rfl rfl rfl (by constructor; omega) ?_ | refine o_f rfl rfl rfl (by constructor; omega) ?_ | refine o_s rfl rfl rfl (by constructor; first | omega | assumption) ?_ | refine o_t rfl rfl rfl (by constructor; assumption) ?_ | (apply o_easy rfl rfl rfl; conv => lhs; whnf) | apply o_non rfl)); apply o_end; (repeat (first | exact OutS.nil | exact GetS.hit | exact PutS.hit | apply GetS.miss rfl | apply PutS.miss rfl | apply OutS.cons | apply OutS.skip rfl)))
  ((repeat refine c_seq ?_); refine c_region ?_; (repeat (first | ((first | apply o_move rfl rfl | apply o_easy1 rfl rfl rfl | apply o_ld rfl rfl (by assumption) (by first | rfl | assumption)); conv => lhs; whnf) | apply o_no rfl | refine o_b rfl rfl rfl (by constructor; omega) ?_ | refine o_f rfl rfl rfl (by constructor; omega) ?_ | refine o_s rfl rfl rfl (by constructor; first | omega | assumption) ?_ | refine o_t rfl rfl rfl (by constructor; assumption) ?_ | (apply o_easy rfl rfl rfl; conv => lhs; whnf) | apply o_non rfl)); apply o_end; (repeat (first | exact OutS.nil | exact GetS.hit | exact PutS.hit | apply GetS.miss rfl | apply PutS.miss rfl | apply OutS.cons | apply OutS.skip rfl)))
  ((repeat refine c_seq ?_); refine c_block ?_)
  refine c_loop (x := lp30_0) ?_
  refine num30_loop (m + 5) _ t gr _ i _ hb ht 3 _ i 0 _ (by omega) (by omega) (by omega) hi (by omega) ?_
  generalize numM t 3 i 0 = nj at hn hle ⊢
  obtain ⟨v, k0⟩ := nj
  dsimp only at hn hle ⊢
  ((repeat refine c_seq ?_); refine c_region ?_; (repeat (first | ((first | apply o_move rfl rfl | apply o_easy1 rfl rfl rfl | apply o_ld rfl rfl (by assumption) (by first | rfl | assumption)); conv => lhs; whnf) | apply o_no rfl | refine o_b rfl rfl rfl (by constructor; omega) ?_ | refine o_f rfl rfl rfl (by constructor; omega) ?_ | refine o_s rfl rfl rfl (by constructor; first | omega | assumption) ?_ | refine o_t rfl rfl rfl (by constructor; assumption) ?_ | (apply o_easy rfl rfl rfl; conv => lhs; whnf) | apply o_non rfl)); apply o_end; (repeat (first | exact OutS.nil | exact GetS.hit | exact PutS.hit | apply GetS.miss rfl | apply PutS.miss rfl | apply OutS.cons | apply OutS.skip rfl)))
  ((repeat refine c_seq ?_); refine c_else rfl ?_)
  refine c_skip ?_
  ((repeat refine c_seq ?_); refine c_block ?_)
  refine c_loop (x := lp30_1) ?_
  have X := fun Q hq => @name30_loop (m + 5) (b.into .pure s) t gr s.heap.length i (.int .i64 v) _ hb ht Q hq (t.length - k0) (m + 6) k0 .undef
  have Y := fun Q hq => X Q hq (by omega) (by omega)
  refine Y _ ?_
  intro j
  ((repeat refine c_seq ?_); refine c_region ?_; (repeat (first | ((first | apply o_move rfl rfl | apply o_easy1 rfl rfl rfl | apply o_ld rfl rfl (by assumption) (by first | rfl | assumption)); conv => lhs; whnf) | apply o_no rfl | refine o_b rfl rfl rfl (by constructor; omega) ?_ | refine o_f rfl rfl rfl (by constructor; omega) ?_ | refine o_s rfl rfl rfl (by constructor; first | omega | assumption) ?_ | refine o_t rfl rfl rfl (by constructor; assumption) ?_ | (apply o_easy rfl rfl rfl; conv => lhs; whnf) | apply o_non rfl)); apply o_end; (repeat (first | exact OutS.nil | exact GetS.hit | exact PutS.hit | apply GetS.miss rfl | apply PutS.miss rfl | apply OutS.cons | apply OutS.skip rfl)))
  ((repeat refine c_seq ?_); refine c_block ?_)
  refine c_loop (x := lp30_2) ?_
  apply l_round
  ((repeat refine c_seq ?_); refine c_region ?_; (repeat (first | ((first | apply o_move rfl rfl | apply o_easy1 rfl rfl rfl | apply o_ld rfl rfl (by assumption) (by first | rfl | assumption)); conv => lhs; whnf) | apply o_no rfl | refine o_b rfl rfl rfl (by constructor; omega) ?_ | refine o_f rfl rfl rfl (by constructor; omega) ?_ | refine o_s rfl rfl rfl (by constructor; first | omega | assumption) ?_ | refine o_t rfl rfl rfl (by constructor; assumption) ?_ | (apply o_easy rfl rfl rfl; conv => lhs; whnf) | apply o_non rfl)); apply o_end; (repeat (first | exact OutS.nil | exact GetS.hit | exact PutS.hit | apply GetS.miss rfl | apply PutS.miss rfl | apply OutS.cons | apply OutS.skip rfl)))
  ((repeat refine c_seq ?_); refine c_else rfl ?_)
  refine c_exit ?_
  ((repeat refine c_seq ?_); refine c_region ?_; (repeat (first | ((first | apply o_move rfl rfl | apply o_easy1 rfl rfl rfl | apply o_ld rfl rfl (by assumption) (by first | rfl | assumption)); conv => lhs; whnf) | apply o_no rfl | refine o_b rfl rfl rfl (by constructor; omega) ?_ | refine o_f rfl rfl rfl (by constructor; omega) ?_ | refine o_s rfl rfl rfl (by constructor; first | omega | assumption) ?_ | refine o_t rfl rfl rfl (by constructor; assumption) ?_ | (apply o_easy rfl rfl rfl; conv => lhs; whnf) | apply o_non rfl)); apply o_end; (repeat (first | exact OutS.nil | exact GetS.hit | exact PutS.hit | apply GetS.miss rfl | apply PutS.miss rfl | apply OutS.cons | apply OutS.skip rfl)))
  exact c_ret (fin_ret (.inl rfl) (read_tmp rfl (read_tmp rfl read_nil)) (leave_pure (lay_cons rfl (lay_cons rfl lay_nil)) rfl) ⟨j, rfl, rfl⟩)

end Go.Tpl

namespace Go.Tpl
open Go Go.Am Go.Proofs

mutual
/-- how the reference's parts lie: rows within rows of the abstract heap, the rows within in objects of a kind -/
def CellR (h : List AObj) (A : Nat → Prop) : Tp → List AV → Prop
  | .lit t, cs => cs = [.int .i64 1, .str t, .int .i64 0, .nilsl, .nilsl]
  | .group n, cs => cs = [.int .i64 2, .str [], .int .i64 n, .nilsl, .nilsl]
  | .els n no, cs => ∃ v, cs = [.int .i64 3, .str [], .int .i64 n, .nilsl, v] ∧ ((no = [] ∧ v = .nilsl) ∨ ∃ i g rs, v = .ms i g 0 no.length 5 ∧ A i ∧ getCells h i g = some rs ∧ RowR h A no rs)
  | .ifs n yes no, cs => ∃ u v, cs = [.int .i64 4, .str [], .int .i64 n, u, v] ∧ ((yes = [] ∧ u = .nilsl) ∨ ∃ i g rs, u = .ms i g 0 yes.length 5 ∧ A i ∧ getCells h i g = some rs ∧ RowR h A yes rs) ∧
      ((no = [] ∧ v = .nilsl) ∨ ∃ i g rs, v = .ms i g 0 no.length 5 ∧ A i ∧ getCells h i g = some rs ∧ RowR h A no rs)
def RowR (h : List AObj) (A : Nat → Prop) : List Tp → List AV → Prop
  | [], rs => rs = []
  | p :: r, rs => ∃ c1 c2, rs = c1 ++ c2 ∧ CellR h A p c1 ∧ RowR h A r c2
end

/-- a row of the reference's parts -/
def ValR (h : List AObj) (A : Nat → Prop) (l : List Tp) (v : AV) : Prop := (l = [] ∧ v = .nilsl) ∨ ∃ i g rs, v = .ms i g 0 l.length 5 ∧ A i ∧ getCells h i g = some rs ∧ RowR h A l rs

mutual
theorem CellR.mono {h h' : List AObj} {A A' : Nat → Prop} (hA : ∀ i, A i → i < h.length → A' i ∧ h'[i]? = h[i]?) : ∀ {p : Tp} {cs : List AV}, CellR h A p cs → CellR h' A' p cs
  | .lit t, cs, hc => by simp only [CellR] at hc ⊢; exact hc
  | .group n, cs, hc => by simp only [CellR] at hc ⊢; exact hc
  | .els n no, cs, hc => by
    simp only [CellR] at hc ⊢
    obtain ⟨v, e, hv⟩ := hc
    refine ⟨v, e, ?_⟩
    rcases hv with hv | ⟨i, g, rs, e1, e2, e3, e4⟩
    · exact .inl hv
    · have := hA i e2 (getCells_lt e3)
      exact .inr ⟨i, g, rs, e1, this.1, getCells_at e3 this.2, RowR.mono hA e4⟩
  | .ifs n yes no, cs, hc => by
    simp only [CellR] at hc ⊢
    obtain ⟨u, v, e, hu, hv⟩ := hc
    refine ⟨u, v, e, ?_, ?_⟩
    · rcases hu with hu | ⟨i, g, rs, e1, e2, e3, e4⟩
      · exact .inl hu
      · have := hA i e2 (getCells_lt e3)
        exact .inr ⟨i, g, rs, e1, this.1, getCells_at e3 this.2, RowR.mono hA e4⟩
    · rcases hv with hv | ⟨i, g, rs, e1, e2, e3, e4⟩
      · exact .inl hv
      · have := hA i e2 (getCells_lt e3)
        exact .inr ⟨i, g, rs, e1, this.1, getCells_at e3 this.2, RowR.mono hA e4⟩
theorem RowR.mono {h h' : List AObj} {A A' : Nat → Prop} (hA : ∀ i, A i → i < h.length → A' i ∧ h'[i]? = h[i]?) : ∀ {l : List Tp} {rs : List AV}, RowR h A l rs → RowR h' A' l rs
  | [], rs, hc => by simp only [RowR] at hc ⊢; exact hc
  | p :: r, rs, hc => by
    simp only [RowR] at hc ⊢
    obtain ⟨c1, c2, e, h1, h2⟩ := hc
    exact ⟨c1, c2, e, CellR.mono hA h1, RowR.mono hA h2⟩
end

theorem CellR.facts {h : List AObj} {A : Nat → Prop} {p : Tp} {cs : List AV} (hc : CellR h A p cs) : cs.length = 5 ∧ cs[0]? = some (.int .i64 p.kind) ∧ cs[1]? = some (.str p.text) ∧ cs[2]? = some (.int .i64 p.num) ∧ allOne cs = true ∧ keptAll cs = cs := by
  cases p with
  | lit t => simp only [CellR] at hc; subst hc; exact ⟨rfl, rfl, rfl, rfl, rfl, rfl⟩
  | group n => simp only [CellR] at hc; subst hc; exact ⟨rfl, rfl, rfl, rfl, rfl, rfl⟩
  | els n no =>
    simp only [CellR] at hc
    obtain ⟨v, rfl, hv⟩ := hc
    rcases hv with ⟨_, rfl⟩ | ⟨i, g, rs, rfl, _⟩ <;> exact ⟨rfl, rfl, rfl, rfl, rfl, rfl⟩
  | ifs n yes no =>
    simp only [CellR] at hc
    obtain ⟨u, v, rfl, hu, hv⟩ := hc
    rcases hu with ⟨_, rfl⟩ | ⟨i, g, rs, rfl, _⟩ <;> rcases hv with ⟨_, rfl⟩ | ⟨i, g, rs, rfl, _⟩ <;> exact ⟨rfl, rfl, rfl, rfl, rfl, rfl⟩

theorem CellR.stored {h : List AObj} {A : Nat → Prop} {p : Tp} {cs : List AV} (hc : CellR h A p cs) : (AV.agg cs).stored = some cs := by
  obtain ⟨_, _, _, _, h1, h2⟩ := hc.facts
  simp [AV.stored, AV.flat, h1, h2]

theorem RowR.facts {h : List AObj} {A : Nat → Prop} : ∀ {l : List Tp} {rs : List AV}, RowR h A l rs → rs.length = l.length * 5 ∧ ∃ es, chunk l.length (some 5) rs = some es ∧ flatAll es = rs ∧ allSize 5 es = true ∧ allOneAll es = true ∧ es.length = l.length
  | [], rs, hc => by simp only [RowR] at hc; subst hc; exact ⟨rfl, [], rfl, rfl, rfl, rfl, rfl⟩
  | p :: r, rs, hc => by
    simp only [RowR] at hc
    obtain ⟨c1, c2, rfl, h1, h2⟩ := hc
    obtain ⟨hl, _, _, _, ho, _⟩ := h1.facts
    obtain ⟨hl2, es, e1, e2, e3, e4, e5⟩ := RowR.facts h2
    refine ⟨by simp [hl, hl2]; omega, .agg c1 :: es, ?_, ?_, ?_, ?_, by simp [e5]⟩
    · have hle : Nat.ble 5 (c1 ++ c2).length = true := ble_of (by simp [hl])
      have hd : (c1 ++ c2).drop 5 = c2 := by rw [← hl]; exact List.drop_left
      have htk : (c1 ++ c2).take 5 = c1 := by rw [← hl]; exact List.take_left
      simp only [List.length_cons, chunk, hle, if_true, hd, e1, Option.bind_some, htk]
    · simp only [flatAll, AV.flat, e2]
    · simp [allSize, AV.flat, hl, e3]
    · simp [allOneAll, AV.flat, ho, e4]

theorem RowR.snoc {h : List AObj} {A : Nat → Prop} {p : Tp} {c : List AV} (hp : CellR h A p c) : ∀ {l : List Tp} {rs : List AV}, RowR h A l rs → RowR h A (l ++ [p]) (rs ++ c)
  | [], rs, hc => by
    simp only [RowR] at hc
    subst hc
    exact ⟨c, [], by simp, hp, by simp only [RowR]⟩
  | q :: r, rs, hc => by
    simp only [RowR] at hc
    obtain ⟨c1, c2, rfl, h1, h2⟩ := hc
    exact ⟨c1, c2 ++ c, by simp, h1, RowR.snoc hp h2⟩

theorem RowR.last {h : List AObj} {A : Nat → Prop} {q : Tp} : ∀ {l : List Tp} {rs : List AV}, RowR h A (l ++ [q]) rs → ∃ r0 c, rs = r0 ++ c ∧ RowR h A l r0 ∧ CellR h A q c
  | [], rs, hc => by
    simp only [List.nil_append, RowR] at hc
    obtain ⟨c1, c2, rfl, h1, rfl⟩ := hc
    exact ⟨[], c1, by simp, by simp only [RowR], h1⟩
  | p :: r, rs, hc => by
    simp only [List.cons_append, RowR] at hc
    obtain ⟨c1, c2, rfl, h1, h2⟩ := hc
    obtain ⟨r0, c, rfl, h3, h4⟩ := RowR.last h2
    exact ⟨c1 ++ r0, c, by simp, ⟨c1, r0, rfl, h1, h3⟩, h4⟩

theorem elems_ms {h : List AObj} {i g len sz : Nat} {cs es : List AV} (hc : getCells h i g = some cs) (hk : chunk len (some sz) cs = some es) : elemsOf h (some sz) (.ms i g 0 len sz) = some es := by
  simp only [elemsOf, Option.getD_some, Nat.beq_refl, if_true, hc, Option.bind_some, List.drop_zero, hk]

/-- the reference's barrier: none -/
abbrev bb : Bar := ⟨0, 0, []⟩

/-- lit: parts with a text behind them, in a row of their own -/
theorem lit_spec (m : Nat) (s : Sg) (A : Nat → Prop) (l : List Tp) (v : AV) (u : List UInt8) (hv : (l = [] ∧ v = .nilsl) ∨ ∃ o g rs, v = .ms o g 0 l.length 5 ∧ getCells s.heap o g = some rs ∧ RowR s.heap A l rs) (hl : l.length < 2 ^ 30) (hu : u.length < 2 ^ 40) (hq : ∀ q ∈ l, q.text.length < 2 ^ 40) :
    OkF (callF T (m + 1) bb 21 [v, .str u] s) fun o s' => ∃ o' g' rs', o = .ret (.ms o' g' 0 (addM l (.lit u)).length 5) ∧ s.heap.length ≤ o' ∧ getCells s'.heap o' g' = some rs' ∧ RowR s'.heap A (addM l (.lit u)) rs' ∧ (∀ j, j < s.heap.length → s'.heap[j]? = s.heap[j]?) ∧ s.heap.length ≤ s'.heap.length := by
  rcases hv with ⟨rfl, rfl⟩ | ⟨o, g, rs, rfl, hc, hr⟩
  · rw [addM_nil]
    (apply f_wp rfl rfl; (repeat (first | exact Shape.nil | (apply Shape.cons; conv => lhs; whnf))))
    ((repeat refine c_seq ?_); refine c_region ?_; (repeat (first | ((first | apply o_move rfl rfl | apply o_easy1 rfl rfl rfl | apply o_ld rfl rfl (by assumption) (by first | rfl | assumption)); conv => lhs; whnf) | apply o_no rfl | refine o_b rfl rfl rfl (by constructor; omega) ?_ | refine o_f rfl rfl rfl (by constructor; omega) ?_ | refine o_s rfl rfl rfl (by constructor; first | omega | assumption) ?_ | refine o_t rfl rfl rfl (by constructor; assumption) ?_ | (apply o_easy rfl rfl rfl; conv => lhs; whnf) | apply o_non rfl)); apply o_end; (repeat (first | exact OutS.nil | exact GetS.hit | exact PutS.hit | apply GetS.miss rfl | apply PutS.miss rfl | apply OutS.cons | apply OutS.skip rfl)))
    ((repeat refine c_seq ?_); refine c_region ?_; (repeat (first | ((first | apply o_move rfl rfl | apply o_easy1 rfl rfl rfl | apply o_ld rfl rfl (by assumption) (by first | rfl | assumption)); conv => lhs; whnf) | apply o_no rfl | refine o_b rfl rfl rfl (by constructor; omega) ?_ | refine o_f rfl rfl rfl (by constructor; omega) ?_ | refine o_s rfl rfl rfl (by constructor; first | omega | assumption) ?_ | refine o_t rfl rfl rfl (by constructor; assumption) ?_ | (apply o_easy rfl rfl rfl; conv => lhs; whnf) | apply o_non rfl)); apply o_end; (repeat (first | exact OutS.nil | exact GetS.hit | exact PutS.hit | apply GetS.miss rfl | apply PutS.miss rfl | apply OutS.cons | apply OutS.skip rfl)))
    ((repeat refine c_seq ?_); refine c_region ?_; (repeat (first | ((first | apply o_move rfl rfl | apply o_easy1 rfl rfl rfl | apply o_ld rfl rfl (by assumption) (by first | rfl | assumption)); conv => lhs; whnf) | apply o_no rfl | refine o_b rfl rfl rfl (by constructor; omega) ?_ | refine o_f rfl rfl rfl (by constructor; omega) ?_ | refine o_s rfl rfl rfl (by constructor; first | omega | assumption) ?_ | refine o_t rfl rfl rfl (by constructor; assumption) ?_ | (apply o_easy rfl rfl rfl; conv => lhs; whnf) | apply o_non rfl)))
    refine o_app_none rfl rfl (.inl rfl) rfl rfl rfl ?_
    (repeat (first | ((first | apply o_move rfl rfl | apply o_easy1 rfl rfl rfl | apply o_ld rfl rfl (by assumption) (by first | rfl | assumption)); conv => lhs; whnf) | apply o_no rfl | refine o_b rfl rfl rfl (by constructor; omega) ?_ | refine o_f rfl rfl rfl (by constructor; omega) ?_ | refine o_s rfl rfl rfl (by constructor; first | omega | assumption) ?_ | refine o_t rfl rfl rfl (by constructor; assumption) ?_ | (apply o_easy rfl rfl rfl; conv => lhs; whnf) | apply o_non rfl))
    (apply o_end; (repeat (first | exact OutS.nil | exact GetS.hit | exact PutS.hit | apply GetS.miss rfl | apply PutS.miss rfl | apply OutS.cons | apply OutS.skip rfl)))
    ((repeat refine c_seq ?_); refine c_region ?_; (repeat (first | ((first | apply o_move rfl rfl | apply o_easy1 rfl rfl rfl | apply o_ld rfl rfl (by assumption) (by first | rfl | assumption)); conv => lhs; whnf) | apply o_no rfl | refine o_b rfl rfl rfl (by constructor; omega) ?_ | refine o_f rfl rfl rfl (by constructor; omega) ?_ | refine o_s rfl rfl rfl (by constructor; first | omega | assumption) ?_ | refine o_t rfl rfl rfl (by constructor; assumption) ?_ | (apply o_easy rfl rfl rfl; conv => lhs; whnf) | apply o_non rfl)); apply o_end; (repeat (first | exact OutS.nil | exact GetS.hit | exact PutS.hit | apply GetS.miss rfl | apply PutS.miss rfl | apply OutS.cons | apply OutS.skip rfl)))
    ((repeat refine c_seq ?_); refine c_region ?_; (repeat (first | ((first | apply o_move rfl rfl | apply o_easy1 rfl rfl rfl | apply o_ld rfl rfl (by assumption) (by first | rfl | assumption)); conv => lhs; whnf) | apply o_no rfl | refine o_b rfl rfl rfl (by constructor; omega) ?_ | refine o_f rfl rfl rfl (by constructor; omega) ?_ | refine o_s rfl rfl rfl (by constructor; first | omega | assumption) ?_ | refine o_t rfl rfl rfl (by constructor; assumption) ?_ | (apply o_easy rfl rfl rfl; conv => lhs; whnf) | apply o_non rfl)); apply o_end; (repeat (first | exact OutS.nil | exact GetS.hit | exact PutS.hit | apply GetS.miss rfl | apply PutS.miss rfl | apply OutS.cons | apply OutS.skip rfl)))
    ((repeat refine c_seq ?_); refine c_else rfl ?_)
    refine c_skip ?_
    ((repeat refine c_seq ?_); refine c_region ?_; (repeat (first | ((first | apply o_move rfl rfl | apply o_easy1 rfl rfl rfl | apply o_ld rfl rfl (by assumption) (by first | rfl | assumption)); conv => lhs; whnf) | apply o_no rfl | refine o_b rfl rfl rfl (by constructor; omega) ?_ | refine o_f rfl rfl rfl (by constructor; omega) ?_ | refine o_s rfl rfl rfl (by constructor; first | omega | assumption) ?_ | refine o_t rfl rfl rfl (by constructor; assumption) ?_ | (apply o_easy rfl rfl rfl; conv => lhs; whnf) | apply o_non rfl)))
    refine o_bms1 (cs := (Tp.lit u).cells) rfl rfl (stored_av _) rfl ?_
    refine o_app_nil rfl rfl rfl (elems_one (getCells_new _ _ _) rfl) rfl (by simp) rfl ?_
    (repeat (first | ((first | apply o_move rfl rfl | apply o_easy1 rfl rfl rfl | apply o_ld rfl rfl (by assumption) (by first | rfl | assumption)); conv => lhs; whnf) | apply o_no rfl | refine o_b rfl rfl rfl (by constructor; omega) ?_ | refine o_f rfl rfl rfl (by constructor; omega) ?_ | refine o_s rfl rfl rfl (by constructor; first | omega | assumption) ?_ | refine o_t rfl rfl rfl (by constructor; assumption) ?_ | (apply o_easy rfl rfl rfl; conv => lhs; whnf) | apply o_non rfl))
    (apply o_end; (repeat (first | exact OutS.nil | exact GetS.hit | exact PutS.hit | apply GetS.miss rfl | apply PutS.miss rfl | apply OutS.cons | apply OutS.skip rfl)))
    refine c_ret ⟨_, _, rfl, _, _, _, rfl, ?_, getCells_new _ _ _, ?_, ?_, ?_⟩
    · simp only [Sg.push_len]; omega
    · exact ⟨(Tp.lit u).cells, [], by simp [flatAll, AV.flat], by simp only [CellR, Tp.cells], by simp only [RowR]⟩
    · intro j hj
      rw [Sg.push_get _ _ (by simp only [Sg.push_len]; omega), Sg.push_get _ _ hj]
    · simp only [Sg.push_len]; omega
  · rcases last_cases l with rfl | ⟨l0, q, rfl⟩
    · -- a row of nothing
      simp only [RowR] at hr
      subst hr
      rw [addM_nil]
      (apply f_wp rfl rfl; (repeat (first | exact Shape.nil | (apply Shape.cons; conv => lhs; whnf))))
      ((repeat refine c_seq ?_); refine c_region ?_; (repeat (first | ((first | apply o_move rfl rfl | apply o_easy1 rfl rfl rfl | apply o_ld rfl rfl (by assumption) (by first | rfl | assumption)); conv => lhs; whnf) | apply o_no rfl | refine o_b rfl rfl rfl (by constructor; omega) ?_ | refine o_f rfl rfl rfl (by constructor; omega) ?_ | refine o_s rfl rfl rfl (by constructor; first | omega | assumption) ?_ | refine o_t rfl rfl rfl (by constructor; assumption) ?_ | (apply o_easy rfl rfl rfl; conv => lhs; whnf) | apply o_non rfl)); apply o_end; (repeat (first | exact OutS.nil | exact GetS.hit | exact PutS.hit | apply GetS.miss rfl | apply PutS.miss rfl | apply OutS.cons | apply OutS.skip rfl)))
      ((repeat refine c_seq ?_); refine c_region ?_; (repeat (first | ((first | apply o_move rfl rfl | apply o_easy1 rfl rfl rfl | apply o_ld rfl rfl (by assumption) (by first | rfl | assumption)); conv => lhs; whnf) | apply o_no rfl | refine o_b rfl rfl rfl (by constructor; omega) ?_ | refine o_f rfl rfl rfl (by constructor; omega) ?_ | refine o_s rfl rfl rfl (by constructor; first | omega | assumption) ?_ | refine o_t rfl rfl rfl (by constructor; assumption) ?_ | (apply o_easy rfl rfl rfl; conv => lhs; whnf) | apply o_non rfl)); apply o_end; (repeat (first | exact OutS.nil | exact GetS.hit | exact PutS.hit | apply GetS.miss rfl | apply PutS.miss rfl | apply OutS.cons | apply OutS.skip rfl)))
      ((repeat refine c_seq ?_); refine c_region ?_; (repeat (first | ((first | apply o_move rfl rfl | apply o_easy1 rfl rfl rfl | apply o_ld rfl rfl (by assumption) (by first | rfl | assumption)); conv => lhs; whnf) | apply o_no rfl | refine o_b rfl rfl rfl (by constructor; omega) ?_ | refine o_f rfl rfl rfl (by constructor; omega) ?_ | refine o_s rfl rfl rfl (by constructor; first | omega | assumption) ?_ | refine o_t rfl rfl rfl (by constructor; assumption) ?_ | (apply o_easy rfl rfl rfl; conv => lhs; whnf) | apply o_non rfl)))
      refine o_app_none rfl rfl (.inl rfl) rfl (elems_ms hc rfl) rfl ?_
      (repeat (first | ((first | apply o_move rfl rfl | apply o_easy1 rfl rfl rfl | apply o_ld rfl rfl (by assumption) (by first | rfl | assumption)); conv => lhs; whnf) | apply o_no rfl | refine o_b rfl rfl rfl (by constructor; omega) ?_ | refine o_f rfl rfl rfl (by constructor; omega) ?_ | refine o_s rfl rfl rfl (by constructor; first | omega | assumption) ?_ | refine o_t rfl rfl rfl (by constructor; assumption) ?_ | (apply o_easy rfl rfl rfl; conv => lhs; whnf) | apply o_non rfl))
      (apply o_end; (repeat (first | exact OutS.nil | exact GetS.hit | exact PutS.hit | apply GetS.miss rfl | apply PutS.miss rfl | apply OutS.cons | apply OutS.skip rfl)))
      ((repeat refine c_seq ?_); refine c_region ?_; (repeat (first | ((first | apply o_move rfl rfl | apply o_easy1 rfl rfl rfl | apply o_ld rfl rfl (by assumption) (by first | rfl | assumption)); conv => lhs; whnf) | apply o_no rfl | refine o_b rfl rfl rfl (by constructor; omega) ?_ | refine o_f rfl rfl rfl (by constructor; omega) ?_ | refine o_s rfl rfl rfl (by constructor; first | omega | assumption) ?_ | refine o_t rfl rfl rfl (by constructor; assumption) ?_ | (apply o_easy rfl rfl rfl; conv => lhs; whnf) | apply o_non rfl)); apply o_end; (repeat (first | exact OutS.nil | exact GetS.hit | exact PutS.hit | apply GetS.miss rfl | apply PutS.miss rfl | apply OutS.cons | apply OutS.skip rfl)))
      ((repeat refine c_seq ?_); refine c_region ?_; (repeat (first | ((first | apply o_move rfl rfl | apply o_easy1 rfl rfl rfl | apply o_ld rfl rfl (by assumption) (by first | rfl | assumption)); conv => lhs; whnf) | apply o_no rfl | refine o_b rfl rfl rfl (by constructor; omega) ?_ | refine o_f rfl rfl rfl (by constructor; omega) ?_ | refine o_s rfl rfl rfl (by constructor; first | omega | assumption) ?_ | refine o_t rfl rfl rfl (by constructor; assumption) ?_ | (apply o_easy rfl rfl rfl; conv => lhs; whnf) | apply o_non rfl)); apply o_end; (repeat (first | exact OutS.nil | exact GetS.hit | exact PutS.hit | apply GetS.miss rfl | apply PutS.miss rfl | apply OutS.cons | apply OutS.skip rfl)))
      ((repeat refine c_seq ?_); refine c_else rfl ?_)
      refine c_skip ?_
      ((repeat refine c_seq ?_); refine c_region ?_; (repeat (first | ((first | apply o_move rfl rfl | apply o_easy1 rfl rfl rfl | apply o_ld rfl rfl (by assumption) (by first | rfl | assumption)); conv => lhs; whnf) | apply o_no rfl | refine o_b rfl rfl rfl (by constructor; omega) ?_ | refine o_f rfl rfl rfl (by constructor; omega) ?_ | refine o_s rfl rfl rfl (by constructor; first | omega | assumption) ?_ | refine o_t rfl rfl rfl (by constructor; assumption) ?_ | (apply o_easy rfl rfl rfl; conv => lhs; whnf) | apply o_non rfl)))
      refine o_bms1 (cs := (Tp.lit u).cells) rfl rfl (stored_av _) rfl ?_
      refine o_app_nil rfl rfl rfl (elems_one (getCells_new _ _ _) rfl) rfl (by simp) rfl ?_
      (repeat (first | ((first | apply o_move rfl rfl | apply o_easy1 rfl rfl rfl | apply o_ld rfl rfl (by assumption) (by first | rfl | assumption)); conv => lhs; whnf) | apply o_no rfl | refine o_b rfl rfl rfl (by constructor; omega) ?_ | refine o_f rfl rfl rfl (by constructor; omega) ?_ | refine o_s rfl rfl rfl (by constructor; first | omega | assumption) ?_ | refine o_t rfl rfl rfl (by constructor; assumption) ?_ | (apply o_easy rfl rfl rfl; conv => lhs; whnf) | apply o_non rfl))
      (apply o_end; (repeat (first | exact OutS.nil | exact GetS.hit | exact PutS.hit | apply GetS.miss rfl | apply PutS.miss rfl | apply OutS.cons | apply OutS.skip rfl)))
      refine c_ret ⟨_, _, rfl, _, _, _, rfl, ?_, getCells_new _ _ _, ?_, ?_, ?_⟩
      · simp only [Sg.push_len]; omega
      · exact ⟨(Tp.lit u).cells, [], by simp [flatAll, AV.flat], by simp only [CellR, Tp.cells], by simp only [RowR]⟩
      · intro j hj
        rw [Sg.push_get _ _ (by simp only [Sg.push_len]; omega), Sg.push_get _ _ hj]
      · simp only [Sg.push_len]; omega
    · obtain ⟨hrl, es, e1, e2, e3, e4, e5⟩ := hr.facts
      have hlen : (l0 ++ [q]).length = l0.length + 1 := by simp
      have hne : es ≠ [] := fun e => by rw [e] at e5; simp at e5
      obtain ⟨r0, c, rfl, hr0, hcq⟩ := RowR.last hr
      obtain ⟨k1, k2, k3, _, k5, k6⟩ := hcq.facts
      have hr0l := hr0.facts.1
      have hc1 := getCells_new s (r0 ++ c) 0
      have hk2 : partOf (r0 ++ c) (0 + l0.length * 5 + 0) none = some (.int .i64 q.kind) := by
        show (r0 ++ c)[0 + l0.length * 5 + 0]? = _
        rw [List.getElem?_append_right (by omega), show 0 + l0.length * 5 + 0 - r0.length = 0 by omega]
        exact k2
      by_cases hql : q.kind = 1
      · cases q with
        | lit t =>
          rw [addM_lit]
          have htl : t.length < 2 ^ 40 := hq (.lit t) (by simp)
          simp only [CellR] at hcq
          subst hcq
          have hk3 : partOf (r0 ++ [AV.int .i64 1, .str t, .int .i64 0, .nilsl, .nilsl]) (0 + l0.length * 5 + 1) none = some (.str t) := by
            show (r0 ++ _)[0 + l0.length * 5 + 1]? = _
            rw [List.getElem?_append_right (by omega), show 0 + l0.length * 5 + 1 - r0.length = 1 by omega]
            rfl
          have hwr : writeAt (r0 ++ [AV.int .i64 1, .str t, .int .i64 0, .nilsl, .nilsl]) (0 + l0.length * 5 + 1) [.str (t ++ u)] = some (r0 ++ [AV.int .i64 1, .str (t ++ u), .int .i64 0, .nilsl, .nilsl]) := by
            have f1 : r0 ++ [AV.int .i64 1, .str t, .int .i64 0, .nilsl, .nilsl] = (r0 ++ [AV.int .i64 1]) ++ ([AV.str t] ++ [.int .i64 0, .nilsl, .nilsl]) := by simp
            have f2 : r0 ++ [AV.int .i64 1, .str (t ++ u), .int .i64 0, .nilsl, .nilsl] = (r0 ++ [AV.int .i64 1]) ++ ([AV.str (t ++ u)] ++ [.int .i64 0, .nilsl, .nilsl]) := by simp
            have f3 : 0 + l0.length * 5 + 1 = (r0 ++ [AV.int .i64 1]).length := by simp; omega
            rw [f1, f2, f3]
            exact writeAt_in _ _ _ _ rfl
          (apply f_wp rfl rfl; (repeat (first | exact Shape.nil | (apply Shape.cons; conv => lhs; whnf))))
          ((repeat refine c_seq ?_); refine c_region ?_; (repeat (first | ((first | apply o_move rfl rfl | apply o_easy1 rfl rfl rfl | apply o_ld rfl rfl (by assumption) (by first | rfl | assumption)); conv => lhs; whnf) | apply o_no rfl | refine o_b rfl rfl rfl (by constructor; omega) ?_ | refine o_f rfl rfl rfl (by constructor; omega) ?_ | refine o_s rfl rfl rfl (by constructor; first | omega | assumption) ?_ | refine o_t rfl rfl rfl (by constructor; assumption) ?_ | (apply o_easy rfl rfl rfl; conv => lhs; whnf) | apply o_non rfl)); apply o_end; (repeat (first | exact OutS.nil | exact GetS.hit | exact PutS.hit | apply GetS.miss rfl | apply PutS.miss rfl | apply OutS.cons | apply OutS.skip rfl)))
          ((repeat refine c_seq ?_); refine c_region ?_; (repeat (first | ((first | apply o_move rfl rfl | apply o_easy1 rfl rfl rfl | apply o_ld rfl rfl (by assumption) (by first | rfl | assumption)); conv => lhs; whnf) | apply o_no rfl | refine o_b rfl rfl rfl (by constructor; omega) ?_ | refine o_f rfl rfl rfl (by constructor; omega) ?_ | refine o_s rfl rfl rfl (by constructor; first | omega | assumption) ?_ | refine o_t rfl rfl rfl (by constructor; assumption) ?_ | (apply o_easy rfl rfl rfl; conv => lhs; whnf) | apply o_non rfl)); apply o_end; (repeat (first | exact OutS.nil | exact GetS.hit | exact PutS.hit | apply GetS.miss rfl | apply PutS.miss rfl | apply OutS.cons | apply OutS.skip rfl)))
          ((repeat refine c_seq ?_); refine c_region ?_; (repeat (first | ((first | apply o_move rfl rfl | apply o_easy1 rfl rfl rfl | apply o_ld rfl rfl (by assumption) (by first | rfl | assumption)); conv => lhs; whnf) | apply o_no rfl | refine o_b rfl rfl rfl (by constructor; omega) ?_ | refine o_f rfl rfl rfl (by constructor; omega) ?_ | refine o_s rfl rfl rfl (by constructor; first | omega | assumption) ?_ | refine o_t rfl rfl rfl (by constructor; assumption) ?_ | (apply o_easy rfl rfl rfl; conv => lhs; whnf) | apply o_non rfl)))
          refine o_app_nil rfl rfl rfl (elems_ms hc e1) (by rw [Bool.and_eq_true]; exact ⟨e3, e4⟩) hne (ble_of (by rw [e5]; simp only [limit]; omega)) ?_
          rw [e5, e2]
          (repeat (first | ((first | apply o_move rfl rfl | apply o_easy1 rfl rfl rfl | apply o_ld rfl rfl (by assumption) (by first | rfl | assumption)); conv => lhs; whnf) | apply o_no rfl | refine o_b rfl rfl rfl (by constructor; omega) ?_ | refine o_f rfl rfl rfl (by constructor; omega) ?_ | refine o_s rfl rfl rfl (by constructor; first | omega | assumption) ?_ | refine o_t rfl rfl rfl (by constructor; assumption) ?_ | (apply o_easy rfl rfl rfl; conv => lhs; whnf) | apply o_non rfl))
          (apply o_end; (repeat (first | exact OutS.nil | exact GetS.hit | exact PutS.hit | apply GetS.miss rfl | apply PutS.miss rfl | apply OutS.cons | apply OutS.skip rfl)))
          ((repeat refine c_seq ?_); refine c_region ?_; (repeat (first | ((first | apply o_move rfl rfl | apply o_easy1 rfl rfl rfl | apply o_ld rfl rfl (by assumption) (by first | rfl | assumption)); conv => lhs; whnf) | apply o_no rfl | refine o_b rfl rfl rfl (by constructor; omega) ?_ | refine o_f rfl rfl rfl (by constructor; omega) ?_ | refine o_s rfl rfl rfl (by constructor; first | omega | assumption) ?_ | refine o_t rfl rfl rfl (by constructor; assumption) ?_ | (apply o_easy rfl rfl rfl; conv => lhs; whnf) | apply o_non rfl)); apply o_end; (repeat (first | exact OutS.nil | exact GetS.hit | exact PutS.hit | apply GetS.miss rfl | apply PutS.miss rfl | apply OutS.cons | apply OutS.skip rfl)))
          ((repeat refine c_seq ?_); refine c_region ?_; (repeat (first | ((first | apply o_move rfl rfl | apply o_easy1 rfl rfl rfl | apply o_ld rfl rfl (by assumption) (by first | rfl | assumption)); conv => lhs; whnf) | apply o_no rfl | refine o_b rfl rfl rfl (by constructor; omega) ?_ | refine o_f rfl rfl rfl (by constructor; omega) ?_ | refine o_s rfl rfl rfl (by constructor; first | omega | assumption) ?_ | refine o_t rfl rfl rfl (by constructor; assumption) ?_ | (apply o_easy rfl rfl rfl; conv => lhs; whnf) | apply o_non rfl)))
          refine o_ixms (j := l0.length) rfl rfl rfl (by omega) (by omega) hc1 rfl ?_
          (repeat (first | ((first | apply o_move rfl rfl | apply o_easy1 rfl rfl rfl | apply o_ld rfl rfl (by assumption) (by first | rfl | assumption)); conv => lhs; whnf) | apply o_no rfl | refine o_b rfl rfl rfl (by constructor; omega) ?_ | refine o_f rfl rfl rfl (by constructor; omega) ?_ | refine o_s rfl rfl rfl (by constructor; first | omega | assumption) ?_ | refine o_t rfl rfl rfl (by constructor; assumption) ?_ | (apply o_easy rfl rfl rfl; conv => lhs; whnf) | apply o_non rfl))
          (apply o_end; (repeat (first | exact OutS.nil | exact GetS.hit | exact PutS.hit | apply GetS.miss rfl | apply PutS.miss rfl | apply OutS.cons | apply OutS.skip rfl)))
          ((repeat refine c_seq ?_); refine c_if rfl ?_)
          ((repeat refine c_seq ?_); refine c_region ?_; (repeat (first | ((first | apply o_move rfl rfl | apply o_easy1 rfl rfl rfl | apply o_ld rfl rfl (by assumption) (by first | rfl | assumption)); conv => lhs; whnf) | apply o_no rfl | refine o_b rfl rfl rfl (by constructor; omega) ?_ | refine o_f rfl rfl rfl (by constructor; omega) ?_ | refine o_s rfl rfl rfl (by constructor; first | omega | assumption) ?_ | refine o_t rfl rfl rfl (by constructor; assumption) ?_ | (apply o_easy rfl rfl rfl; conv => lhs; whnf) | apply o_non rfl)))
          refine o_ixms (j := l0.length) rfl rfl rfl (by omega) (by omega) hc1 rfl ?_
          (repeat (first | ((first | apply o_move rfl rfl | apply o_easy1 rfl rfl rfl | apply o_ld rfl rfl (by assumption) (by first | rfl | assumption)); conv => lhs; whnf) | apply o_no rfl | refine o_b rfl rfl rfl (by constructor; omega) ?_ | refine o_f rfl rfl rfl (by constructor; omega) ?_ | refine o_s rfl rfl rfl (by constructor; first | omega | assumption) ?_ | refine o_t rfl rfl rfl (by constructor; assumption) ?_ | (apply o_easy rfl rfl rfl; conv => lhs; whnf) | apply o_non rfl))
          refine o_ixms (j := l0.length) rfl rfl rfl (by omega) (by omega) hc1 rfl ?_
          (repeat (first | ((first | apply o_move rfl rfl | apply o_easy1 rfl rfl rfl | apply o_ld rfl rfl (by assumption) (by first | rfl | assumption)); conv => lhs; whnf) | apply o_no rfl | refine o_b rfl rfl rfl (by constructor; omega) ?_ | refine o_f rfl rfl rfl (by constructor; omega) ?_ | refine o_s rfl rfl rfl (by constructor; first | omega | assumption) ?_ | refine o_t rfl rfl rfl (by constructor; assumption) ?_ | (apply o_easy rfl rfl rfl; conv => lhs; whnf) | apply o_non rfl))
          refine o_st rfl rfl rfl rfl hc1 rfl rfl hwr ?_
          (apply o_end; (repeat (first | exact OutS.nil | exact GetS.hit | exact PutS.hit | apply GetS.miss rfl | apply PutS.miss rfl | apply OutS.cons | apply OutS.skip rfl)))
          ((repeat refine c_seq ?_); refine c_region ?_; (repeat (first | ((first | apply o_move rfl rfl | apply o_easy1 rfl rfl rfl | apply o_ld rfl rfl (by assumption) (by first | rfl | assumption)); conv => lhs; whnf) | apply o_no rfl | refine o_b rfl rfl rfl (by constructor; omega) ?_ | refine o_f rfl rfl rfl (by constructor; omega) ?_ | refine o_s rfl rfl rfl (by constructor; first | omega | assumption) ?_ | refine o_t rfl rfl rfl (by constructor; assumption) ?_ | (apply o_easy rfl rfl rfl; conv => lhs; whnf) | apply o_non rfl)); apply o_end; (repeat (first | exact OutS.nil | exact GetS.hit | exact PutS.hit | apply GetS.miss rfl | apply PutS.miss rfl | apply OutS.cons | apply OutS.skip rfl)))
          refine c_ret ⟨_, _, rfl, _, _, _, ?_, ?_, getCells_put hc1, ?_, ?_, ?_⟩
          · exact congrArg (fun n => Out.ret (AV.ms s.heap.length 0 0 n 5)) (by simp)
          · omega
          · refine RowR.snoc (by simp only [CellR]) (hr0.mono (fun i hi hl => ⟨hi, ?_⟩))
            rw [Sg.put_get _ _ _ (by omega), Sg.push_get _ _ hl]
          · intro j hj
            rw [Sg.put_get _ _ _ (by omega), Sg.push_get _ _ hj]
          · simp only [Sg.put_len, Sg.push_len]; omega
        | _ => simp [Tp.kind] at hql
      · rw [addM_other (by cases q <;> simp_all [Tp.kind, Tp.isLit])]
        (apply f_wp rfl rfl; (repeat (first | exact Shape.nil | (apply Shape.cons; conv => lhs; whnf))))
        ((repeat refine c_seq ?_); refine c_region ?_; (repeat (first | ((first | apply o_move rfl rfl | apply o_easy1 rfl rfl rfl | apply o_ld rfl rfl (by assumption) (by first | rfl | assumption)); conv => lhs; whnf) | apply o_no rfl | refine o_b rfl rfl rfl (by constructor; omega) ?_ | refine o_f rfl rfl rfl (by constructor; omega) ?_ | refine o_s rfl rfl rfl (by constructor; first | omega | assumption) ?_ | refine o_t rfl rfl rfl (by constructor; assumption) ?_ | (apply o_easy rfl rfl rfl; conv => lhs; whnf) | apply o_non rfl)); apply o_end; (repeat (first | exact OutS.nil | exact GetS.hit | exact PutS.hit | apply GetS.miss rfl | apply PutS.miss rfl | apply OutS.cons | apply OutS.skip rfl)))
        ((repeat refine c_seq ?_); refine c_region ?_; (repeat (first | ((first | apply o_move rfl rfl | apply o_easy1 rfl rfl rfl | apply o_ld rfl rfl (by assumption) (by first | rfl | assumption)); conv => lhs; whnf) | apply o_no rfl | refine o_b rfl rfl rfl (by constructor; omega) ?_ | refine o_f rfl rfl rfl (by constructor; omega) ?_ | refine o_s rfl rfl rfl (by constructor; first | omega | assumption) ?_ | refine o_t rfl rfl rfl (by constructor; assumption) ?_ | (apply o_easy rfl rfl rfl; conv => lhs; whnf) | apply o_non rfl)); apply o_end; (repeat (first | exact OutS.nil | exact GetS.hit | exact PutS.hit | apply GetS.miss rfl | apply PutS.miss rfl | apply OutS.cons | apply OutS.skip rfl)))
        ((repeat refine c_seq ?_); refine c_region ?_; (repeat (first | ((first | apply o_move rfl rfl | apply o_easy1 rfl rfl rfl | apply o_ld rfl rfl (by assumption) (by first | rfl | assumption)); conv => lhs; whnf) | apply o_no rfl | refine o_b rfl rfl rfl (by constructor; omega) ?_ | refine o_f rfl rfl rfl (by constructor; omega) ?_ | refine o_s rfl rfl rfl (by constructor; first | omega | assumption) ?_ | refine o_t rfl rfl rfl (by constructor; assumption) ?_ | (apply o_easy rfl rfl rfl; conv => lhs; whnf) | apply o_non rfl)))
        refine o_app_nil rfl rfl rfl (elems_ms hc e1) (by rw [Bool.and_eq_true]; exact ⟨e3, e4⟩) hne (ble_of (by rw [e5]; simp only [limit]; omega)) ?_
        rw [e5, e2]
        (repeat (first | ((first | apply o_move rfl rfl | apply o_easy1 rfl rfl rfl | apply o_ld rfl rfl (by assumption) (by first | rfl | assumption)); conv => lhs; whnf) | apply o_no rfl | refine o_b rfl rfl rfl (by constructor; omega) ?_ | refine o_f rfl rfl rfl (by constructor; omega) ?_ | refine o_s rfl rfl rfl (by constructor; first | omega | assumption) ?_ | refine o_t rfl rfl rfl (by constructor; assumption) ?_ | (apply o_easy rfl rfl rfl; conv => lhs; whnf) | apply o_non rfl))
        (apply o_end; (repeat (first | exact OutS.nil | exact GetS.hit | exact PutS.hit | apply GetS.miss rfl | apply PutS.miss rfl | apply OutS.cons | apply OutS.skip rfl)))
        ((repeat refine c_seq ?_); refine c_region ?_; (repeat (first | ((first | apply o_move rfl rfl | apply o_easy1 rfl rfl rfl | apply o_ld rfl rfl (by assumption) (by first | rfl | assumption)); conv => lhs; whnf) | apply o_no rfl | refine o_b rfl rfl rfl (by constructor; omega) ?_ | refine o_f rfl rfl rfl (by constructor; omega) ?_ | refine o_s rfl rfl rfl (by constructor; first | omega | assumption) ?_ | refine o_t rfl rfl rfl (by constructor; assumption) ?_ | (apply o_easy rfl rfl rfl; conv => lhs; whnf) | apply o_non rfl)); apply o_end; (repeat (first | exact OutS.nil | exact GetS.hit | exact PutS.hit | apply GetS.miss rfl | apply PutS.miss rfl | apply OutS.cons | apply OutS.skip rfl)))
        ((repeat refine c_seq ?_); refine c_region ?_; (repeat (first | ((first | apply o_move rfl rfl | apply o_easy1 rfl rfl rfl | apply o_ld rfl rfl (by assumption) (by first | rfl | assumption)); conv => lhs; whnf) | apply o_no rfl | refine o_b rfl rfl rfl (by constructor; omega) ?_ | refine o_f rfl rfl rfl (by constructor; omega) ?_ | refine o_s rfl rfl rfl (by constructor; first | omega | assumption) ?_ | refine o_t rfl rfl rfl (by constructor; assumption) ?_ | (apply o_easy rfl rfl rfl; conv => lhs; whnf) | apply o_non rfl)))
        refine o_ixms (j := l0.length) rfl rfl rfl (by omega) (by omega) hc1 rfl ?_
        (repeat (first | ((first | apply o_move rfl rfl | apply o_easy1 rfl rfl rfl | apply o_ld rfl rfl (by assumption) (by first | rfl | assumption)); conv => lhs; whnf) | apply o_no rfl | refine o_b rfl rfl rfl (by constructor; omega) ?_ | refine o_f rfl rfl rfl (by constructor; omega) ?_ | refine o_s rfl rfl rfl (by constructor; first | omega | assumption) ?_ | refine o_t rfl rfl rfl (by constructor; assumption) ?_ | (apply o_easy rfl rfl rfl; conv => lhs; whnf) | apply o_non rfl))
        (apply o_end; (repeat (first | exact OutS.nil | exact GetS.hit | exact PutS.hit | apply GetS.miss rfl | apply PutS.miss rfl | apply OutS.cons | apply OutS.skip rfl)))
        ((repeat refine c_seq ?_); refine c_else rfl ?_)
        refine c_skip ?_
        ((repeat refine c_seq ?_); refine c_region ?_; (repeat (first | ((first | apply o_move rfl rfl | apply o_easy1 rfl rfl rfl | apply o_ld rfl rfl (by assumption) (by first | rfl | assumption)); conv => lhs; whnf) | apply o_no rfl | refine o_b rfl rfl rfl (by constructor; omega) ?_ | refine o_f rfl rfl rfl (by constructor; omega) ?_ | refine o_s rfl rfl rfl (by constructor; first | omega | assumption) ?_ | refine o_t rfl rfl rfl (by constructor; assumption) ?_ | (apply o_easy rfl rfl rfl; conv => lhs; whnf) | apply o_non rfl)))
        refine o_bms1 (cs := (Tp.lit u).cells) rfl rfl (stored_av _) rfl ?_
        refine o_app_ms rfl rfl rfl (elems_one (getCells_new _ _ _) rfl) rfl (ble_of (by simp only [List.length_singleton, limit]; omega)) rfl rfl (getCells_push _ hc1) (beq_of hrl.symm) ?_
        (repeat (first | ((first | apply o_move rfl rfl | apply o_easy1 rfl rfl rfl | apply o_ld rfl rfl (by assumption) (by first | rfl | assumption)); conv => lhs; whnf) | apply o_no rfl | refine o_b rfl rfl rfl (by constructor; omega) ?_ | refine o_f rfl rfl rfl (by constructor; omega) ?_ | refine o_s rfl rfl rfl (by constructor; first | omega | assumption) ?_ | refine o_t rfl rfl rfl (by constructor; assumption) ?_ | (apply o_easy rfl rfl rfl; conv => lhs; whnf) | apply o_non rfl))
        (apply o_end; (repeat (first | exact OutS.nil | exact GetS.hit | exact PutS.hit | apply GetS.miss rfl | apply PutS.miss rfl | apply OutS.cons | apply OutS.skip rfl)))
        refine c_ret ⟨_, _, rfl, _, _, _, ?_, ?_, getCells_put (getCells_push _ hc1), ?_, ?_, ?_⟩
        · exact congrArg (fun n => Out.ret (AV.ms s.heap.length 1 0 n 5)) (by simp)
        · omega
        · refine RowR.snoc (by simp only [CellR, Tp.cells]; rfl) (hr.mono (fun i hi hl => ⟨hi, ?_⟩))
          rw [Sg.put_get _ _ _ (by omega), Sg.push_get _ _ (by simp only [Sg.push_len]; omega), Sg.push_get _ _ hl]
        · intro j hj
          rw [Sg.put_get _ _ _ (by omega), Sg.push_get _ _ (by simp only [Sg.push_len]; omega), Sg.push_get _ _ hj]
        · simp only [Sg.put_len, Sg.push_len]; omega


end Go.Tpl

namespace Go.Tpl
open Go Go.Am Go.Proofs

/-- the loop 0 of function 23 -/
def lp23_0 : ACode := .seq (.seq (.region [⟨(some 26), .v (.move (.tmp 10)), none⟩, ⟨(some 27), .v (.fieldAddr 0 none (.tmp 3)), none⟩, ⟨(some 28), .v (.load none (.tmp 27)), none⟩, ⟨(some 29), .v (.len 0 (.tmp 28)), none⟩, ⟨(some 30), .v (.bin .lss (.tmp 26) (.tmp 29)), none⟩, ⟨(some 31), .v (.move (.tmp 30)), none⟩, ⟨(some 32), .v (.move (.tmp 10)), (some (31, true))⟩, ⟨(some 33), .v (.move (.tmp 8)), (some (31, true))⟩, ⟨(some 34), .v (.bin .add (.tmp 33) (.const (.int .i64 2))), (some (31, true))⟩, ⟨(some 35), .v (.bin .lss (.tmp 32) (.tmp 34)), (some (31, true))⟩, ⟨(some 36), .v (.pick (.tmp 31) (.tmp 35) (.const (.bool false))), none⟩, ⟨(some 37), .v (.move (.tmp 36)), none⟩, ⟨(some 38), .v (.fieldAddr 0 none (.tmp 3)), (some (37, true))⟩, ⟨(some 39), .v (.load none (.tmp 38)), (some (37, true))⟩, ⟨(some 40), .v (.move (.tmp 10)), (some (37, true))⟩, ⟨(some 41), .v (.indexS (.tmp 39) (.tmp 40)), (some (37, true))⟩, ⟨(some 42), .call 29 [(.tmp 41)], (some (37, true))⟩, ⟨(some 43), .v (.pick (.tmp 37) (.tmp 42) (.const (.bool false))), none⟩] [43]) (.cond (.tmp 43) (.skip) (.exit 0))) (.block 1 (.seq (.region [⟨(some 44), .v (.move (.tmp 9)), none⟩, ⟨(some 45), .v (.bin .mul (.tmp 44) (.const (.int .i64 10))), none⟩, ⟨(some 46), .v (.fieldAddr 0 none (.tmp 3)), none⟩, ⟨(some 47), .v (.load none (.tmp 46)), none⟩, ⟨(some 48), .v (.move (.tmp 10)), none⟩, ⟨(some 49), .v (.indexS (.tmp 47) (.tmp 48)), none⟩, ⟨(some 50), .v (.conv (.intInt .i64) (.tmp 49)), none⟩, ⟨(some 51), .v (.bin .add (.tmp 45) (.tmp 50)), none⟩, ⟨(some 52), .v (.bin .sub (.tmp 51) (.const (.int .i64 48))), none⟩, ⟨(some 9), .v (.move (.tmp 52)), none⟩] [9]) (.region [⟨(some 53), .v (.move (.tmp 10)), none⟩, ⟨(some 54), .v (.bin .add (.tmp 53) (.const (.int .i64 1))), none⟩, ⟨(some 10), .v (.move (.tmp 54)), none⟩] [10])))

/-- the slots of the reference's dollar -/
abbrev fr23 (t : List UInt8) (gr : Int) (at' d X R Bd : Nat) (x8 x24 x10 x43 x9 x63 x11 x78 x12 x89 x91 x13 x14 x15 x105 x112 x120 x16 x129 x139 : AV) : Fr :=
  ⟨[(0, .agg (tx t gr)), (1, .int .i64 at'), (2, .int .i64 d), (6, .ptr R 0 0), (3, .ptr X 0 0), (8, x8), (24, x24), (10, x10), (43, x43), (9, x9), (63, x63), (7, .ptr Bd 0 0), (11, x11), (78, x78), (12, x12), (89, x89), (91, x91), (13, x13), (14, x14), (15, x15), (105, x105), (112, x112), (120, x120), (16, x16), (129, x129), (139, x139)], [], .off⟩

theorem num23_loop (m : Nat) (t : List UInt8) (gr : Int) (at' d X R Bd fr0 : Nat) (s : Sg) (hbx : getCells s.heap X 0 = some (tx t gr)) (ht : t.length < 2 ^ 40) {Q : Ex → Fr → Sg → Prop} :
    ∀ (k L : Nat) (i n : Nat) (x : AV), k + 1 ≤ L → i + k = fr0 + 2 → k ≤ 2 → i ≤ t.length → n < 10 ^ (2 - k) →
    Q (.exit 0) (fr23 t gr at' d X R Bd (.int .i64 fr0) (.bool true) (.int .i64 (numM t k i n).2) (.bool false) (.int .i64 (numM t k i n).1) .undef .undef .undef .undef .undef .undef .undef .undef .undef .undef .undef .undef .undef .undef .undef) s →
    OkL L (fun fr s => ACode.run (loopN (m + 1)) (callF T (m + 1)) bb lp23_0 fr s) (fr23 t gr at' d X R Bd (.int .i64 fr0) (.bool true) (.int .i64 i) x (.int .i64 n) .undef .undef .undef .undef .undef .undef .undef .undef .undef .undef .undef .undef .undef .undef .undef) s Q := by
  intro k
  induction k with
  | zero =>
    intro L i n x hL hi hk hit hn hq
    obtain ⟨L, rfl⟩ : ∃ L', L = L' + 1 := ⟨L - 1, by omega⟩
    simp only [numM] at hq
    apply l_round
    by_cases h1 : i < t.length
    · ((repeat refine c_seq ?_); refine c_region ?_; (repeat (first | ((first | apply o_move rfl rfl | apply o_easy1 rfl rfl rfl | apply o_ld rfl rfl (by assumption) (by first | rfl | assumption)); conv => lhs; whnf) | apply o_no rfl | refine o_b rfl rfl rfl (by constructor; omega) ?_ | refine o_f rfl rfl rfl (by constructor; omega) ?_ | refine o_s rfl rfl rfl (by constructor; first | omega | assumption) ?_ | refine o_t rfl rfl rfl (by constructor; assumption) ?_ | (apply o_easy rfl rfl rfl; conv => lhs; whnf) | apply o_non rfl)); apply o_end; (repeat (first | exact OutS.nil | exact GetS.hit | exact PutS.hit | apply GetS.miss rfl | apply PutS.miss rfl | apply OutS.cons | apply OutS.skip rfl)))
      ((repeat refine c_seq ?_); refine c_else rfl ?_)
      exact c_exit hq
    · ((repeat refine c_seq ?_); refine c_region ?_; (repeat (first | ((first | apply o_move rfl rfl | apply o_easy1 rfl rfl rfl | apply o_ld rfl rfl (by assumption) (by first | rfl | assumption)); conv => lhs; whnf) | apply o_no rfl | refine o_b rfl rfl rfl (by constructor; omega) ?_ | refine o_f rfl rfl rfl (by constructor; omega) ?_ | refine o_s rfl rfl rfl (by constructor; first | omega | assumption) ?_ | refine o_t rfl rfl rfl (by constructor; assumption) ?_ | (apply o_easy rfl rfl rfl; conv => lhs; whnf) | apply o_non rfl)); apply o_end; (repeat (first | exact OutS.nil | exact GetS.hit | exact PutS.hit | apply GetS.miss rfl | apply PutS.miss rfl | apply OutS.cons | apply OutS.skip rfl)))
      ((repeat refine c_seq ?_); refine c_else rfl ?_)
      exact c_exit hq
  | succ k ih =>
    intro L i n x hL hi hk hit hn hq
    obtain ⟨L, rfl⟩ : ∃ L', L = L' + 1 := ⟨L - 1, by omega⟩
    apply l_round
    cases hc : t[i]? with
    | none =>
      have h1 : t.length ≤ i := by simpa using hc
      simp only [numM, hc] at hq
      ((repeat refine c_seq ?_); refine c_region ?_; (repeat (first | ((first | apply o_move rfl rfl | apply o_easy1 rfl rfl rfl | apply o_ld rfl rfl (by assumption) (by first | rfl | assumption)); conv => lhs; whnf) | apply o_no rfl | refine o_b rfl rfl rfl (by constructor; omega) ?_ | refine o_f rfl rfl rfl (by constructor; omega) ?_ | refine o_s rfl rfl rfl (by constructor; first | omega | assumption) ?_ | refine o_t rfl rfl rfl (by constructor; assumption) ?_ | (apply o_easy rfl rfl rfl; conv => lhs; whnf) | apply o_non rfl)); apply o_end; (repeat (first | exact OutS.nil | exact GetS.hit | exact PutS.hit | apply GetS.miss rfl | apply PutS.miss rfl | apply OutS.cons | apply OutS.skip rfl)))
      ((repeat refine c_seq ?_); refine c_else rfl ?_)
      exact c_exit hq
    | some c =>
      have h1 : i < t.length := lt_of_getElem? hc
      cases hd : isDig c with
      | false =>
        simp only [numM, hc, hd, Bool.false_eq_true, if_false] at hq
        ((repeat refine c_seq ?_); refine c_region ?_; (repeat (first | ((first | apply o_move rfl rfl | apply o_easy1 rfl rfl rfl | apply o_ld rfl rfl (by assumption) (by first | rfl | assumption)); conv => lhs; whnf) | apply o_no rfl | refine o_b rfl rfl rfl (by constructor; omega) ?_ | refine o_f rfl rfl rfl (by constructor; omega) ?_ | refine o_s rfl rfl rfl (by constructor; first | omega | assumption) ?_ | refine o_t rfl rfl rfl (by constructor; assumption) ?_ | (apply o_easy rfl rfl rfl; conv => lhs; whnf) | apply o_non rfl)))
        refine o_idxS (j := i) rfl rfl rfl rfl hc ?_
        refine o_call rfl rfl (dig29_spec m _ c s) ?_
        rw [hd]
        (repeat (first | ((first | apply o_move rfl rfl | apply o_easy1 rfl rfl rfl | apply o_ld rfl rfl (by assumption) (by first | rfl | assumption)); conv => lhs; whnf) | apply o_no rfl | refine o_b rfl rfl rfl (by constructor; omega) ?_ | refine o_f rfl rfl rfl (by constructor; omega) ?_ | refine o_s rfl rfl rfl (by constructor; first | omega | assumption) ?_ | refine o_t rfl rfl rfl (by constructor; assumption) ?_ | (apply o_easy rfl rfl rfl; conv => lhs; whnf) | apply o_non rfl))
        (apply o_end; (repeat (first | exact OutS.nil | exact GetS.hit | exact PutS.hit | apply GetS.miss rfl | apply PutS.miss rfl | apply OutS.cons | apply OutS.skip rfl)))
        ((repeat refine c_seq ?_); refine c_else rfl ?_)
        exact c_exit hq
      | true =>
        simp only [numM, hc, hd, if_true] at hq
        ((repeat refine c_seq ?_); refine c_region ?_; (repeat (first | ((first | apply o_move rfl rfl | apply o_easy1 rfl rfl rfl | apply o_ld rfl rfl (by assumption) (by first | rfl | assumption)); conv => lhs; whnf) | apply o_no rfl | refine o_b rfl rfl rfl (by constructor; omega) ?_ | refine o_f rfl rfl rfl (by constructor; omega) ?_ | refine o_s rfl rfl rfl (by constructor; first | omega | assumption) ?_ | refine o_t rfl rfl rfl (by constructor; assumption) ?_ | (apply o_easy rfl rfl rfl; conv => lhs; whnf) | apply o_non rfl)))
        refine o_idxS (j := i) rfl rfl rfl rfl hc ?_
        refine o_call rfl rfl (dig29_spec m _ c s) ?_
        rw [hd]
        (repeat (first | ((first | apply o_move rfl rfl | apply o_easy1 rfl rfl rfl | apply o_ld rfl rfl (by assumption) (by first | rfl | assumption)); conv => lhs; whnf) | apply o_no rfl | refine o_b rfl rfl rfl (by constructor; omega) ?_ | refine o_f rfl rfl rfl (by constructor; omega) ?_ | refine o_s rfl rfl rfl (by constructor; first | omega | assumption) ?_ | refine o_t rfl rfl rfl (by constructor; assumption) ?_ | (apply o_easy rfl rfl rfl; conv => lhs; whnf) | apply o_non rfl))
        (apply o_end; (repeat (first | exact OutS.nil | exact GetS.hit | exact PutS.hit | apply GetS.miss rfl | apply PutS.miss rfl | apply OutS.cons | apply OutS.skip rfl)))
        ((repeat refine c_seq ?_); refine c_if rfl ?_)
        refine c_skip ?_
        ((repeat refine c_seq ?_); refine c_block ?_)
        have hn3 : n < 1000 := by
          have h3 : 10 ^ (2 - (k + 1)) ≤ 10 ^ 3 := Nat.pow_le_pow_right (by omega) (by omega)
          omega
        have hcs : c.toNat < 256 := c.toNat_lt
        have hd' := hd
        simp only [isDig, Bool.and_eq_true, decide_eq_true_eq] at hd'
        ((repeat refine c_seq ?_); refine c_region ?_; (repeat (first | ((first | apply o_move rfl rfl | apply o_easy1 rfl rfl rfl | apply o_ld rfl rfl (by assumption) (by first | rfl | assumption)); conv => lhs; whnf) | apply o_no rfl | refine o_b rfl rfl rfl (by constructor; omega) ?_ | refine o_f rfl rfl rfl (by constructor; omega) ?_ | refine o_s rfl rfl rfl (by constructor; first | omega | assumption) ?_ | refine o_t rfl rfl rfl (by constructor; assumption) ?_ | (apply o_easy rfl rfl rfl; conv => lhs; whnf) | apply o_non rfl)))
        refine o_idxS (j := i) rfl rfl rfl rfl hc ?_
        refine o_convi rfl rfl (wrap_i64 (by omega) (by omega)) ?_
        (repeat (first | ((first | apply o_move rfl rfl | apply o_easy1 rfl rfl rfl | apply o_ld rfl rfl (by assumption) (by first | rfl | assumption)); conv => lhs; whnf) | apply o_no rfl | refine o_b rfl rfl rfl (by constructor; omega) ?_ | refine o_f rfl rfl rfl (by constructor; omega) ?_ | refine o_s rfl rfl rfl (by constructor; first | omega | assumption) ?_ | refine o_t rfl rfl rfl (by constructor; assumption) ?_ | (apply o_easy rfl rfl rfl; conv => lhs; whnf) | apply o_non rfl))
        (apply o_end; (repeat (first | exact OutS.nil | exact GetS.hit | exact PutS.hit | apply GetS.miss rfl | apply PutS.miss rfl | apply OutS.cons | apply OutS.skip rfl)))
        ((repeat refine c_seq ?_); refine c_region ?_; (repeat (first | ((first | apply o_move rfl rfl | apply o_easy1 rfl rfl rfl | apply o_ld rfl rfl (by assumption) (by first | rfl | assumption)); conv => lhs; whnf) | apply o_no rfl | refine o_b rfl rfl rfl (by constructor; omega) ?_ | refine o_f rfl rfl rfl (by constructor; omega) ?_ | refine o_s rfl rfl rfl (by constructor; first | omega | assumption) ?_ | refine o_t rfl rfl rfl (by constructor; assumption) ?_ | (apply o_easy rfl rfl rfl; conv => lhs; whnf) | apply o_non rfl)); apply o_end; (repeat (first | exact OutS.nil | exact GetS.hit | exact PutS.hit | apply GetS.miss rfl | apply PutS.miss rfl | apply OutS.cons | apply OutS.skip rfl)))
        have hp : n * 10 + (c.toNat - 48) < 10 ^ (2 - k) := by
          have e : 2 - k = (2 - (k + 1)) + 1 := by omega
          rw [e, Nat.pow_succ]
          omega
        have hx := ih L (i + 1) (n * 10 + (c.toNat - 48)) (.bool true) (by omega) (by omega) (by omega) (by omega) hp hq
        have e7 : ((n * 10 + (c.toNat - 48) : Nat) : Int) = (n : Int) * 10 + c.toNat - 48 := by omega
        rw [e7] at hx
        exact hx

/-- where parts end, as the reference tells it -/
def endsB (br co : Bool) : List UInt8 := if br then (if co then [58, 125] else [125]) else []

abbrev gz : List AV := [.nilsl, .int .i64 0, .bool false, .int .i64 0]
abbrev gbad (a : Nat) : List AV := [.nilsl, .int .i64 0, .bool true, .int .i64 a]

/-- what was there ahead of a call is as it was -/
structure Old (s s' : Sg) : Prop where
  len : s.heap.length ≤ s'.heap.length
  old : ∀ j, j < s.heap.length → s'.heap[j]? = s.heap[j]?

theorem Old.refl (s : Sg) : Old s s := ⟨Nat.le_refl _, fun _ _ => rfl⟩
theorem Old.trans {a b c : Sg} (h : Old a b) (k : Old b c) : Old a c := ⟨Nat.le_trans h.len k.len, fun j hj => (k.old j (Nat.lt_of_lt_of_le hj h.len)).trans (h.old j hj)⟩
theorem Old.push {a b : Sg} (h : Old a b) (o : AObj) : Old a (b.push o) := ⟨by rw [Sg.push_len]; have := h.len; omega, fun j hj => (b.push_get o (Nat.lt_of_lt_of_le hj h.len)).trans (h.old j hj)⟩
theorem Old.put {a b : Sg} (h : Old a b) {i : Nat} (o : AObj) (hi : a.heap.length ≤ i) : Old a (b.put i o) := ⟨by rw [Sg.put_len]; exact h.len, fun j hj => (b.put_get i o (by omega)).trans (h.old j hj)⟩

/-- what the reference's parts leave -/
def RPQ (t : List UInt8) (s : Sg) : PRes → Out → Sg → Prop
  | .ok (l, j), o, s' => Old s s' ∧ j ≤ t.length ∧ ∃ v, o = .ret (.agg [v, .int .i64 j, .bool false, .int .i64 0]) ∧ ValR s'.heap (fun i => s.heap.length ≤ i) l v
  | .error a, o, s' => Old s s' ∧ o = .ret (.agg (gbad a))

/-- what the reference's dollar leaves -/
def RDQ (t : List UInt8) (s : Sg) : DRes → Out → Sg → Prop
  | .ok (p, j), o, s' => Old s s' ∧ j ≤ t.length ∧ ∃ c tl, o = .ret (.agg [.vec [.agg c] (.exact tl), .int .i64 j, .bool false, .int .i64 0]) ∧ CellR s'.heap (fun i => s.heap.length ≤ i) p c
  | .error a, o, s' => Old s s' ∧ o = .ret (.agg (gbad a))

def RPartsAt (t : List UInt8) (gr : Int) (n : Nat) (br co : Bool) (d i N : Nat) : Prop :=
  ∀ res, partsM t gr n (endsB br co) d i [] = some res → i ≤ t.length → ∀ m, N ≤ m → ∀ s,
    OkF (callF T m bb 15 [.agg (tx t gr), .int .i64 i, .bool br, .bool co, .int .i64 d] s) (RPQ t s res)
def RPartsOk (t : List UInt8) (gr : Int) (n : Nat) : Prop := ∀ br co d i, d ≤ 10 → (co = true → br = true) → ∃ N, RPartsAt t gr n br co d i N
def RDollarAt (t : List UInt8) (gr : Int) (n : Nat) (at' d N : Nat) : Prop :=
  ∀ res, dollarM t gr n at' d (at' + 1) = some res → at' + 1 ≤ t.length → stands t (at' + 1) [36] = false → ∀ m, N ≤ m → ∀ s,
    OkF (callF T m bb 23 [.agg (tx t gr), .int .i64 at', .int .i64 d] s) (RDQ t s res)

/-- dollar's own objects -/
structure RSt (t : List UInt8) (gr : Int) (at' : Nat) (s : Sg) (X R Bd : Nat) (s' : Sg) : Prop where
  old : Old s s'
  x : getCells s'.heap X 0 = some (tx t gr)
  r : getCells s'.heap R 0 = some gz
  bd : getCells s'.heap Bd 0 = some (gbad at')
  lo : s.heap.length ≤ X
  xr : X < R
  rb : R < Bd

theorem RSt.push {t gr at' s X R Bd s'} (h : RSt t gr at' s X R Bd s') (o : AObj) : RSt t gr at' s X R Bd (s'.push o) :=
  ⟨h.old.push o, getCells_push _ h.x, getCells_push _ h.r, getCells_push _ h.bd, h.lo, h.xr, h.rb⟩
theorem RSt.put {t gr at' s X R Bd s'} (h : RSt t gr at' s X R Bd s') {i : Nat} (o : AObj) (hi : Bd < i) : RSt t gr at' s X R Bd (s'.put i o) := by
  have := h.lo; have := h.xr; have := h.rb
  exact ⟨h.old.put o (by omega), getCells_put_ne (by omega) h.x, getCells_put_ne (by omega) h.r, getCells_put_ne (by omega) h.bd, h.lo, h.xr, h.rb⟩
theorem RSt.call {t gr at' s X R Bd s' s''} (h : RSt t gr at' s X R Bd s') (k : Old s' s'') : RSt t gr at' s X R Bd s'' :=
  ⟨h.old.trans k, getCells_at h.x (k.old _ (getCells_lt h.x)), getCells_at h.r (k.old _ (getCells_lt h.r)), getCells_at h.bd (k.old _ (getCells_lt h.bd)), h.lo, h.xr, h.rb⟩

theorem rdollar_end {callD : DeferFn} {t : List UInt8} {gr : Int} {at' : Nat} {s s' : Sg} {X R Bd : Nat} {pers : Env} {cs : List AV} {Q : Out → Sg → Prop} (h : RSt t gr at' s X R Bd s') (hp : (Env.get pers 6).def? = some (.ptr R 0 0)) (hl : cs.length = 4) (hq : Q (.ret (.agg cs)) (s'.put R (.cells cs 0))) :
    OkF (finish callD bb af23 s .ret ⟨pers, [], .off⟩ (s'.put R (.cells cs 0))) Q :=
  fin_ret (.inl rfl) (read_cell hp (getCells_put h.r) (partOf_all hl) read_nil) rfl hq

theorem ValR.one {h : List AObj} {A : Nat → Prop} {l : List Tp} {v : AV} (hv : ValR h A l v) : v.def? = some v ∧ v.stored = some [v] ∧ v.one = true ∧ v.kept = v := by
  rcases hv with ⟨_, rfl⟩ | ⟨i, g, rs, rfl, _⟩ <;> exact ⟨rfl, rfl, rfl, rfl⟩

theorem ValR.mono {h h' : List AObj} {A A' : Nat → Prop} (hA : ∀ i, A i → i < h.length → A' i ∧ h'[i]? = h[i]?) {l : List Tp} {v : AV} (hv : ValR h A l v) : ValR h' A' l v := by
  rcases hv with hv | ⟨i, g, rs, e1, e2, e3, e4⟩
  · exact .inl hv
  · have := hA i e2 (getCells_lt e3)
    exact .inr ⟨i, g, rs, e1, this.1, getCells_at e3 this.2, RowR.mono hA e4⟩

/-- a row of one element of cells, that is never written -/
theorem o_bsl1 {call : CallFn} {b : Bar} {g : Option (Nat × Bool)} {r : List AOper} {loc : Env} {fr : Fr} {s : Sg} {Q : Ex → Env → Fr → Sg → Prop} {x : AOpd} {t sz : Nat} {z : AV} {cs : List AV} (hg : wantedA loc fr.pers g = some true) (hx : x.ev loc fr.pers = some (.agg cs)) (hs : (AV.agg cs).stored = some cs) (hl : Nat.beq cs.length sz = true)
    (hr : OkO call b r ((t, .vec [.agg cs] (.exact true)) :: loc) fr s Q) : OkO call b (⟨some t, .v (.buildSl sz z 1 [(0, x)]), g⟩ :: r) loc fr s Q := by
  refine o_w hg ?_ hr
  simp only [evV, fillEls, hx, Option.bind_some, AV.storedEl, hs, Option.map_some, AV.flat, hl, if_true, List.replicate, setEl]

theorem got_stored {vn : AV} {k : Int} (h3 : vn.one = true) (h4 : vn.kept = vn) : (AV.agg [vn, .int .i64 k, .bool false, .int .i64 0]).stored = some [vn, .int .i64 k, .bool false, .int .i64 0] := by
  have e : keptAll [vn, .int .i64 k, .bool false, .int .i64 0] = [vn, .int .i64 k, .bool false, .int .i64 0] := by
    show vn.kept :: [AV.int .i64 k, .bool false, .int .i64 0] = _
    rw [h4]
  have e2 : allOne [vn, .int .i64 k, .bool false, .int .i64 0] = true := by
    show (vn.one && true) = true
    rw [h3]; rfl
  simp only [AV.stored, AV.flat, e, e2, if_true]

theorem stands_45_43 {t : List UInt8} {j : Nat} (h : stands t j [58, 45] = true) : stands t j [58, 43] = false := by
  cases hs : stands t j [58, 43] with
  | false => rfl
  | true =>
    simp only [stands, Bool.and_eq_true, beq_iff_eq] at h hs
    have h1 := h.2
    have h2 := hs.2
    simp only [List.length_cons, List.length_nil] at h1 h2
    rw [h1] at h2
    simp at h2

end Go.Tpl
