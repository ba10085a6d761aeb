/-
  What the lexer comes to, of any characters.
-/
import Derived.Test.YthlgbcfijipkcaaGreatTquoA

namespace Go.Tok
open Go Go.Am Go.Proofs

theorem pointQ0 (m : Nat) (b : Bar) (r : List UInt8) (s : Sg) (ht : r.length < 2 ^ 40) :
    callF T (m + 8) b 13 [.vec (Am.byteCells (92 :: 81 :: r)) .shut, .int .i64 0] s = some (.ret (.tup [.int .i64 92, .int .i64 1]), s) := by
  have hbl : (Am.byteCells (92 :: 81 :: r)).length = r.length + 2 := by rw [Am.byteCells_length]; rfl
  (apply f_of rfl rfl; (repeat (first | exact Shape.nil | (apply Shape.cons; conv => lhs; whnf))))
  ((repeat refine c_seq ?_); refine c_region ?_; (repeat (first | ((first | apply o_move rfl rfl | apply o_easy1 rfl rfl rfl | apply o_ld rfl rfl (by assumption) (by first | rfl | assumption)); conv => lhs; whnf) | apply o_no rfl | refine o_b rfl rfl rfl (by constructor; omega) ?_ | refine o_f rfl rfl rfl (by constructor; omega) ?_ | (apply o_easy rfl rfl rfl; conv => lhs; whnf) | apply o_non rfl)); apply o_end; (repeat (first | exact OutS.nil | exact GetS.hit | exact PutS.hit | apply GetS.miss rfl | apply PutS.miss rfl | apply OutS.cons | apply OutS.skip rfl)))
  ((repeat refine c_seq ?_); refine c_region ?_; (repeat (first | ((first | apply o_move rfl rfl | apply o_easy1 rfl rfl rfl | apply o_ld rfl rfl (by assumption) (by first | rfl | assumption)); conv => lhs; whnf) | apply o_no rfl | refine o_b rfl rfl rfl (by constructor; omega) ?_ | refine o_f rfl rfl rfl (by constructor; omega) ?_ | (apply o_easy rfl rfl rfl; conv => lhs; whnf) | apply o_non rfl)))
  refine o_call rfl rfl (kinds_spec _ _ s) ?_
  (repeat (first | ((first | apply o_move rfl rfl | apply o_easy1 rfl rfl rfl | apply o_ld rfl rfl (by assumption) (by first | rfl | assumption)); conv => lhs; whnf) | apply o_no rfl | refine o_b rfl rfl rfl (by constructor; omega) ?_ | refine o_f rfl rfl rfl (by constructor; omega) ?_ | (apply o_easy rfl rfl rfl; conv => lhs; whnf) | apply o_non rfl))
  (apply o_end; (repeat (first | exact OutS.nil | exact GetS.hit | exact PutS.hit | apply GetS.miss rfl | apply PutS.miss rfl | apply OutS.cons | apply OutS.skip rfl)))
  ((repeat refine c_seq ?_); refine c_block ?_)
  refine c_loop (x := lp13_0) ?_
  have hbw : (b.into af13.mode s).w ≤ s.heap.length := Nat.le_refl _
  refine round0 _ _ _ _ 0 _ _ _ _ s hbw fun y1 s1 h1 => ?_
  apply l_round
  ((repeat refine c_seq ?_); refine c_region ?_; (repeat (first | ((first | apply o_move rfl rfl | apply o_easy1 rfl rfl rfl | apply o_ld rfl rfl (by assumption) (by first | rfl | assumption)); conv => lhs; whnf) | apply o_no rfl | refine o_b rfl rfl rfl (by constructor; omega) ?_ | refine o_f rfl rfl rfl (by constructor; omega) ?_ | (apply o_easy rfl rfl rfl; conv => lhs; whnf) | apply o_non rfl)); apply o_end; (repeat (first | exact OutS.nil | exact GetS.hit | exact PutS.hit | apply GetS.miss rfl | apply PutS.miss rfl | apply OutS.cons | apply OutS.skip rfl)))
  ((repeat refine c_seq ?_); refine c_if rfl ?_)
  refine c_skip ?_
  ((repeat refine c_seq ?_); refine c_block ?_)
  ((repeat refine c_seq ?_); refine c_region ?_; (repeat (first | ((first | apply o_move rfl rfl | apply o_easy1 rfl rfl rfl | apply o_ld rfl rfl (by assumption) (by first | rfl | assumption)); conv => lhs; whnf) | apply o_no rfl | refine o_b rfl rfl rfl (by constructor; omega) ?_ | refine o_f rfl rfl rfl (by constructor; omega) ?_ | (apply o_easy rfl rfl rfl; conv => lhs; whnf) | apply o_non rfl)))
  refine o_alloc rfl ?_
  (repeat (first | ((first | apply o_move rfl rfl | apply o_easy1 rfl rfl rfl | apply o_ld rfl rfl (by assumption) (by first | rfl | assumption)); conv => lhs; whnf) | apply o_no rfl | refine o_b rfl rfl rfl (by constructor; omega) ?_ | refine o_f rfl rfl rfl (by constructor; omega) ?_ | (apply o_easy rfl rfl rfl; conv => lhs; whnf) | apply o_non rfl))
  have h7 := getCells_new s1 [.int .u8 0, .int .u8 0, .int .i64 0] 0
  refine o_st rfl rfl rfl rfl h7 rfl (lets_of (blt_no (by omega)) (fun e => rfl)) (cs' := [.int .u8 128, .int .u8 0, .int .i64 0]) rfl ?_
  have h8 := getCells_put (cs' := [.int .u8 128, .int .u8 0, .int .i64 0]) (g' := 0) h7
  (apply o_end; (repeat (first | exact OutS.nil | exact GetS.hit | exact PutS.hit | apply GetS.miss rfl | apply PutS.miss rfl | apply OutS.cons | apply OutS.skip rfl)))
  ((repeat refine c_seq ?_); refine c_drawn ?_; (repeat (first | ((first | apply o_move rfl rfl | apply o_easy1 rfl rfl rfl | apply o_ld rfl rfl (by assumption) (by first | rfl | assumption)); conv => lhs; whnf) | apply o_no rfl | refine o_b rfl rfl rfl (by constructor; omega) ?_ | refine o_f rfl rfl rfl (by constructor; omega) ?_ | (apply o_easy rfl rfl rfl; conv => lhs; whnf) | apply o_non rfl)))
  refine o_ixvec (j := 0) (v := .int .u8 92) rfl rfl rfl rfl rfl rfl ?_
  (repeat (first | ((first | apply o_move rfl rfl | apply o_easy1 rfl rfl rfl | apply o_ld rfl rfl (by assumption) (by first | rfl | assumption)); conv => lhs; whnf) | apply o_no rfl | refine o_b rfl rfl rfl (by constructor; omega) ?_ | refine o_f rfl rfl rfl (by constructor; omega) ?_ | (apply o_easy rfl rfl rfl; conv => lhs; whnf) | apply o_non rfl))
  refine o_w (v := .int .u8 0) rfl rfl ?_
  (repeat (first | ((first | apply o_move rfl rfl | apply o_easy1 rfl rfl rfl | apply o_ld rfl rfl (by assumption) (by first | rfl | assumption)); conv => lhs; whnf) | apply o_no rfl | refine o_b rfl rfl rfl (by constructor; omega) ?_ | refine o_f rfl rfl rfl (by constructor; omega) ?_ | (apply o_easy rfl rfl rfl; conv => lhs; whnf) | apply o_non rfl))
  (apply d_end rfl; (repeat (first | exact OutS.nil | exact GetS.hit | exact PutS.hit | apply GetS.miss rfl | apply PutS.miss rfl | apply OutS.cons | apply OutS.skip rfl)))
  ((repeat refine c_seq ?_); refine c_else rfl ?_)
  refine c_skip ?_
  ((repeat refine c_seq ?_); refine c_drawn ?_; (repeat (first | ((first | apply o_move rfl rfl | apply o_easy1 rfl rfl rfl | apply o_ld rfl rfl (by assumption) (by first | rfl | assumption)); conv => lhs; whnf) | apply o_no rfl | refine o_b rfl rfl rfl (by constructor; omega) ?_ | refine o_f rfl rfl rfl (by constructor; omega) ?_ | (apply o_easy rfl rfl rfl; conv => lhs; whnf) | apply o_non rfl)))
  refine o_ixvec (j := 0) (v := .int .u8 92) rfl rfl rfl rfl rfl rfl ?_
  (repeat (first | ((first | apply o_move rfl rfl | apply o_easy1 rfl rfl rfl | apply o_ld rfl rfl (by assumption) (by first | rfl | assumption)); conv => lhs; whnf) | apply o_no rfl | refine o_b rfl rfl rfl (by constructor; omega) ?_ | refine o_f rfl rfl rfl (by constructor; omega) ?_ | (apply o_easy rfl rfl rfl; conv => lhs; whnf) | apply o_non rfl))
  refine o_w (v := .int .u8 92) rfl rfl ?_
  (repeat (first | ((first | apply o_move rfl rfl | apply o_easy1 rfl rfl rfl | apply o_ld rfl rfl (by assumption) (by first | rfl | assumption)); conv => lhs; whnf) | apply o_no rfl | refine o_b rfl rfl rfl (by constructor; omega) ?_ | refine o_f rfl rfl rfl (by constructor; omega) ?_ | (apply o_easy rfl rfl rfl; conv => lhs; whnf) | apply o_non rfl))
  refine o_cv (c := 92) rfl rfl (by rfl) ?_
  (repeat (first | ((first | apply o_move rfl rfl | apply o_easy1 rfl rfl rfl | apply o_ld rfl rfl (by assumption) (by first | rfl | assumption)); conv => lhs; whnf) | apply o_no rfl | refine o_b rfl rfl rfl (by constructor; omega) ?_ | refine o_f rfl rfl rfl (by constructor; omega) ?_ | (apply o_easy rfl rfl rfl; conv => lhs; whnf) | apply o_non rfl))
  (apply d_end rfl; (repeat (first | exact OutS.nil | exact GetS.hit | exact PutS.hit | apply GetS.miss rfl | apply PutS.miss rfl | apply OutS.cons | apply OutS.skip rfl)))
  ((repeat refine c_seq ?_); refine c_region ?_; (repeat (first | ((first | apply o_move rfl rfl | apply o_easy1 rfl rfl rfl | apply o_ld rfl rfl (by assumption) (by first | rfl | assumption)); conv => lhs; whnf) | apply o_no rfl | refine o_b rfl rfl rfl (by constructor; omega) ?_ | refine o_f rfl rfl rfl (by constructor; omega) ?_ | (apply o_easy rfl rfl rfl; conv => lhs; whnf) | apply o_non rfl)); apply o_end; (repeat (first | exact OutS.nil | exact GetS.hit | exact PutS.hit | apply GetS.miss rfl | apply PutS.miss rfl | apply OutS.cons | apply OutS.skip rfl)))
  ((repeat refine c_seq ?_); refine c_block ?_)
  refine c_loop ?_
  apply l_round
  ((repeat refine c_seq ?_); refine c_region ?_; (repeat (first | ((first | apply o_move rfl rfl | apply o_easy1 rfl rfl rfl | apply o_ld rfl rfl (by assumption) (by first | rfl | assumption)); conv => lhs; whnf) | apply o_no rfl | refine o_b rfl rfl rfl (by constructor; omega) ?_ | refine o_f rfl rfl rfl (by constructor; omega) ?_ | (apply o_easy rfl rfl rfl; conv => lhs; whnf) | apply o_non rfl)); apply o_end; (repeat (first | exact OutS.nil | exact GetS.hit | exact PutS.hit | apply GetS.miss rfl | apply PutS.miss rfl | apply OutS.cons | apply OutS.skip rfl)))
  ((repeat refine c_seq ?_); refine c_else rfl ?_)
  refine c_exit ?_
  show OkC _ _ _ _ _ _ _
  ((repeat refine c_seq ?_); refine c_region ?_; (repeat (first | ((first | apply o_move rfl rfl | apply o_easy1 rfl rfl rfl | apply o_ld rfl rfl (by assumption) (by first | rfl | assumption)); conv => lhs; whnf) | apply o_no rfl | refine o_b rfl rfl rfl (by constructor; omega) ?_ | refine o_f rfl rfl rfl (by constructor; omega) ?_ | (apply o_easy rfl rfl rfl; conv => lhs; whnf) | apply o_non rfl)))
  refine o_w (v := .int .i64 0) rfl rfl ?_
  (repeat (first | ((first | apply o_move rfl rfl | apply o_easy1 rfl rfl rfl | apply o_ld rfl rfl (by assumption) (by first | rfl | assumption)); conv => lhs; whnf) | apply o_no rfl | refine o_b rfl rfl rfl (by constructor; omega) ?_ | refine o_f rfl rfl rfl (by constructor; omega) ?_ | (apply o_easy rfl rfl rfl; conv => lhs; whnf) | apply o_non rfl))
  (apply o_end; (repeat (first | exact OutS.nil | exact GetS.hit | exact PutS.hit | apply GetS.miss rfl | apply PutS.miss rfl | apply OutS.cons | apply OutS.skip rfl)))
  ((repeat refine c_seq ?_); refine c_else rfl ?_)
  refine c_skip ?_
  ((repeat refine c_seq ?_); refine c_region ?_; (repeat (first | ((first | apply o_move rfl rfl | apply o_easy1 rfl rfl rfl | apply o_ld rfl rfl (by assumption) (by first | rfl | assumption)); conv => lhs; whnf) | apply o_no rfl | refine o_b rfl rfl rfl (by constructor; omega) ?_ | refine o_f rfl rfl rfl (by constructor; omega) ?_ | (apply o_easy rfl rfl rfl; conv => lhs; whnf) | apply o_non rfl)); apply o_end; (repeat (first | exact OutS.nil | exact GetS.hit | exact PutS.hit | apply GetS.miss rfl | apply PutS.miss rfl | apply OutS.cons | apply OutS.skip rfl)))
  exact c_ret rfl

theorem pointQ1 (m : Nat) (b : Bar) (r : List UInt8) (s : Sg) (ht : r.length < 2 ^ 40) :
    callF T (m + 8) b 13 [.vec (Am.byteCells (92 :: 81 :: r)) .shut, .int .i64 1] s = some (.ret (.tup [.int .i64 81, .int .i64 1]), s) := by
  have hbl : (Am.byteCells (92 :: 81 :: r)).length = r.length + 2 := by rw [Am.byteCells_length]; rfl
  (apply f_of rfl rfl; (repeat (first | exact Shape.nil | (apply Shape.cons; conv => lhs; whnf))))
  ((repeat refine c_seq ?_); refine c_region ?_; (repeat (first | ((first | apply o_move rfl rfl | apply o_easy1 rfl rfl rfl | apply o_ld rfl rfl (by assumption) (by first | rfl | assumption)); conv => lhs; whnf) | apply o_no rfl | refine o_b rfl rfl rfl (by constructor; omega) ?_ | refine o_f rfl rfl rfl (by constructor; omega) ?_ | (apply o_easy rfl rfl rfl; conv => lhs; whnf) | apply o_non rfl)); apply o_end; (repeat (first | exact OutS.nil | exact GetS.hit | exact PutS.hit | apply GetS.miss rfl | apply PutS.miss rfl | apply OutS.cons | apply OutS.skip rfl)))
  ((repeat refine c_seq ?_); refine c_region ?_; (repeat (first | ((first | apply o_move rfl rfl | apply o_easy1 rfl rfl rfl | apply o_ld rfl rfl (by assumption) (by first | rfl | assumption)); conv => lhs; whnf) | apply o_no rfl | refine o_b rfl rfl rfl (by constructor; omega) ?_ | refine o_f rfl rfl rfl (by constructor; omega) ?_ | (apply o_easy rfl rfl rfl; conv => lhs; whnf) | apply o_non rfl)))
  refine o_call rfl rfl (kinds_spec _ _ s) ?_
  (repeat (first | ((first | apply o_move rfl rfl | apply o_easy1 rfl rfl rfl | apply o_ld rfl rfl (by assumption) (by first | rfl | assumption)); conv => lhs; whnf) | apply o_no rfl | refine o_b rfl rfl rfl (by constructor; omega) ?_ | refine o_f rfl rfl rfl (by constructor; omega) ?_ | (apply o_easy rfl rfl rfl; conv => lhs; whnf) | apply o_non rfl))
  (apply o_end; (repeat (first | exact OutS.nil | exact GetS.hit | exact PutS.hit | apply GetS.miss rfl | apply PutS.miss rfl | apply OutS.cons | apply OutS.skip rfl)))
  ((repeat refine c_seq ?_); refine c_block ?_)
  refine c_loop (x := lp13_0) ?_
  have hbw : (b.into af13.mode s).w ≤ s.heap.length := Nat.le_refl _
  refine round0 _ _ _ _ 1 _ _ _ _ s hbw fun y1 s1 h1 => ?_
  apply l_round
  ((repeat refine c_seq ?_); refine c_region ?_; (repeat (first | ((first | apply o_move rfl rfl | apply o_easy1 rfl rfl rfl | apply o_ld rfl rfl (by assumption) (by first | rfl | assumption)); conv => lhs; whnf) | apply o_no rfl | refine o_b rfl rfl rfl (by constructor; omega) ?_ | refine o_f rfl rfl rfl (by constructor; omega) ?_ | (apply o_easy rfl rfl rfl; conv => lhs; whnf) | apply o_non rfl)); apply o_end; (repeat (first | exact OutS.nil | exact GetS.hit | exact PutS.hit | apply GetS.miss rfl | apply PutS.miss rfl | apply OutS.cons | apply OutS.skip rfl)))
  ((repeat refine c_seq ?_); refine c_if rfl ?_)
  refine c_skip ?_
  ((repeat refine c_seq ?_); refine c_block ?_)
  ((repeat refine c_seq ?_); refine c_region ?_; (repeat (first | ((first | apply o_move rfl rfl | apply o_easy1 rfl rfl rfl | apply o_ld rfl rfl (by assumption) (by first | rfl | assumption)); conv => lhs; whnf) | apply o_no rfl | refine o_b rfl rfl rfl (by constructor; omega) ?_ | refine o_f rfl rfl rfl (by constructor; omega) ?_ | (apply o_easy rfl rfl rfl; conv => lhs; whnf) | apply o_non rfl)))
  refine o_alloc rfl ?_
  (repeat (first | ((first | apply o_move rfl rfl | apply o_easy1 rfl rfl rfl | apply o_ld rfl rfl (by assumption) (by first | rfl | assumption)); conv => lhs; whnf) | apply o_no rfl | refine o_b rfl rfl rfl (by constructor; omega) ?_ | refine o_f rfl rfl rfl (by constructor; omega) ?_ | (apply o_easy rfl rfl rfl; conv => lhs; whnf) | apply o_non rfl))
  have h7 := getCells_new s1 [.int .u8 0, .int .u8 0, .int .i64 0] 0
  refine o_st rfl rfl rfl rfl h7 rfl (lets_of (blt_no (by omega)) (fun e => rfl)) (cs' := [.int .u8 128, .int .u8 0, .int .i64 0]) rfl ?_
  have h8 := getCells_put (cs' := [.int .u8 128, .int .u8 0, .int .i64 0]) (g' := 0) h7
  (apply o_end; (repeat (first | exact OutS.nil | exact GetS.hit | exact PutS.hit | apply GetS.miss rfl | apply PutS.miss rfl | apply OutS.cons | apply OutS.skip rfl)))
  ((repeat refine c_seq ?_); refine c_drawn ?_; (repeat (first | ((first | apply o_move rfl rfl | apply o_easy1 rfl rfl rfl | apply o_ld rfl rfl (by assumption) (by first | rfl | assumption)); conv => lhs; whnf) | apply o_no rfl | refine o_b rfl rfl rfl (by constructor; omega) ?_ | refine o_f rfl rfl rfl (by constructor; omega) ?_ | (apply o_easy rfl rfl rfl; conv => lhs; whnf) | apply o_non rfl)))
  refine o_ixvec (j := 1) (v := .int .u8 81) rfl rfl rfl rfl rfl rfl ?_
  (repeat (first | ((first | apply o_move rfl rfl | apply o_easy1 rfl rfl rfl | apply o_ld rfl rfl (by assumption) (by first | rfl | assumption)); conv => lhs; whnf) | apply o_no rfl | refine o_b rfl rfl rfl (by constructor; omega) ?_ | refine o_f rfl rfl rfl (by constructor; omega) ?_ | (apply o_easy rfl rfl rfl; conv => lhs; whnf) | apply o_non rfl))
  refine o_w (v := .int .u8 0) rfl rfl ?_
  (repeat (first | ((first | apply o_move rfl rfl | apply o_easy1 rfl rfl rfl | apply o_ld rfl rfl (by assumption) (by first | rfl | assumption)); conv => lhs; whnf) | apply o_no rfl | refine o_b rfl rfl rfl (by constructor; omega) ?_ | refine o_f rfl rfl rfl (by constructor; omega) ?_ | (apply o_easy rfl rfl rfl; conv => lhs; whnf) | apply o_non rfl))
  (apply d_end rfl; (repeat (first | exact OutS.nil | exact GetS.hit | exact PutS.hit | apply GetS.miss rfl | apply PutS.miss rfl | apply OutS.cons | apply OutS.skip rfl)))
  ((repeat refine c_seq ?_); refine c_else rfl ?_)
  refine c_skip ?_
  ((repeat refine c_seq ?_); refine c_drawn ?_; (repeat (first | ((first | apply o_move rfl rfl | apply o_easy1 rfl rfl rfl | apply o_ld rfl rfl (by assumption) (by first | rfl | assumption)); conv => lhs; whnf) | apply o_no rfl | refine o_b rfl rfl rfl (by constructor; omega) ?_ | refine o_f rfl rfl rfl (by constructor; omega) ?_ | (apply o_easy rfl rfl rfl; conv => lhs; whnf) | apply o_non rfl)))
  refine o_ixvec (j := 1) (v := .int .u8 81) rfl rfl rfl rfl rfl rfl ?_
  (repeat (first | ((first | apply o_move rfl rfl | apply o_easy1 rfl rfl rfl | apply o_ld rfl rfl (by assumption) (by first | rfl | assumption)); conv => lhs; whnf) | apply o_no rfl | refine o_b rfl rfl rfl (by constructor; omega) ?_ | refine o_f rfl rfl rfl (by constructor; omega) ?_ | (apply o_easy rfl rfl rfl; conv => lhs; whnf) | apply o_non rfl))
  refine o_w (v := .int .u8 81) rfl rfl ?_
  (repeat (first | ((first | apply o_move rfl rfl | apply o_easy1 rfl rfl rfl | apply o_ld rfl rfl (by assumption) (by first | rfl | assumption)); conv => lhs; whnf) | apply o_no rfl | refine o_b rfl rfl rfl (by constructor; omega) ?_ | refine o_f rfl rfl rfl (by constructor; omega) ?_ | (apply o_easy rfl rfl rfl; conv => lhs; whnf) | apply o_non rfl))
  refine o_cv (c := 81) rfl rfl (by rfl) ?_
  (repeat (first | ((first | apply o_move rfl rfl | apply o_easy1 rfl rfl rfl | apply o_ld rfl rfl (by assumption) (by first | rfl | assumption)); conv => lhs; whnf) | apply o_no rfl | refine o_b rfl rfl rfl (by constructor; omega) ?_ | refine o_f rfl rfl rfl (by constructor; omega) ?_ | (apply o_easy rfl rfl rfl; conv => lhs; whnf) | apply o_non rfl))
  (apply d_end rfl; (repeat (first | exact OutS.nil | exact GetS.hit | exact PutS.hit | apply GetS.miss rfl | apply PutS.miss rfl | apply OutS.cons | apply OutS.skip rfl)))
  ((repeat refine c_seq ?_); refine c_region ?_; (repeat (first | ((first | apply o_move rfl rfl | apply o_easy1 rfl rfl rfl | apply o_ld rfl rfl (by assumption) (by first | rfl | assumption)); conv => lhs; whnf) | apply o_no rfl | refine o_b rfl rfl rfl (by constructor; omega) ?_ | refine o_f rfl rfl rfl (by constructor; omega) ?_ | (apply o_easy rfl rfl rfl; conv => lhs; whnf) | apply o_non rfl)); apply o_end; (repeat (first | exact OutS.nil | exact GetS.hit | exact PutS.hit | apply GetS.miss rfl | apply PutS.miss rfl | apply OutS.cons | apply OutS.skip rfl)))
  ((repeat refine c_seq ?_); refine c_block ?_)
  refine c_loop ?_
  apply l_round
  ((repeat refine c_seq ?_); refine c_region ?_; (repeat (first | ((first | apply o_move rfl rfl | apply o_easy1 rfl rfl rfl | apply o_ld rfl rfl (by assumption) (by first | rfl | assumption)); conv => lhs; whnf) | apply o_no rfl | refine o_b rfl rfl rfl (by constructor; omega) ?_ | refine o_f rfl rfl rfl (by constructor; omega) ?_ | (apply o_easy rfl rfl rfl; conv => lhs; whnf) | apply o_non rfl)); apply o_end; (repeat (first | exact OutS.nil | exact GetS.hit | exact PutS.hit | apply GetS.miss rfl | apply PutS.miss rfl | apply OutS.cons | apply OutS.skip rfl)))
  ((repeat refine c_seq ?_); refine c_else rfl ?_)
  refine c_exit ?_
  show OkC _ _ _ _ _ _ _
  ((repeat refine c_seq ?_); refine c_region ?_; (repeat (first | ((first | apply o_move rfl rfl | apply o_easy1 rfl rfl rfl | apply o_ld rfl rfl (by assumption) (by first | rfl | assumption)); conv => lhs; whnf) | apply o_no rfl | refine o_b rfl rfl rfl (by constructor; omega) ?_ | refine o_f rfl rfl rfl (by constructor; omega) ?_ | (apply o_easy rfl rfl rfl; conv => lhs; whnf) | apply o_non rfl)))
  refine o_w (v := .int .i64 0) rfl rfl ?_
  (repeat (first | ((first | apply o_move rfl rfl | apply o_easy1 rfl rfl rfl | apply o_ld rfl rfl (by assumption) (by first | rfl | assumption)); conv => lhs; whnf) | apply o_no rfl | refine o_b rfl rfl rfl (by constructor; omega) ?_ | refine o_f rfl rfl rfl (by constructor; omega) ?_ | (apply o_easy rfl rfl rfl; conv => lhs; whnf) | apply o_non rfl))
  (apply o_end; (repeat (first | exact OutS.nil | exact GetS.hit | exact PutS.hit | apply GetS.miss rfl | apply PutS.miss rfl | apply OutS.cons | apply OutS.skip rfl)))
  ((repeat refine c_seq ?_); refine c_else rfl ?_)
  refine c_skip ?_
  ((repeat refine c_seq ?_); refine c_region ?_; (repeat (first | ((first | apply o_move rfl rfl | apply o_easy1 rfl rfl rfl | apply o_ld rfl rfl (by assumption) (by first | rfl | assumption)); conv => lhs; whnf) | apply o_no rfl | refine o_b rfl rfl rfl (by constructor; omega) ?_ | refine o_f rfl rfl rfl (by constructor; omega) ?_ | (apply o_easy rfl rfl rfl; conv => lhs; whnf) | apply o_non rfl)); apply o_end; (repeat (first | exact OutS.nil | exact GetS.hit | exact PutS.hit | apply GetS.miss rfl | apply PutS.miss rfl | apply OutS.cons | apply OutS.skip rfl)))
  exact c_ret rfl


/-- utf.point, of any bytes -/
theorem point_any (m : Nat) (b : Bar) (t : List UInt8) (i : Nat) (c : UInt8) (s : Sg) (hc : t[i]? = some c) (htl : t.length < 2 ^ 40) :
    OkF (callF T (m + 8) b 13 [.vec (Am.byteCells t) .shut, .int .i64 i] s) fun o s' => s' = s ∧ ∃ (z : Int) (n : Nat), o = .ret (.tup [.int .i64 z, .int .i64 n]) ∧ PShape t i n := by
  (apply f_wp rfl rfl; (repeat (first | exact Shape.nil | (apply Shape.cons; conv => lhs; whnf))))
  ((repeat refine c_seq ?_); refine c_region ?_; (repeat (first | ((first | apply o_move rfl rfl | apply o_easy1 rfl rfl rfl | apply o_ld rfl rfl (by assumption) (by first | rfl | assumption)); conv => lhs; whnf) | apply o_no rfl | refine o_b rfl rfl rfl (by constructor; omega) ?_ | refine o_f rfl rfl rfl (by constructor; omega) ?_ | (apply o_easy rfl rfl rfl; conv => lhs; whnf) | apply o_non rfl)); apply o_end; (repeat (first | exact OutS.nil | exact GetS.hit | exact PutS.hit | apply GetS.miss rfl | apply PutS.miss rfl | apply OutS.cons | apply OutS.skip rfl)))
  ((repeat refine c_seq ?_); refine c_region ?_; (repeat (first | ((first | apply o_move rfl rfl | apply o_easy1 rfl rfl rfl | apply o_ld rfl rfl (by assumption) (by first | rfl | assumption)); conv => lhs; whnf) | apply o_no rfl | refine o_b rfl rfl rfl (by constructor; omega) ?_ | refine o_f rfl rfl rfl (by constructor; omega) ?_ | (apply o_easy rfl rfl rfl; conv => lhs; whnf) | apply o_non rfl)))
  refine o_call rfl rfl (kinds_spec _ _ s) ?_
  (repeat (first | ((first | apply o_move rfl rfl | apply o_easy1 rfl rfl rfl | apply o_ld rfl rfl (by assumption) (by first | rfl | assumption)); conv => lhs; whnf) | apply o_no rfl | refine o_b rfl rfl rfl (by constructor; omega) ?_ | refine o_f rfl rfl rfl (by constructor; omega) ?_ | (apply o_easy rfl rfl rfl; conv => lhs; whnf) | apply o_non rfl))
  (apply o_end; (repeat (first | exact OutS.nil | exact GetS.hit | exact PutS.hit | apply GetS.miss rfl | apply PutS.miss rfl | apply OutS.cons | apply OutS.skip rfl)))
  ((repeat refine c_seq ?_); refine c_block ?_)
  refine c_loop (x := lp13_0) ?_
  have hbw : (b.into af13.mode s).w ≤ s.heap.length := Nat.le_refl _
  have hret : ∀ (r4 : Int) (r5 k K j N : Nat) (c : Int) (x49 x9 x10 x60 x80 : AV) (s' : Sg), PShape t i r5 →
      OkF (finish (deferStep T (loopN (m + 7)) (callF T (m + 7))) (b.into af13.mode s) af13 s .ret (fr13c t i r4 r5 k K j N c x49 x9 x10 x60 x80) s') fun o s' => s' = s ∧ ∃ (z : Int) (n : Nat), o = .ret (.tup [.int .i64 z, .int .i64 n]) ∧ PShape t i n :=
    fun r4 r5 k K j N c x49 x9 x10 x60 x80 s' h => ⟨_, _, rfl, rfl, r4, r5, rfl, h⟩
  refine round0 _ _ _ t i _ _ _ _ s hbw fun y1 s1 h1 => ?_
  refine rk1 _ _ _ t i c _ _ _ _ s1 (by omega) hc htl (by omega) (fun y2 s2 h2 => ?_) hret
  refine rk2 _ _ _ t i c _ _ _ _ s2 (by omega) hc htl (by omega) (fun y3 s3 h3 => ?_) hret
  refine rk3 _ _ _ t i c _ _ _ _ s3 (by omega) hc htl (by omega) (fun y4 s4 h4 => ?_) hret
  refine rk4 _ _ _ t i c _ _ _ _ s4 (by omega) hc htl (by omega) (fun y5 s5 h5 => ?_) hret
  apply l_round
  ((repeat refine c_seq ?_); refine c_region ?_; (repeat (first | ((first | apply o_move rfl rfl | apply o_easy1 rfl rfl rfl | apply o_ld rfl rfl (by assumption) (by first | rfl | assumption)); conv => lhs; whnf) | apply o_no rfl | refine o_b rfl rfl rfl (by constructor; omega) ?_ | refine o_f rfl rfl rfl (by constructor; omega) ?_ | (apply o_easy rfl rfl rfl; conv => lhs; whnf) | apply o_non rfl)); apply o_end; (repeat (first | exact OutS.nil | exact GetS.hit | exact PutS.hit | apply GetS.miss rfl | apply PutS.miss rfl | apply OutS.cons | apply OutS.skip rfl)))
  ((repeat refine c_seq ?_); refine c_else rfl ?_)
  refine c_exit ?_
  show OkC _ _ _ _ _ _ _
  ((repeat refine c_seq ?_); refine c_region ?_; (repeat (first | ((first | apply o_move rfl rfl | apply o_easy1 rfl rfl rfl | apply o_ld rfl rfl (by assumption) (by first | rfl | assumption)); conv => lhs; whnf) | apply o_no rfl | refine o_b rfl rfl rfl (by constructor; omega) ?_ | refine o_f rfl rfl rfl (by constructor; omega) ?_ | (apply o_easy rfl rfl rfl; conv => lhs; whnf) | apply o_non rfl)); apply o_end; (repeat (first | exact OutS.nil | exact GetS.hit | exact PutS.hit | apply GetS.miss rfl | apply PutS.miss rfl | apply OutS.cons | apply OutS.skip rfl)))
  exact c_ret ⟨_, _, rfl, rfl, 0, 0, rfl, .inl rfl⟩

end Go.Tok

namespace Go.Tok
open Go Go.Am Go.Proofs

/-- the loop 0 of function 10 -/
def lp10_0 : ACode := .seq (.seq (.region [⟨(some 7), .v (.move (.tmp 4)), none⟩, ⟨(some 8), .v (.move (.tmp 0)), none⟩, ⟨(some 9), .v (.len 1 (.tmp 8)), none⟩, ⟨(some 10), .v (.bin .lss (.tmp 7) (.tmp 9)), none⟩] [10]) (.cond (.tmp 10) (.skip) (.exit 0))) (.block 1 (.seq (.region [⟨(some 12), .v (.move (.tmp 0)), none⟩, ⟨(some 13), .v (.move (.tmp 4)), none⟩, ⟨(some 14), .call 13 [(.tmp 12), (.tmp 13)], none⟩, ⟨(some 11), .v (.move (.tmp 14)), none⟩, ⟨(some 15), .v (.extract (.tmp 11) 0), none⟩, ⟨(some 16), .v (.extract (.tmp 11) 1), none⟩, ⟨(some 5), .v (.move (.tmp 15)), none⟩, ⟨(some 6), .v (.move (.tmp 16)), none⟩] [6]) (.seq (.seq (.region [⟨(some 17), .v (.move (.tmp 6)), none⟩, ⟨(some 18), .v (.bin .eql (.tmp 17) (.const (.int .i64 0))), none⟩] [18]) (.cond (.tmp 18) (.seq (.region [⟨(some 19), .v (.move (.tmp 4)), none⟩, ⟨(some 2), .v (.move (.tmp 19)), none⟩, ⟨(some 3), .v (.move (.const (.bool false))), none⟩] [2, 3]) (.ret)) (.skip))) (.region [⟨(some 20), .v (.move (.tmp 4)), none⟩, ⟨(some 21), .v (.move (.tmp 6)), none⟩, ⟨(some 22), .v (.bin .add (.tmp 20) (.tmp 21)), none⟩, ⟨(some 4), .v (.move (.tmp 22)), none⟩] [4]))))

abbrev fr10 (t : List UInt8) (p : Nat) (x10 x6 x18 : AV) : Fr :=
  ⟨[(0, .vec (Am.byteCells t) .shut), (2, .int .i64 0), (3, .bool false), (4, .int .i64 p), (10, x10), (6, x6), (18, x18)], [], .off⟩

theorem o_callR {call : CallFn} {b : Bar} {g : Option (Nat × Bool)} {r : List AOper} {loc : Env} {fr : Fr} {s : Sg} {Q : Ex → Env → Fr → Sg → Prop} {t : Nat} {f : FuncId} {args : List AOpd} {l : List AV} {P : AV → Sg → Prop} (hg : wantedA loc fr.pers g = some true) (hl : evAll loc fr.pers args = some l) (h : OkF (call b f l s) fun o s' => ∃ v, o = .ret v ∧ P v s') (hr : ∀ v s', P v s' → OkO call b r ((t, v) :: loc) fr s' Q) :
    OkO call b (⟨some t, .call f args, g⟩ :: r) loc fr s Q := by
  obtain ⟨o, s', h1, v, rfl, h2⟩ := h.ok
  exact o_call hg hl h1 (hr v s' h2)

theorem valid_loop (m : Nat) (b : Bar) (t : List UInt8) (s : Sg) (htl : t.length < 2 ^ 40) {Q : Ex → Fr → Sg → Prop}
    (hq : ∀ x6 x18, Q (.exit 0) (fr10 t t.length (.bool false) x6 x18) s)
    (hr : ∀ (p : Nat) x10 x6 x18, 2 ≤ p → Q .ret ⟨[(0, .vec (Am.byteCells t) .shut), (2, .int .i64 p), (3, .bool false), (4, .int .i64 p), (10, x10), (6, x6), (18, x18)], [], .off⟩ s) :
    ∀ (d p L : Nat) (x10 x6 x18 : AV), t.length - p ≤ d → p ≤ t.length → d + 1 ≤ L → 2 ≤ p →
    OkL L (fun fr s => ACode.run (loopN (m + 8)) (callF T (m + 8)) b lp10_0 fr s) (fr10 t p x10 x6 x18) s Q := by
  have hbl := Am.byteCells_length t
  intro d
  induction d with
  | zero =>
    intro p L x10 x6 x18 hd hp hL h2
    obtain ⟨L, rfl⟩ : ∃ L', L = L' + 1 := ⟨L - 1, by omega⟩
    obtain rfl : p = t.length := by omega
    apply l_round
    ((repeat refine c_seq ?_); refine c_region ?_; (repeat (first | ((first | apply o_move rfl rfl | apply o_easy1 rfl rfl rfl | apply o_ld rfl rfl (by assumption) (by first | rfl | assumption)); conv => lhs; whnf) | apply o_no rfl | refine o_b rfl rfl rfl (by constructor; omega) ?_ | refine o_f rfl rfl rfl (by constructor; omega) ?_ | (apply o_easy rfl rfl rfl; conv => lhs; whnf) | apply o_non rfl)); apply o_end; (repeat (first | exact OutS.nil | exact GetS.hit | exact PutS.hit | apply GetS.miss rfl | apply PutS.miss rfl | apply OutS.cons | apply OutS.skip rfl)))
    ((repeat refine c_seq ?_); refine c_else rfl ?_)
    exact c_exit (hq _ _)
  | succ d ih =>
    intro p L x10 x6 x18 hd hp hL h2
    obtain ⟨L, rfl⟩ : ∃ L', L = L' + 1 := ⟨L - 1, by omega⟩
    rcases Nat.lt_or_ge p t.length with hlt | hge
    · obtain ⟨c, hc⟩ : ∃ c, t[p]? = some c := ⟨_, List.getElem?_eq_getElem hlt⟩
      apply l_round
      ((repeat refine c_seq ?_); refine c_region ?_; (repeat (first | ((first | apply o_move rfl rfl | apply o_easy1 rfl rfl rfl | apply o_ld rfl rfl (by assumption) (by first | rfl | assumption)); conv => lhs; whnf) | apply o_no rfl | refine o_b rfl rfl rfl (by constructor; omega) ?_ | refine o_f rfl rfl rfl (by constructor; omega) ?_ | (apply o_easy rfl rfl rfl; conv => lhs; whnf) | apply o_non rfl)); apply o_end; (repeat (first | exact OutS.nil | exact GetS.hit | exact PutS.hit | apply GetS.miss rfl | apply PutS.miss rfl | apply OutS.cons | apply OutS.skip rfl)))
      ((repeat refine c_seq ?_); refine c_if rfl ?_)
      refine c_skip ?_
      ((repeat refine c_seq ?_); refine c_block ?_)
      ((repeat refine c_seq ?_); refine c_region ?_; (repeat (first | ((first | apply o_move rfl rfl | apply o_easy1 rfl rfl rfl | apply o_ld rfl rfl (by assumption) (by first | rfl | assumption)); conv => lhs; whnf) | apply o_no rfl | refine o_b rfl rfl rfl (by constructor; omega) ?_ | refine o_f rfl rfl rfl (by constructor; omega) ?_ | (apply o_easy rfl rfl rfl; conv => lhs; whnf) | apply o_non rfl)))
      refine o_callR (P := fun v s' => s' = s ∧ ∃ (z : Int) (n : Nat), v = .tup [.int .i64 z, .int .i64 n] ∧ PShape t p n) rfl rfl ((point_any m _ t p c s hc htl).mono fun o s' h => ?_) ?_
      · obtain ⟨h1, z, n, h2, h3⟩ := h
        exact ⟨_, h2, h1, z, n, rfl, h3⟩
      rintro _ _ ⟨rfl, z, n, rfl, hsh⟩
      (repeat (first | ((first | apply o_move rfl rfl | apply o_easy1 rfl rfl rfl | apply o_ld rfl rfl (by assumption) (by first | rfl | assumption)); conv => lhs; whnf) | apply o_no rfl | refine o_b rfl rfl rfl (by constructor; omega) ?_ | refine o_f rfl rfl rfl (by constructor; omega) ?_ | (apply o_easy rfl rfl rfl; conv => lhs; whnf) | apply o_non rfl))
      (apply o_end; (repeat (first | exact OutS.nil | exact GetS.hit | exact PutS.hit | apply GetS.miss rfl | apply PutS.miss rfl | apply OutS.cons | apply OutS.skip rfl)))
      rcases hsh with rfl | ⟨n1, n4, nl, _⟩
      · ((repeat refine c_seq ?_); refine c_region ?_; (repeat (first | ((first | apply o_move rfl rfl | apply o_easy1 rfl rfl rfl | apply o_ld rfl rfl (by assumption) (by first | rfl | assumption)); conv => lhs; whnf) | apply o_no rfl | refine o_b rfl rfl rfl (by constructor; omega) ?_ | refine o_f rfl rfl rfl (by constructor; omega) ?_ | (apply o_easy rfl rfl rfl; conv => lhs; whnf) | apply o_non rfl)); apply o_end; (repeat (first | exact OutS.nil | exact GetS.hit | exact PutS.hit | apply GetS.miss rfl | apply PutS.miss rfl | apply OutS.cons | apply OutS.skip rfl)))
        ((repeat refine c_seq ?_); refine c_if rfl ?_)
        ((repeat refine c_seq ?_); refine c_region ?_; (repeat (first | ((first | apply o_move rfl rfl | apply o_easy1 rfl rfl rfl | apply o_ld rfl rfl (by assumption) (by first | rfl | assumption)); conv => lhs; whnf) | apply o_no rfl | refine o_b rfl rfl rfl (by constructor; omega) ?_ | refine o_f rfl rfl rfl (by constructor; omega) ?_ | (apply o_easy rfl rfl rfl; conv => lhs; whnf) | apply o_non rfl)); apply o_end; (repeat (first | exact OutS.nil | exact GetS.hit | exact PutS.hit | apply GetS.miss rfl | apply PutS.miss rfl | apply OutS.cons | apply OutS.skip rfl)))
        exact c_ret (hr p _ _ _ h2)
      · ((repeat refine c_seq ?_); refine c_region ?_; (repeat (first | ((first | apply o_move rfl rfl | apply o_easy1 rfl rfl rfl | apply o_ld rfl rfl (by assumption) (by first | rfl | assumption)); conv => lhs; whnf) | apply o_no rfl | refine o_b rfl rfl rfl (by constructor; omega) ?_ | refine o_f rfl rfl rfl (by constructor; omega) ?_ | (apply o_easy rfl rfl rfl; conv => lhs; whnf) | apply o_non rfl)); apply o_end; (repeat (first | exact OutS.nil | exact GetS.hit | exact PutS.hit | apply GetS.miss rfl | apply PutS.miss rfl | apply OutS.cons | apply OutS.skip rfl)))
        ((repeat refine c_seq ?_); refine c_else rfl ?_)
        refine c_skip ?_
        ((repeat refine c_seq ?_); refine c_region ?_; (repeat (first | ((first | apply o_move rfl rfl | apply o_easy1 rfl rfl rfl | apply o_ld rfl rfl (by assumption) (by first | rfl | assumption)); conv => lhs; whnf) | apply o_no rfl | refine o_b rfl rfl rfl (by constructor; omega) ?_ | refine o_f rfl rfl rfl (by constructor; omega) ?_ | (apply o_easy rfl rfl rfl; conv => lhs; whnf) | apply o_non rfl)); apply o_end; (repeat (first | exact OutS.nil | exact GetS.hit | exact PutS.hit | apply GetS.miss rfl | apply PutS.miss rfl | apply OutS.cons | apply OutS.skip rfl)))
        exact ih (p + n) L _ _ _ (by omega) (by omega) (by omega) (by omega)
    · obtain rfl : p = t.length := by omega
      apply l_round
      ((repeat refine c_seq ?_); refine c_region ?_; (repeat (first | ((first | apply o_move rfl rfl | apply o_easy1 rfl rfl rfl | apply o_ld rfl rfl (by assumption) (by first | rfl | assumption)); conv => lhs; whnf) | apply o_no rfl | refine o_b rfl rfl rfl (by constructor; omega) ?_ | refine o_f rfl rfl rfl (by constructor; omega) ?_ | (apply o_easy rfl rfl rfl; conv => lhs; whnf) | apply o_non rfl)); apply o_end; (repeat (first | exact OutS.nil | exact GetS.hit | exact PutS.hit | apply GetS.miss rfl | apply PutS.miss rfl | apply OutS.cons | apply OutS.skip rfl)))
      ((repeat refine c_seq ?_); refine c_else rfl ?_)
      exact c_exit (hq _ _)

/-- utf.Valid, of what begins with two characters -/
theorem valid_any (m : Nat) (b : Bar) (r : List UInt8) (s : Sg) (htl : r.length < 2 ^ 39) (hm : r.length + 10 ≤ m + 8) :
    OkF (callF T (m + 9) b 10 [.vec (Am.byteCells (92 :: 81 :: r)) .shut] s) fun o s' => s' = s ∧ ((∃ p : Nat, 2 ≤ p ∧ o = .ret (.tup [.int .i64 p, .bool false])) ∨ ∃ p : Nat, o = .ret (.tup [.int .i64 p, .bool true])) := by
  have hbl : (Am.byteCells (92 :: 81 :: r)).length = r.length + 2 := by rw [Am.byteCells_length]; rfl
  have hl : (92 :: 81 :: r : List UInt8).length = r.length + 2 := rfl
  (apply f_wp rfl rfl; (repeat (first | exact Shape.nil | (apply Shape.cons; conv => lhs; whnf))))
  ((repeat refine c_seq ?_); refine c_region ?_; (repeat (first | ((first | apply o_move rfl rfl | apply o_easy1 rfl rfl rfl | apply o_ld rfl rfl (by assumption) (by first | rfl | assumption)); conv => lhs; whnf) | apply o_no rfl | refine o_b rfl rfl rfl (by constructor; omega) ?_ | refine o_f rfl rfl rfl (by constructor; omega) ?_ | (apply o_easy rfl rfl rfl; conv => lhs; whnf) | apply o_non rfl)); apply o_end; (repeat (first | exact OutS.nil | exact GetS.hit | exact PutS.hit | apply GetS.miss rfl | apply PutS.miss rfl | apply OutS.cons | apply OutS.skip rfl)))
  ((repeat refine c_seq ?_); refine c_region ?_; (repeat (first | ((first | apply o_move rfl rfl | apply o_easy1 rfl rfl rfl | apply o_ld rfl rfl (by assumption) (by first | rfl | assumption)); conv => lhs; whnf) | apply o_no rfl | refine o_b rfl rfl rfl (by constructor; omega) ?_ | refine o_f rfl rfl rfl (by constructor; omega) ?_ | (apply o_easy rfl rfl rfl; conv => lhs; whnf) | apply o_non rfl)); apply o_end; (repeat (first | exact OutS.nil | exact GetS.hit | exact PutS.hit | apply GetS.miss rfl | apply PutS.miss rfl | apply OutS.cons | apply OutS.skip rfl)))
  ((repeat refine c_seq ?_); refine c_block ?_)
  refine c_loop (x := lp10_0) ?_
  apply l_round
  ((repeat refine c_seq ?_); refine c_region ?_; (repeat (first | ((first | apply o_move rfl rfl | apply o_easy1 rfl rfl rfl | apply o_ld rfl rfl (by assumption) (by first | rfl | assumption)); conv => lhs; whnf) | apply o_no rfl | refine o_b rfl rfl rfl (by constructor; omega) ?_ | refine o_f rfl rfl rfl (by constructor; omega) ?_ | (apply o_easy rfl rfl rfl; conv => lhs; whnf) | apply o_non rfl)); apply o_end; (repeat (first | exact OutS.nil | exact GetS.hit | exact PutS.hit | apply GetS.miss rfl | apply PutS.miss rfl | apply OutS.cons | apply OutS.skip rfl)))
  ((repeat refine c_seq ?_); refine c_if rfl ?_)
  refine c_skip ?_
  ((repeat refine c_seq ?_); refine c_block ?_)
  ((repeat refine c_seq ?_); refine c_region ?_; (repeat (first | ((first | apply o_move rfl rfl | apply o_easy1 rfl rfl rfl | apply o_ld rfl rfl (by assumption) (by first | rfl | assumption)); conv => lhs; whnf) | apply o_no rfl | refine o_b rfl rfl rfl (by constructor; omega) ?_ | refine o_f rfl rfl rfl (by constructor; omega) ?_ | (apply o_easy rfl rfl rfl; conv => lhs; whnf) | apply o_non rfl)))
  refine o_call rfl rfl (pointQ0 _ _ r s (by omega)) ?_
  (repeat (first | ((first | apply o_move rfl rfl | apply o_easy1 rfl rfl rfl | apply o_ld rfl rfl (by assumption) (by first | rfl | assumption)); conv => lhs; whnf) | apply o_no rfl | refine o_b rfl rfl rfl (by constructor; omega) ?_ | refine o_f rfl rfl rfl (by constructor; omega) ?_ | (apply o_easy rfl rfl rfl; conv => lhs; whnf) | apply o_non rfl))
  (apply o_end; (repeat (first | exact OutS.nil | exact GetS.hit | exact PutS.hit | apply GetS.miss rfl | apply PutS.miss rfl | apply OutS.cons | apply OutS.skip rfl)))
  ((repeat refine c_seq ?_); refine c_region ?_; (repeat (first | ((first | apply o_move rfl rfl | apply o_easy1 rfl rfl rfl | apply o_ld rfl rfl (by assumption) (by first | rfl | assumption)); conv => lhs; whnf) | apply o_no rfl | refine o_b rfl rfl rfl (by constructor; omega) ?_ | refine o_f rfl rfl rfl (by constructor; omega) ?_ | (apply o_easy rfl rfl rfl; conv => lhs; whnf) | apply o_non rfl)); apply o_end; (repeat (first | exact OutS.nil | exact GetS.hit | exact PutS.hit | apply GetS.miss rfl | apply PutS.miss rfl | apply OutS.cons | apply OutS.skip rfl)))
  ((repeat refine c_seq ?_); refine c_else rfl ?_)
  refine c_skip ?_
  ((repeat refine c_seq ?_); refine c_region ?_; (repeat (first | ((first | apply o_move rfl rfl | apply o_easy1 rfl rfl rfl | apply o_ld rfl rfl (by assumption) (by first | rfl | assumption)); conv => lhs; whnf) | apply o_no rfl | refine o_b rfl rfl rfl (by constructor; omega) ?_ | refine o_f rfl rfl rfl (by constructor; omega) ?_ | (apply o_easy rfl rfl rfl; conv => lhs; whnf) | apply o_non rfl)); apply o_end; (repeat (first | exact OutS.nil | exact GetS.hit | exact PutS.hit | apply GetS.miss rfl | apply PutS.miss rfl | apply OutS.cons | apply OutS.skip rfl)))
  apply l_round
  ((repeat refine c_seq ?_); refine c_region ?_; (repeat (first | ((first | apply o_move rfl rfl | apply o_easy1 rfl rfl rfl | apply o_ld rfl rfl (by assumption) (by first | rfl | assumption)); conv => lhs; whnf) | apply o_no rfl | refine o_b rfl rfl rfl (by constructor; omega) ?_ | refine o_f rfl rfl rfl (by constructor; omega) ?_ | (apply o_easy rfl rfl rfl; conv => lhs; whnf) | apply o_non rfl)); apply o_end; (repeat (first | exact OutS.nil | exact GetS.hit | exact PutS.hit | apply GetS.miss rfl | apply PutS.miss rfl | apply OutS.cons | apply OutS.skip rfl)))
  ((repeat refine c_seq ?_); refine c_if rfl ?_)
  refine c_skip ?_
  ((repeat refine c_seq ?_); refine c_block ?_)
  ((repeat refine c_seq ?_); refine c_region ?_; (repeat (first | ((first | apply o_move rfl rfl | apply o_easy1 rfl rfl rfl | apply o_ld rfl rfl (by assumption) (by first | rfl | assumption)); conv => lhs; whnf) | apply o_no rfl | refine o_b rfl rfl rfl (by constructor; omega) ?_ | refine o_f rfl rfl rfl (by constructor; omega) ?_ | (apply o_easy rfl rfl rfl; conv => lhs; whnf) | apply o_non rfl)))
  refine o_call rfl rfl (pointQ1 _ _ r s (by omega)) ?_
  (repeat (first | ((first | apply o_move rfl rfl | apply o_easy1 rfl rfl rfl | apply o_ld rfl rfl (by assumption) (by first | rfl | assumption)); conv => lhs; whnf) | apply o_no rfl | refine o_b rfl rfl rfl (by constructor; omega) ?_ | refine o_f rfl rfl rfl (by constructor; omega) ?_ | (apply o_easy rfl rfl rfl; conv => lhs; whnf) | apply o_non rfl))
  (apply o_end; (repeat (first | exact OutS.nil | exact GetS.hit | exact PutS.hit | apply GetS.miss rfl | apply PutS.miss rfl | apply OutS.cons | apply OutS.skip rfl)))
  ((repeat refine c_seq ?_); refine c_region ?_; (repeat (first | ((first | apply o_move rfl rfl | apply o_easy1 rfl rfl rfl | apply o_ld rfl rfl (by assumption) (by first | rfl | assumption)); conv => lhs; whnf) | apply o_no rfl | refine o_b rfl rfl rfl (by constructor; omega) ?_ | refine o_f rfl rfl rfl (by constructor; omega) ?_ | (apply o_easy rfl rfl rfl; conv => lhs; whnf) | apply o_non rfl)); apply o_end; (repeat (first | exact OutS.nil | exact GetS.hit | exact PutS.hit | apply GetS.miss rfl | apply PutS.miss rfl | apply OutS.cons | apply OutS.skip rfl)))
  ((repeat refine c_seq ?_); refine c_else rfl ?_)
  refine c_skip ?_
  ((repeat refine c_seq ?_); refine c_region ?_; (repeat (first | ((first | apply o_move rfl rfl | apply o_easy1 rfl rfl rfl | apply o_ld rfl rfl (by assumption) (by first | rfl | assumption)); conv => lhs; whnf) | apply o_no rfl | refine o_b rfl rfl rfl (by constructor; omega) ?_ | refine o_f rfl rfl rfl (by constructor; omega) ?_ | (apply o_easy rfl rfl rfl; conv => lhs; whnf) | apply o_non rfl)); apply o_end; (repeat (first | exact OutS.nil | exact GetS.hit | exact PutS.hit | apply GetS.miss rfl | apply PutS.miss rfl | apply OutS.cons | apply OutS.skip rfl)))
  refine valid_loop m (b.into af10.mode s) (92 :: 81 :: r) s (by omega) ?_ ?_ r.length 2 _ _ _ _ (by omega) (by omega) (by omega) (Nat.le_refl _)
  · intro x6 x18
    show OkC _ _ _ _ _ _ _
    ((repeat refine c_seq ?_); refine c_region ?_; (repeat (first | ((first | apply o_move rfl rfl | apply o_easy1 rfl rfl rfl | apply o_ld rfl rfl (by assumption) (by first | rfl | assumption)); conv => lhs; whnf) | apply o_no rfl | refine o_b rfl rfl rfl (by constructor; omega) ?_ | refine o_f rfl rfl rfl (by constructor; omega) ?_ | (apply o_easy rfl rfl rfl; conv => lhs; whnf) | apply o_non rfl)); apply o_end; (repeat (first | exact OutS.nil | exact GetS.hit | exact PutS.hit | apply GetS.miss rfl | apply PutS.miss rfl | apply OutS.cons | apply OutS.skip rfl)))
    exact c_ret ⟨_, _, rfl, rfl, .inr ⟨_, rfl⟩⟩
  · intro p x10 x6 x18 hp
    exact ⟨_, _, rfl, rfl, .inl ⟨p, hp, rfl⟩⟩

end Go.Tok

namespace Go.Tok
open Go Go.Am Go.Proofs

/-- a character that stands there, and where the next one does -/
def NextAt (t : List UInt8) (u : Bool) (i : Nat) (z : Int) (i2 : Nat) : Prop :=
  i < i2 ∧ i2 ≤ t.length ∧ Contd t (i + 1) (i2 - i - 1) ∧ (u = false → ∃ c, t[i]? = some c ∧ z = (c.toNat : Int))

theorem next_any (m : Nat) (b : Bar) (t : List UInt8) (u : Bool) (i : Nat) (s : Sg) (ht : t.length < 2 ^ 40) (hi : i < t.length) :
    OkF (callF T (m + 9) b 25 [.vec (Am.byteCells t) .shut, .int .i64 i, .bool u] s) fun o s' => ∃ v, o = .ret v ∧ s' = s ∧ ∃ (z : Int) (i2 : Nat), v = .tup [.int .i64 z, .int .i64 i2] ∧ NextAt t u i z i2 := by
  have hbl := Am.byteCells_length t
  obtain ⟨c, hc⟩ : ∃ c, t[i]? = some c := ⟨_, List.getElem?_eq_getElem hi⟩
  have hc8 : c.toNat < 256 := c.toNat_lt
  have hone : NextAt t u i c.toNat (i + 1) := ⟨by omega, by omega, fun j hj => absurd hj (by omega), fun _ => ⟨c, hc, rfl⟩⟩
  cases u with
  | false =>
    (apply f_wp rfl rfl; (repeat (first | exact Shape.nil | (apply Shape.cons; conv => lhs; whnf))))
    ((repeat refine c_seq ?_); refine c_region ?_; (repeat (first | ((first | apply o_move rfl rfl | apply o_easy1 rfl rfl rfl | apply o_ld rfl rfl (by assumption) (by first | rfl | assumption)); conv => lhs; whnf) | apply o_no rfl | refine o_b rfl rfl rfl (by constructor; omega) ?_ | refine o_f rfl rfl rfl (by constructor; omega) ?_ | refine o_s rfl rfl rfl (by constructor; first | omega | assumption) ?_ | refine o_t rfl rfl rfl (by constructor; assumption) ?_ | (apply o_easy rfl rfl rfl; conv => lhs; whnf) | apply o_non rfl)); apply o_end; (repeat (first | exact OutS.nil | exact GetS.hit | exact PutS.hit | apply GetS.miss rfl | apply PutS.miss rfl | apply OutS.cons | apply OutS.skip rfl)))
    ((repeat refine c_seq ?_); refine c_region ?_; (repeat (first | ((first | apply o_move rfl rfl | apply o_easy1 rfl rfl rfl | apply o_ld rfl rfl (by assumption) (by first | rfl | assumption)); conv => lhs; whnf) | apply o_no rfl | refine o_b rfl rfl rfl (by constructor; omega) ?_ | refine o_f rfl rfl rfl (by constructor; omega) ?_ | refine o_s rfl rfl rfl (by constructor; first | omega | assumption) ?_ | refine o_t rfl rfl rfl (by constructor; assumption) ?_ | (apply o_easy rfl rfl rfl; conv => lhs; whnf) | apply o_non rfl)); apply o_end; (repeat (first | exact OutS.nil | exact GetS.hit | exact PutS.hit | apply GetS.miss rfl | apply PutS.miss rfl | apply OutS.cons | apply OutS.skip rfl)))
    ((repeat refine c_seq ?_); refine c_else rfl ?_)
    refine c_skip ?_
    ((repeat refine c_seq ?_); refine c_region ?_; (repeat (first | ((first | apply o_move rfl rfl | apply o_easy1 rfl rfl rfl | apply o_ld rfl rfl (by assumption) (by first | rfl | assumption)); conv => lhs; whnf) | apply o_no rfl | refine o_b rfl rfl rfl (by constructor; omega) ?_ | refine o_f rfl rfl rfl (by constructor; omega) ?_ | refine o_s rfl rfl rfl (by constructor; first | omega | assumption) ?_ | refine o_t rfl rfl rfl (by constructor; assumption) ?_ | (apply o_easy rfl rfl rfl; conv => lhs; whnf) | apply o_non rfl)); apply o_end; (repeat (first | exact OutS.nil | exact GetS.hit | exact PutS.hit | apply GetS.miss rfl | apply PutS.miss rfl | apply OutS.cons | apply OutS.skip rfl)))
    ((repeat refine c_seq ?_); refine c_else rfl ?_)
    refine c_skip ?_
    ((repeat refine c_seq ?_); refine c_region ?_; (repeat (first | ((first | apply o_move rfl rfl | apply o_easy1 rfl rfl rfl | apply o_ld rfl rfl (by assumption) (by first | rfl | assumption)); conv => lhs; whnf) | apply o_no rfl | refine o_b rfl rfl rfl (by constructor; omega) ?_ | refine o_f rfl rfl rfl (by constructor; omega) ?_ | refine o_s rfl rfl rfl (by constructor; first | omega | assumption) ?_ | refine o_t rfl rfl rfl (by constructor; assumption) ?_ | (apply o_easy rfl rfl rfl; conv => lhs; whnf) | apply o_non rfl)))
    refine o_ixvec (j := i) rfl rfl rfl rfl (bc_get hc) (by rfl) ?_
    (repeat (first | ((first | apply o_move rfl rfl | apply o_easy1 rfl rfl rfl | apply o_ld rfl rfl (by assumption) (by first | rfl | assumption)); conv => lhs; whnf) | apply o_no rfl | refine o_b rfl rfl rfl (by constructor; omega) ?_ | refine o_f rfl rfl rfl (by constructor; omega) ?_ | refine o_s rfl rfl rfl (by constructor; first | omega | assumption) ?_ | refine o_t rfl rfl rfl (by constructor; assumption) ?_ | (apply o_easy rfl rfl rfl; conv => lhs; whnf) | apply o_non rfl))
    refine o_cv rfl rfl (wrap_i64 (by omega) (by omega)) ?_
    (repeat (first | ((first | apply o_move rfl rfl | apply o_easy1 rfl rfl rfl | apply o_ld rfl rfl (by assumption) (by first | rfl | assumption)); conv => lhs; whnf) | apply o_no rfl | refine o_b rfl rfl rfl (by constructor; omega) ?_ | refine o_f rfl rfl rfl (by constructor; omega) ?_ | refine o_s rfl rfl rfl (by constructor; first | omega | assumption) ?_ | refine o_t rfl rfl rfl (by constructor; assumption) ?_ | (apply o_easy rfl rfl rfl; conv => lhs; whnf) | apply o_non rfl))
    (apply o_end; (repeat (first | exact OutS.nil | exact GetS.hit | exact PutS.hit | apply GetS.miss rfl | apply PutS.miss rfl | apply OutS.cons | apply OutS.skip rfl)))
    exact c_ret ⟨_, _, rfl, _, rfl, rfl, _, _, rfl, hone⟩
  | true =>
    (apply f_wp rfl rfl; (repeat (first | exact Shape.nil | (apply Shape.cons; conv => lhs; whnf))))
    ((repeat refine c_seq ?_); refine c_region ?_; (repeat (first | ((first | apply o_move rfl rfl | apply o_easy1 rfl rfl rfl | apply o_ld rfl rfl (by assumption) (by first | rfl | assumption)); conv => lhs; whnf) | apply o_no rfl | refine o_b rfl rfl rfl (by constructor; omega) ?_ | refine o_f rfl rfl rfl (by constructor; omega) ?_ | refine o_s rfl rfl rfl (by constructor; first | omega | assumption) ?_ | refine o_t rfl rfl rfl (by constructor; assumption) ?_ | (apply o_easy rfl rfl rfl; conv => lhs; whnf) | apply o_non rfl)); apply o_end; (repeat (first | exact OutS.nil | exact GetS.hit | exact PutS.hit | apply GetS.miss rfl | apply PutS.miss rfl | apply OutS.cons | apply OutS.skip rfl)))
    ((repeat refine c_seq ?_); refine c_region ?_; (repeat (first | ((first | apply o_move rfl rfl | apply o_easy1 rfl rfl rfl | apply o_ld rfl rfl (by assumption) (by first | rfl | assumption)); conv => lhs; whnf) | apply o_no rfl | refine o_b rfl rfl rfl (by constructor; omega) ?_ | refine o_f rfl rfl rfl (by constructor; omega) ?_ | refine o_s rfl rfl rfl (by constructor; first | omega | assumption) ?_ | refine o_t rfl rfl rfl (by constructor; assumption) ?_ | (apply o_easy rfl rfl rfl; conv => lhs; whnf) | apply o_non rfl)); apply o_end; (repeat (first | exact OutS.nil | exact GetS.hit | exact PutS.hit | apply GetS.miss rfl | apply PutS.miss rfl | apply OutS.cons | apply OutS.skip rfl)))
    ((repeat refine c_seq ?_); refine c_else rfl ?_)
    refine c_skip ?_
    ((repeat refine c_seq ?_); refine c_region ?_; (repeat (first | ((first | apply o_move rfl rfl | apply o_easy1 rfl rfl rfl | apply o_ld rfl rfl (by assumption) (by first | rfl | assumption)); conv => lhs; whnf) | apply o_no rfl | refine o_b rfl rfl rfl (by constructor; omega) ?_ | refine o_f rfl rfl rfl (by constructor; omega) ?_ | refine o_s rfl rfl rfl (by constructor; first | omega | assumption) ?_ | refine o_t rfl rfl rfl (by constructor; assumption) ?_ | (apply o_easy rfl rfl rfl; conv => lhs; whnf) | apply o_non rfl)); apply o_end; (repeat (first | exact OutS.nil | exact GetS.hit | exact PutS.hit | apply GetS.miss rfl | apply PutS.miss rfl | apply OutS.cons | apply OutS.skip rfl)))
    ((repeat refine c_seq ?_); refine c_if rfl ?_)
    ((repeat refine c_seq ?_); refine c_region ?_; (repeat (first | ((first | apply o_move rfl rfl | apply o_easy1 rfl rfl rfl | apply o_ld rfl rfl (by assumption) (by first | rfl | assumption)); conv => lhs; whnf) | apply o_no rfl | refine o_b rfl rfl rfl (by constructor; omega) ?_ | refine o_f rfl rfl rfl (by constructor; omega) ?_ | refine o_s rfl rfl rfl (by constructor; first | omega | assumption) ?_ | refine o_t rfl rfl rfl (by constructor; assumption) ?_ | (apply o_easy rfl rfl rfl; conv => lhs; whnf) | apply o_non rfl)))
    refine o_callR (P := fun v s' => s' = s ∧ ∃ (z : Int) (n : Nat), v = .tup [.int .i64 z, .int .i64 n] ∧ PShape t i n) rfl rfl ((point_any m _ t i c s hc ht).mono fun o s' h => ?_) ?_
    · obtain ⟨h1, z, n, h2, h3⟩ := h
      exact ⟨_, h2, h1, z, n, rfl, h3⟩
    rintro _ _ ⟨rfl, z, n, rfl, hsh⟩
    (repeat (first | ((first | apply o_move rfl rfl | apply o_easy1 rfl rfl rfl | apply o_ld rfl rfl (by assumption) (by first | rfl | assumption)); conv => lhs; whnf) | apply o_no rfl | refine o_b rfl rfl rfl (by constructor; omega) ?_ | refine o_f rfl rfl rfl (by constructor; omega) ?_ | refine o_s rfl rfl rfl (by constructor; first | omega | assumption) ?_ | refine o_t rfl rfl rfl (by constructor; assumption) ?_ | (apply o_easy rfl rfl rfl; conv => lhs; whnf) | apply o_non rfl))
    (apply o_end; (repeat (first | exact OutS.nil | exact GetS.hit | exact PutS.hit | apply GetS.miss rfl | apply PutS.miss rfl | apply OutS.cons | apply OutS.skip rfl)))
    rcases hsh with rfl | ⟨n1, n4, nl, hct⟩
    · ((repeat refine c_seq ?_); refine c_region ?_; (repeat (first | ((first | apply o_move rfl rfl | apply o_easy1 rfl rfl rfl | apply o_ld rfl rfl (by assumption) (by first | rfl | assumption)); conv => lhs; whnf) | apply o_no rfl | refine o_b rfl rfl rfl (by constructor; omega) ?_ | refine o_f rfl rfl rfl (by constructor; omega) ?_ | refine o_s rfl rfl rfl (by constructor; first | omega | assumption) ?_ | refine o_t rfl rfl rfl (by constructor; assumption) ?_ | (apply o_easy rfl rfl rfl; conv => lhs; whnf) | apply o_non rfl)); apply o_end; (repeat (first | exact OutS.nil | exact GetS.hit | exact PutS.hit | apply GetS.miss rfl | apply PutS.miss rfl | apply OutS.cons | apply OutS.skip rfl)))
      ((repeat refine c_seq ?_); refine c_else rfl ?_)
      refine c_skip ?_
      ((repeat refine c_seq ?_); refine c_region ?_; (repeat (first | ((first | apply o_move rfl rfl | apply o_easy1 rfl rfl rfl | apply o_ld rfl rfl (by assumption) (by first | rfl | assumption)); conv => lhs; whnf) | apply o_no rfl | refine o_b rfl rfl rfl (by constructor; omega) ?_ | refine o_f rfl rfl rfl (by constructor; omega) ?_ | refine o_s rfl rfl rfl (by constructor; first | omega | assumption) ?_ | refine o_t rfl rfl rfl (by constructor; assumption) ?_ | (apply o_easy rfl rfl rfl; conv => lhs; whnf) | apply o_non rfl)))
      refine o_ixvec (j := i) rfl rfl rfl rfl (bc_get hc) (by rfl) ?_
      (repeat (first | ((first | apply o_move rfl rfl | apply o_easy1 rfl rfl rfl | apply o_ld rfl rfl (by assumption) (by first | rfl | assumption)); conv => lhs; whnf) | apply o_no rfl | refine o_b rfl rfl rfl (by constructor; omega) ?_ | refine o_f rfl rfl rfl (by constructor; omega) ?_ | refine o_s rfl rfl rfl (by constructor; first | omega | assumption) ?_ | refine o_t rfl rfl rfl (by constructor; assumption) ?_ | (apply o_easy rfl rfl rfl; conv => lhs; whnf) | apply o_non rfl))
      refine o_cv rfl rfl (wrap_i64 (by omega) (by omega)) ?_
      (repeat (first | ((first | apply o_move rfl rfl | apply o_easy1 rfl rfl rfl | apply o_ld rfl rfl (by assumption) (by first | rfl | assumption)); conv => lhs; whnf) | apply o_no rfl | refine o_b rfl rfl rfl (by constructor; omega) ?_ | refine o_f rfl rfl rfl (by constructor; omega) ?_ | refine o_s rfl rfl rfl (by constructor; first | omega | assumption) ?_ | refine o_t rfl rfl rfl (by constructor; assumption) ?_ | (apply o_easy rfl rfl rfl; conv => lhs; whnf) | apply o_non rfl))
      (apply o_end; (repeat (first | exact OutS.nil | exact GetS.hit | exact PutS.hit | apply GetS.miss rfl | apply PutS.miss rfl | apply OutS.cons | apply OutS.skip rfl)))
      exact c_ret ⟨_, _, rfl, _, rfl, rfl, _, _, rfl, hone⟩
    · ((repeat refine c_seq ?_); refine c_region ?_; (repeat (first | ((first | apply o_move rfl rfl | apply o_easy1 rfl rfl rfl | apply o_ld rfl rfl (by assumption) (by first | rfl | assumption)); conv => lhs; whnf) | apply o_no rfl | refine o_b rfl rfl rfl (by constructor; omega) ?_ | refine o_f rfl rfl rfl (by constructor; omega) ?_ | refine o_s rfl rfl rfl (by constructor; first | omega | assumption) ?_ | refine o_t rfl rfl rfl (by constructor; assumption) ?_ | (apply o_easy rfl rfl rfl; conv => lhs; whnf) | apply o_non rfl)); apply o_end; (repeat (first | exact OutS.nil | exact GetS.hit | exact PutS.hit | apply GetS.miss rfl | apply PutS.miss rfl | apply OutS.cons | apply OutS.skip rfl)))
      ((repeat refine c_seq ?_); refine c_if rfl ?_)
      ((repeat refine c_seq ?_); refine c_region ?_; (repeat (first | ((first | apply o_move rfl rfl | apply o_easy1 rfl rfl rfl | apply o_ld rfl rfl (by assumption) (by first | rfl | assumption)); conv => lhs; whnf) | apply o_no rfl | refine o_b rfl rfl rfl (by constructor; omega) ?_ | refine o_f rfl rfl rfl (by constructor; omega) ?_ | refine o_s rfl rfl rfl (by constructor; first | omega | assumption) ?_ | refine o_t rfl rfl rfl (by constructor; assumption) ?_ | (apply o_easy rfl rfl rfl; conv => lhs; whnf) | apply o_non rfl)); apply o_end; (repeat (first | exact OutS.nil | exact GetS.hit | exact PutS.hit | apply GetS.miss rfl | apply PutS.miss rfl | apply OutS.cons | apply OutS.skip rfl)))
      refine c_ret ⟨_, _, rfl, _, rfl, rfl, z, i + n, rfl, by omega, by omega, ?_, fun h => absurd h (by decide)⟩
      rw [show i + n - i - 1 = n - 1 by omega]
      exact hct

theorem char_any (m : Nat) (b : Bar) (t : List UInt8) (u : Bool) (o mx : Int) (at' i r : Nat) (out : AV) (s : Sg) (hb : b.w ≤ r) (ht : t.length < 2 ^ 40) (hi : i < t.length) (hg : getCells s.heap r 0 = some (lx t u o mx at' i out)) :
    OkF (callF T (m + 10) b 14 [.ptr r 0 0] s) fun x s' => ∃ v, x = .ret v ∧ ∃ (z : Int) (i2 : Nat), v = .int .i64 z ∧ NextAt t u i z i2 ∧ s' = s.put r (.cells (lx t u o mx at' i2 out) 0) := by
  (apply f_wp rfl rfl; (repeat (first | exact Shape.nil | (apply Shape.cons; conv => lhs; whnf))))
  ((repeat refine c_seq ?_); refine c_region ?_; (repeat (first | ((first | apply o_move rfl rfl | apply o_easy1 rfl rfl rfl | apply o_ld rfl rfl (by assumption) (by first | rfl | assumption)); conv => lhs; whnf) | apply o_no rfl | refine o_b rfl rfl rfl (by constructor; omega) ?_ | refine o_f rfl rfl rfl (by constructor; omega) ?_ | refine o_s rfl rfl rfl (by constructor; first | omega | assumption) ?_ | refine o_t rfl rfl rfl (by constructor; assumption) ?_ | (apply o_easy rfl rfl rfl; conv => lhs; whnf) | apply o_non rfl)); apply o_end; (repeat (first | exact OutS.nil | exact GetS.hit | exact PutS.hit | apply GetS.miss rfl | apply PutS.miss rfl | apply OutS.cons | apply OutS.skip rfl)))
  ((repeat refine c_seq ?_); refine c_drawn ?_; (repeat (first | ((first | apply o_move rfl rfl | apply o_easy1 rfl rfl rfl | apply o_ld rfl rfl (by assumption) (by first | rfl | assumption)); conv => lhs; whnf) | apply o_no rfl | refine o_b rfl rfl rfl (by constructor; omega) ?_ | refine o_f rfl rfl rfl (by constructor; omega) ?_ | refine o_s rfl rfl rfl (by constructor; first | omega | assumption) ?_ | refine o_t rfl rfl rfl (by constructor; assumption) ?_ | (apply o_easy rfl rfl rfl; conv => lhs; whnf) | apply o_non rfl)))
  refine o_callR (P := fun v s' => s' = s ∧ ∃ (z : Int) (i2 : Nat), v = .tup [.int .i64 z, .int .i64 i2] ∧ NextAt t u i z i2) rfl rfl ((next_any m _ t u i s ht hi).mono fun o s' h => ?_) ?_
  · obtain ⟨v, h0, h1, h2⟩ := h
    exact ⟨v, h0, h1, h2⟩
  rintro _ _ ⟨rfl, z, i2, rfl, hn⟩
  (repeat (first | ((first | apply o_move rfl rfl | apply o_easy1 rfl rfl rfl | apply o_ld rfl rfl (by assumption) (by first | rfl | assumption)); conv => lhs; whnf) | apply o_no rfl | refine o_b rfl rfl rfl (by constructor; omega) ?_ | refine o_f rfl rfl rfl (by constructor; omega) ?_ | refine o_s rfl rfl rfl (by constructor; first | omega | assumption) ?_ | refine o_t rfl rfl rfl (by constructor; assumption) ?_ | (apply o_easy rfl rfl rfl; conv => lhs; whnf) | apply o_non rfl))
  (apply d_end rfl; (repeat (first | exact OutS.nil | exact GetS.hit | exact PutS.hit | apply GetS.miss rfl | apply PutS.miss rfl | apply OutS.cons | apply OutS.skip rfl)))
  ((repeat refine c_seq ?_); refine c_region ?_; (repeat (first | ((first | apply o_move rfl rfl | apply o_easy1 rfl rfl rfl | apply o_ld rfl rfl (by assumption) (by first | rfl | assumption)); conv => lhs; whnf) | apply o_no rfl | refine o_b rfl rfl rfl (by constructor; omega) ?_ | refine o_f rfl rfl rfl (by constructor; omega) ?_ | refine o_s rfl rfl rfl (by constructor; first | omega | assumption) ?_ | refine o_t rfl rfl rfl (by constructor; assumption) ?_ | (apply o_easy rfl rfl rfl; conv => lhs; whnf) | apply o_non rfl)))
  refine o_st rfl rfl rfl rfl hg rfl (lets_of (blt_no hb) (fun e => rfl)) (cs' := lx t u o mx at' i2 out) rfl ?_
  (apply o_end; (repeat (first | exact OutS.nil | exact GetS.hit | exact PutS.hit | apply GetS.miss rfl | apply PutS.miss rfl | apply OutS.cons | apply OutS.skip rfl)))
  ((repeat refine c_seq ?_); refine c_region ?_; (repeat (first | ((first | apply o_move rfl rfl | apply o_easy1 rfl rfl rfl | apply o_ld rfl rfl (by assumption) (by first | rfl | assumption)); conv => lhs; whnf) | apply o_no rfl | refine o_b rfl rfl rfl (by constructor; omega) ?_ | refine o_f rfl rfl rfl (by constructor; omega) ?_ | refine o_s rfl rfl rfl (by constructor; first | omega | assumption) ?_ | refine o_t rfl rfl rfl (by constructor; assumption) ?_ | (apply o_easy rfl rfl rfl; conv => lhs; whnf) | apply o_non rfl)); apply o_end; (repeat (first | exact OutS.nil | exact GetS.hit | exact PutS.hit | apply GetS.miss rfl | apply PutS.miss rfl | apply OutS.cons | apply OutS.skip rfl)))
  refine c_ret ⟨_, _, rfl, _, rfl, z, i2, rfl, hn, ?_⟩
  rename_i s
  have hlen := s.put_len r (.cells (lx t u o mx at' i2 out) 0)
  show ({ heap := (s.put r _).heap.take s.heap.length, toks := s.toks } : Sg) = _
  rw [← hlen, List.take_length]
  rfl

/-- strings.HasPrefix -/
theorem pre_gen (m : Nat) (b : Bar) (l q : List UInt8) (v : Bool) (s : Sg) (ht : l.length < 2 ^ 40) (hq : q.length < 2 ^ 40) (hv : v = (l.take q.length == q)) :
    callF T (m + 2) b 26 [.str l, .str q] s = some (.ret (.bool v), s) := by
  have h39 : callF T (m + 1) (b.into .pure s) 39 [.str l, .str q] s = some (.ret (.bool v), s) := by
    subst hv
    rcases Nat.lt_or_ge l.length q.length with h | h
    · have hf : (l.take q.length == q) = false := by
        rw [List.take_of_length_le (by omega)]
        have : l ≠ q := fun e => by rw [e] at h; omega
        simpa using this
      rw [hf]
      (apply f_of rfl rfl; (repeat (first | exact Shape.nil | (apply Shape.cons; conv => lhs; whnf))))
      ((repeat refine c_seq ?_); refine c_region ?_; (repeat (first | ((first | apply o_move rfl rfl | apply o_easy1 rfl rfl rfl | apply o_ld rfl rfl (by assumption) (by first | rfl | assumption)); conv => lhs; whnf) | apply o_no rfl | refine o_b rfl rfl rfl (by constructor; omega) ?_ | refine o_f rfl rfl rfl (by constructor; omega) ?_ | refine o_s rfl rfl rfl (by constructor; first | omega | assumption) ?_ | refine o_t rfl rfl rfl (by constructor; assumption) ?_ | (apply o_easy rfl rfl rfl; conv => lhs; whnf) | apply o_non rfl)); apply o_end; (repeat (first | exact OutS.nil | exact GetS.hit | exact PutS.hit | apply GetS.miss rfl | apply PutS.miss rfl | apply OutS.cons | apply OutS.skip rfl)))
      ((repeat refine c_seq ?_); refine c_region ?_; (repeat (first | ((first | apply o_move rfl rfl | apply o_easy1 rfl rfl rfl | apply o_ld rfl rfl (by assumption) (by first | rfl | assumption)); conv => lhs; whnf) | apply o_no rfl | refine o_b rfl rfl rfl (by constructor; omega) ?_ | refine o_f rfl rfl rfl (by constructor; omega) ?_ | refine o_s rfl rfl rfl (by constructor; first | omega | assumption) ?_ | refine o_t rfl rfl rfl (by constructor; assumption) ?_ | (apply o_easy rfl rfl rfl; conv => lhs; whnf) | apply o_non rfl)); apply o_end; (repeat (first | exact OutS.nil | exact GetS.hit | exact PutS.hit | apply GetS.miss rfl | apply PutS.miss rfl | apply OutS.cons | apply OutS.skip rfl)))
      exact c_ret rfl
    · (apply f_of rfl rfl; (repeat (first | exact Shape.nil | (apply Shape.cons; conv => lhs; whnf))))
      ((repeat refine c_seq ?_); refine c_region ?_; (repeat (first | ((first | apply o_move rfl rfl | apply o_easy1 rfl rfl rfl | apply o_ld rfl rfl (by assumption) (by first | rfl | assumption)); conv => lhs; whnf) | apply o_no rfl | refine o_b rfl rfl rfl (by constructor; omega) ?_ | refine o_f rfl rfl rfl (by constructor; omega) ?_ | refine o_s rfl rfl rfl (by constructor; first | omega | assumption) ?_ | refine o_t rfl rfl rfl (by constructor; assumption) ?_ | (apply o_easy rfl rfl rfl; conv => lhs; whnf) | apply o_non rfl)); apply o_end; (repeat (first | exact OutS.nil | exact GetS.hit | exact PutS.hit | apply GetS.miss rfl | apply PutS.miss rfl | apply OutS.cons | apply OutS.skip rfl)))
      ((repeat refine c_seq ?_); refine c_region ?_; (repeat (first | ((first | apply o_move rfl rfl | apply o_easy1 rfl rfl rfl | apply o_ld rfl rfl (by assumption) (by first | rfl | assumption)); conv => lhs; whnf) | apply o_no rfl | refine o_b rfl rfl rfl (by constructor; omega) ?_ | refine o_f rfl rfl rfl (by constructor; omega) ?_ | refine o_s rfl rfl rfl (by constructor; first | omega | assumption) ?_ | refine o_t rfl rfl rfl (by constructor; assumption) ?_ | (apply o_easy rfl rfl rfl; conv => lhs; whnf) | apply o_non rfl)))
      refine o_slTo (l := l) (j := q.length) rfl rfl rfl rfl h ?_
      by_cases he : l.take q.length = q
      · (repeat (first | ((first | apply o_move rfl rfl | apply o_easy1 rfl rfl rfl | apply o_ld rfl rfl (by assumption) (by first | rfl | assumption)); conv => lhs; whnf) | apply o_no rfl | refine o_b rfl rfl rfl (by constructor; omega) ?_ | refine o_f rfl rfl rfl (by constructor; omega) ?_ | refine o_s rfl rfl rfl (by constructor; first | omega | assumption) ?_ | refine o_t rfl rfl rfl (by constructor; assumption) ?_ | (apply o_easy rfl rfl rfl; conv => lhs; whnf) | apply o_non rfl))
        (apply o_end; (repeat (first | exact OutS.nil | exact GetS.hit | exact PutS.hit | apply GetS.miss rfl | apply PutS.miss rfl | apply OutS.cons | apply OutS.skip rfl)))
        exact c_ret (by rw [show (l.take q.length == q) = true by simpa using he]; rfl)
      · (repeat (first | ((first | apply o_move rfl rfl | apply o_easy1 rfl rfl rfl | apply o_ld rfl rfl (by assumption) (by first | rfl | assumption)); conv => lhs; whnf) | apply o_no rfl | refine o_b rfl rfl rfl (by constructor; omega) ?_ | refine o_f rfl rfl rfl (by constructor; omega) ?_ | refine o_s rfl rfl rfl (by constructor; first | omega | assumption) ?_ | refine o_t rfl rfl rfl (by constructor; assumption) ?_ | (apply o_easy rfl rfl rfl; conv => lhs; whnf) | apply o_non rfl))
        (apply o_end; (repeat (first | exact OutS.nil | exact GetS.hit | exact PutS.hit | apply GetS.miss rfl | apply PutS.miss rfl | apply OutS.cons | apply OutS.skip rfl)))
        exact c_ret (by rw [show (l.take q.length == q) = false by simpa using he]; rfl)
  (apply f_of rfl rfl; (repeat (first | exact Shape.nil | (apply Shape.cons; conv => lhs; whnf))))
  ((repeat refine c_seq ?_); refine c_region ?_; (repeat (first | ((first | apply o_move rfl rfl | apply o_easy1 rfl rfl rfl | apply o_ld rfl rfl (by assumption) (by first | rfl | assumption)); conv => lhs; whnf) | apply o_no rfl | refine o_b rfl rfl rfl (by constructor; omega) ?_ | refine o_f rfl rfl rfl (by constructor; omega) ?_ | refine o_s rfl rfl rfl (by constructor; first | omega | assumption) ?_ | refine o_t rfl rfl rfl (by constructor; assumption) ?_ | (apply o_easy rfl rfl rfl; conv => lhs; whnf) | apply o_non rfl)); apply o_end; (repeat (first | exact OutS.nil | exact GetS.hit | exact PutS.hit | apply GetS.miss rfl | apply PutS.miss rfl | apply OutS.cons | apply OutS.skip rfl)))
  ((repeat refine c_seq ?_); refine c_region ?_; (repeat (first | ((first | apply o_move rfl rfl | apply o_easy1 rfl rfl rfl | apply o_ld rfl rfl (by assumption) (by first | rfl | assumption)); conv => lhs; whnf) | apply o_no rfl | refine o_b rfl rfl rfl (by constructor; omega) ?_ | refine o_f rfl rfl rfl (by constructor; omega) ?_ | refine o_s rfl rfl rfl (by constructor; first | omega | assumption) ?_ | refine o_t rfl rfl rfl (by constructor; assumption) ?_ | (apply o_easy rfl rfl rfl; conv => lhs; whnf) | apply o_non rfl)))
  refine o_call rfl rfl h39 ?_
  (repeat (first | ((first | apply o_move rfl rfl | apply o_easy1 rfl rfl rfl | apply o_ld rfl rfl (by assumption) (by first | rfl | assumption)); conv => lhs; whnf) | apply o_no rfl | refine o_b rfl rfl rfl (by constructor; omega) ?_ | refine o_f rfl rfl rfl (by constructor; omega) ?_ | refine o_s rfl rfl rfl (by constructor; first | omega | assumption) ?_ | refine o_t rfl rfl rfl (by constructor; assumption) ?_ | (apply o_easy rfl rfl rfl; conv => lhs; whnf) | apply o_non rfl))
  (apply o_end; (repeat (first | exact OutS.nil | exact GetS.hit | exact PutS.hit | apply GetS.miss rfl | apply PutS.miss rfl | apply OutS.cons | apply OutS.skip rfl)))
  exact c_ret rfl

end Go.Tok

namespace Go.Tok
open Go Go.Am Go.Proofs

theorem take_gno (m : Nat) (b : Bar) (t : List UInt8) (u : Bool) (o mx : Int) (at' i r : Nat) (out : AV) (q : List UInt8) (s : Sg) (ht : t.length < 2 ^ 40) (hq : q.length < 2 ^ 40) (hi : i ≤ t.length) (hc : (t.drop i).take q.length ≠ q) (hg : getCells s.heap r 0 = some (lx t u o mx at' i out)) :
    callF T (m + 3) b 17 [.ptr r 0 0, .str q] s = some (.ret (.bool false), s) := by
  have hh : ((t.drop i).take q.length == q) = false := by simpa using hc
  have hs : ({ heap := s.heap.take s.heap.length, toks := s.toks } : Sg) = s := by rw [List.take_length]
  (apply f_of rfl rfl; (repeat (first | exact Shape.nil | (apply Shape.cons; conv => lhs; whnf))))
  ((repeat refine c_seq ?_); refine c_region ?_; (repeat (first | ((first | apply o_move rfl rfl | apply o_easy1 rfl rfl rfl | apply o_ld rfl rfl (by assumption) (by first | rfl | assumption)); conv => lhs; whnf) | apply o_no rfl | refine o_b rfl rfl rfl (by constructor; omega) ?_ | refine o_f rfl rfl rfl (by constructor; omega) ?_ | (apply o_easy rfl rfl rfl; conv => lhs; whnf) | apply o_non rfl)); apply o_end; (repeat (first | exact OutS.nil | exact GetS.hit | exact PutS.hit | apply GetS.miss rfl | apply PutS.miss rfl | apply OutS.cons | apply OutS.skip rfl)))
  ((repeat refine c_seq ?_); refine c_drawn ?_; (repeat (first | ((first | apply o_move rfl rfl | apply o_easy1 rfl rfl rfl | apply o_ld rfl rfl (by assumption) (by first | rfl | assumption)); conv => lhs; whnf) | apply o_no rfl | refine o_b rfl rfl rfl (by constructor; omega) ?_ | refine o_f rfl rfl rfl (by constructor; omega) ?_ | (apply o_easy rfl rfl rfl; conv => lhs; whnf) | apply o_non rfl)))
  refine o_slFrom (l := t) (i := i) rfl rfl rfl rfl hi ?_
  (repeat (first | ((first | apply o_move rfl rfl | apply o_easy1 rfl rfl rfl | apply o_ld rfl rfl (by assumption) (by first | rfl | assumption)); conv => lhs; whnf) | apply o_no rfl | refine o_b rfl rfl rfl (by constructor; omega) ?_ | refine o_f rfl rfl rfl (by constructor; omega) ?_ | (apply o_easy rfl rfl rfl; conv => lhs; whnf) | apply o_non rfl))
  refine o_call rfl rfl (pre_gen m _ (t.drop i) q false s (by rw [List.length_drop]; omega) hq hh.symm) ?_
  (repeat (first | ((first | apply o_move rfl rfl | apply o_easy1 rfl rfl rfl | apply o_ld rfl rfl (by assumption) (by first | rfl | assumption)); conv => lhs; whnf) | apply o_no rfl | refine o_b rfl rfl rfl (by constructor; omega) ?_ | refine o_f rfl rfl rfl (by constructor; omega) ?_ | (apply o_easy rfl rfl rfl; conv => lhs; whnf) | apply o_non rfl))
  (apply d_end rfl; (repeat (first | exact OutS.nil | exact GetS.hit | exact PutS.hit | apply GetS.miss rfl | apply PutS.miss rfl | apply OutS.cons | apply OutS.skip rfl)))
  ((repeat refine c_seq ?_); refine c_else rfl ?_)
  refine c_skip ?_
  ((repeat refine c_seq ?_); refine c_region ?_; (repeat (first | ((first | apply o_move rfl rfl | apply o_easy1 rfl rfl rfl | apply o_ld rfl rfl (by assumption) (by first | rfl | assumption)); conv => lhs; whnf) | apply o_no rfl | refine o_b rfl rfl rfl (by constructor; omega) ?_ | refine o_f rfl rfl rfl (by constructor; omega) ?_ | (apply o_easy rfl rfl rfl; conv => lhs; whnf) | apply o_non rfl)); apply o_end; (repeat (first | exact OutS.nil | exact GetS.hit | exact PutS.hit | apply GetS.miss rfl | apply PutS.miss rfl | apply OutS.cons | apply OutS.skip rfl)))
  refine c_ret ?_
  show some (Out.ret _, ({ heap := s.heap.take s.heap.length, toks := s.toks } : Sg)) = _
  rw [hs]
  rfl

theorem take_gyes (m : Nat) (b : Bar) (t : List UInt8) (u : Bool) (o mx : Int) (at' i r : Nat) (out : AV) (q : List UInt8) (s : Sg) (hb : b.w ≤ r) (ht : t.length < 2 ^ 40) (hq : q.length < 2 ^ 40) (hi : i ≤ t.length) (hc : (t.drop i).take q.length = q) (hg : getCells s.heap r 0 = some (lx t u o mx at' i out)) :
    callF T (m + 3) b 17 [.ptr r 0 0, .str q] s = some (.ret (.bool true), s.put r (.cells (lx t u o mx at' (i + q.length) out) 0)) := by
  have hh : ((t.drop i).take q.length == q) = true := by simpa using hc
  have hlen := s.put_len r (.cells (lx t u o mx at' (i + q.length) out) 0)
  (apply f_of rfl rfl; (repeat (first | exact Shape.nil | (apply Shape.cons; conv => lhs; whnf))))
  ((repeat refine c_seq ?_); refine c_region ?_; (repeat (first | ((first | apply o_move rfl rfl | apply o_easy1 rfl rfl rfl | apply o_ld rfl rfl (by assumption) (by first | rfl | assumption)); conv => lhs; whnf) | apply o_no rfl | refine o_b rfl rfl rfl (by constructor; omega) ?_ | refine o_f rfl rfl rfl (by constructor; omega) ?_ | (apply o_easy rfl rfl rfl; conv => lhs; whnf) | apply o_non rfl)); apply o_end; (repeat (first | exact OutS.nil | exact GetS.hit | exact PutS.hit | apply GetS.miss rfl | apply PutS.miss rfl | apply OutS.cons | apply OutS.skip rfl)))
  ((repeat refine c_seq ?_); refine c_drawn ?_; (repeat (first | ((first | apply o_move rfl rfl | apply o_easy1 rfl rfl rfl | apply o_ld rfl rfl (by assumption) (by first | rfl | assumption)); conv => lhs; whnf) | apply o_no rfl | refine o_b rfl rfl rfl (by constructor; omega) ?_ | refine o_f rfl rfl rfl (by constructor; omega) ?_ | (apply o_easy rfl rfl rfl; conv => lhs; whnf) | apply o_non rfl)))
  refine o_slFrom (l := t) (i := i) rfl rfl rfl rfl hi ?_
  (repeat (first | ((first | apply o_move rfl rfl | apply o_easy1 rfl rfl rfl | apply o_ld rfl rfl (by assumption) (by first | rfl | assumption)); conv => lhs; whnf) | apply o_no rfl | refine o_b rfl rfl rfl (by constructor; omega) ?_ | refine o_f rfl rfl rfl (by constructor; omega) ?_ | (apply o_easy rfl rfl rfl; conv => lhs; whnf) | apply o_non rfl))
  refine o_call rfl rfl (pre_gen m _ (t.drop i) q true s (by rw [List.length_drop]; omega) hq hh.symm) ?_
  (repeat (first | ((first | apply o_move rfl rfl | apply o_easy1 rfl rfl rfl | apply o_ld rfl rfl (by assumption) (by first | rfl | assumption)); conv => lhs; whnf) | apply o_no rfl | refine o_b rfl rfl rfl (by constructor; omega) ?_ | refine o_f rfl rfl rfl (by constructor; omega) ?_ | (apply o_easy rfl rfl rfl; conv => lhs; whnf) | apply o_non rfl))
  (apply d_end rfl; (repeat (first | exact OutS.nil | exact GetS.hit | exact PutS.hit | apply GetS.miss rfl | apply PutS.miss rfl | apply OutS.cons | apply OutS.skip rfl)))
  ((repeat refine c_seq ?_); refine c_if rfl ?_)
  ((repeat refine c_seq ?_); refine c_region ?_; (repeat (first | ((first | apply o_move rfl rfl | apply o_easy1 rfl rfl rfl | apply o_ld rfl rfl (by assumption) (by first | rfl | assumption)); conv => lhs; whnf) | apply o_no rfl | refine o_b rfl rfl rfl (by constructor; omega) ?_ | refine o_f rfl rfl rfl (by constructor; omega) ?_ | (apply o_easy rfl rfl rfl; conv => lhs; whnf) | apply o_non rfl)))
  refine o_st rfl rfl rfl rfl hg rfl (lets_of (blt_no hb) (fun e => rfl)) (cs' := lx t u o mx at' (i + q.length) out) rfl ?_
  (apply o_end; (repeat (first | exact OutS.nil | exact GetS.hit | exact PutS.hit | apply GetS.miss rfl | apply PutS.miss rfl | apply OutS.cons | apply OutS.skip rfl)))
  ((repeat refine c_seq ?_); refine c_region ?_; (repeat (first | ((first | apply o_move rfl rfl | apply o_easy1 rfl rfl rfl | apply o_ld rfl rfl (by assumption) (by first | rfl | assumption)); conv => lhs; whnf) | apply o_no rfl | refine o_b rfl rfl rfl (by constructor; omega) ?_ | refine o_f rfl rfl rfl (by constructor; omega) ?_ | (apply o_easy rfl rfl rfl; conv => lhs; whnf) | apply o_non rfl)); apply o_end; (repeat (first | exact OutS.nil | exact GetS.hit | exact PutS.hit | apply GetS.miss rfl | apply PutS.miss rfl | apply OutS.cons | apply OutS.skip rfl)))
  refine c_ret ?_
  show some (Out.ret _, ({ heap := (s.put r _).heap.take s.heap.length, toks := s.toks } : Sg)) = _
  rw [← hlen, List.take_length]
  rfl

/-- tokens of characters, one behind the other -/
def Chain (t : List UInt8) (u : Bool) : Nat → Nat → List Tk → Prop
  | p, q, [] => p = q
  | p, q, x :: l => ∃ z p2, x = ⟨1, p, (p2 : Nat), z, 0, 0, 0⟩ ∧ NextAt t u p z p2 ∧ Chain t u p2 q l

theorem chain_snoc {t : List UInt8} {u : Bool} : ∀ {l : List Tk} {p q q2 : Nat} {z : Int}, Chain t u p q l → NextAt t u q z q2 → Chain t u p q2 (l ++ [⟨1, q, q2, z, 0, 0, 0⟩])
  | [], p, q, q2, z, h, hn => by
    obtain rfl : p = q := h
    exact ⟨z, q2, rfl, hn, rfl⟩
  | x :: l, p, q, q2, z, h, hn => by
    obtain ⟨z1, p2, h1, h2, h3⟩ := h
    exact ⟨z1, p2, h1, h2, chain_snoc h3 hn⟩

/-- where a quoted text stops -/
structure StopAt (t : List UInt8) (p0 stop : Nat) : Prop where
  no : ∀ p, p0 ≤ p → p < stop → (t.drop p).take 2 ≠ [92, 69]
  le : stop ≤ t.length
  yes : stop = t.length ∨ ((t.drop stop).take 2 = [92, 69] ∧ stop + 2 = t.length)

theorem StopAt.lands {t : List UInt8} {p0 stop p p2 : Nat} {u : Bool} {z : Int} (h : StopAt t p0 stop) (hp : p < stop) (hn : NextAt t u p z p2) : p2 ≤ stop := by
  obtain ⟨h1, h2, h3, _⟩ := hn
  rcases h.yes with e | ⟨e, _⟩
  · omega
  · rcases Nat.lt_or_ge stop p2 with hlt | hge
    · obtain ⟨x, hx, hx2⟩ := h3 (stop - (p + 1)) (by omega)
      rw [show p + 1 + (stop - (p + 1)) = stop by omega] at hx
      have hh : t[stop]? = some 92 := by
        rw [← List.head?_drop]
        cases hd : t.drop stop with
        | nil => rw [hd] at e; simp at e
        | cons c r => rw [hd] at e; simp at e; simp [e.1]
      rw [hh] at hx
      cases hx
      exact absurd hx2 (by decide)
    · exact hge

/-- the loop 0 of function 29 -/
def lp29_0 : ACode := .seq (.seq (.drawn [⟨(some 3), .v (.move (.tmp 0)), none⟩, ⟨(some 4), .v (.nilCheck (.tmp 3)), none⟩, ⟨(some 5), .v (.fieldAddr 5 none (.tmp 4)), none⟩, ⟨(some 6), .v (.load none (.tmp 5)), none⟩, ⟨(some 7), .v (.move (.tmp 0)), none⟩, ⟨(some 8), .v (.nilCheck (.tmp 7)), none⟩, ⟨(some 9), .v (.fieldAddr 0 none (.tmp 8)), none⟩, ⟨(some 10), .v (.load none (.tmp 9)), none⟩, ⟨(some 11), .v (.len 0 (.tmp 10)), none⟩, ⟨(some 12), .v (.bin .lss (.tmp 6) (.tmp 11)), none⟩, ⟨(some 13), .v (.move (.tmp 12)), none⟩, ⟨(some 14), .v (.move (.tmp 0)), (some (13, true))⟩, ⟨(some 15), .call 17 [(.tmp 14), (.const (.str [92, 69]))], (some (13, true))⟩, ⟨(some 16), .v (.un .not (.tmp 15)), (some (13, true))⟩, ⟨(some 17), .v (.pick (.tmp 13) (.tmp 16) (.const (.bool false))), none⟩] [17] [] false 0) (.cond (.tmp 17) (.skip) (.exit 0))) (.block 1 (.seq (.region [⟨(some 18), .v (.move (.tmp 0)), none⟩, ⟨(some 19), .v (.move (.tmp 0)), none⟩, ⟨(some 20), .v (.nilCheck (.tmp 19)), none⟩, ⟨(some 21), .v (.fieldAddr 5 none (.tmp 20)), none⟩, ⟨(some 22), .v (.load none (.tmp 21)), none⟩, ⟨(some 23), .v (.nilCheck (.tmp 18)), none⟩, ⟨(some 24), .v (.fieldAddr 4 none (.tmp 23)), none⟩, ⟨none, .e (.store 1 (.tmp 24) (.tmp 22)), none⟩] []) (.seq (.region [⟨(some 25), .v (.move (.tmp 0)), none⟩, ⟨(some 26), .call 14 [(.tmp 25)], none⟩, ⟨(some 2), .v (.move (.tmp 26)), none⟩] [2]) (.region [⟨(some 27), .v (.move (.tmp 0)), none⟩, ⟨(some 28), .v (.move (.tmp 2)), none⟩, ⟨(some 29), .v (.build [(.int .i64 0), (.int .i64 0), (.int .i64 0), (.int .i64 0), .nilsl, (.bool false), (.int .i64 0), (.int .i64 0), (.int .i64 0), (.str []), (.int .i64 0), (.int .i64 0)] [(0, 1, (.const (.int .i64 1))), (3, 1, (.tmp 28))]), none⟩, ⟨(some 30), .call 21 [(.tmp 27), (.tmp 29)], none⟩] []))))

theorem quote_loop (m : Nat) (b : Bar) (s0 : Sg) (t : List UInt8) (u : Bool) (o mx : Int) (r p0 stop : Nat) (hb : b.w ≤ r) (hes : b.es = []) (ht : t.length ≤ 1000) (hst : StopAt t p0 stop) {Q : Ex → Fr → Sg → Prop}
    (hq : ∀ x17 x2 at' l s', LS s0 r t u o mx at' t.length l s' → Chain t u p0 stop l → Q (.exit 0) ⟨[(0, .ptr r 0 0), (17, x17), (2, x2)], [], .off⟩ s') :
    ∀ (d p L : Nat) (x17 x2 : AV) (at' : Nat) (l : List Tk) (s : Sg), stop - p ≤ d → p0 ≤ p → p ≤ stop → d + 2 ≤ L → l.length ≤ p → LS s0 r t u o mx at' p l s → Chain t u p0 p l →
    OkL L (fun fr s => ACode.run (loopN (m + 10)) (callF T (m + 10)) b lp29_0 fr s) ⟨[(0, .ptr r 0 0), (17, x17), (2, x2)], [], .off⟩ s Q := by
  have hend : ∀ (p L : Nat) (x17 x2 : AV) (at' : Nat) (l : List Tk) (s : Sg), p = stop → 2 ≤ L → LS s0 r t u o mx at' p l s → Chain t u p0 p l →
      OkL L (fun fr s => ACode.run (loopN (m + 10)) (callF T (m + 10)) b lp29_0 fr s) ⟨[(0, .ptr r 0 0), (17, x17), (2, x2)], [], .off⟩ s Q := by
    intro p L x17 x2 at' l s hp hL h hch
    obtain ⟨L, rfl⟩ : ∃ L', L = L' + 1 := ⟨L - 1, by omega⟩
    subst hp
    have h' := h
    obtain ⟨⟨out, hg, ho⟩, hlow⟩ := h'
    rcases hst.yes with e | ⟨e, e2⟩
    · subst e
      apply l_round
      ((repeat refine c_seq ?_); refine c_drawn ?_; (repeat (first | ((first | apply o_move rfl rfl | apply o_easy1 rfl rfl rfl | apply o_ld rfl rfl (by assumption) (by first | rfl | assumption)); conv => lhs; whnf) | apply o_no rfl | refine o_b rfl rfl rfl (by constructor; omega) ?_ | refine o_f rfl rfl rfl (by constructor; omega) ?_ | (apply o_easy rfl rfl rfl; conv => lhs; whnf) | apply o_non rfl)); apply d_end rfl; (repeat (first | exact OutS.nil | exact GetS.hit | exact PutS.hit | apply GetS.miss rfl | apply PutS.miss rfl | apply OutS.cons | apply OutS.skip rfl)))
      ((repeat refine c_seq ?_); refine c_else rfl ?_)
      exact c_exit (hq _ _ _ _ _ h hch)
    · apply l_round
      ((repeat refine c_seq ?_); refine c_drawn ?_; (repeat (first | ((first | apply o_move rfl rfl | apply o_easy1 rfl rfl rfl | apply o_ld rfl rfl (by assumption) (by first | rfl | assumption)); conv => lhs; whnf) | apply o_no rfl | refine o_b rfl rfl rfl (by constructor; omega) ?_ | refine o_f rfl rfl rfl (by constructor; omega) ?_ | (apply o_easy rfl rfl rfl; conv => lhs; whnf) | apply o_non rfl)))
      refine o_call rfl rfl (take_gyes _ _ t u o mx at' p r out [92, 69] s hb (by omega) (by decide) (by omega) e hg) ?_
      (repeat (first | ((first | apply o_move rfl rfl | apply o_easy1 rfl rfl rfl | apply o_ld rfl rfl (by assumption) (by first | rfl | assumption)); conv => lhs; whnf) | apply o_no rfl | refine o_b rfl rfl rfl (by constructor; omega) ?_ | refine o_f rfl rfl rfl (by constructor; omega) ?_ | (apply o_easy rfl rfl rfl; conv => lhs; whnf) | apply o_non rfl))
      (apply d_end rfl; (repeat (first | exact OutS.nil | exact GetS.hit | exact PutS.hit | apply GetS.miss rfl | apply PutS.miss rfl | apply OutS.cons | apply OutS.skip rfl)))
      ((repeat refine c_seq ?_); refine c_else rfl ?_)
      refine c_exit (hq _ _ at' l _ ?_ hch)
      have : p + ([92, 69] : List UInt8).length = t.length := e2
      rw [this]
      exact LS.put hg ho hlow
  intro d
  induction d with
  | zero =>
    intro p L x17 x2 at' l s hd hp0 hp hL hll h hch
    exact hend p L x17 x2 at' l s (by omega) (by omega) h hch
  | succ d ih =>
    intro p L x17 x2 at' l s hd hp0 hp hL hll h hch
    rcases Nat.lt_or_ge p stop with hlt | hge
    · obtain ⟨L, rfl⟩ : ∃ L', L = L' + 1 := ⟨L - 1, by omega⟩
      have hle := hst.le
      obtain ⟨⟨out, hg, ho⟩, hlow⟩ := h
      apply l_round
      ((repeat refine c_seq ?_); refine c_drawn ?_; (repeat (first | ((first | apply o_move rfl rfl | apply o_easy1 rfl rfl rfl | apply o_ld rfl rfl (by assumption) (by first | rfl | assumption)); conv => lhs; whnf) | apply o_no rfl | refine o_b rfl rfl rfl (by constructor; omega) ?_ | refine o_f rfl rfl rfl (by constructor; omega) ?_ | (apply o_easy rfl rfl rfl; conv => lhs; whnf) | apply o_non rfl)))
      refine o_call rfl rfl (take_gno _ _ t u o mx at' p r out [92, 69] s (by omega) (by decide) (by omega) (hst.no p hp0 hlt) hg) ?_
      (repeat (first | ((first | apply o_move rfl rfl | apply o_easy1 rfl rfl rfl | apply o_ld rfl rfl (by assumption) (by first | rfl | assumption)); conv => lhs; whnf) | apply o_no rfl | refine o_b rfl rfl rfl (by constructor; omega) ?_ | refine o_f rfl rfl rfl (by constructor; omega) ?_ | (apply o_easy rfl rfl rfl; conv => lhs; whnf) | apply o_non rfl))
      (apply d_end rfl; (repeat (first | exact OutS.nil | exact GetS.hit | exact PutS.hit | apply GetS.miss rfl | apply PutS.miss rfl | apply OutS.cons | apply OutS.skip rfl)))
      ((repeat refine c_seq ?_); refine c_if rfl ?_)
      refine c_skip ?_
      ((repeat refine c_seq ?_); refine c_block ?_)
      ((repeat refine c_seq ?_); refine c_region ?_; (repeat (first | ((first | apply o_move rfl rfl | apply o_easy1 rfl rfl rfl | apply o_ld rfl rfl (by assumption) (by first | rfl | assumption)); conv => lhs; whnf) | apply o_no rfl | refine o_b rfl rfl rfl (by constructor; omega) ?_ | refine o_f rfl rfl rfl (by constructor; omega) ?_ | (apply o_easy rfl rfl rfl; conv => lhs; whnf) | apply o_non rfl)))
      refine o_st rfl rfl rfl rfl hg rfl (lets_nil (blt_no hb) hes) (cs' := lx t u o mx p p out) rfl ?_
      (apply o_end; (repeat (first | exact OutS.nil | exact GetS.hit | exact PutS.hit | apply GetS.miss rfl | apply PutS.miss rfl | apply OutS.cons | apply OutS.skip rfl)))
      have hg1 := getCells_put (cs' := lx t u o mx p p out) (g' := 0) hg
      ((repeat refine c_seq ?_); refine c_region ?_; (repeat (first | ((first | apply o_move rfl rfl | apply o_easy1 rfl rfl rfl | apply o_ld rfl rfl (by assumption) (by first | rfl | assumption)); conv => lhs; whnf) | apply o_no rfl | refine o_b rfl rfl rfl (by constructor; omega) ?_ | refine o_f rfl rfl rfl (by constructor; omega) ?_ | (apply o_easy rfl rfl rfl; conv => lhs; whnf) | apply o_non rfl)))
      refine o_callR (P := fun v s' => ∃ (z : Int) (i2 : Nat), v = .int .i64 z ∧ NextAt t u p z i2 ∧ s' = (s.put r (.cells (lx t u o mx p p out) 0)).put r (.cells (lx t u o mx p i2 out) 0)) rfl rfl (char_any m _ t u o mx p p r out _ hb (by omega) (by omega) hg1) ?_
      rintro _ _ ⟨z, p2, rfl, hn, rfl⟩
      rw [Sg.put_put]
      (repeat (first | ((first | apply o_move rfl rfl | apply o_easy1 rfl rfl rfl | apply o_ld rfl rfl (by assumption) (by first | rfl | assumption)); conv => lhs; whnf) | apply o_no rfl | refine o_b rfl rfl rfl (by constructor; omega) ?_ | refine o_f rfl rfl rfl (by constructor; omega) ?_ | (apply o_easy rfl rfl rfl; conv => lhs; whnf) | apply o_non rfl))
      (apply o_end; (repeat (first | exact OutS.nil | exact GetS.hit | exact PutS.hit | apply GetS.miss rfl | apply PutS.miss rfl | apply OutS.cons | apply OutS.skip rfl)))
      have hL2 : LS s0 r t u o mx p p2 l (s.put r (.cells (lx t u o mx p p2 out) 0)) := LS.put hg ho hlow
      have hp2 := hst.lands hlt hn
      have hn1 := hn.1
      ((repeat refine c_seq ?_); refine c_region ?_; (repeat (first | ((first | apply o_move rfl rfl | apply o_easy1 rfl rfl rfl | apply o_ld rfl rfl (by assumption) (by first | rfl | assumption)); conv => lhs; whnf) | apply o_no rfl | refine o_b rfl rfl rfl (by constructor; omega) ?_ | refine o_f rfl rfl rfl (by constructor; omega) ?_ | (apply o_easy rfl rfl rfl; conv => lhs; whnf) | apply o_non rfl)))
      refine o_callw (l := [.ptr r 0 0, (⟨1, 0, 0, z, 0, 0, 0⟩ : Tk).av]) rfl rfl ((put_spec (m + 9) b s0 t u o mx p p2 r l ⟨1, 0, 0, z, 0, 0, 0⟩ _ hb hes (by omega) hL2).mono ?_)
      rintro _ s2 ⟨rfl, h2⟩
      (apply o_end; (repeat (first | exact OutS.nil | exact GetS.hit | exact PutS.hit | apply GetS.miss rfl | apply PutS.miss rfl | apply OutS.cons | apply OutS.skip rfl)))
      exact ih p2 L _ _ p _ s2 (by omega) (by omega) hp2 (by omega) (by simp; omega) h2 (chain_snoc hch hn)
    · exact hend p L x17 x2 at' l s (by omega) (by omega) h hch

end Go.Tok
