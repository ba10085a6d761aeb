/-
  What is too long, is no UTF-8, or has options that there are not, is refused ahead of all else: TokensBounds answers true, whatever the number and the bytes, and leaves them as they were.
-/
import Derived.Test.YthlgbcfijipkcaaGreatBoundsA
import Derived.Test.YthlgbcfijipkcaaGreatRows
import Derived.Test.YthlgbcfijipkcaaGreatMachD

namespace Go.Tok
open Go Go.Am Go.Proofs

def kindCs : List AV := [.int .u8 0, .int .u8 0, .int .i64 0, .int .u8 128, .int .u8 0, .int .i64 0, .int .u8 224, .int .u8 192, .int .i64 128, .int .u8 240, .int .u8 224, .int .i64 2048, .int .u8 248, .int .u8 240, .int .i64 65536]

/-- utf.kinds -/
theorem kinds_spec (m : Nat) (b : Bar) (s : Sg) : callF T (m + 1) b 24 [] s = some (.ret (.agg kindCs), s) := by
  suffices h : OkF (callF T (m + 1) b 24 [] s) (fun o s' => o = .ret (.agg kindCs) ∧ s' = s) by
    obtain ⟨o, s', h1, rfl, rfl⟩ := h.ok
    exact h1
  (apply f_wp rfl rfl; (repeat (first | exact Shape.nil | (apply Shape.cons; conv => lhs; whnf))))
  ((repeat refine c_seq ?_); refine c_region ?_; (repeat (first | ((first | apply o_move rfl rfl | apply o_easy1 rfl rfl rfl | apply o_ld rfl rfl (by assumption) (by first | rfl | assumption)); conv => lhs; whnf) | apply o_no rfl | refine o_b rfl rfl rfl (by constructor; omega) ?_ | refine o_f rfl rfl rfl (by constructor; omega) ?_ | refine o_s rfl rfl rfl (by constructor; first | omega | assumption) ?_ | refine o_t rfl rfl rfl (by constructor; assumption) ?_ | (apply o_easy rfl rfl rfl; conv => lhs; whnf) | apply o_non rfl)))
  refine o_alloc rfl ?_
  (apply o_end; (repeat (first | exact OutS.nil | exact GetS.hit | exact PutS.hit | apply GetS.miss rfl | apply PutS.miss rfl | apply OutS.cons | apply OutS.skip rfl)))
  have hA := getCells_new s [.int .u8 0, .int .u8 0, .int .i64 0, .int .u8 0, .int .u8 0, .int .i64 0, .int .u8 0, .int .u8 0, .int .i64 0, .int .u8 0, .int .u8 0, .int .i64 0, .int .u8 0, .int .u8 0, .int .i64 0] 0
  ((repeat refine c_seq ?_); refine c_region ?_; (repeat (first | ((first | apply o_move rfl rfl | apply o_easy1 rfl rfl rfl | apply o_ld rfl rfl (by assumption) (by first | rfl | assumption)); conv => lhs; whnf) | apply o_no rfl | refine o_b rfl rfl rfl (by constructor; omega) ?_ | refine o_f rfl rfl rfl (by constructor; omega) ?_ | refine o_s rfl rfl rfl (by constructor; first | omega | assumption) ?_ | refine o_t rfl rfl rfl (by constructor; assumption) ?_ | (apply o_easy rfl rfl rfl; conv => lhs; whnf) | apply o_non rfl)))
  refine o_st rfl rfl rfl rfl hA rfl (lets_of (blt_no (by show s.heap.length ≤ s.heap.length; omega)) (fun e => rfl)) (cs' := kindCs) rfl ?_
  have hA2 := getCells_put (cs' := kindCs) (g' := 0) hA
  (apply o_end; (repeat (first | exact OutS.nil | exact GetS.hit | exact PutS.hit | apply GetS.miss rfl | apply PutS.miss rfl | apply OutS.cons | apply OutS.skip rfl)))
  refine c_ret ?_
  show OkF (endRet _ _ _ _) _
  exact end_ret (read_cell rfl hA2 rfl read_nil) (leave_pure (lay_cons rfl lay_nil) (by simp [AV.oldAll, AV.old, AV.weak, kindCs])) ⟨rfl, rfl⟩

/-- the loop 0 of function 13 -/
def lp13_0 : ACode := .seq (.region [⟨(some 13), .v (.bin .lss (.tmp 12) (.const (.int .i64 5))), none⟩] [13]) (.seq (.cond (.tmp 13) (.skip) (.exit 0)) (.seq (.block 1 (.seq (.region [⟨(some 14), .v (.move (.tmp 12)), none⟩, ⟨(some 15), .v (.indexA 5 (some 3) (.tmp 11) (.tmp 12)), none⟩, ⟨(some 7), .e (.alloc [(.int .u8 0), (.int .u8 0), (.int .i64 0)]), none⟩, ⟨(some 6), .v (.move (.tmp 14)), none⟩, ⟨none, .e (.store 3 (.tmp 7) (.tmp 15)), none⟩] [7, 6]) (.seq (.seq (.drawn [⟨(some 16), .v (.move (.tmp 6)), none⟩, ⟨(some 17), .v (.bin .eql (.tmp 16) (.const (.int .i64 0))), none⟩, ⟨(some 18), .v (.move (.tmp 17)), none⟩, ⟨(some 19), .v (.move (.tmp 0)), (some (18, false))⟩, ⟨(some 20), .v (.move (.tmp 1)), (some (18, false))⟩, ⟨(some 21), .v (.indexAddrS none (.tmp 19) (.tmp 20)), (some (18, false))⟩, ⟨(some 22), .v (.load none (.tmp 21)), (some (18, false))⟩, ⟨(some 23), .v (.fieldAddr 0 none (.tmp 7)), (some (18, false))⟩, ⟨(some 24), .v (.load none (.tmp 23)), (some (18, false))⟩, ⟨(some 25), .v (.bin .and (.tmp 22) (.tmp 24)), (some (18, false))⟩, ⟨(some 26), .v (.fieldAddr 1 none (.tmp 7)), (some (18, false))⟩, ⟨(some 27), .v (.load none (.tmp 26)), (some (18, false))⟩, ⟨(some 28), .v (.bin .neq (.tmp 25) (.tmp 27)), (some (18, false))⟩, ⟨(some 29), .v (.pick (.tmp 18) (.const (.bool true)) (.tmp 28)), none⟩, ⟨(some 30), .v (.move (.tmp 29)), none⟩, ⟨(some 31), .v (.move (.tmp 1)), (some (30, false))⟩, ⟨(some 32), .v (.move (.tmp 6)), (some (30, false))⟩, ⟨(some 33), .v (.bin .add (.tmp 31) (.tmp 32)), (some (30, false))⟩, ⟨(some 34), .v (.move (.tmp 0)), (some (30, false))⟩, ⟨(some 35), .v (.len 1 (.tmp 34)), (some (30, false))⟩, ⟨(some 36), .v (.bin .gtr (.tmp 33) (.tmp 35)), (some (30, false))⟩, ⟨(some 37), .v (.pick (.tmp 30) (.const (.bool true)) (.tmp 36)), none⟩] [37] [] false 0) (.cond (.tmp 37) (.exit 1) (.skip))) (.seq (.drawn [⟨(some 38), .v (.move (.tmp 0)), none⟩, ⟨(some 39), .v (.move (.tmp 1)), none⟩, ⟨(some 40), .v (.indexAddrS none (.tmp 38) (.tmp 39)), none⟩, ⟨(some 41), .v (.load none (.tmp 40)), none⟩, ⟨(some 42), .v (.fieldAddr 0 none (.tmp 7)), none⟩, ⟨(some 43), .v (.load none (.tmp 42)), none⟩, ⟨(some 44), .v (.bin .andNot (.tmp 41) (.tmp 43)), none⟩, ⟨(some 45), .v (.conv (.intInt .i64) (.tmp 44)), none⟩, ⟨(some 8), .v (.move (.tmp 45)), none⟩] [8] [] false 0) (.seq (.seq (.region [⟨(some 46), .v (.move (.tmp 6)), none⟩, ⟨(some 47), .v (.bin .sub (.tmp 46) (.const (.int .i64 1))), none⟩, ⟨(some 48), .v (.move (.const (.int .i64 0))), none⟩] [47, 48]) (.block 2 (.loop (.seq (.region [⟨(some 49), .v (.bin .lss (.tmp 48) (.tmp 47)), none⟩] [49]) (.seq (.cond (.tmp 49) (.skip) (.exit 2)) (.seq (.block 3 (.seq (.region [⟨(some 50), .v (.move (.tmp 48)), none⟩, ⟨(some 9), .v (.move (.tmp 50)), none⟩] [9]) (.seq (.region [⟨(some 51), .v (.move (.tmp 0)), none⟩, ⟨(some 52), .v (.move (.tmp 1)), none⟩, ⟨(some 53), .v (.bin .add (.tmp 52) (.const (.int .i64 1))), none⟩, ⟨(some 54), .v (.move (.tmp 9)), none⟩, ⟨(some 55), .v (.bin .add (.tmp 53) (.tmp 54)), none⟩, ⟨(some 56), .v (.indexAddrS none (.tmp 51) (.tmp 55)), none⟩, ⟨(some 57), .v (.load none (.tmp 56)), none⟩, ⟨(some 10), .v (.move (.tmp 57)), none⟩] [10]) (.seq (.seq (.region [⟨(some 58), .v (.move (.tmp 10)), none⟩, ⟨(some 59), .v (.bin .shr (.tmp 58) (.const (.int .u64 6))), none⟩, ⟨(some 60), .v (.bin .neq (.tmp 59) (.const (.int .u8 2))), none⟩] [60]) (.cond (.tmp 60) (.seq (.region [⟨(some 4), .v (.move (.const (.int .i64 0))), none⟩, ⟨(some 5), .v (.move (.const (.int .i64 0))), none⟩] [4, 5]) (.ret)) (.skip))) (.region [⟨(some 61), .v (.move (.tmp 8)), none⟩, ⟨(some 62), .v (.bin .shl (.tmp 61) (.const (.int .u64 6))), none⟩, ⟨(some 63), .v (.move (.tmp 10)), none⟩, ⟨(some 64), .v (.bin .and (.tmp 63) (.const (.int .u8 63))), none⟩, ⟨(some 65), .v (.conv (.intInt .i64) (.tmp 64)), none⟩, ⟨(some 66), .v (.bin .or (.tmp 62) (.tmp 65)), none⟩, ⟨(some 8), .v (.move (.tmp 66)), none⟩] [8]))))) (.region [⟨(some 67), .v (.bin .add (.tmp 48) (.const (.int .i64 1))), none⟩, ⟨(some 48), .v (.move (.tmp 67)), none⟩] [48]))))))) (.seq (.seq (.region [⟨(some 68), .v (.move (.tmp 8)), none⟩, ⟨(some 69), .v (.fieldAddr 2 none (.tmp 7)), none⟩, ⟨(some 70), .v (.load none (.tmp 69)), none⟩, ⟨(some 71), .v (.bin .lss (.tmp 68) (.tmp 70)), none⟩, ⟨(some 72), .v (.move (.tmp 71)), none⟩, ⟨(some 73), .v (.move (.tmp 8)), (some (72, false))⟩, ⟨(some 74), .v (.bin .gtr (.tmp 73) (.const (.int .i64 1114111))), (some (72, false))⟩, ⟨(some 75), .v (.pick (.tmp 72) (.const (.bool true)) (.tmp 74)), none⟩, ⟨(some 76), .v (.move (.tmp 75)), none⟩, ⟨(some 77), .v (.move (.tmp 8)), (some (76, false))⟩, ⟨(some 78), .v (.bin .shr (.tmp 77) (.const (.int .u64 11))), (some (76, false))⟩, ⟨(some 79), .v (.bin .eql (.tmp 78) (.const (.int .i64 27))), (some (76, false))⟩, ⟨(some 80), .v (.pick (.tmp 76) (.const (.bool true)) (.tmp 79)), none⟩] [80]) (.cond (.tmp 80) (.seq (.region [⟨(some 4), .v (.move (.const (.int .i64 0))), none⟩, ⟨(some 5), .v (.move (.const (.int .i64 0))), none⟩] [4, 5]) (.ret)) (.skip))) (.seq (.region [⟨(some 81), .v (.move (.tmp 8)), none⟩, ⟨(some 82), .v (.move (.tmp 6)), none⟩, ⟨(some 4), .v (.move (.tmp 81)), none⟩, ⟨(some 5), .v (.move (.tmp 82)), none⟩] [4, 5]) (.ret)))))))) (.region [⟨(some 83), .v (.bin .add (.tmp 12) (.const (.int .i64 1))), none⟩, ⟨(some 12), .v (.move (.tmp 83)), none⟩] [12])))

abbrev fr13 (t : List UInt8) (a : Nat) (k : Int) (x13 x6 x7 x37 : AV) : Fr :=
  ⟨[(0, .vec (Am.byteCells t) .shut), (1, .int .i64 a), (4, .int .i64 0), (5, .int .i64 0), (12, .int .i64 k), (13, x13), (11, .agg kindCs), (6, x6), (7, x7), (37, x37), (48, .undef), (47, .undef), (49, .undef), (9, .undef), (10, .undef), (60, .undef), (8, .undef), (80, .undef)], [], .off⟩

/-- a round that goes by: the first one -/
theorem round0 (M L : Nat) (b : Bar) (t : List UInt8) (a : Nat) (x13 x6 x7 x37 : AV) (s : Sg) (hb : b.w ≤ s.heap.length) {Q : Ex → Fr → Sg → Prop}
    (h : ∀ x7 s', s.heap.length ≤ s'.heap.length → OkL L (fun fr s => ACode.run (loopN M) (callF T M) b lp13_0 fr s) (fr13 t a 1 (.bool true) (.int .i64 0) x7 (.bool true)) s' Q) :
    OkL (L + 1) (fun fr s => ACode.run (loopN M) (callF T M) b lp13_0 fr s) (fr13 t a 0 x13 x6 x7 x37) s Q := by
  apply l_round
  ((repeat refine c_seq ?_); refine c_region ?_; (repeat (first | ((first | apply o_move rfl rfl | apply o_easy1 rfl rfl rfl | apply o_ld rfl rfl (by assumption) (by first | rfl | assumption)); conv => lhs; whnf) | apply o_no rfl | refine o_b rfl rfl rfl (by constructor; omega) ?_ | refine o_f rfl rfl rfl (by constructor; omega) ?_ | refine o_s rfl rfl rfl (by constructor; first | omega | assumption) ?_ | refine o_t rfl rfl rfl (by constructor; assumption) ?_ | (apply o_easy rfl rfl rfl; conv => lhs; whnf) | apply o_non rfl)); apply o_end; (repeat (first | exact OutS.nil | exact GetS.hit | exact PutS.hit | apply GetS.miss rfl | apply PutS.miss rfl | apply OutS.cons | apply OutS.skip rfl)))
  ((repeat refine c_seq ?_); refine c_if rfl ?_)
  refine c_skip ?_
  ((repeat refine c_seq ?_); refine c_block ?_)
  ((repeat refine c_seq ?_); refine c_region ?_; (repeat (first | ((first | apply o_move rfl rfl | apply o_easy1 rfl rfl rfl | apply o_ld rfl rfl (by assumption) (by first | rfl | assumption)); conv => lhs; whnf) | apply o_no rfl | refine o_b rfl rfl rfl (by constructor; omega) ?_ | refine o_f rfl rfl rfl (by constructor; omega) ?_ | refine o_s rfl rfl rfl (by constructor; first | omega | assumption) ?_ | refine o_t rfl rfl rfl (by constructor; assumption) ?_ | (apply o_easy rfl rfl rfl; conv => lhs; whnf) | apply o_non rfl)))
  refine o_alloc rfl ?_
  (repeat (first | ((first | apply o_move rfl rfl | apply o_easy1 rfl rfl rfl | apply o_ld rfl rfl (by assumption) (by first | rfl | assumption)); conv => lhs; whnf) | apply o_no rfl | refine o_b rfl rfl rfl (by constructor; omega) ?_ | refine o_f rfl rfl rfl (by constructor; omega) ?_ | refine o_s rfl rfl rfl (by constructor; first | omega | assumption) ?_ | refine o_t rfl rfl rfl (by constructor; assumption) ?_ | (apply o_easy rfl rfl rfl; conv => lhs; whnf) | apply o_non rfl))
  have h7 := getCells_new s [.int .u8 0, .int .u8 0, .int .i64 0] 0
  refine o_st rfl rfl rfl rfl h7 rfl (lets_of (blt_no hb) (fun e => rfl)) (cs' := [.int .u8 0, .int .u8 0, .int .i64 0]) rfl ?_
  (apply o_end; (repeat (first | exact OutS.nil | exact GetS.hit | exact PutS.hit | apply GetS.miss rfl | apply PutS.miss rfl | apply OutS.cons | apply OutS.skip rfl)))
  ((repeat refine c_seq ?_); refine c_drawn ?_; (repeat (first | ((first | apply o_move rfl rfl | apply o_easy1 rfl rfl rfl | apply o_ld rfl rfl (by assumption) (by first | rfl | assumption)); conv => lhs; whnf) | apply o_no rfl | refine o_b rfl rfl rfl (by constructor; omega) ?_ | refine o_f rfl rfl rfl (by constructor; omega) ?_ | refine o_s rfl rfl rfl (by constructor; first | omega | assumption) ?_ | refine o_t rfl rfl rfl (by constructor; assumption) ?_ | (apply o_easy rfl rfl rfl; conv => lhs; whnf) | apply o_non rfl)); apply d_end rfl; (repeat (first | exact OutS.nil | exact GetS.hit | exact PutS.hit | apply GetS.miss rfl | apply PutS.miss rfl | apply OutS.cons | apply OutS.skip rfl)))
  ((repeat refine c_seq ?_); refine c_if rfl ?_)
  refine c_exit ?_
  show OkC _ _ _ _ _ _ _
  ((repeat refine c_seq ?_); refine c_region ?_; (repeat (first | ((first | apply o_move rfl rfl | apply o_easy1 rfl rfl rfl | apply o_ld rfl rfl (by assumption) (by first | rfl | assumption)); conv => lhs; whnf) | apply o_no rfl | refine o_b rfl rfl rfl (by constructor; omega) ?_ | refine o_f rfl rfl rfl (by constructor; omega) ?_ | refine o_s rfl rfl rfl (by constructor; first | omega | assumption) ?_ | refine o_t rfl rfl rfl (by constructor; assumption) ?_ | (apply o_easy rfl rfl rfl; conv => lhs; whnf) | apply o_non rfl)); apply o_end; (repeat (first | exact OutS.nil | exact GetS.hit | exact PutS.hit | apply GetS.miss rfl | apply PutS.miss rfl | apply OutS.cons | apply OutS.skip rfl)))
  exact h _ _ (by rw [Sg.put_len]; simp [Sg.push])

/-- a round that goes by: the one of 1 -/
theorem round1 (M L : Nat) (b : Bar) (r : List UInt8) (x13 x6 x7 x37 : AV) (s : Sg) (hb : b.w ≤ s.heap.length) {Q : Ex → Fr → Sg → Prop}
    (h : ∀ x7 s', s.heap.length ≤ s'.heap.length → OkL L (fun fr s => ACode.run (loopN M) (callF T M) b lp13_0 fr s) (fr13 (97 :: 255 :: r) 1 2 (.bool true) (.int .i64 1) x7 (.bool true)) s' Q) :
    OkL (L + 1) (fun fr s => ACode.run (loopN M) (callF T M) b lp13_0 fr s) (fr13 (97 :: 255 :: r) 1 1 x13 x6 x7 x37) s Q := by
  apply l_round
  ((repeat refine c_seq ?_); refine c_region ?_; (repeat (first | ((first | apply o_move rfl rfl | apply o_easy1 rfl rfl rfl | apply o_ld rfl rfl (by assumption) (by first | rfl | assumption)); conv => lhs; whnf) | apply o_no rfl | refine o_b rfl rfl rfl (by constructor; omega) ?_ | refine o_f rfl rfl rfl (by constructor; omega) ?_ | refine o_s rfl rfl rfl (by constructor; first | omega | assumption) ?_ | refine o_t rfl rfl rfl (by constructor; assumption) ?_ | (apply o_easy rfl rfl rfl; conv => lhs; whnf) | apply o_non rfl)); apply o_end; (repeat (first | exact OutS.nil | exact GetS.hit | exact PutS.hit | apply GetS.miss rfl | apply PutS.miss rfl | apply OutS.cons | apply OutS.skip rfl)))
  ((repeat refine c_seq ?_); refine c_if rfl ?_)
  refine c_skip ?_
  ((repeat refine c_seq ?_); refine c_block ?_)
  ((repeat refine c_seq ?_); refine c_region ?_; (repeat (first | ((first | apply o_move rfl rfl | apply o_easy1 rfl rfl rfl | apply o_ld rfl rfl (by assumption) (by first | rfl | assumption)); conv => lhs; whnf) | apply o_no rfl | refine o_b rfl rfl rfl (by constructor; omega) ?_ | refine o_f rfl rfl rfl (by constructor; omega) ?_ | refine o_s rfl rfl rfl (by constructor; first | omega | assumption) ?_ | refine o_t rfl rfl rfl (by constructor; assumption) ?_ | (apply o_easy rfl rfl rfl; conv => lhs; whnf) | apply o_non rfl)))
  refine o_alloc rfl ?_
  (repeat (first | ((first | apply o_move rfl rfl | apply o_easy1 rfl rfl rfl | apply o_ld rfl rfl (by assumption) (by first | rfl | assumption)); conv => lhs; whnf) | apply o_no rfl | refine o_b rfl rfl rfl (by constructor; omega) ?_ | refine o_f rfl rfl rfl (by constructor; omega) ?_ | refine o_s rfl rfl rfl (by constructor; first | omega | assumption) ?_ | refine o_t rfl rfl rfl (by constructor; assumption) ?_ | (apply o_easy rfl rfl rfl; conv => lhs; whnf) | apply o_non rfl))
  have h7 := getCells_new s [.int .u8 0, .int .u8 0, .int .i64 0] 0
  refine o_st rfl rfl rfl rfl h7 rfl (lets_of (blt_no hb) (fun e => rfl)) (cs' := [.int .u8 128, .int .u8 0, .int .i64 0]) rfl ?_
  have h8 := getCells_put (cs' := [.int .u8 128, .int .u8 0, .int .i64 0]) (g' := 0) h7
  (apply o_end; (repeat (first | exact OutS.nil | exact GetS.hit | exact PutS.hit | apply GetS.miss rfl | apply PutS.miss rfl | apply OutS.cons | apply OutS.skip rfl)))
  ((repeat refine c_seq ?_); refine c_drawn ?_; (repeat (first | ((first | apply o_move rfl rfl | apply o_easy1 rfl rfl rfl | apply o_ld rfl rfl (by assumption) (by first | rfl | assumption)); conv => lhs; whnf) | apply o_no rfl | refine o_b rfl rfl rfl (by constructor; omega) ?_ | refine o_f rfl rfl rfl (by constructor; omega) ?_ | refine o_s rfl rfl rfl (by constructor; first | omega | assumption) ?_ | refine o_t rfl rfl rfl (by constructor; assumption) ?_ | (apply o_easy rfl rfl rfl; conv => lhs; whnf) | apply o_non rfl)))
  refine o_ixvec (j := 1) (v := .int .u8 255) rfl rfl rfl rfl rfl rfl ?_
  (repeat (first | ((first | apply o_move rfl rfl | apply o_easy1 rfl rfl rfl | apply o_ld rfl rfl (by assumption) (by first | rfl | assumption)); conv => lhs; whnf) | apply o_no rfl | refine o_b rfl rfl rfl (by constructor; omega) ?_ | refine o_f rfl rfl rfl (by constructor; omega) ?_ | refine o_s rfl rfl rfl (by constructor; first | omega | assumption) ?_ | refine o_t rfl rfl rfl (by constructor; assumption) ?_ | (apply o_easy rfl rfl rfl; conv => lhs; whnf) | apply o_non rfl))
  refine o_w (v := .int .u8 128) rfl rfl ?_
  (repeat (first | ((first | apply o_move rfl rfl | apply o_easy1 rfl rfl rfl | apply o_ld rfl rfl (by assumption) (by first | rfl | assumption)); conv => lhs; whnf) | apply o_no rfl | refine o_b rfl rfl rfl (by constructor; omega) ?_ | refine o_f rfl rfl rfl (by constructor; omega) ?_ | refine o_s rfl rfl rfl (by constructor; first | omega | assumption) ?_ | refine o_t rfl rfl rfl (by constructor; assumption) ?_ | (apply o_easy rfl rfl rfl; conv => lhs; whnf) | apply o_non rfl))
  (apply d_end rfl; (repeat (first | exact OutS.nil | exact GetS.hit | exact PutS.hit | apply GetS.miss rfl | apply PutS.miss rfl | apply OutS.cons | apply OutS.skip rfl)))
  ((repeat refine c_seq ?_); refine c_if rfl ?_)
  refine c_exit ?_
  show OkC _ _ _ _ _ _ _
  ((repeat refine c_seq ?_); refine c_region ?_; (repeat (first | ((first | apply o_move rfl rfl | apply o_easy1 rfl rfl rfl | apply o_ld rfl rfl (by assumption) (by first | rfl | assumption)); conv => lhs; whnf) | apply o_no rfl | refine o_b rfl rfl rfl (by constructor; omega) ?_ | refine o_f rfl rfl rfl (by constructor; omega) ?_ | refine o_s rfl rfl rfl (by constructor; first | omega | assumption) ?_ | refine o_t rfl rfl rfl (by constructor; assumption) ?_ | (apply o_easy rfl rfl rfl; conv => lhs; whnf) | apply o_non rfl)); apply o_end; (repeat (first | exact OutS.nil | exact GetS.hit | exact PutS.hit | apply GetS.miss rfl | apply PutS.miss rfl | apply OutS.cons | apply OutS.skip rfl)))
  exact h _ _ (by rw [Sg.put_len]; simp [Sg.push])

/-- a round that goes by: the one of 2 -/
theorem round2 (M L : Nat) (b : Bar) (r : List UInt8) (x13 x6 x7 x37 : AV) (s : Sg) (hb : b.w ≤ s.heap.length) {Q : Ex → Fr → Sg → Prop}
    (h : ∀ x7 s', s.heap.length ≤ s'.heap.length → OkL L (fun fr s => ACode.run (loopN M) (callF T M) b lp13_0 fr s) (fr13 (97 :: 255 :: r) 1 3 (.bool true) (.int .i64 2) x7 (.bool true)) s' Q) :
    OkL (L + 1) (fun fr s => ACode.run (loopN M) (callF T M) b lp13_0 fr s) (fr13 (97 :: 255 :: r) 1 2 x13 x6 x7 x37) s Q := by
  apply l_round
  ((repeat refine c_seq ?_); refine c_region ?_; (repeat (first | ((first | apply o_move rfl rfl | apply o_easy1 rfl rfl rfl | apply o_ld rfl rfl (by assumption) (by first | rfl | assumption)); conv => lhs; whnf) | apply o_no rfl | refine o_b rfl rfl rfl (by constructor; omega) ?_ | refine o_f rfl rfl rfl (by constructor; omega) ?_ | refine o_s rfl rfl rfl (by constructor; first | omega | assumption) ?_ | refine o_t rfl rfl rfl (by constructor; assumption) ?_ | (apply o_easy rfl rfl rfl; conv => lhs; whnf) | apply o_non rfl)); apply o_end; (repeat (first | exact OutS.nil | exact GetS.hit | exact PutS.hit | apply GetS.miss rfl | apply PutS.miss rfl | apply OutS.cons | apply OutS.skip rfl)))
  ((repeat refine c_seq ?_); refine c_if rfl ?_)
  refine c_skip ?_
  ((repeat refine c_seq ?_); refine c_block ?_)
  ((repeat refine c_seq ?_); refine c_region ?_; (repeat (first | ((first | apply o_move rfl rfl | apply o_easy1 rfl rfl rfl | apply o_ld rfl rfl (by assumption) (by first | rfl | assumption)); conv => lhs; whnf) | apply o_no rfl | refine o_b rfl rfl rfl (by constructor; omega) ?_ | refine o_f rfl rfl rfl (by constructor; omega) ?_ | refine o_s rfl rfl rfl (by constructor; first | omega | assumption) ?_ | refine o_t rfl rfl rfl (by constructor; assumption) ?_ | (apply o_easy rfl rfl rfl; conv => lhs; whnf) | apply o_non rfl)))
  refine o_alloc rfl ?_
  (repeat (first | ((first | apply o_move rfl rfl | apply o_easy1 rfl rfl rfl | apply o_ld rfl rfl (by assumption) (by first | rfl | assumption)); conv => lhs; whnf) | apply o_no rfl | refine o_b rfl rfl rfl (by constructor; omega) ?_ | refine o_f rfl rfl rfl (by constructor; omega) ?_ | refine o_s rfl rfl rfl (by constructor; first | omega | assumption) ?_ | refine o_t rfl rfl rfl (by constructor; assumption) ?_ | (apply o_easy rfl rfl rfl; conv => lhs; whnf) | apply o_non rfl))
  have h7 := getCells_new s [.int .u8 0, .int .u8 0, .int .i64 0] 0
  refine o_st rfl rfl rfl rfl h7 rfl (lets_of (blt_no hb) (fun e => rfl)) (cs' := [.int .u8 224, .int .u8 192, .int .i64 128]) rfl ?_
  have h8 := getCells_put (cs' := [.int .u8 224, .int .u8 192, .int .i64 128]) (g' := 0) h7
  (apply o_end; (repeat (first | exact OutS.nil | exact GetS.hit | exact PutS.hit | apply GetS.miss rfl | apply PutS.miss rfl | apply OutS.cons | apply OutS.skip rfl)))
  ((repeat refine c_seq ?_); refine c_drawn ?_; (repeat (first | ((first | apply o_move rfl rfl | apply o_easy1 rfl rfl rfl | apply o_ld rfl rfl (by assumption) (by first | rfl | assumption)); conv => lhs; whnf) | apply o_no rfl | refine o_b rfl rfl rfl (by constructor; omega) ?_ | refine o_f rfl rfl rfl (by constructor; omega) ?_ | refine o_s rfl rfl rfl (by constructor; first | omega | assumption) ?_ | refine o_t rfl rfl rfl (by constructor; assumption) ?_ | (apply o_easy rfl rfl rfl; conv => lhs; whnf) | apply o_non rfl)))
  refine o_ixvec (j := 1) (v := .int .u8 255) rfl rfl rfl rfl rfl rfl ?_
  (repeat (first | ((first | apply o_move rfl rfl | apply o_easy1 rfl rfl rfl | apply o_ld rfl rfl (by assumption) (by first | rfl | assumption)); conv => lhs; whnf) | apply o_no rfl | refine o_b rfl rfl rfl (by constructor; omega) ?_ | refine o_f rfl rfl rfl (by constructor; omega) ?_ | refine o_s rfl rfl rfl (by constructor; first | omega | assumption) ?_ | refine o_t rfl rfl rfl (by constructor; assumption) ?_ | (apply o_easy rfl rfl rfl; conv => lhs; whnf) | apply o_non rfl))
  refine o_w (v := .int .u8 224) rfl rfl ?_
  (repeat (first | ((first | apply o_move rfl rfl | apply o_easy1 rfl rfl rfl | apply o_ld rfl rfl (by assumption) (by first | rfl | assumption)); conv => lhs; whnf) | apply o_no rfl | refine o_b rfl rfl rfl (by constructor; omega) ?_ | refine o_f rfl rfl rfl (by constructor; omega) ?_ | refine o_s rfl rfl rfl (by constructor; first | omega | assumption) ?_ | refine o_t rfl rfl rfl (by constructor; assumption) ?_ | (apply o_easy rfl rfl rfl; conv => lhs; whnf) | apply o_non rfl))
  (apply d_end rfl; (repeat (first | exact OutS.nil | exact GetS.hit | exact PutS.hit | apply GetS.miss rfl | apply PutS.miss rfl | apply OutS.cons | apply OutS.skip rfl)))
  ((repeat refine c_seq ?_); refine c_if rfl ?_)
  refine c_exit ?_
  show OkC _ _ _ _ _ _ _
  ((repeat refine c_seq ?_); refine c_region ?_; (repeat (first | ((first | apply o_move rfl rfl | apply o_easy1 rfl rfl rfl | apply o_ld rfl rfl (by assumption) (by first | rfl | assumption)); conv => lhs; whnf) | apply o_no rfl | refine o_b rfl rfl rfl (by constructor; omega) ?_ | refine o_f rfl rfl rfl (by constructor; omega) ?_ | refine o_s rfl rfl rfl (by constructor; first | omega | assumption) ?_ | refine o_t rfl rfl rfl (by constructor; assumption) ?_ | (apply o_easy rfl rfl rfl; conv => lhs; whnf) | apply o_non rfl)); apply o_end; (repeat (first | exact OutS.nil | exact GetS.hit | exact PutS.hit | apply GetS.miss rfl | apply PutS.miss rfl | apply OutS.cons | apply OutS.skip rfl)))
  exact h _ _ (by rw [Sg.put_len]; simp [Sg.push])

/-- a round that goes by: the one of 3 -/
theorem round3 (M L : Nat) (b : Bar) (r : List UInt8) (x13 x6 x7 x37 : AV) (s : Sg) (hb : b.w ≤ s.heap.length) {Q : Ex → Fr → Sg → Prop}
    (h : ∀ x7 s', s.heap.length ≤ s'.heap.length → OkL L (fun fr s => ACode.run (loopN M) (callF T M) b lp13_0 fr s) (fr13 (97 :: 255 :: r) 1 4 (.bool true) (.int .i64 3) x7 (.bool true)) s' Q) :
    OkL (L + 1) (fun fr s => ACode.run (loopN M) (callF T M) b lp13_0 fr s) (fr13 (97 :: 255 :: r) 1 3 x13 x6 x7 x37) s Q := by
  apply l_round
  ((repeat refine c_seq ?_); refine c_region ?_; (repeat (first | ((first | apply o_move rfl rfl | apply o_easy1 rfl rfl rfl | apply o_ld rfl rfl (by assumption) (by first | rfl | assumption)); conv => lhs; whnf) | apply o_no rfl | refine o_b rfl rfl rfl (by constructor; omega) ?_ | refine o_f rfl rfl rfl (by constructor; omega) ?_ | refine o_s rfl rfl rfl (by constructor; first | omega | assumption) ?_ | refine o_t rfl rfl rfl (by constructor; assumption) ?_ | (apply o_easy rfl rfl rfl; conv => lhs; whnf) | apply o_non rfl)); apply o_end; (repeat (first | exact OutS.nil | exact GetS.hit | exact PutS.hit | apply GetS.miss rfl | apply PutS.miss rfl | apply OutS.cons | apply OutS.skip rfl)))
  ((repeat refine c_seq ?_); refine c_if rfl ?_)
  refine c_skip ?_
  ((repeat refine c_seq ?_); refine c_block ?_)
  ((repeat refine c_seq ?_); refine c_region ?_; (repeat (first | ((first | apply o_move rfl rfl | apply o_easy1 rfl rfl rfl | apply o_ld rfl rfl (by assumption) (by first | rfl | assumption)); conv => lhs; whnf) | apply o_no rfl | refine o_b rfl rfl rfl (by constructor; omega) ?_ | refine o_f rfl rfl rfl (by constructor; omega) ?_ | refine o_s rfl rfl rfl (by constructor; first | omega | assumption) ?_ | refine o_t rfl rfl rfl (by constructor; assumption) ?_ | (apply o_easy rfl rfl rfl; conv => lhs; whnf) | apply o_non rfl)))
  refine o_alloc rfl ?_
  (repeat (first | ((first | apply o_move rfl rfl | apply o_easy1 rfl rfl rfl | apply o_ld rfl rfl (by assumption) (by first | rfl | assumption)); conv => lhs; whnf) | apply o_no rfl | refine o_b rfl rfl rfl (by constructor; omega) ?_ | refine o_f rfl rfl rfl (by constructor; omega) ?_ | refine o_s rfl rfl rfl (by constructor; first | omega | assumption) ?_ | refine o_t rfl rfl rfl (by constructor; assumption) ?_ | (apply o_easy rfl rfl rfl; conv => lhs; whnf) | apply o_non rfl))
  have h7 := getCells_new s [.int .u8 0, .int .u8 0, .int .i64 0] 0
  refine o_st rfl rfl rfl rfl h7 rfl (lets_of (blt_no hb) (fun e => rfl)) (cs' := [.int .u8 240, .int .u8 224, .int .i64 2048]) rfl ?_
  have h8 := getCells_put (cs' := [.int .u8 240, .int .u8 224, .int .i64 2048]) (g' := 0) h7
  (apply o_end; (repeat (first | exact OutS.nil | exact GetS.hit | exact PutS.hit | apply GetS.miss rfl | apply PutS.miss rfl | apply OutS.cons | apply OutS.skip rfl)))
  ((repeat refine c_seq ?_); refine c_drawn ?_; (repeat (first | ((first | apply o_move rfl rfl | apply o_easy1 rfl rfl rfl | apply o_ld rfl rfl (by assumption) (by first | rfl | assumption)); conv => lhs; whnf) | apply o_no rfl | refine o_b rfl rfl rfl (by constructor; omega) ?_ | refine o_f rfl rfl rfl (by constructor; omega) ?_ | refine o_s rfl rfl rfl (by constructor; first | omega | assumption) ?_ | refine o_t rfl rfl rfl (by constructor; assumption) ?_ | (apply o_easy rfl rfl rfl; conv => lhs; whnf) | apply o_non rfl)))
  refine o_ixvec (j := 1) (v := .int .u8 255) rfl rfl rfl rfl rfl rfl ?_
  (repeat (first | ((first | apply o_move rfl rfl | apply o_easy1 rfl rfl rfl | apply o_ld rfl rfl (by assumption) (by first | rfl | assumption)); conv => lhs; whnf) | apply o_no rfl | refine o_b rfl rfl rfl (by constructor; omega) ?_ | refine o_f rfl rfl rfl (by constructor; omega) ?_ | refine o_s rfl rfl rfl (by constructor; first | omega | assumption) ?_ | refine o_t rfl rfl rfl (by constructor; assumption) ?_ | (apply o_easy rfl rfl rfl; conv => lhs; whnf) | apply o_non rfl))
  refine o_w (v := .int .u8 240) rfl rfl ?_
  (repeat (first | ((first | apply o_move rfl rfl | apply o_easy1 rfl rfl rfl | apply o_ld rfl rfl (by assumption) (by first | rfl | assumption)); conv => lhs; whnf) | apply o_no rfl | refine o_b rfl rfl rfl (by constructor; omega) ?_ | refine o_f rfl rfl rfl (by constructor; omega) ?_ | refine o_s rfl rfl rfl (by constructor; first | omega | assumption) ?_ | refine o_t rfl rfl rfl (by constructor; assumption) ?_ | (apply o_easy rfl rfl rfl; conv => lhs; whnf) | apply o_non rfl))
  (apply d_end rfl; (repeat (first | exact OutS.nil | exact GetS.hit | exact PutS.hit | apply GetS.miss rfl | apply PutS.miss rfl | apply OutS.cons | apply OutS.skip rfl)))
  ((repeat refine c_seq ?_); refine c_if rfl ?_)
  refine c_exit ?_
  show OkC _ _ _ _ _ _ _
  ((repeat refine c_seq ?_); refine c_region ?_; (repeat (first | ((first | apply o_move rfl rfl | apply o_easy1 rfl rfl rfl | apply o_ld rfl rfl (by assumption) (by first | rfl | assumption)); conv => lhs; whnf) | apply o_no rfl | refine o_b rfl rfl rfl (by constructor; omega) ?_ | refine o_f rfl rfl rfl (by constructor; omega) ?_ | refine o_s rfl rfl rfl (by constructor; first | omega | assumption) ?_ | refine o_t rfl rfl rfl (by constructor; assumption) ?_ | (apply o_easy rfl rfl rfl; conv => lhs; whnf) | apply o_non rfl)); apply o_end; (repeat (first | exact OutS.nil | exact GetS.hit | exact PutS.hit | apply GetS.miss rfl | apply PutS.miss rfl | apply OutS.cons | apply OutS.skip rfl)))
  exact h _ _ (by rw [Sg.put_len]; simp [Sg.push])

/-- a round that goes by: the one of 4 -/
theorem round4 (M L : Nat) (b : Bar) (r : List UInt8) (x13 x6 x7 x37 : AV) (s : Sg) (hb : b.w ≤ s.heap.length) {Q : Ex → Fr → Sg → Prop}
    (h : ∀ x7 s', s.heap.length ≤ s'.heap.length → OkL L (fun fr s => ACode.run (loopN M) (callF T M) b lp13_0 fr s) (fr13 (97 :: 255 :: r) 1 5 (.bool true) (.int .i64 4) x7 (.bool true)) s' Q) :
    OkL (L + 1) (fun fr s => ACode.run (loopN M) (callF T M) b lp13_0 fr s) (fr13 (97 :: 255 :: r) 1 4 x13 x6 x7 x37) s Q := by
  apply l_round
  ((repeat refine c_seq ?_); refine c_region ?_; (repeat (first | ((first | apply o_move rfl rfl | apply o_easy1 rfl rfl rfl | apply o_ld rfl rfl (by assumption) (by first | rfl | assumption)); conv => lhs; whnf) | apply o_no rfl | refine o_b rfl rfl rfl (by constructor; omega) ?_ | refine o_f rfl rfl rfl (by constructor; omega) ?_ | refine o_s rfl rfl rfl (by constructor; first | omega | assumption) ?_ | refine o_t rfl rfl rfl (by constructor; assumption) ?_ | (apply o_easy rfl rfl rfl; conv => lhs; whnf) | apply o_non rfl)); apply o_end; (repeat (first | exact OutS.nil | exact GetS.hit | exact PutS.hit | apply GetS.miss rfl | apply PutS.miss rfl | apply OutS.cons | apply OutS.skip rfl)))
  ((repeat refine c_seq ?_); refine c_if rfl ?_)
  refine c_skip ?_
  ((repeat refine c_seq ?_); refine c_block ?_)
  ((repeat refine c_seq ?_); refine c_region ?_; (repeat (first | ((first | apply o_move rfl rfl | apply o_easy1 rfl rfl rfl | apply o_ld rfl rfl (by assumption) (by first | rfl | assumption)); conv => lhs; whnf) | apply o_no rfl | refine o_b rfl rfl rfl (by constructor; omega) ?_ | refine o_f rfl rfl rfl (by constructor; omega) ?_ | refine o_s rfl rfl rfl (by constructor; first | omega | assumption) ?_ | refine o_t rfl rfl rfl (by constructor; assumption) ?_ | (apply o_easy rfl rfl rfl; conv => lhs; whnf) | apply o_non rfl)))
  refine o_alloc rfl ?_
  (repeat (first | ((first | apply o_move rfl rfl | apply o_easy1 rfl rfl rfl | apply o_ld rfl rfl (by assumption) (by first | rfl | assumption)); conv => lhs; whnf) | apply o_no rfl | refine o_b rfl rfl rfl (by constructor; omega) ?_ | refine o_f rfl rfl rfl (by constructor; omega) ?_ | refine o_s rfl rfl rfl (by constructor; first | omega | assumption) ?_ | refine o_t rfl rfl rfl (by constructor; assumption) ?_ | (apply o_easy rfl rfl rfl; conv => lhs; whnf) | apply o_non rfl))
  have h7 := getCells_new s [.int .u8 0, .int .u8 0, .int .i64 0] 0
  refine o_st rfl rfl rfl rfl h7 rfl (lets_of (blt_no hb) (fun e => rfl)) (cs' := [.int .u8 248, .int .u8 240, .int .i64 65536]) rfl ?_
  have h8 := getCells_put (cs' := [.int .u8 248, .int .u8 240, .int .i64 65536]) (g' := 0) h7
  (apply o_end; (repeat (first | exact OutS.nil | exact GetS.hit | exact PutS.hit | apply GetS.miss rfl | apply PutS.miss rfl | apply OutS.cons | apply OutS.skip rfl)))
  ((repeat refine c_seq ?_); refine c_drawn ?_; (repeat (first | ((first | apply o_move rfl rfl | apply o_easy1 rfl rfl rfl | apply o_ld rfl rfl (by assumption) (by first | rfl | assumption)); conv => lhs; whnf) | apply o_no rfl | refine o_b rfl rfl rfl (by constructor; omega) ?_ | refine o_f rfl rfl rfl (by constructor; omega) ?_ | refine o_s rfl rfl rfl (by constructor; first | omega | assumption) ?_ | refine o_t rfl rfl rfl (by constructor; assumption) ?_ | (apply o_easy rfl rfl rfl; conv => lhs; whnf) | apply o_non rfl)))
  refine o_ixvec (j := 1) (v := .int .u8 255) rfl rfl rfl rfl rfl rfl ?_
  (repeat (first | ((first | apply o_move rfl rfl | apply o_easy1 rfl rfl rfl | apply o_ld rfl rfl (by assumption) (by first | rfl | assumption)); conv => lhs; whnf) | apply o_no rfl | refine o_b rfl rfl rfl (by constructor; omega) ?_ | refine o_f rfl rfl rfl (by constructor; omega) ?_ | refine o_s rfl rfl rfl (by constructor; first | omega | assumption) ?_ | refine o_t rfl rfl rfl (by constructor; assumption) ?_ | (apply o_easy rfl rfl rfl; conv => lhs; whnf) | apply o_non rfl))
  refine o_w (v := .int .u8 248) rfl rfl ?_
  (repeat (first | ((first | apply o_move rfl rfl | apply o_easy1 rfl rfl rfl | apply o_ld rfl rfl (by assumption) (by first | rfl | assumption)); conv => lhs; whnf) | apply o_no rfl | refine o_b rfl rfl rfl (by constructor; omega) ?_ | refine o_f rfl rfl rfl (by constructor; omega) ?_ | refine o_s rfl rfl rfl (by constructor; first | omega | assumption) ?_ | refine o_t rfl rfl rfl (by constructor; assumption) ?_ | (apply o_easy rfl rfl rfl; conv => lhs; whnf) | apply o_non rfl))
  (apply d_end rfl; (repeat (first | exact OutS.nil | exact GetS.hit | exact PutS.hit | apply GetS.miss rfl | apply PutS.miss rfl | apply OutS.cons | apply OutS.skip rfl)))
  ((repeat refine c_seq ?_); refine c_if rfl ?_)
  refine c_exit ?_
  show OkC _ _ _ _ _ _ _
  ((repeat refine c_seq ?_); refine c_region ?_; (repeat (first | ((first | apply o_move rfl rfl | apply o_easy1 rfl rfl rfl | apply o_ld rfl rfl (by assumption) (by first | rfl | assumption)); conv => lhs; whnf) | apply o_no rfl | refine o_b rfl rfl rfl (by constructor; omega) ?_ | refine o_f rfl rfl rfl (by constructor; omega) ?_ | refine o_s rfl rfl rfl (by constructor; first | omega | assumption) ?_ | refine o_t rfl rfl rfl (by constructor; assumption) ?_ | (apply o_easy rfl rfl rfl; conv => lhs; whnf) | apply o_non rfl)); apply o_end; (repeat (first | exact OutS.nil | exact GetS.hit | exact PutS.hit | apply GetS.miss rfl | apply PutS.miss rfl | apply OutS.cons | apply OutS.skip rfl)))
  exact h _ _ (by rw [Sg.put_len]; simp [Sg.push])

end Go.Tok

namespace Go.Tok
open Go Go.Am Go.Proofs

theorem point1 (m : Nat) (b : Bar) (r : List UInt8) (s : Sg) :
    callF T (m + 8) b 13 [.vec (Am.byteCells (97 :: 255 :: r)) .shut, .int .i64 1] s = some (.ret (.tup [.int .i64 0, .int .i64 0]), s) := by
  (apply f_of rfl rfl; (repeat (first | exact Shape.nil | (apply Shape.cons; conv => lhs; whnf))))
  ((repeat refine c_seq ?_); refine c_region ?_; (repeat (first | ((first | apply o_move rfl rfl | apply o_easy1 rfl rfl rfl | apply o_ld rfl rfl (by assumption) (by first | rfl | assumption)); conv => lhs; whnf) | apply o_no rfl | refine o_b rfl rfl rfl (by constructor; omega) ?_ | refine o_f rfl rfl rfl (by constructor; omega) ?_ | refine o_s rfl rfl rfl (by constructor; first | omega | assumption) ?_ | refine o_t rfl rfl rfl (by constructor; assumption) ?_ | (apply o_easy rfl rfl rfl; conv => lhs; whnf) | apply o_non rfl)); apply o_end; (repeat (first | exact OutS.nil | exact GetS.hit | exact PutS.hit | apply GetS.miss rfl | apply PutS.miss rfl | apply OutS.cons | apply OutS.skip rfl)))
  ((repeat refine c_seq ?_); refine c_region ?_; (repeat (first | ((first | apply o_move rfl rfl | apply o_easy1 rfl rfl rfl | apply o_ld rfl rfl (by assumption) (by first | rfl | assumption)); conv => lhs; whnf) | apply o_no rfl | refine o_b rfl rfl rfl (by constructor; omega) ?_ | refine o_f rfl rfl rfl (by constructor; omega) ?_ | refine o_s rfl rfl rfl (by constructor; first | omega | assumption) ?_ | refine o_t rfl rfl rfl (by constructor; assumption) ?_ | (apply o_easy rfl rfl rfl; conv => lhs; whnf) | apply o_non rfl)))
  refine o_call rfl rfl (kinds_spec _ _ s) ?_
  (repeat (first | ((first | apply o_move rfl rfl | apply o_easy1 rfl rfl rfl | apply o_ld rfl rfl (by assumption) (by first | rfl | assumption)); conv => lhs; whnf) | apply o_no rfl | refine o_b rfl rfl rfl (by constructor; omega) ?_ | refine o_f rfl rfl rfl (by constructor; omega) ?_ | refine o_s rfl rfl rfl (by constructor; first | omega | assumption) ?_ | refine o_t rfl rfl rfl (by constructor; assumption) ?_ | (apply o_easy rfl rfl rfl; conv => lhs; whnf) | apply o_non rfl))
  (apply o_end; (repeat (first | exact OutS.nil | exact GetS.hit | exact PutS.hit | apply GetS.miss rfl | apply PutS.miss rfl | apply OutS.cons | apply OutS.skip rfl)))
  ((repeat refine c_seq ?_); refine c_block ?_)
  refine c_loop (x := lp13_0) ?_
  have hbw : (b.into af13.mode s).w ≤ s.heap.length := Nat.le_refl _
  refine round0 _ _ _ _ 1 _ _ _ _ s hbw fun y1 s1 h1 => ?_
  refine round1 _ _ _ r _ _ _ _ s1 (by omega) fun y2 s2 h2 => ?_
  refine round2 _ _ _ r _ _ _ _ s2 (by omega) fun y3 s3 h3 => ?_
  refine round3 _ _ _ r _ _ _ _ s3 (by omega) fun y4 s4 h4 => ?_
  refine round4 _ _ _ r _ _ _ _ s4 (by omega) fun y5 s5 h5 => ?_
  apply l_round
  ((repeat refine c_seq ?_); refine c_region ?_; (repeat (first | ((first | apply o_move rfl rfl | apply o_easy1 rfl rfl rfl | apply o_ld rfl rfl (by assumption) (by first | rfl | assumption)); conv => lhs; whnf) | apply o_no rfl | refine o_b rfl rfl rfl (by constructor; omega) ?_ | refine o_f rfl rfl rfl (by constructor; omega) ?_ | refine o_s rfl rfl rfl (by constructor; first | omega | assumption) ?_ | refine o_t rfl rfl rfl (by constructor; assumption) ?_ | (apply o_easy rfl rfl rfl; conv => lhs; whnf) | apply o_non rfl)); apply o_end; (repeat (first | exact OutS.nil | exact GetS.hit | exact PutS.hit | apply GetS.miss rfl | apply PutS.miss rfl | apply OutS.cons | apply OutS.skip rfl)))
  ((repeat refine c_seq ?_); refine c_else rfl ?_)
  refine c_exit ?_
  show OkC _ _ _ _ _ _ _
  ((repeat refine c_seq ?_); refine c_region ?_; (repeat (first | ((first | apply o_move rfl rfl | apply o_easy1 rfl rfl rfl | apply o_ld rfl rfl (by assumption) (by first | rfl | assumption)); conv => lhs; whnf) | apply o_no rfl | refine o_b rfl rfl rfl (by constructor; omega) ?_ | refine o_f rfl rfl rfl (by constructor; omega) ?_ | refine o_s rfl rfl rfl (by constructor; first | omega | assumption) ?_ | refine o_t rfl rfl rfl (by constructor; assumption) ?_ | (apply o_easy rfl rfl rfl; conv => lhs; whnf) | apply o_non rfl)); apply o_end; (repeat (first | exact OutS.nil | exact GetS.hit | exact PutS.hit | apply GetS.miss rfl | apply PutS.miss rfl | apply OutS.cons | apply OutS.skip rfl)))
  exact c_ret rfl

theorem point0 (m : Nat) (b : Bar) (r : List UInt8) (s : Sg) (ht : r.length < 2 ^ 40) :
    callF T (m + 8) b 13 [.vec (Am.byteCells (97 :: 255 :: r)) .shut, .int .i64 0] s = some (.ret (.tup [.int .i64 97, .int .i64 1]), s) := by
  have hbl : (Am.byteCells (97 :: 255 :: r)).length = r.length + 2 := by rw [Am.byteCells_length]; rfl
  (apply f_of rfl rfl; (repeat (first | exact Shape.nil | (apply Shape.cons; conv => lhs; whnf))))
  ((repeat refine c_seq ?_); refine c_region ?_; (repeat (first | ((first | apply o_move rfl rfl | apply o_easy1 rfl rfl rfl | apply o_ld rfl rfl (by assumption) (by first | rfl | assumption)); conv => lhs; whnf) | apply o_no rfl | refine o_b rfl rfl rfl (by constructor; omega) ?_ | refine o_f rfl rfl rfl (by constructor; omega) ?_ | refine o_s rfl rfl rfl (by constructor; first | omega | assumption) ?_ | refine o_t rfl rfl rfl (by constructor; assumption) ?_ | (apply o_easy rfl rfl rfl; conv => lhs; whnf) | apply o_non rfl)); apply o_end; (repeat (first | exact OutS.nil | exact GetS.hit | exact PutS.hit | apply GetS.miss rfl | apply PutS.miss rfl | apply OutS.cons | apply OutS.skip rfl)))
  ((repeat refine c_seq ?_); refine c_region ?_; (repeat (first | ((first | apply o_move rfl rfl | apply o_easy1 rfl rfl rfl | apply o_ld rfl rfl (by assumption) (by first | rfl | assumption)); conv => lhs; whnf) | apply o_no rfl | refine o_b rfl rfl rfl (by constructor; omega) ?_ | refine o_f rfl rfl rfl (by constructor; omega) ?_ | refine o_s rfl rfl rfl (by constructor; first | omega | assumption) ?_ | refine o_t rfl rfl rfl (by constructor; assumption) ?_ | (apply o_easy rfl rfl rfl; conv => lhs; whnf) | apply o_non rfl)))
  refine o_call rfl rfl (kinds_spec _ _ s) ?_
  (repeat (first | ((first | apply o_move rfl rfl | apply o_easy1 rfl rfl rfl | apply o_ld rfl rfl (by assumption) (by first | rfl | assumption)); conv => lhs; whnf) | apply o_no rfl | refine o_b rfl rfl rfl (by constructor; omega) ?_ | refine o_f rfl rfl rfl (by constructor; omega) ?_ | refine o_s rfl rfl rfl (by constructor; first | omega | assumption) ?_ | refine o_t rfl rfl rfl (by constructor; assumption) ?_ | (apply o_easy rfl rfl rfl; conv => lhs; whnf) | apply o_non rfl))
  (apply o_end; (repeat (first | exact OutS.nil | exact GetS.hit | exact PutS.hit | apply GetS.miss rfl | apply PutS.miss rfl | apply OutS.cons | apply OutS.skip rfl)))
  ((repeat refine c_seq ?_); refine c_block ?_)
  refine c_loop (x := lp13_0) ?_
  have hbw : (b.into af13.mode s).w ≤ s.heap.length := Nat.le_refl _
  refine round0 _ _ _ _ 0 _ _ _ _ s hbw fun y1 s1 h1 => ?_
  apply l_round
  ((repeat refine c_seq ?_); refine c_region ?_; (repeat (first | ((first | apply o_move rfl rfl | apply o_easy1 rfl rfl rfl | apply o_ld rfl rfl (by assumption) (by first | rfl | assumption)); conv => lhs; whnf) | apply o_no rfl | refine o_b rfl rfl rfl (by constructor; omega) ?_ | refine o_f rfl rfl rfl (by constructor; omega) ?_ | refine o_s rfl rfl rfl (by constructor; first | omega | assumption) ?_ | refine o_t rfl rfl rfl (by constructor; assumption) ?_ | (apply o_easy rfl rfl rfl; conv => lhs; whnf) | apply o_non rfl)); apply o_end; (repeat (first | exact OutS.nil | exact GetS.hit | exact PutS.hit | apply GetS.miss rfl | apply PutS.miss rfl | apply OutS.cons | apply OutS.skip rfl)))
  ((repeat refine c_seq ?_); refine c_if rfl ?_)
  refine c_skip ?_
  ((repeat refine c_seq ?_); refine c_block ?_)
  ((repeat refine c_seq ?_); refine c_region ?_; (repeat (first | ((first | apply o_move rfl rfl | apply o_easy1 rfl rfl rfl | apply o_ld rfl rfl (by assumption) (by first | rfl | assumption)); conv => lhs; whnf) | apply o_no rfl | refine o_b rfl rfl rfl (by constructor; omega) ?_ | refine o_f rfl rfl rfl (by constructor; omega) ?_ | refine o_s rfl rfl rfl (by constructor; first | omega | assumption) ?_ | refine o_t rfl rfl rfl (by constructor; assumption) ?_ | (apply o_easy rfl rfl rfl; conv => lhs; whnf) | apply o_non rfl)))
  refine o_alloc rfl ?_
  (repeat (first | ((first | apply o_move rfl rfl | apply o_easy1 rfl rfl rfl | apply o_ld rfl rfl (by assumption) (by first | rfl | assumption)); conv => lhs; whnf) | apply o_no rfl | refine o_b rfl rfl rfl (by constructor; omega) ?_ | refine o_f rfl rfl rfl (by constructor; omega) ?_ | refine o_s rfl rfl rfl (by constructor; first | omega | assumption) ?_ | refine o_t rfl rfl rfl (by constructor; assumption) ?_ | (apply o_easy rfl rfl rfl; conv => lhs; whnf) | apply o_non rfl))
  have h7 := getCells_new s1 [.int .u8 0, .int .u8 0, .int .i64 0] 0
  refine o_st rfl rfl rfl rfl h7 rfl (lets_of (blt_no (by omega)) (fun e => rfl)) (cs' := [.int .u8 128, .int .u8 0, .int .i64 0]) rfl ?_
  have h8 := getCells_put (cs' := [.int .u8 128, .int .u8 0, .int .i64 0]) (g' := 0) h7
  (apply o_end; (repeat (first | exact OutS.nil | exact GetS.hit | exact PutS.hit | apply GetS.miss rfl | apply PutS.miss rfl | apply OutS.cons | apply OutS.skip rfl)))
  ((repeat refine c_seq ?_); refine c_drawn ?_; (repeat (first | ((first | apply o_move rfl rfl | apply o_easy1 rfl rfl rfl | apply o_ld rfl rfl (by assumption) (by first | rfl | assumption)); conv => lhs; whnf) | apply o_no rfl | refine o_b rfl rfl rfl (by constructor; omega) ?_ | refine o_f rfl rfl rfl (by constructor; omega) ?_ | refine o_s rfl rfl rfl (by constructor; first | omega | assumption) ?_ | refine o_t rfl rfl rfl (by constructor; assumption) ?_ | (apply o_easy rfl rfl rfl; conv => lhs; whnf) | apply o_non rfl)))
  refine o_ixvec (j := 0) (v := .int .u8 97) rfl rfl rfl rfl rfl rfl ?_
  (repeat (first | ((first | apply o_move rfl rfl | apply o_easy1 rfl rfl rfl | apply o_ld rfl rfl (by assumption) (by first | rfl | assumption)); conv => lhs; whnf) | apply o_no rfl | refine o_b rfl rfl rfl (by constructor; omega) ?_ | refine o_f rfl rfl rfl (by constructor; omega) ?_ | refine o_s rfl rfl rfl (by constructor; first | omega | assumption) ?_ | refine o_t rfl rfl rfl (by constructor; assumption) ?_ | (apply o_easy rfl rfl rfl; conv => lhs; whnf) | apply o_non rfl))
  refine o_w (v := .int .u8 0) rfl rfl ?_
  (repeat (first | ((first | apply o_move rfl rfl | apply o_easy1 rfl rfl rfl | apply o_ld rfl rfl (by assumption) (by first | rfl | assumption)); conv => lhs; whnf) | apply o_no rfl | refine o_b rfl rfl rfl (by constructor; omega) ?_ | refine o_f rfl rfl rfl (by constructor; omega) ?_ | refine o_s rfl rfl rfl (by constructor; first | omega | assumption) ?_ | refine o_t rfl rfl rfl (by constructor; assumption) ?_ | (apply o_easy rfl rfl rfl; conv => lhs; whnf) | apply o_non rfl))
  (apply d_end rfl; (repeat (first | exact OutS.nil | exact GetS.hit | exact PutS.hit | apply GetS.miss rfl | apply PutS.miss rfl | apply OutS.cons | apply OutS.skip rfl)))
  ((repeat refine c_seq ?_); refine c_else rfl ?_)
  refine c_skip ?_
  ((repeat refine c_seq ?_); refine c_drawn ?_; (repeat (first | ((first | apply o_move rfl rfl | apply o_easy1 rfl rfl rfl | apply o_ld rfl rfl (by assumption) (by first | rfl | assumption)); conv => lhs; whnf) | apply o_no rfl | refine o_b rfl rfl rfl (by constructor; omega) ?_ | refine o_f rfl rfl rfl (by constructor; omega) ?_ | refine o_s rfl rfl rfl (by constructor; first | omega | assumption) ?_ | refine o_t rfl rfl rfl (by constructor; assumption) ?_ | (apply o_easy rfl rfl rfl; conv => lhs; whnf) | apply o_non rfl)))
  refine o_ixvec (j := 0) (v := .int .u8 97) rfl rfl rfl rfl rfl rfl ?_
  (repeat (first | ((first | apply o_move rfl rfl | apply o_easy1 rfl rfl rfl | apply o_ld rfl rfl (by assumption) (by first | rfl | assumption)); conv => lhs; whnf) | apply o_no rfl | refine o_b rfl rfl rfl (by constructor; omega) ?_ | refine o_f rfl rfl rfl (by constructor; omega) ?_ | refine o_s rfl rfl rfl (by constructor; first | omega | assumption) ?_ | refine o_t rfl rfl rfl (by constructor; assumption) ?_ | (apply o_easy rfl rfl rfl; conv => lhs; whnf) | apply o_non rfl))
  refine o_w (v := .int .u8 97) rfl rfl ?_
  (repeat (first | ((first | apply o_move rfl rfl | apply o_easy1 rfl rfl rfl | apply o_ld rfl rfl (by assumption) (by first | rfl | assumption)); conv => lhs; whnf) | apply o_no rfl | refine o_b rfl rfl rfl (by constructor; omega) ?_ | refine o_f rfl rfl rfl (by constructor; omega) ?_ | refine o_s rfl rfl rfl (by constructor; first | omega | assumption) ?_ | refine o_t rfl rfl rfl (by constructor; assumption) ?_ | (apply o_easy rfl rfl rfl; conv => lhs; whnf) | apply o_non rfl))
  refine o_cv (c := 97) rfl rfl (by rfl) ?_
  (repeat (first | ((first | apply o_move rfl rfl | apply o_easy1 rfl rfl rfl | apply o_ld rfl rfl (by assumption) (by first | rfl | assumption)); conv => lhs; whnf) | apply o_no rfl | refine o_b rfl rfl rfl (by constructor; omega) ?_ | refine o_f rfl rfl rfl (by constructor; omega) ?_ | refine o_s rfl rfl rfl (by constructor; first | omega | assumption) ?_ | refine o_t rfl rfl rfl (by constructor; assumption) ?_ | (apply o_easy rfl rfl rfl; conv => lhs; whnf) | apply o_non rfl))
  (apply d_end rfl; (repeat (first | exact OutS.nil | exact GetS.hit | exact PutS.hit | apply GetS.miss rfl | apply PutS.miss rfl | apply OutS.cons | apply OutS.skip rfl)))
  ((repeat refine c_seq ?_); refine c_region ?_; (repeat (first | ((first | apply o_move rfl rfl | apply o_easy1 rfl rfl rfl | apply o_ld rfl rfl (by assumption) (by first | rfl | assumption)); conv => lhs; whnf) | apply o_no rfl | refine o_b rfl rfl rfl (by constructor; omega) ?_ | refine o_f rfl rfl rfl (by constructor; omega) ?_ | refine o_s rfl rfl rfl (by constructor; first | omega | assumption) ?_ | refine o_t rfl rfl rfl (by constructor; assumption) ?_ | (apply o_easy rfl rfl rfl; conv => lhs; whnf) | apply o_non rfl)); apply o_end; (repeat (first | exact OutS.nil | exact GetS.hit | exact PutS.hit | apply GetS.miss rfl | apply PutS.miss rfl | apply OutS.cons | apply OutS.skip rfl)))
  ((repeat refine c_seq ?_); refine c_block ?_)
  refine c_loop ?_
  apply l_round
  ((repeat refine c_seq ?_); refine c_region ?_; (repeat (first | ((first | apply o_move rfl rfl | apply o_easy1 rfl rfl rfl | apply o_ld rfl rfl (by assumption) (by first | rfl | assumption)); conv => lhs; whnf) | apply o_no rfl | refine o_b rfl rfl rfl (by constructor; omega) ?_ | refine o_f rfl rfl rfl (by constructor; omega) ?_ | refine o_s rfl rfl rfl (by constructor; first | omega | assumption) ?_ | refine o_t rfl rfl rfl (by constructor; assumption) ?_ | (apply o_easy rfl rfl rfl; conv => lhs; whnf) | apply o_non rfl)); apply o_end; (repeat (first | exact OutS.nil | exact GetS.hit | exact PutS.hit | apply GetS.miss rfl | apply PutS.miss rfl | apply OutS.cons | apply OutS.skip rfl)))
  ((repeat refine c_seq ?_); refine c_else rfl ?_)
  refine c_exit ?_
  show OkC _ _ _ _ _ _ _
  ((repeat refine c_seq ?_); refine c_region ?_; (repeat (first | ((first | apply o_move rfl rfl | apply o_easy1 rfl rfl rfl | apply o_ld rfl rfl (by assumption) (by first | rfl | assumption)); conv => lhs; whnf) | apply o_no rfl | refine o_b rfl rfl rfl (by constructor; omega) ?_ | refine o_f rfl rfl rfl (by constructor; omega) ?_ | refine o_s rfl rfl rfl (by constructor; first | omega | assumption) ?_ | refine o_t rfl rfl rfl (by constructor; assumption) ?_ | (apply o_easy rfl rfl rfl; conv => lhs; whnf) | apply o_non rfl)))
  refine o_w (v := .int .i64 0) rfl rfl ?_
  (repeat (first | ((first | apply o_move rfl rfl | apply o_easy1 rfl rfl rfl | apply o_ld rfl rfl (by assumption) (by first | rfl | assumption)); conv => lhs; whnf) | apply o_no rfl | refine o_b rfl rfl rfl (by constructor; omega) ?_ | refine o_f rfl rfl rfl (by constructor; omega) ?_ | refine o_s rfl rfl rfl (by constructor; first | omega | assumption) ?_ | refine o_t rfl rfl rfl (by constructor; assumption) ?_ | (apply o_easy rfl rfl rfl; conv => lhs; whnf) | apply o_non rfl))
  (apply o_end; (repeat (first | exact OutS.nil | exact GetS.hit | exact PutS.hit | apply GetS.miss rfl | apply PutS.miss rfl | apply OutS.cons | apply OutS.skip rfl)))
  ((repeat refine c_seq ?_); refine c_else rfl ?_)
  refine c_skip ?_
  ((repeat refine c_seq ?_); refine c_region ?_; (repeat (first | ((first | apply o_move rfl rfl | apply o_easy1 rfl rfl rfl | apply o_ld rfl rfl (by assumption) (by first | rfl | assumption)); conv => lhs; whnf) | apply o_no rfl | refine o_b rfl rfl rfl (by constructor; omega) ?_ | refine o_f rfl rfl rfl (by constructor; omega) ?_ | refine o_s rfl rfl rfl (by constructor; first | omega | assumption) ?_ | refine o_t rfl rfl rfl (by constructor; assumption) ?_ | (apply o_easy rfl rfl rfl; conv => lhs; whnf) | apply o_non rfl)); apply o_end; (repeat (first | exact OutS.nil | exact GetS.hit | exact PutS.hit | apply GetS.miss rfl | apply PutS.miss rfl | apply OutS.cons | apply OutS.skip rfl)))
  exact c_ret rfl

end Go.Tok

namespace Go.Tok
open Go Go.Am Go.Proofs


/-- utf.Valid, of what isn't -/
theorem valid_bad (m : Nat) (b : Bar) (r : List UInt8) (s : Sg) (ht : r.length < 2 ^ 40) :
    callF T (m + 9) b 10 [.vec (Am.byteCells (97 :: 255 :: r)) .shut] s = some (.ret (.tup [.int .i64 1, .bool false]), s) := by
  have hbl : (Am.byteCells (97 :: 255 :: r)).length = r.length + 2 := by rw [Am.byteCells_length]; rfl
  (apply f_of rfl rfl; (repeat (first | exact Shape.nil | (apply Shape.cons; conv => lhs; whnf))))
  ((repeat refine c_seq ?_); refine c_region ?_; (repeat (first | ((first | apply o_move rfl rfl | apply o_easy1 rfl rfl rfl | apply o_ld rfl rfl (by assumption) (by first | rfl | assumption)); conv => lhs; whnf) | apply o_no rfl | refine o_b rfl rfl rfl (by constructor; omega) ?_ | refine o_f rfl rfl rfl (by constructor; omega) ?_ | refine o_s rfl rfl rfl (by constructor; first | omega | assumption) ?_ | refine o_t rfl rfl rfl (by constructor; assumption) ?_ | (apply o_easy rfl rfl rfl; conv => lhs; whnf) | apply o_non rfl)); apply o_end; (repeat (first | exact OutS.nil | exact GetS.hit | exact PutS.hit | apply GetS.miss rfl | apply PutS.miss rfl | apply OutS.cons | apply OutS.skip rfl)))
  ((repeat refine c_seq ?_); refine c_region ?_; (repeat (first | ((first | apply o_move rfl rfl | apply o_easy1 rfl rfl rfl | apply o_ld rfl rfl (by assumption) (by first | rfl | assumption)); conv => lhs; whnf) | apply o_no rfl | refine o_b rfl rfl rfl (by constructor; omega) ?_ | refine o_f rfl rfl rfl (by constructor; omega) ?_ | refine o_s rfl rfl rfl (by constructor; first | omega | assumption) ?_ | refine o_t rfl rfl rfl (by constructor; assumption) ?_ | (apply o_easy rfl rfl rfl; conv => lhs; whnf) | apply o_non rfl)); apply o_end; (repeat (first | exact OutS.nil | exact GetS.hit | exact PutS.hit | apply GetS.miss rfl | apply PutS.miss rfl | apply OutS.cons | apply OutS.skip rfl)))
  ((repeat refine c_seq ?_); refine c_block ?_)
  refine c_loop ?_
  apply l_round
  ((repeat refine c_seq ?_); refine c_region ?_; (repeat (first | ((first | apply o_move rfl rfl | apply o_easy1 rfl rfl rfl | apply o_ld rfl rfl (by assumption) (by first | rfl | assumption)); conv => lhs; whnf) | apply o_no rfl | refine o_b rfl rfl rfl (by constructor; omega) ?_ | refine o_f rfl rfl rfl (by constructor; omega) ?_ | refine o_s rfl rfl rfl (by constructor; first | omega | assumption) ?_ | refine o_t rfl rfl rfl (by constructor; assumption) ?_ | (apply o_easy rfl rfl rfl; conv => lhs; whnf) | apply o_non rfl)); apply o_end; (repeat (first | exact OutS.nil | exact GetS.hit | exact PutS.hit | apply GetS.miss rfl | apply PutS.miss rfl | apply OutS.cons | apply OutS.skip rfl)))
  ((repeat refine c_seq ?_); refine c_if rfl ?_)
  refine c_skip ?_
  ((repeat refine c_seq ?_); refine c_block ?_)
  ((repeat refine c_seq ?_); refine c_region ?_; (repeat (first | ((first | apply o_move rfl rfl | apply o_easy1 rfl rfl rfl | apply o_ld rfl rfl (by assumption) (by first | rfl | assumption)); conv => lhs; whnf) | apply o_no rfl | refine o_b rfl rfl rfl (by constructor; omega) ?_ | refine o_f rfl rfl rfl (by constructor; omega) ?_ | refine o_s rfl rfl rfl (by constructor; first | omega | assumption) ?_ | refine o_t rfl rfl rfl (by constructor; assumption) ?_ | (apply o_easy rfl rfl rfl; conv => lhs; whnf) | apply o_non rfl)))
  refine o_call rfl rfl (point0 _ _ r s ht) ?_
  (repeat (first | ((first | apply o_move rfl rfl | apply o_easy1 rfl rfl rfl | apply o_ld rfl rfl (by assumption) (by first | rfl | assumption)); conv => lhs; whnf) | apply o_no rfl | refine o_b rfl rfl rfl (by constructor; omega) ?_ | refine o_f rfl rfl rfl (by constructor; omega) ?_ | refine o_s rfl rfl rfl (by constructor; first | omega | assumption) ?_ | refine o_t rfl rfl rfl (by constructor; assumption) ?_ | (apply o_easy rfl rfl rfl; conv => lhs; whnf) | apply o_non rfl))
  (apply o_end; (repeat (first | exact OutS.nil | exact GetS.hit | exact PutS.hit | apply GetS.miss rfl | apply PutS.miss rfl | apply OutS.cons | apply OutS.skip rfl)))
  ((repeat refine c_seq ?_); refine c_region ?_; (repeat (first | ((first | apply o_move rfl rfl | apply o_easy1 rfl rfl rfl | apply o_ld rfl rfl (by assumption) (by first | rfl | assumption)); conv => lhs; whnf) | apply o_no rfl | refine o_b rfl rfl rfl (by constructor; omega) ?_ | refine o_f rfl rfl rfl (by constructor; omega) ?_ | refine o_s rfl rfl rfl (by constructor; first | omega | assumption) ?_ | refine o_t rfl rfl rfl (by constructor; assumption) ?_ | (apply o_easy rfl rfl rfl; conv => lhs; whnf) | apply o_non rfl)); apply o_end; (repeat (first | exact OutS.nil | exact GetS.hit | exact PutS.hit | apply GetS.miss rfl | apply PutS.miss rfl | apply OutS.cons | apply OutS.skip rfl)))
  ((repeat refine c_seq ?_); refine c_else rfl ?_)
  refine c_skip ?_
  ((repeat refine c_seq ?_); refine c_region ?_; (repeat (first | ((first | apply o_move rfl rfl | apply o_easy1 rfl rfl rfl | apply o_ld rfl rfl (by assumption) (by first | rfl | assumption)); conv => lhs; whnf) | apply o_no rfl | refine o_b rfl rfl rfl (by constructor; omega) ?_ | refine o_f rfl rfl rfl (by constructor; omega) ?_ | refine o_s rfl rfl rfl (by constructor; first | omega | assumption) ?_ | refine o_t rfl rfl rfl (by constructor; assumption) ?_ | (apply o_easy rfl rfl rfl; conv => lhs; whnf) | apply o_non rfl)); apply o_end; (repeat (first | exact OutS.nil | exact GetS.hit | exact PutS.hit | apply GetS.miss rfl | apply PutS.miss rfl | apply OutS.cons | apply OutS.skip rfl)))
  apply l_round
  ((repeat refine c_seq ?_); refine c_region ?_; (repeat (first | ((first | apply o_move rfl rfl | apply o_easy1 rfl rfl rfl | apply o_ld rfl rfl (by assumption) (by first | rfl | assumption)); conv => lhs; whnf) | apply o_no rfl | refine o_b rfl rfl rfl (by constructor; omega) ?_ | refine o_f rfl rfl rfl (by constructor; omega) ?_ | refine o_s rfl rfl rfl (by constructor; first | omega | assumption) ?_ | refine o_t rfl rfl rfl (by constructor; assumption) ?_ | (apply o_easy rfl rfl rfl; conv => lhs; whnf) | apply o_non rfl)); apply o_end; (repeat (first | exact OutS.nil | exact GetS.hit | exact PutS.hit | apply GetS.miss rfl | apply PutS.miss rfl | apply OutS.cons | apply OutS.skip rfl)))
  ((repeat refine c_seq ?_); refine c_if rfl ?_)
  refine c_skip ?_
  ((repeat refine c_seq ?_); refine c_block ?_)
  ((repeat refine c_seq ?_); refine c_region ?_; (repeat (first | ((first | apply o_move rfl rfl | apply o_easy1 rfl rfl rfl | apply o_ld rfl rfl (by assumption) (by first | rfl | assumption)); conv => lhs; whnf) | apply o_no rfl | refine o_b rfl rfl rfl (by constructor; omega) ?_ | refine o_f rfl rfl rfl (by constructor; omega) ?_ | refine o_s rfl rfl rfl (by constructor; first | omega | assumption) ?_ | refine o_t rfl rfl rfl (by constructor; assumption) ?_ | (apply o_easy rfl rfl rfl; conv => lhs; whnf) | apply o_non rfl)))
  refine o_call rfl rfl (point1 _ _ r s) ?_
  (repeat (first | ((first | apply o_move rfl rfl | apply o_easy1 rfl rfl rfl | apply o_ld rfl rfl (by assumption) (by first | rfl | assumption)); conv => lhs; whnf) | apply o_no rfl | refine o_b rfl rfl rfl (by constructor; omega) ?_ | refine o_f rfl rfl rfl (by constructor; omega) ?_ | refine o_s rfl rfl rfl (by constructor; first | omega | assumption) ?_ | refine o_t rfl rfl rfl (by constructor; assumption) ?_ | (apply o_easy rfl rfl rfl; conv => lhs; whnf) | apply o_non rfl))
  (apply o_end; (repeat (first | exact OutS.nil | exact GetS.hit | exact PutS.hit | apply GetS.miss rfl | apply PutS.miss rfl | apply OutS.cons | apply OutS.skip rfl)))
  ((repeat refine c_seq ?_); refine c_region ?_; (repeat (first | ((first | apply o_move rfl rfl | apply o_easy1 rfl rfl rfl | apply o_ld rfl rfl (by assumption) (by first | rfl | assumption)); conv => lhs; whnf) | apply o_no rfl | refine o_b rfl rfl rfl (by constructor; omega) ?_ | refine o_f rfl rfl rfl (by constructor; omega) ?_ | refine o_s rfl rfl rfl (by constructor; first | omega | assumption) ?_ | refine o_t rfl rfl rfl (by constructor; assumption) ?_ | (apply o_easy rfl rfl rfl; conv => lhs; whnf) | apply o_non rfl)); apply o_end; (repeat (first | exact OutS.nil | exact GetS.hit | exact PutS.hit | apply GetS.miss rfl | apply PutS.miss rfl | apply OutS.cons | apply OutS.skip rfl)))
  ((repeat refine c_seq ?_); refine c_if rfl ?_)
  ((repeat refine c_seq ?_); refine c_region ?_; (repeat (first | ((first | apply o_move rfl rfl | apply o_easy1 rfl rfl rfl | apply o_ld rfl rfl (by assumption) (by first | rfl | assumption)); conv => lhs; whnf) | apply o_no rfl | refine o_b rfl rfl rfl (by constructor; omega) ?_ | refine o_f rfl rfl rfl (by constructor; omega) ?_ | refine o_s rfl rfl rfl (by constructor; first | omega | assumption) ?_ | refine o_t rfl rfl rfl (by constructor; assumption) ?_ | (apply o_easy rfl rfl rfl; conv => lhs; whnf) | apply o_non rfl)); apply o_end; (repeat (first | exact OutS.nil | exact GetS.hit | exact PutS.hit | apply GetS.miss rfl | apply PutS.miss rfl | apply OutS.cons | apply OutS.skip rfl)))
  exact c_ret rfl

/-- Lex, of what is no UTF-8 -/
theorem lex_utf (r : List UInt8) (ht : r.length ≤ 998) (m : Nat) (b : Bar) (s : Sg) (a0 : AV) (h0 : a0.weak = .vec (Am.byteCells (97 :: 255 :: r)) .shut) :
    callF T (m + 10) b 8 [a0, .int .i64 32] s = some (.ret (.tup [.vec [] .shut, .int .i64 13, .int .i64 1]), s) := by
  have hbl : (Am.byteCells (97 :: 255 :: r)).length = r.length + 2 := by rw [Am.byteCells_length]; rfl
  suffices h : OkF (callF T (m + 10) b 8 [a0, .int .i64 32] s) (fun x s' => x = .ret (.tup [.vec [] .shut, .int .i64 13, .int .i64 1]) ∧ s' = s) by
    obtain ⟨x, s', h1, rfl, rfl⟩ := h.ok
    exact h1
  have hw0 : AV.weakAll [a0, .int .i64 32] = [.vec (Am.byteCells (97 :: 255 :: r)) .shut, .int .i64 32] := by
    simp only [AV.weakAll, h0]
    rfl
  apply f_wp rfl rfl
  · show Shape (bindArgs (AV.weakAll [a0, _]) _) _
    rw [hw0]
    repeat (first | exact Shape.nil | (apply Shape.cons; (conv => lhs; whnf)))
  ((repeat refine c_seq ?_); refine c_region ?_; (repeat (first | ((first | apply o_move rfl rfl | apply o_easy1 rfl rfl rfl | apply o_ld rfl rfl (by assumption) (by first | rfl | assumption)); conv => lhs; whnf) | apply o_no rfl | refine o_b rfl rfl rfl (by constructor; omega) ?_ | refine o_f rfl rfl rfl (by constructor; omega) ?_ | refine o_s rfl rfl rfl (by constructor; first | omega | assumption) ?_ | refine o_t rfl rfl rfl (by constructor; assumption) ?_ | (apply o_easy rfl rfl rfl; conv => lhs; whnf) | apply o_non rfl)))
  refine o_alloc rfl ?_
  refine o_alloc rfl ?_
  refine o_alloc rfl ?_
  (apply o_end; (repeat (first | exact OutS.nil | exact GetS.hit | exact PutS.hit | apply GetS.miss rfl | apply PutS.miss rfl | apply OutS.cons | apply OutS.skip rfl)))
  have hA := getCells_push (.cells [.int .i64 0] 0) (getCells_push (.cells [.int .i64 0] 0) (getCells_new s [.nilsl] 0))
  have hB := getCells_push (.cells [.int .i64 0] 0) (getCells_new (s.push (.cells [.nilsl] 0)) [.int .i64 0] 0)
  have hC := getCells_new ((s.push (.cells [.nilsl] 0)).push (.cells [.int .i64 0] 0)) [.int .i64 0] 0
  have lA : s.heap.length < (s.push (.cells [.nilsl] 0)).heap.length := by rw [Sg.push_len]; omega
  have lB : (s.push (.cells [.nilsl] 0)).heap.length < ((s.push (.cells [.nilsl] 0)).push (.cells [.int .i64 0] 0)).heap.length := by rw [Sg.push_len (s.push _)]; omega
  generalize (((s.push (.cells [.nilsl] 0)).push (.cells [.int .i64 0] 0)).push (.cells [.int .i64 0] 0)) = s1 at hA hB hC ⊢
  generalize ((s.push (.cells [.nilsl] 0)).push (.cells [.int .i64 0] 0)).heap.length = C at hC lB ⊢
  generalize (s.push (.cells [.nilsl] 0)).heap.length = B at hB lA lB ⊢
  ((repeat refine c_seq ?_); refine c_region ?_; (repeat (first | ((first | apply o_move rfl rfl | apply o_easy1 rfl rfl rfl | apply o_ld rfl rfl (by assumption) (by first | rfl | assumption)); conv => lhs; whnf) | apply o_no rfl | refine o_b rfl rfl rfl (by constructor; omega) ?_ | refine o_f rfl rfl rfl (by constructor; omega) ?_ | refine o_s rfl rfl rfl (by constructor; first | omega | assumption) ?_ | refine o_t rfl rfl rfl (by constructor; assumption) ?_ | (apply o_easy rfl rfl rfl; conv => lhs; whnf) | apply o_non rfl)); apply o_end; (repeat (first | exact OutS.nil | exact GetS.hit | exact PutS.hit | apply GetS.miss rfl | apply PutS.miss rfl | apply OutS.cons | apply OutS.skip rfl)))
  ((repeat refine c_seq ?_); refine c_else rfl ?_)
  refine c_skip ?_
  ((repeat refine c_seq ?_); refine c_region ?_; (repeat (first | ((first | apply o_move rfl rfl | apply o_easy1 rfl rfl rfl | apply o_ld rfl rfl (by assumption) (by first | rfl | assumption)); conv => lhs; whnf) | apply o_no rfl | refine o_b rfl rfl rfl (by constructor; omega) ?_ | refine o_f rfl rfl rfl (by constructor; omega) ?_ | refine o_s rfl rfl rfl (by constructor; first | omega | assumption) ?_ | refine o_t rfl rfl rfl (by constructor; assumption) ?_ | (apply o_easy rfl rfl rfl; conv => lhs; whnf) | apply o_non rfl)); apply o_end; (repeat (first | exact OutS.nil | exact GetS.hit | exact PutS.hit | apply GetS.miss rfl | apply PutS.miss rfl | apply OutS.cons | apply OutS.skip rfl)))
  ((repeat refine c_seq ?_); refine c_else rfl ?_)
  refine c_skip ?_
  ((repeat refine c_seq ?_); refine c_region ?_; (repeat (first | ((first | apply o_move rfl rfl | apply o_easy1 rfl rfl rfl | apply o_ld rfl rfl (by assumption) (by first | rfl | assumption)); conv => lhs; whnf) | apply o_no rfl | refine o_b rfl rfl rfl (by constructor; omega) ?_ | refine o_f rfl rfl rfl (by constructor; omega) ?_ | refine o_s rfl rfl rfl (by constructor; first | omega | assumption) ?_ | refine o_t rfl rfl rfl (by constructor; assumption) ?_ | (apply o_easy rfl rfl rfl; conv => lhs; whnf) | apply o_non rfl)))
  refine o_bs rfl rfl (bytesOf_cells _) ?_
  (repeat (first | ((first | apply o_move rfl rfl | apply o_easy1 rfl rfl rfl | apply o_ld rfl rfl (by assumption) (by first | rfl | assumption)); conv => lhs; whnf) | apply o_no rfl | refine o_b rfl rfl rfl (by constructor; omega) ?_ | refine o_f rfl rfl rfl (by constructor; omega) ?_ | refine o_s rfl rfl rfl (by constructor; first | omega | assumption) ?_ | refine o_t rfl rfl rfl (by constructor; assumption) ?_ | (apply o_easy rfl rfl rfl; conv => lhs; whnf) | apply o_non rfl))
  refine o_w (v := .int .i64 32) rfl rfl ?_
  (repeat (first | ((first | apply o_move rfl rfl | apply o_easy1 rfl rfl rfl | apply o_ld rfl rfl (by assumption) (by first | rfl | assumption)); conv => lhs; whnf) | apply o_no rfl | refine o_b rfl rfl rfl (by constructor; omega) ?_ | refine o_f rfl rfl rfl (by constructor; omega) ?_ | refine o_s rfl rfl rfl (by constructor; first | omega | assumption) ?_ | refine o_t rfl rfl rfl (by constructor; assumption) ?_ | (apply o_easy rfl rfl rfl; conv => lhs; whnf) | apply o_non rfl))
  refine o_box (v := .agg (lx (97 :: 255 :: r) true 32 255 0 0 .nilsl)) (l := lx (97 :: 255 :: r) true 32 255 0 0 .nilsl) rfl rfl rfl ?_
  (repeat (first | ((first | apply o_move rfl rfl | apply o_easy1 rfl rfl rfl | apply o_ld rfl rfl (by assumption) (by first | rfl | assumption)); conv => lhs; whnf) | apply o_no rfl | refine o_b rfl rfl rfl (by constructor; omega) ?_ | refine o_f rfl rfl rfl (by constructor; omega) ?_ | refine o_s rfl rfl rfl (by constructor; first | omega | assumption) ?_ | refine o_t rfl rfl rfl (by constructor; assumption) ?_ | (apply o_easy rfl rfl rfl; conv => lhs; whnf) | apply o_non rfl))
  (apply o_end; (repeat (first | exact OutS.nil | exact GetS.hit | exact PutS.hit | apply GetS.miss rfl | apply PutS.miss rfl | apply OutS.cons | apply OutS.skip rfl)))
  have hR := getCells_new s1 (lx (97 :: 255 :: r) true 32 255 0 0 .nilsl) 0
  have hA1 := getCells_push (.cells (lx (97 :: 255 :: r) true 32 255 0 0 .nilsl) 0) hA
  have hB1 := getCells_push (.cells (lx (97 :: 255 :: r) true 32 255 0 0 .nilsl) 0) hB
  have hC1 := getCells_push (.cells (lx (97 :: 255 :: r) true 32 255 0 0 .nilsl) 0) hC
  have lR := getCells_lt hC
  have lS := getCells_lt hA
  clear hA hB hC
  generalize s1.push (.cells (lx (97 :: 255 :: r) true 32 255 0 0 .nilsl) 0) = s2 at hA1 hB1 hC1 hR ⊢
  ((repeat refine c_seq ?_); refine c_region ?_; (repeat (first | ((first | apply o_move rfl rfl | apply o_easy1 rfl rfl rfl | apply o_ld rfl rfl (by assumption) (by first | rfl | assumption)); conv => lhs; whnf) | apply o_no rfl | refine o_b rfl rfl rfl (by constructor; omega) ?_ | refine o_f rfl rfl rfl (by constructor; omega) ?_ | refine o_s rfl rfl rfl (by constructor; first | omega | assumption) ?_ | refine o_t rfl rfl rfl (by constructor; assumption) ?_ | (apply o_easy rfl rfl rfl; conv => lhs; whnf) | apply o_non rfl)); apply o_end; (repeat (first | exact OutS.nil | exact GetS.hit | exact PutS.hit | apply GetS.miss rfl | apply PutS.miss rfl | apply OutS.cons | apply OutS.skip rfl)))
  ((repeat refine c_seq ?_); refine c_if rfl ?_)
  ((repeat refine c_seq ?_); refine c_region ?_; (repeat (first | ((first | apply o_move rfl rfl | apply o_easy1 rfl rfl rfl | apply o_ld rfl rfl (by assumption) (by first | rfl | assumption)); conv => lhs; whnf) | apply o_no rfl | refine o_b rfl rfl rfl (by constructor; omega) ?_ | refine o_f rfl rfl rfl (by constructor; omega) ?_ | refine o_s rfl rfl rfl (by constructor; first | omega | assumption) ?_ | refine o_t rfl rfl rfl (by constructor; assumption) ?_ | (apply o_easy rfl rfl rfl; conv => lhs; whnf) | apply o_non rfl)))
  refine o_st rfl rfl rfl rfl hR rfl (lets_of (blt_no (by show s.heap.length ≤ s1.heap.length; omega)) (fun e => rfl)) (cs' := lx (97 :: 255 :: r) true 32 1114111 0 0 .nilsl) rfl ?_
  have hA := getCells_put_ne (i := s1.heap.length) (o := .cells (lx (97 :: 255 :: r) true 32 1114111 0 0 .nilsl) 0) (by omega) hA1
  have hB := getCells_put_ne (i := s1.heap.length) (o := .cells (lx (97 :: 255 :: r) true 32 1114111 0 0 .nilsl) 0) (by have := getCells_lt hB1; omega) hB1
  have hC := getCells_put_ne (i := s1.heap.length) (o := .cells (lx (97 :: 255 :: r) true 32 1114111 0 0 .nilsl) 0) (by omega) hC1
  (apply o_end; (repeat (first | exact OutS.nil | exact GetS.hit | exact PutS.hit | apply GetS.miss rfl | apply PutS.miss rfl | apply OutS.cons | apply OutS.skip rfl)))
  ((repeat refine c_seq ?_); refine c_region ?_; (repeat (first | ((first | apply o_move rfl rfl | apply o_easy1 rfl rfl rfl | apply o_ld rfl rfl (by assumption) (by first | rfl | assumption)); conv => lhs; whnf) | apply o_no rfl | refine o_b rfl rfl rfl (by constructor; omega) ?_ | refine o_f rfl rfl rfl (by constructor; omega) ?_ | refine o_s rfl rfl rfl (by constructor; first | omega | assumption) ?_ | refine o_t rfl rfl rfl (by constructor; assumption) ?_ | (apply o_easy rfl rfl rfl; conv => lhs; whnf) | apply o_non rfl)))
  refine o_call rfl rfl (valid_bad m _ r _ (by omega)) ?_
  (repeat (first | ((first | apply o_move rfl rfl | apply o_easy1 rfl rfl rfl | apply o_ld rfl rfl (by assumption) (by first | rfl | assumption)); conv => lhs; whnf) | apply o_no rfl | refine o_b rfl rfl rfl (by constructor; omega) ?_ | refine o_f rfl rfl rfl (by constructor; omega) ?_ | refine o_s rfl rfl rfl (by constructor; first | omega | assumption) ?_ | refine o_t rfl rfl rfl (by constructor; assumption) ?_ | (apply o_easy rfl rfl rfl; conv => lhs; whnf) | apply o_non rfl))
  (apply o_end; (repeat (first | exact OutS.nil | exact GetS.hit | exact PutS.hit | apply GetS.miss rfl | apply PutS.miss rfl | apply OutS.cons | apply OutS.skip rfl)))
  ((repeat refine c_seq ?_); refine c_region ?_; (repeat (first | ((first | apply o_move rfl rfl | apply o_easy1 rfl rfl rfl | apply o_ld rfl rfl (by assumption) (by first | rfl | assumption)); conv => lhs; whnf) | apply o_no rfl | refine o_b rfl rfl rfl (by constructor; omega) ?_ | refine o_f rfl rfl rfl (by constructor; omega) ?_ | refine o_s rfl rfl rfl (by constructor; first | omega | assumption) ?_ | refine o_t rfl rfl rfl (by constructor; assumption) ?_ | (apply o_easy rfl rfl rfl; conv => lhs; whnf) | apply o_non rfl)); apply o_end; (repeat (first | exact OutS.nil | exact GetS.hit | exact PutS.hit | apply GetS.miss rfl | apply PutS.miss rfl | apply OutS.cons | apply OutS.skip rfl)))
  ((repeat refine c_seq ?_); refine c_if rfl ?_)
  ((repeat refine c_seq ?_); refine c_region ?_; (repeat (first | ((first | apply o_move rfl rfl | apply o_easy1 rfl rfl rfl | apply o_ld rfl rfl (by assumption) (by first | rfl | assumption)); conv => lhs; whnf) | apply o_no rfl | refine o_b rfl rfl rfl (by constructor; omega) ?_ | refine o_f rfl rfl rfl (by constructor; omega) ?_ | refine o_s rfl rfl rfl (by constructor; first | omega | assumption) ?_ | refine o_t rfl rfl rfl (by constructor; assumption) ?_ | (apply o_easy rfl rfl rfl; conv => lhs; whnf) | apply o_non rfl)))
  refine o_st rfl rfl rfl rfl hA rfl (lets_of (blt_no (by show s.heap.length ≤ s.heap.length; omega)) (fun e => rfl)) (cs' := [.nilsl]) rfl ?_
  have hA2 := getCells_put (cs' := [.nilsl]) (g' := 0) hA
  have hB2 := getCells_put_ne (i := s.heap.length) (o := .cells [.nilsl] 0) (by omega) hB
  have hC2 := getCells_put_ne (i := s.heap.length) (o := .cells [.nilsl] 0) (by omega) hC
  refine o_st rfl rfl rfl rfl hB2 rfl (lets_of (blt_no (by show s.heap.length ≤ B; omega)) (fun e => rfl)) (cs' := [.int .i64 13]) rfl ?_
  have hA3 := getCells_put_ne (i := B) (o := .cells [.int .i64 13] 0) (by omega) hA2
  have hB3 := getCells_put (cs' := [.int .i64 13]) (g' := 0) hB2
  have hC3 := getCells_put_ne (i := B) (o := .cells [.int .i64 13] 0) (by omega) hC2
  refine o_st rfl rfl rfl rfl hC3 rfl (lets_of (blt_no (by show s.heap.length ≤ C; omega)) (fun e => rfl)) (cs' := [.int .i64 1]) rfl ?_
  have hA4 := getCells_put_ne (i := C) (o := .cells [.int .i64 1] 0) (by omega) hA3
  have hB4 := getCells_put_ne (i := C) (o := .cells [.int .i64 1] 0) (by omega) hB3
  have hC4 := getCells_put (cs' := [.int .i64 1]) (g' := 0) hC3
  (apply o_end; (repeat (first | exact OutS.nil | exact GetS.hit | exact PutS.hit | apply GetS.miss rfl | apply PutS.miss rfl | apply OutS.cons | apply OutS.skip rfl)))
  refine c_ret ?_
  show OkF (endRet _ _ _ _) _
  exact end_ret (read_cell rfl hA4 rfl (read_cell rfl hB4 rfl (read_cell rfl hC4 rfl read_nil))) (leave_pure (lay_cons rfl (lay_cons rfl (lay_cons rfl lay_nil))) (by simp [AV.oldAll, AV.old, AV.weak])) ⟨rfl, rfl⟩

end Go.Tok

namespace Go.Tok
open Go Go.Am Go.Proofs

/-- the loop 0 of function 4 -/
def lp4_0 : ACode := .seq (.seq (.region [⟨(some 35), .v (.move (.tmp 7)), none⟩, ⟨(some 36), .v (.move (.tmp 0)), none⟩, ⟨(some 37), .v (.bin .rem (.tmp 36) (.const (.int .i64 50))), none⟩, ⟨(some 38), .v (.bin .add (.const (.int .i64 1001)) (.tmp 37)), none⟩, ⟨(some 39), .v (.bin .lss (.tmp 35) (.tmp 38)), none⟩] [39]) (.cond (.tmp 39) (.skip) (.exit 0))) (.seq (.block 1 (.region [⟨(some 42), .v (.move (.tmp 6)), none⟩, ⟨(some 43), .v (.buildSl 1 (.int .u8 0) 1 [(0, (.const (.int .u8 40)))]), none⟩, ⟨(some 44), .e (.append false none 1 (.tmp 42) (.tmp 43)), none⟩, ⟨(some 6), .v (.move (.tmp 44)), none⟩] [6])) (.region [⟨(some 40), .v (.move (.tmp 7)), none⟩, ⟨(some 41), .v (.bin .add (.tmp 40) (.const (.int .i64 1))), none⟩, ⟨(some 7), .v (.move (.tmp 41)), none⟩] [7]))

theorem bnd_nat' {k : IntKind} {j n d : Nat} (h : j ≤ n) : bnd (some (.int k (j : Int))) d n = some j := by
  simp only [bnd]; rw [if_pos ⟨by omega, by omega⟩]; simp

section
variable {call : CallFn} {b : Bar} {g : Option (Nat × Bool)} {r : List AOper} {loc : Env} {fr : Fr} {s : Sg} {Q : Ex → Env → Fr → Sg → Prop}

theorem o_slvecTo {sz : Nat} {es q : List AV} {tl : Tail} {x hi : AOpd} {t j : Nat} {z : Int} {k : IntKind} (hg : wantedA loc fr.pers g = some true) (hx : x.ev loc fr.pers = some (.vec es tl)) (hh : hi.ev loc fr.pers = some (.int k z)) (ez : z = (j : Int)) (hj : j ≤ es.length) (hq : es.take j = q)
    (hr : ∀ tl', OkO call b r ((t, .vec q tl') :: loc) fr s Q) : OkO call b (⟨some t, .v (.slice sz x none (some hi) none), g⟩ :: r) loc fr s Q := by
  subst ez hq
  refine o_w (v := .vec (es.take j) (cutTail es.length 0 j (none : Option AV).isSome tl)) hg ?_ (hr _)
  have h1 : bnd (some (.int k (j : Int))) es.length es.length = some j := bnd_nat' hj
  have h2 : bnd none 0 j = some 0 := rfl
  have h3 : bnd none j j = some j := rfl
  simp only [evV, hx, evOpt, hh, Option.map_some, Option.bind_some, h1, h2, h3, Nat.beq_refl, Bool.true_or, Bool.and_self, if_true, List.drop_zero, Nat.sub_zero]

theorem o_rem {x y : AOpd} {t : Nat} {k : IntKind} {a c z : Int} (hg : wantedA loc fr.pers g = some true) (hx : x.ev loc fr.pers = some (.int k a)) (hy : y.ev loc fr.pers = some (.int k c)) (hc : c ≠ 0) (hz : a.tmod c = z) (hr : OkO call b r ((t, .int k z) :: loc) fr s Q) : OkO call b (⟨some t, .v (.bin .rem x y), g⟩ :: r) loc fr s Q := by
  subst hz
  refine o_w hg ?_ hr
  simp only [evV, hx, hy, Option.bind_some, evBin, if_true, intBin, if_neg hc]

theorem o_neg {x : AOpd} {t : Nat} {a z : Int} (hg : wantedA loc fr.pers g = some true) (hx : x.ev loc fr.pers = some (.int .i64 a)) (hz : z = 0 - a) (h0 : -(2 ^ 63) ≤ z) (h1 : z < 2 ^ 63) (hr : OkO call b r ((t, .int .i64 z) :: loc) fr s Q) : OkO call b (⟨some t, .v (.un .neg x), g⟩ :: r) loc fr s Q := by
  subst hz
  refine o_w hg ?_ hr
  simp only [evV, hx, Option.bind_some, evUn, intBin, wrap_i64 h0 h1]
end

theorem evAll2 {loc pers : Env} {x y : AOpd} {a c : AV} (hx : x.ev loc pers = some a) (hy : y.ev loc pers = some c) : evAll loc pers [x, y] = some [a, c] := by
  simp only [evAll, hx, hy, Option.bind_some]

theorem RepB.weak {t0 : Nat} {s : Sg} {v : AV} {l : List UInt8} (hr : RepB t0 s v l) : v.weak = .vec (Am.byteCells l) .shut := by
  rcases hr with ⟨rfl, rfl⟩ | ⟨i, n, rfl, _⟩ <;> rfl

abbrev fr4 (bad : List UInt8) (a : Int) (x31 : AV) (n : Int) (x39 v : AV) : Fr :=
  ⟨[(0, .int .i64 a), (1, .vec (Am.byteCells bad) .shut), (4, .bool false), (5, .bool true), (26, .bool false), (29, .bool false), (31, x31), (7, .int .i64 n), (39, x39), (6, v), (17, .undef), (71, .undef), (9, .undef), (10, .undef), (12, .undef), (13, .undef), (15, .undef), (16, .undef), (19, .undef), (20, .undef), (22, .undef)], [], .off⟩

theorem long_loop (M : Nat) (b : Bar) (bad : List UInt8) (a : Int) (x31 : AV) (N t0 : Nat) (ha : 0 ≤ a) (hN : (1001 + a.tmod 50 : Int) = N) (hN2 : N < 2000) (hbt : b.t ≤ t0) {Q : Ex → Fr → Sg → Prop}
    (hq : ∀ v s', RepB t0 s' v (List.replicate N 40) → t0 ≤ s'.toks.length → Q (.exit 0) (fr4 bad a x31 N (.bool false) v) s') :
    ∀ (d n L : Nat) (x39 v : AV) (s : Sg), n + d = N → d + 1 ≤ L → t0 ≤ s.toks.length → RepB t0 s v (List.replicate n 40) →
    OkL L (fun fr s => ACode.run (loopN M) (callF T M) b lp4_0 fr s) (fr4 bad a x31 n x39 v) s Q := by
  intro d
  induction d with
  | zero =>
    intro n L x39 v s hn hL ht hv
    obtain ⟨L, rfl⟩ : ∃ L', L = L' + 1 := ⟨L - 1, by omega⟩
    obtain rfl : n = N := by omega
    apply l_round
    ((repeat refine c_seq ?_); refine c_region ?_; (repeat (first | ((first | apply o_move rfl rfl | apply o_easy1 rfl rfl rfl | apply o_ld rfl rfl (by assumption) (by first | rfl | assumption)); conv => lhs; whnf) | apply o_no rfl | refine o_b rfl rfl rfl (by constructor; omega) ?_ | refine o_f rfl rfl rfl (by constructor; omega) ?_ | refine o_s rfl rfl rfl (by constructor; first | omega | assumption) ?_ | refine o_t rfl rfl rfl (by constructor; assumption) ?_ | (apply o_easy rfl rfl rfl; conv => lhs; whnf) | apply o_non rfl)))
    refine o_rem rfl rfl rfl (by omega) (z := a.tmod 50) rfl ?_
    (repeat (first | ((first | apply o_move rfl rfl | apply o_easy1 rfl rfl rfl | apply o_ld rfl rfl (by assumption) (by first | rfl | assumption)); conv => lhs; whnf) | apply o_no rfl | refine o_b rfl rfl rfl (by constructor; omega) ?_ | refine o_f rfl rfl rfl (by constructor; omega) ?_ | refine o_s rfl rfl rfl (by constructor; first | omega | assumption) ?_ | refine o_t rfl rfl rfl (by constructor; assumption) ?_ | (apply o_easy rfl rfl rfl; conv => lhs; whnf) | apply o_non rfl))
    (apply o_end; (repeat (first | exact OutS.nil | exact GetS.hit | exact PutS.hit | apply GetS.miss rfl | apply PutS.miss rfl | apply OutS.cons | apply OutS.skip rfl)))
    ((repeat refine c_seq ?_); refine c_else rfl ?_)
    exact c_exit (hq _ _ hv ht)
  | succ d ih =>
    intro n L x39 v s hn hL ht hv
    obtain ⟨L, rfl⟩ : ∃ L', L = L' + 1 := ⟨L - 1, by omega⟩
    apply l_round
    ((repeat refine c_seq ?_); refine c_region ?_; (repeat (first | ((first | apply o_move rfl rfl | apply o_easy1 rfl rfl rfl | apply o_ld rfl rfl (by assumption) (by first | rfl | assumption)); conv => lhs; whnf) | apply o_no rfl | refine o_b rfl rfl rfl (by constructor; omega) ?_ | refine o_f rfl rfl rfl (by constructor; omega) ?_ | refine o_s rfl rfl rfl (by constructor; first | omega | assumption) ?_ | refine o_t rfl rfl rfl (by constructor; assumption) ?_ | (apply o_easy rfl rfl rfl; conv => lhs; whnf) | apply o_non rfl)))
    refine o_rem rfl rfl rfl (by omega) (z := a.tmod 50) rfl ?_
    (repeat (first | ((first | apply o_move rfl rfl | apply o_easy1 rfl rfl rfl | apply o_ld rfl rfl (by assumption) (by first | rfl | assumption)); conv => lhs; whnf) | apply o_no rfl | refine o_b rfl rfl rfl (by constructor; omega) ?_ | refine o_f rfl rfl rfl (by constructor; omega) ?_ | refine o_s rfl rfl rfl (by constructor; first | omega | assumption) ?_ | refine o_t rfl rfl rfl (by constructor; assumption) ?_ | (apply o_easy rfl rfl rfl; conv => lhs; whnf) | apply o_non rfl))
    (apply o_end; (repeat (first | exact OutS.nil | exact GetS.hit | exact PutS.hit | apply GetS.miss rfl | apply PutS.miss rfl | apply OutS.cons | apply OutS.skip rfl)))
    ((repeat refine c_seq ?_); refine c_if rfl ?_)
    refine c_skip ?_
    ((repeat refine c_seq ?_); refine c_block ?_)
    ((repeat refine c_seq ?_); refine c_region ?_; (repeat (first | ((first | apply o_move rfl rfl | apply o_easy1 rfl rfl rfl | apply o_ld rfl rfl (by assumption) (by first | rfl | assumption)); conv => lhs; whnf) | apply o_no rfl | refine o_b rfl rfl rfl (by constructor; omega) ?_ | refine o_f rfl rfl rfl (by constructor; omega) ?_ | refine o_s rfl rfl rfl (by constructor; first | omega | assumption) ?_ | refine o_t rfl rfl rfl (by constructor; assumption) ?_ | (apply o_easy rfl rfl rfl; conv => lhs; whnf) | apply o_non rfl)))
    refine o_move rfl hv.defd rfl ?_
    (repeat (first | ((first | apply o_move rfl rfl | apply o_easy1 rfl rfl rfl | apply o_ld rfl rfl (by assumption) (by first | rfl | assumption)); conv => lhs; whnf) | apply o_no rfl | refine o_b rfl rfl rfl (by constructor; omega) ?_ | refine o_f rfl rfl rfl (by constructor; omega) ?_ | refine o_s rfl rfl rfl (by constructor; first | omega | assumption) ?_ | refine o_t rfl rfl rfl (by constructor; assumption) ?_ | (apply o_easy rfl rfl rfl; conv => lhs; whnf) | apply o_non rfl))
    refine o_appB (p := [40]) rfl hv.defd hv hbt ht rfl rfl (by simp; omega) fun v1 s1 hv1 hh1 ht1 => ?_
    refine o_move rfl hv1.defd rfl ?_
    (apply o_end; (repeat (first | exact OutS.nil | exact GetS.hit | exact PutS.hit | apply GetS.miss rfl | apply PutS.miss rfl | apply OutS.cons | apply OutS.skip rfl)))
    ((repeat refine c_seq ?_); refine c_region ?_; (repeat (first | ((first | apply o_move rfl rfl | apply o_easy1 rfl rfl rfl | apply o_ld rfl rfl (by assumption) (by first | rfl | assumption)); conv => lhs; whnf) | apply o_no rfl | refine o_b rfl rfl rfl (by constructor; omega) ?_ | refine o_f rfl rfl rfl (by constructor; omega) ?_ | refine o_s rfl rfl rfl (by constructor; first | omega | assumption) ?_ | refine o_t rfl rfl rfl (by constructor; assumption) ?_ | (apply o_easy rfl rfl rfl; conv => lhs; whnf) | apply o_non rfl)); apply o_end; (repeat (first | exact OutS.nil | exact GetS.hit | exact PutS.hit | apply GetS.miss rfl | apply PutS.miss rfl | apply OutS.cons | apply OutS.skip rfl)))
    have hrep : List.replicate n (40 : UInt8) ++ [40] = List.replicate (n + 1) 40 := by rw [← List.replicate_succ']
    rw [hrep] at hv1
    exact ih (n + 1) L _ _ _ (by omega) (by omega) (by omega) hv1

end Go.Tok

namespace Go.Tok
open Go Go.Am Go.Proofs

def paren (_ : UInt8) : Tk := ⟨10, 0, 0, 0, 1, 0, 0⟩

theorem rep_get {n i : Nat} {c : UInt8} (h : (List.replicate n (40 : UInt8))[i]? = some c) : c = 40 := by
  rw [List.getElem?_replicate] at h
  split at h <;> simp_all

/-- Lex, of groups that are numbered -/
theorem lex_parens (m : Nat) (hm : 1010 ≤ m) (b : Bar) (s : Sg) (p : List UInt8) (hp : ∃ n, p = List.replicate n 40 ∧ n ≤ 1000) (a0 : AV) (h0 : a0.weak = .vec (Am.byteCells p) .shut) :
    callF T (m + 6) b 8 [a0, .int .i64 0] s = some (.ret (.tup [.vec (tavs (ltk paren 0 p)) .shut, .int .i64 0, .int .i64 0]), s) := by
  obtain ⟨n, rfl, hn⟩ := hp
  refine lex_gen (List.replicate n 40) (by rw [List.length_replicate]; omega) paren (m + 5) ?_ (by rw [List.length_replicate]; omega) b s a0 h0
  intro b s0 r hb hes i l c s hc hl h
  have hc40 := rep_get hc
  subst hc40
  refine one_paren m b s0 _ 255 i i r l s hb hes (by rw [List.length_replicate]; omega) hl hc ?_ ?_ h
  · intro e; have := rep_get e; exact absurd this (by decide)
  · intro e; have := rep_get e; exact absurd this (by decide)


set_option maxHeartbeats 4000000 in
theorem bounds_true (more : Int) (hm : -(2 ^ 63) ≤ more ∧ more < 2 ^ 63) (bad : List UInt8) (hb : bad.length ≤ 2 ^ 63 - 1) : ∃ n, callF T n bar0 4 [.int .i64 more, .vec (Am.byteCells bad) .shut] sg0 = some (.ret (.bool true), sg0) := by
  have hbl := Am.byteCells_length bad
  refine ⟨3000 + 20 + 1, ?_⟩
  (apply f_of rfl rfl; (repeat (first | exact Shape.nil | (apply Shape.cons; conv => lhs; whnf))))
  ((repeat refine c_seq ?_); refine c_region ?_; (repeat (first | ((first | apply o_move rfl rfl | apply o_easy1 rfl rfl rfl | apply o_ld rfl rfl (by assumption) (by first | rfl | assumption)); conv => lhs; whnf) | apply o_no rfl | refine o_b rfl rfl rfl (by constructor; omega) ?_ | refine o_f rfl rfl rfl (by constructor; omega) ?_ | refine o_s rfl rfl rfl (by constructor; first | omega | assumption) ?_ | refine o_t rfl rfl rfl (by constructor; assumption) ?_ | (apply o_easy rfl rfl rfl; conv => lhs; whnf) | apply o_non rfl)); apply o_end; (repeat (first | exact OutS.nil | exact GetS.hit | exact PutS.hit | apply GetS.miss rfl | apply PutS.miss rfl | apply OutS.cons | apply OutS.skip rfl)))
  ((repeat refine c_seq ?_); refine c_region ?_; (repeat (first | ((first | apply o_move rfl rfl | apply o_easy1 rfl rfl rfl | apply o_ld rfl rfl (by assumption) (by first | rfl | assumption)); conv => lhs; whnf) | apply o_no rfl | refine o_b rfl rfl rfl (by constructor; omega) ?_ | refine o_f rfl rfl rfl (by constructor; omega) ?_ | refine o_s rfl rfl rfl (by constructor; first | omega | assumption) ?_ | refine o_t rfl rfl rfl (by constructor; assumption) ?_ | (apply o_easy rfl rfl rfl; conv => lhs; whnf) | apply o_non rfl)))
  refine o_call rfl rfl (awake' _ (by omega)) ?_
  (repeat (first | ((first | apply o_move rfl rfl | apply o_easy1 rfl rfl rfl | apply o_ld rfl rfl (by assumption) (by first | rfl | assumption)); conv => lhs; whnf) | apply o_no rfl | refine o_b rfl rfl rfl (by constructor; omega) ?_ | refine o_f rfl rfl rfl (by constructor; omega) ?_ | refine o_s rfl rfl rfl (by constructor; first | omega | assumption) ?_ | refine o_t rfl rfl rfl (by constructor; assumption) ?_ | (apply o_easy rfl rfl rfl; conv => lhs; whnf) | apply o_non rfl))
  (apply o_end; (repeat (first | exact OutS.nil | exact GetS.hit | exact PutS.hit | apply GetS.miss rfl | apply PutS.miss rfl | apply OutS.cons | apply OutS.skip rfl)))
  ((repeat refine c_seq ?_); refine c_region ?_; (repeat (first | ((first | apply o_move rfl rfl | apply o_easy1 rfl rfl rfl | apply o_ld rfl rfl (by assumption) (by first | rfl | assumption)); conv => lhs; whnf) | apply o_no rfl | refine o_b rfl rfl rfl (by constructor; omega) ?_ | refine o_f rfl rfl rfl (by constructor; omega) ?_ | refine o_s rfl rfl rfl (by constructor; first | omega | assumption) ?_ | refine o_t rfl rfl rfl (by constructor; assumption) ?_ | (apply o_easy rfl rfl rfl; conv => lhs; whnf) | apply o_non rfl)); apply o_end; (repeat (first | exact OutS.nil | exact GetS.hit | exact PutS.hit | apply GetS.miss rfl | apply PutS.miss rfl | apply OutS.cons | apply OutS.skip rfl)))
  ((repeat refine c_seq ?_); refine c_else rfl ?_)
  refine c_skip ?_
  by_cases hbad : bad.length > 500
  · ((repeat refine c_seq ?_); refine c_region ?_; (repeat (first | ((first | apply o_move rfl rfl | apply o_easy1 rfl rfl rfl | apply o_ld rfl rfl (by assumption) (by first | rfl | assumption)); conv => lhs; whnf) | apply o_no rfl | refine o_b rfl rfl rfl (by constructor; omega) ?_ | refine o_f rfl rfl rfl (by constructor; omega) ?_ | refine o_s rfl rfl rfl (by constructor; first | omega | assumption) ?_ | refine o_t rfl rfl rfl (by constructor; assumption) ?_ | (apply o_easy rfl rfl rfl; conv => lhs; whnf) | apply o_non rfl)); apply o_end; (repeat (first | exact OutS.nil | exact GetS.hit | exact PutS.hit | apply GetS.miss rfl | apply PutS.miss rfl | apply OutS.cons | apply OutS.skip rfl)))
    ((repeat refine c_seq ?_); refine c_if rfl ?_)
    ((repeat refine c_seq ?_); refine c_region ?_; (repeat (first | ((first | apply o_move rfl rfl | apply o_easy1 rfl rfl rfl | apply o_ld rfl rfl (by assumption) (by first | rfl | assumption)); conv => lhs; whnf) | apply o_no rfl | refine o_b rfl rfl rfl (by constructor; omega) ?_ | refine o_f rfl rfl rfl (by constructor; omega) ?_ | refine o_s rfl rfl rfl (by constructor; first | omega | assumption) ?_ | refine o_t rfl rfl rfl (by constructor; assumption) ?_ | (apply o_easy rfl rfl rfl; conv => lhs; whnf) | apply o_non rfl)); apply o_end; (repeat (first | exact OutS.nil | exact GetS.hit | exact PutS.hit | apply GetS.miss rfl | apply PutS.miss rfl | apply OutS.cons | apply OutS.skip rfl)))
    exact c_ret rfl
  · ((repeat refine c_seq ?_); refine c_region ?_; (repeat (first | ((first | apply o_move rfl rfl | apply o_easy1 rfl rfl rfl | apply o_ld rfl rfl (by assumption) (by first | rfl | assumption)); conv => lhs; whnf) | apply o_no rfl | refine o_b rfl rfl rfl (by constructor; omega) ?_ | refine o_f rfl rfl rfl (by constructor; omega) ?_ | refine o_s rfl rfl rfl (by constructor; first | omega | assumption) ?_ | refine o_t rfl rfl rfl (by constructor; assumption) ?_ | (apply o_easy rfl rfl rfl; conv => lhs; whnf) | apply o_non rfl)); apply o_end; (repeat (first | exact OutS.nil | exact GetS.hit | exact PutS.hit | apply GetS.miss rfl | apply PutS.miss rfl | apply OutS.cons | apply OutS.skip rfl)))
    ((repeat refine c_seq ?_); refine c_else rfl ?_)
    refine c_skip ?_
    by_cases hneg : more < 0
    · ((repeat refine c_seq ?_); refine c_region ?_; (repeat (first | ((first | apply o_move rfl rfl | apply o_easy1 rfl rfl rfl | apply o_ld rfl rfl (by assumption) (by first | rfl | assumption)); conv => lhs; whnf) | apply o_no rfl | refine o_b rfl rfl rfl (by constructor; omega) ?_ | refine o_f rfl rfl rfl (by constructor; omega) ?_ | refine o_s rfl rfl rfl (by constructor; first | omega | assumption) ?_ | refine o_t rfl rfl rfl (by constructor; assumption) ?_ | (apply o_easy rfl rfl rfl; conv => lhs; whnf) | apply o_non rfl)); apply o_end; (repeat (first | exact OutS.nil | exact GetS.hit | exact PutS.hit | apply GetS.miss rfl | apply PutS.miss rfl | apply OutS.cons | apply OutS.skip rfl)))
      ((repeat refine c_seq ?_); refine c_if rfl ?_)
      ((repeat refine c_seq ?_); refine c_region ?_; (repeat (first | ((first | apply o_move rfl rfl | apply o_easy1 rfl rfl rfl | apply o_ld rfl rfl (by assumption) (by first | rfl | assumption)); conv => lhs; whnf) | apply o_no rfl | refine o_b rfl rfl rfl (by constructor; omega) ?_ | refine o_f rfl rfl rfl (by constructor; omega) ?_ | refine o_s rfl rfl rfl (by constructor; first | omega | assumption) ?_ | refine o_t rfl rfl rfl (by constructor; assumption) ?_ | (apply o_easy rfl rfl rfl; conv => lhs; whnf) | apply o_non rfl)))
      (apply o_end; (repeat (first | exact OutS.nil | exact GetS.hit | exact PutS.hit | apply GetS.miss rfl | apply PutS.miss rfl | apply OutS.cons | apply OutS.skip rfl)))
      have hw : IntKind.i64.wrap (0 - (more + 1)) = 0 - (more + 1) := wrap_i64 (by omega) (by omega)
      rw [hw]
      obtain ⟨a, ha⟩ : ∃ a : Int, 0 - (more + 1) = a := ⟨_, rfl⟩
      have ha0 : 0 ≤ a := by omega
      rw [ha]
      have hk0 : 0 ≤ a.tmod 50 := Int.tmod_nonneg 50 ha0
      have hk1 : a.tmod 50 < 50 := Int.tmod_lt_of_pos a (by decide)
      obtain ⟨N, hN⟩ : ∃ N : Nat, (1001 + a.tmod 50 : Int) = N := ⟨(1001 + a.tmod 50).toNat, by omega⟩
      ((repeat refine c_seq ?_); refine c_region ?_; (repeat (first | ((first | apply o_move rfl rfl | apply o_easy1 rfl rfl rfl | apply o_ld rfl rfl (by assumption) (by first | rfl | assumption)); conv => lhs; whnf) | apply o_no rfl | refine o_b rfl rfl rfl (by constructor; omega) ?_ | refine o_f rfl rfl rfl (by constructor; omega) ?_ | refine o_s rfl rfl rfl (by constructor; first | omega | assumption) ?_ | refine o_t rfl rfl rfl (by constructor; assumption) ?_ | (apply o_easy rfl rfl rfl; conv => lhs; whnf) | apply o_non rfl)); apply o_end; (repeat (first | exact OutS.nil | exact GetS.hit | exact PutS.hit | apply GetS.miss rfl | apply PutS.miss rfl | apply OutS.cons | apply OutS.skip rfl)))
      ((repeat refine c_seq ?_); refine c_region ?_; (repeat (first | ((first | apply o_move rfl rfl | apply o_easy1 rfl rfl rfl | apply o_ld rfl rfl (by assumption) (by first | rfl | assumption)); conv => lhs; whnf) | apply o_no rfl | refine o_b rfl rfl rfl (by constructor; omega) ?_ | refine o_f rfl rfl rfl (by constructor; omega) ?_ | refine o_s rfl rfl rfl (by constructor; first | omega | assumption) ?_ | refine o_t rfl rfl rfl (by constructor; assumption) ?_ | (apply o_easy rfl rfl rfl; conv => lhs; whnf) | apply o_non rfl)); apply o_end; (repeat (first | exact OutS.nil | exact GetS.hit | exact PutS.hit | apply GetS.miss rfl | apply PutS.miss rfl | apply OutS.cons | apply OutS.skip rfl)))
      ((repeat refine c_seq ?_); refine c_block ?_)
      refine c_loop (x := lp4_0) ?_
      refine long_loop _ _ bad a _ N 0 ha0 hN (by omega) (by show (0 : Nat) ≤ 0; omega) ?_ N 0 _ _ _ sg0 (by omega) (by omega) (Nat.le_refl _) (.inl ⟨rfl, rfl⟩)
      intro v s1 hv ht1
      show OkC _ _ _ _ _ _ _
      have hNl : (List.replicate N (40 : UInt8)).length = N := List.length_replicate
      have hpp : ∃ n, (List.replicate N (40 : UInt8)).take 1000 = List.replicate n 40 ∧ n ≤ 1000 := ⟨1000, by rw [List.take_replicate, Nat.min_eq_left (by omega)], Nat.le_refl _⟩
      generalize List.replicate N (40 : UInt8) = g at hv hNl hpp
      rcases hv with ⟨he, _⟩ | ⟨ti, tn, rfl, htk, _⟩
      · rw [he] at hNl; simp at hNl; omega
      have hgl := Am.byteCells_length g
      ((repeat refine c_seq ?_); refine c_region ?_; (repeat (first | ((first | apply o_move rfl rfl | apply o_easy1 rfl rfl rfl | apply o_ld rfl rfl (by assumption) (by first | rfl | assumption)); conv => lhs; whnf) | apply o_no rfl | refine o_b rfl rfl rfl (by constructor; omega) ?_ | refine o_f rfl rfl rfl (by constructor; omega) ?_ | refine o_s rfl rfl rfl (by constructor; first | omega | assumption) ?_ | refine o_t rfl rfl rfl (by constructor; assumption) ?_ | (apply o_easy rfl rfl rfl; conv => lhs; whnf) | apply o_non rfl)))
      refine o_call rfl rfl (lex_long g (by omega) _ _ s1 _ rfl) ?_
      (repeat (first | ((first | apply o_move rfl rfl | apply o_easy1 rfl rfl rfl | apply o_ld rfl rfl (by assumption) (by first | rfl | assumption)); conv => lhs; whnf) | apply o_no rfl | refine o_b rfl rfl rfl (by constructor; omega) ?_ | refine o_f rfl rfl rfl (by constructor; omega) ?_ | refine o_s rfl rfl rfl (by constructor; first | omega | assumption) ?_ | refine o_t rfl rfl rfl (by constructor; assumption) ?_ | (apply o_easy rfl rfl rfl; conv => lhs; whnf) | apply o_non rfl))
      (apply o_end; (repeat (first | exact OutS.nil | exact GetS.hit | exact PutS.hit | apply GetS.miss rfl | apply PutS.miss rfl | apply OutS.cons | apply OutS.skip rfl)))
      ((repeat refine c_seq ?_); refine c_region ?_; (repeat (first | ((first | apply o_move rfl rfl | apply o_easy1 rfl rfl rfl | apply o_ld rfl rfl (by assumption) (by first | rfl | assumption)); conv => lhs; whnf) | apply o_no rfl | refine o_b rfl rfl rfl (by constructor; omega) ?_ | refine o_f rfl rfl rfl (by constructor; omega) ?_ | refine o_s rfl rfl rfl (by constructor; first | omega | assumption) ?_ | refine o_t rfl rfl rfl (by constructor; assumption) ?_ | (apply o_easy rfl rfl rfl; conv => lhs; whnf) | apply o_non rfl)))
      refine o_call rfl rfl (lex_opts bad 65536 (.inr (by omega)) _ _ s1 _ rfl) ?_
      (repeat (first | ((first | apply o_move rfl rfl | apply o_easy1 rfl rfl rfl | apply o_ld rfl rfl (by assumption) (by first | rfl | assumption)); conv => lhs; whnf) | apply o_no rfl | refine o_b rfl rfl rfl (by constructor; omega) ?_ | refine o_f rfl rfl rfl (by constructor; omega) ?_ | refine o_s rfl rfl rfl (by constructor; first | omega | assumption) ?_ | refine o_t rfl rfl rfl (by constructor; assumption) ?_ | (apply o_easy rfl rfl rfl; conv => lhs; whnf) | apply o_non rfl))
      (apply o_end; (repeat (first | exact OutS.nil | exact GetS.hit | exact PutS.hit | apply GetS.miss rfl | apply PutS.miss rfl | apply OutS.cons | apply OutS.skip rfl)))
      ((repeat refine c_seq ?_); refine c_region ?_; (repeat (first | ((first | apply o_move rfl rfl | apply o_easy1 rfl rfl rfl | apply o_ld rfl rfl (by assumption) (by first | rfl | assumption)); conv => lhs; whnf) | apply o_no rfl | refine o_b rfl rfl rfl (by constructor; omega) ?_ | refine o_f rfl rfl rfl (by constructor; omega) ?_ | refine o_s rfl rfl rfl (by constructor; first | omega | assumption) ?_ | refine o_t rfl rfl rfl (by constructor; assumption) ?_ | (apply o_easy rfl rfl rfl; conv => lhs; whnf) | apply o_non rfl)))
      refine o_call rfl rfl (lex_opts bad (-1) (.inl (by omega)) _ _ s1 _ rfl) ?_
      (repeat (first | ((first | apply o_move rfl rfl | apply o_easy1 rfl rfl rfl | apply o_ld rfl rfl (by assumption) (by first | rfl | assumption)); conv => lhs; whnf) | apply o_no rfl | refine o_b rfl rfl rfl (by constructor; omega) ?_ | refine o_f rfl rfl rfl (by constructor; omega) ?_ | refine o_s rfl rfl rfl (by constructor; first | omega | assumption) ?_ | refine o_t rfl rfl rfl (by constructor; assumption) ?_ | (apply o_easy rfl rfl rfl; conv => lhs; whnf) | apply o_non rfl))
      (apply o_end; (repeat (first | exact OutS.nil | exact GetS.hit | exact PutS.hit | apply GetS.miss rfl | apply PutS.miss rfl | apply OutS.cons | apply OutS.skip rfl)))
      ((repeat refine c_seq ?_); refine c_region ?_; (repeat (first | ((first | apply o_move rfl rfl | apply o_easy1 rfl rfl rfl | apply o_ld rfl rfl (by assumption) (by first | rfl | assumption)); conv => lhs; whnf) | apply o_no rfl | refine o_b rfl rfl rfl (by constructor; omega) ?_ | refine o_f rfl rfl rfl (by constructor; omega) ?_ | refine o_s rfl rfl rfl (by constructor; first | omega | assumption) ?_ | refine o_t rfl rfl rfl (by constructor; assumption) ?_ | (apply o_easy rfl rfl rfl; conv => lhs; whnf) | apply o_non rfl)); apply o_end; (repeat (first | exact OutS.nil | exact GetS.hit | exact PutS.hit | apply GetS.miss rfl | apply PutS.miss rfl | apply OutS.cons | apply OutS.skip rfl)))
      ((repeat refine c_seq ?_); refine c_region ?_; (repeat (first | ((first | apply o_move rfl rfl | apply o_easy1 rfl rfl rfl | apply o_ld rfl rfl (by assumption) (by first | rfl | assumption)); conv => lhs; whnf) | apply o_no rfl | refine o_b rfl rfl rfl (by constructor; omega) ?_ | refine o_f rfl rfl rfl (by constructor; omega) ?_ | refine o_s rfl rfl rfl (by constructor; first | omega | assumption) ?_ | refine o_t rfl rfl rfl (by constructor; assumption) ?_ | (apply o_easy rfl rfl rfl; conv => lhs; whnf) | apply o_non rfl)))
      refine o_appB (t0 := 0) (l := []) (p := [97, 255]) rfl rfl (.inl ⟨rfl, rfl⟩) (by show (0 : Nat) ≤ 0; omega) (by omega) rfl rfl (by simp) fun v2 s2 hv2 hh2 ht2 => ?_
      rcases hv2 with ⟨he, _⟩ | ⟨ui, un, rfl, utk, _⟩
      · simp at he
      (repeat (first | ((first | apply o_move rfl rfl | apply o_easy1 rfl rfl rfl | apply o_ld rfl rfl (by assumption) (by first | rfl | assumption)); conv => lhs; whnf) | apply o_no rfl | refine o_b rfl rfl rfl (by constructor; omega) ?_ | refine o_f rfl rfl rfl (by constructor; omega) ?_ | refine o_s rfl rfl rfl (by constructor; first | omega | assumption) ?_ | refine o_t rfl rfl rfl (by constructor; assumption) ?_ | (apply o_easy rfl rfl rfl; conv => lhs; whnf) | apply o_non rfl))
      (apply o_end; (repeat (first | exact OutS.nil | exact GetS.hit | exact PutS.hit | apply GetS.miss rfl | apply PutS.miss rfl | apply OutS.cons | apply OutS.skip rfl)))
      ((repeat refine c_seq ?_); refine c_region ?_; (repeat (first | ((first | apply o_move rfl rfl | apply o_easy1 rfl rfl rfl | apply o_ld rfl rfl (by assumption) (by first | rfl | assumption)); conv => lhs; whnf) | apply o_no rfl | refine o_b rfl rfl rfl (by constructor; omega) ?_ | refine o_f rfl rfl rfl (by constructor; omega) ?_ | refine o_s rfl rfl rfl (by constructor; first | omega | assumption) ?_ | refine o_t rfl rfl rfl (by constructor; assumption) ?_ | (apply o_easy rfl rfl rfl; conv => lhs; whnf) | apply o_non rfl)))
      refine o_appB (t0 := 0) (l := [97, 255]) (p := bad) rfl rfl (.inr ⟨ui, un, rfl, utk, by omega⟩) (by show (0 : Nat) ≤ 0; omega) (by omega) rfl rfl (by simp; omega) fun v3 s3 hv3 hh3 ht3 => ?_
      rcases hv3 with ⟨he, _⟩ | ⟨wi, wn, rfl, wtk, _⟩
      · simp at he
      have hul : (Am.byteCells ([97, 255] ++ bad)).length = bad.length + 2 := by rw [Am.byteCells_length]; simp
      (repeat (first | ((first | apply o_move rfl rfl | apply o_easy1 rfl rfl rfl | apply o_ld rfl rfl (by assumption) (by first | rfl | assumption)); conv => lhs; whnf) | apply o_no rfl | refine o_b rfl rfl rfl (by constructor; omega) ?_ | refine o_f rfl rfl rfl (by constructor; omega) ?_ | refine o_s rfl rfl rfl (by constructor; first | omega | assumption) ?_ | refine o_t rfl rfl rfl (by constructor; assumption) ?_ | (apply o_easy rfl rfl rfl; conv => lhs; whnf) | apply o_non rfl))
      (apply o_end; (repeat (first | exact OutS.nil | exact GetS.hit | exact PutS.hit | apply GetS.miss rfl | apply PutS.miss rfl | apply OutS.cons | apply OutS.skip rfl)))
      ((repeat refine c_seq ?_); refine c_region ?_; (repeat (first | ((first | apply o_move rfl rfl | apply o_easy1 rfl rfl rfl | apply o_ld rfl rfl (by assumption) (by first | rfl | assumption)); conv => lhs; whnf) | apply o_no rfl | refine o_b rfl rfl rfl (by constructor; omega) ?_ | refine o_f rfl rfl rfl (by constructor; omega) ?_ | refine o_s rfl rfl rfl (by constructor; first | omega | assumption) ?_ | refine o_t rfl rfl rfl (by constructor; assumption) ?_ | (apply o_easy rfl rfl rfl; conv => lhs; whnf) | apply o_non rfl)); apply o_end; (repeat (first | exact OutS.nil | exact GetS.hit | exact PutS.hit | apply GetS.miss rfl | apply PutS.miss rfl | apply OutS.cons | apply OutS.skip rfl)))
      ((repeat refine c_seq ?_); refine c_else rfl ?_)
      refine c_skip ?_
      ((repeat refine c_seq ?_); refine c_region ?_; (repeat (first | ((first | apply o_move rfl rfl | apply o_easy1 rfl rfl rfl | apply o_ld rfl rfl (by assumption) (by first | rfl | assumption)); conv => lhs; whnf) | apply o_no rfl | refine o_b rfl rfl rfl (by constructor; omega) ?_ | refine o_f rfl rfl rfl (by constructor; omega) ?_ | refine o_s rfl rfl rfl (by constructor; first | omega | assumption) ?_ | refine o_t rfl rfl rfl (by constructor; assumption) ?_ | (apply o_easy rfl rfl rfl; conv => lhs; whnf) | apply o_non rfl)))
      refine o_call rfl rfl (lex_utf bad (by omega) _ _ s3 _ rfl) ?_
      (repeat (first | ((first | apply o_move rfl rfl | apply o_easy1 rfl rfl rfl | apply o_ld rfl rfl (by assumption) (by first | rfl | assumption)); conv => lhs; whnf) | apply o_no rfl | refine o_b rfl rfl rfl (by constructor; omega) ?_ | refine o_f rfl rfl rfl (by constructor; omega) ?_ | refine o_s rfl rfl rfl (by constructor; first | omega | assumption) ?_ | refine o_t rfl rfl rfl (by constructor; assumption) ?_ | (apply o_easy rfl rfl rfl; conv => lhs; whnf) | apply o_non rfl))
      (apply o_end; (repeat (first | exact OutS.nil | exact GetS.hit | exact PutS.hit | apply GetS.miss rfl | apply PutS.miss rfl | apply OutS.cons | apply OutS.skip rfl)))
      ((repeat refine c_seq ?_); refine c_region ?_; (repeat (first | ((first | apply o_move rfl rfl | apply o_easy1 rfl rfl rfl | apply o_ld rfl rfl (by assumption) (by first | rfl | assumption)); conv => lhs; whnf) | apply o_no rfl | refine o_b rfl rfl rfl (by constructor; omega) ?_ | refine o_f rfl rfl rfl (by constructor; omega) ?_ | refine o_s rfl rfl rfl (by constructor; first | omega | assumption) ?_ | refine o_t rfl rfl rfl (by constructor; assumption) ?_ | (apply o_easy rfl rfl rfl; conv => lhs; whnf) | apply o_non rfl)))
      refine o_slvecTo (j := 1000) (q := Am.byteCells (g.take 1000)) rfl rfl rfl rfl (by omega) (bc_take g 1000) fun tl' => ?_
      refine o_call rfl rfl (lex_parens _ (by omega) _ s3 (g.take 1000) hpp _ rfl) ?_
      (repeat (first | ((first | apply o_move rfl rfl | apply o_easy1 rfl rfl rfl | apply o_ld rfl rfl (by assumption) (by first | rfl | assumption)); conv => lhs; whnf) | apply o_no rfl | refine o_b rfl rfl rfl (by constructor; omega) ?_ | refine o_f rfl rfl rfl (by constructor; omega) ?_ | refine o_s rfl rfl rfl (by constructor; first | omega | assumption) ?_ | refine o_t rfl rfl rfl (by constructor; assumption) ?_ | (apply o_easy rfl rfl rfl; conv => lhs; whnf) | apply o_non rfl))
      (apply o_end; (repeat (first | exact OutS.nil | exact GetS.hit | exact PutS.hit | apply GetS.miss rfl | apply PutS.miss rfl | apply OutS.cons | apply OutS.skip rfl)))
      ((repeat refine c_seq ?_); refine c_region ?_; (repeat (first | ((first | apply o_move rfl rfl | apply o_easy1 rfl rfl rfl | apply o_ld rfl rfl (by assumption) (by first | rfl | assumption)); conv => lhs; whnf) | apply o_no rfl | refine o_b rfl rfl rfl (by constructor; omega) ?_ | refine o_f rfl rfl rfl (by constructor; omega) ?_ | refine o_s rfl rfl rfl (by constructor; first | omega | assumption) ?_ | refine o_t rfl rfl rfl (by constructor; assumption) ?_ | (apply o_easy rfl rfl rfl; conv => lhs; whnf) | apply o_non rfl)); apply o_end; (repeat (first | exact OutS.nil | exact GetS.hit | exact PutS.hit | apply GetS.miss rfl | apply PutS.miss rfl | apply OutS.cons | apply OutS.skip rfl)))
      exact c_ret rfl
    · ((repeat refine c_seq ?_); refine c_region ?_; (repeat (first | ((first | apply o_move rfl rfl | apply o_easy1 rfl rfl rfl | apply o_ld rfl rfl (by assumption) (by first | rfl | assumption)); conv => lhs; whnf) | apply o_no rfl | refine o_b rfl rfl rfl (by constructor; omega) ?_ | refine o_f rfl rfl rfl (by constructor; omega) ?_ | refine o_s rfl rfl rfl (by constructor; first | omega | assumption) ?_ | refine o_t rfl rfl rfl (by constructor; assumption) ?_ | (apply o_easy rfl rfl rfl; conv => lhs; whnf) | apply o_non rfl)); apply o_end; (repeat (first | exact OutS.nil | exact GetS.hit | exact PutS.hit | apply GetS.miss rfl | apply PutS.miss rfl | apply OutS.cons | apply OutS.skip rfl)))
      ((repeat refine c_seq ?_); refine c_else rfl ?_)
      refine c_skip ?_
      obtain ⟨a, rfl⟩ : ∃ a : Int, a = more := ⟨_, rfl⟩
      have ha0 : 0 ≤ a := by omega
      have hk0 : 0 ≤ a.tmod 50 := Int.tmod_nonneg 50 ha0
      have hk1 : a.tmod 50 < 50 := Int.tmod_lt_of_pos a (by decide)
      obtain ⟨N, hN⟩ : ∃ N : Nat, (1001 + a.tmod 50 : Int) = N := ⟨(1001 + a.tmod 50).toNat, by omega⟩
      ((repeat refine c_seq ?_); refine c_region ?_; (repeat (first | ((first | apply o_move rfl rfl | apply o_easy1 rfl rfl rfl | apply o_ld rfl rfl (by assumption) (by first | rfl | assumption)); conv => lhs; whnf) | apply o_no rfl | refine o_b rfl rfl rfl (by constructor; omega) ?_ | refine o_f rfl rfl rfl (by constructor; omega) ?_ | refine o_s rfl rfl rfl (by constructor; first | omega | assumption) ?_ | refine o_t rfl rfl rfl (by constructor; assumption) ?_ | (apply o_easy rfl rfl rfl; conv => lhs; whnf) | apply o_non rfl)); apply o_end; (repeat (first | exact OutS.nil | exact GetS.hit | exact PutS.hit | apply GetS.miss rfl | apply PutS.miss rfl | apply OutS.cons | apply OutS.skip rfl)))
      ((repeat refine c_seq ?_); refine c_region ?_; (repeat (first | ((first | apply o_move rfl rfl | apply o_easy1 rfl rfl rfl | apply o_ld rfl rfl (by assumption) (by first | rfl | assumption)); conv => lhs; whnf) | apply o_no rfl | refine o_b rfl rfl rfl (by constructor; omega) ?_ | refine o_f rfl rfl rfl (by constructor; omega) ?_ | refine o_s rfl rfl rfl (by constructor; first | omega | assumption) ?_ | refine o_t rfl rfl rfl (by constructor; assumption) ?_ | (apply o_easy rfl rfl rfl; conv => lhs; whnf) | apply o_non rfl)); apply o_end; (repeat (first | exact OutS.nil | exact GetS.hit | exact PutS.hit | apply GetS.miss rfl | apply PutS.miss rfl | apply OutS.cons | apply OutS.skip rfl)))
      ((repeat refine c_seq ?_); refine c_block ?_)
      refine c_loop (x := lp4_0) ?_
      refine long_loop _ _ bad a _ N 0 ha0 hN (by omega) (by show (0 : Nat) ≤ 0; omega) ?_ N 0 _ _ _ sg0 (by omega) (by omega) (Nat.le_refl _) (.inl ⟨rfl, rfl⟩)
      intro v s1 hv ht1
      show OkC _ _ _ _ _ _ _
      have hNl : (List.replicate N (40 : UInt8)).length = N := List.length_replicate
      have hpp : ∃ n, (List.replicate N (40 : UInt8)).take 1000 = List.replicate n 40 ∧ n ≤ 1000 := ⟨1000, by rw [List.take_replicate, Nat.min_eq_left (by omega)], Nat.le_refl _⟩
      generalize List.replicate N (40 : UInt8) = g at hv hNl hpp
      rcases hv with ⟨he, _⟩ | ⟨ti, tn, rfl, htk, _⟩
      · rw [he] at hNl; simp at hNl; omega
      have hgl := Am.byteCells_length g
      ((repeat refine c_seq ?_); refine c_region ?_; (repeat (first | ((first | apply o_move rfl rfl | apply o_easy1 rfl rfl rfl | apply o_ld rfl rfl (by assumption) (by first | rfl | assumption)); conv => lhs; whnf) | apply o_no rfl | refine o_b rfl rfl rfl (by constructor; omega) ?_ | refine o_f rfl rfl rfl (by constructor; omega) ?_ | refine o_s rfl rfl rfl (by constructor; first | omega | assumption) ?_ | refine o_t rfl rfl rfl (by constructor; assumption) ?_ | (apply o_easy rfl rfl rfl; conv => lhs; whnf) | apply o_non rfl)))
      refine o_call rfl rfl (lex_long g (by omega) _ _ s1 _ rfl) ?_
      (repeat (first | ((first | apply o_move rfl rfl | apply o_easy1 rfl rfl rfl | apply o_ld rfl rfl (by assumption) (by first | rfl | assumption)); conv => lhs; whnf) | apply o_no rfl | refine o_b rfl rfl rfl (by constructor; omega) ?_ | refine o_f rfl rfl rfl (by constructor; omega) ?_ | refine o_s rfl rfl rfl (by constructor; first | omega | assumption) ?_ | refine o_t rfl rfl rfl (by constructor; assumption) ?_ | (apply o_easy rfl rfl rfl; conv => lhs; whnf) | apply o_non rfl))
      (apply o_end; (repeat (first | exact OutS.nil | exact GetS.hit | exact PutS.hit | apply GetS.miss rfl | apply PutS.miss rfl | apply OutS.cons | apply OutS.skip rfl)))
      ((repeat refine c_seq ?_); refine c_region ?_; (repeat (first | ((first | apply o_move rfl rfl | apply o_easy1 rfl rfl rfl | apply o_ld rfl rfl (by assumption) (by first | rfl | assumption)); conv => lhs; whnf) | apply o_no rfl | refine o_b rfl rfl rfl (by constructor; omega) ?_ | refine o_f rfl rfl rfl (by constructor; omega) ?_ | refine o_s rfl rfl rfl (by constructor; first | omega | assumption) ?_ | refine o_t rfl rfl rfl (by constructor; assumption) ?_ | (apply o_easy rfl rfl rfl; conv => lhs; whnf) | apply o_non rfl)))
      refine o_call rfl rfl (lex_opts bad 65536 (.inr (by omega)) _ _ s1 _ rfl) ?_
      (repeat (first | ((first | apply o_move rfl rfl | apply o_easy1 rfl rfl rfl | apply o_ld rfl rfl (by assumption) (by first | rfl | assumption)); conv => lhs; whnf) | apply o_no rfl | refine o_b rfl rfl rfl (by constructor; omega) ?_ | refine o_f rfl rfl rfl (by constructor; omega) ?_ | refine o_s rfl rfl rfl (by constructor; first | omega | assumption) ?_ | refine o_t rfl rfl rfl (by constructor; assumption) ?_ | (apply o_easy rfl rfl rfl; conv => lhs; whnf) | apply o_non rfl))
      (apply o_end; (repeat (first | exact OutS.nil | exact GetS.hit | exact PutS.hit | apply GetS.miss rfl | apply PutS.miss rfl | apply OutS.cons | apply OutS.skip rfl)))
      ((repeat refine c_seq ?_); refine c_region ?_; (repeat (first | ((first | apply o_move rfl rfl | apply o_easy1 rfl rfl rfl | apply o_ld rfl rfl (by assumption) (by first | rfl | assumption)); conv => lhs; whnf) | apply o_no rfl | refine o_b rfl rfl rfl (by constructor; omega) ?_ | refine o_f rfl rfl rfl (by constructor; omega) ?_ | refine o_s rfl rfl rfl (by constructor; first | omega | assumption) ?_ | refine o_t rfl rfl rfl (by constructor; assumption) ?_ | (apply o_easy rfl rfl rfl; conv => lhs; whnf) | apply o_non rfl)))
      refine o_call rfl rfl (lex_opts bad (-1) (.inl (by omega)) _ _ s1 _ rfl) ?_
      (repeat (first | ((first | apply o_move rfl rfl | apply o_easy1 rfl rfl rfl | apply o_ld rfl rfl (by assumption) (by first | rfl | assumption)); conv => lhs; whnf) | apply o_no rfl | refine o_b rfl rfl rfl (by constructor; omega) ?_ | refine o_f rfl rfl rfl (by constructor; omega) ?_ | refine o_s rfl rfl rfl (by constructor; first | omega | assumption) ?_ | refine o_t rfl rfl rfl (by constructor; assumption) ?_ | (apply o_easy rfl rfl rfl; conv => lhs; whnf) | apply o_non rfl))
      (apply o_end; (repeat (first | exact OutS.nil | exact GetS.hit | exact PutS.hit | apply GetS.miss rfl | apply PutS.miss rfl | apply OutS.cons | apply OutS.skip rfl)))
      ((repeat refine c_seq ?_); refine c_region ?_; (repeat (first | ((first | apply o_move rfl rfl | apply o_easy1 rfl rfl rfl | apply o_ld rfl rfl (by assumption) (by first | rfl | assumption)); conv => lhs; whnf) | apply o_no rfl | refine o_b rfl rfl rfl (by constructor; omega) ?_ | refine o_f rfl rfl rfl (by constructor; omega) ?_ | refine o_s rfl rfl rfl (by constructor; first | omega | assumption) ?_ | refine o_t rfl rfl rfl (by constructor; assumption) ?_ | (apply o_easy rfl rfl rfl; conv => lhs; whnf) | apply o_non rfl)); apply o_end; (repeat (first | exact OutS.nil | exact GetS.hit | exact PutS.hit | apply GetS.miss rfl | apply PutS.miss rfl | apply OutS.cons | apply OutS.skip rfl)))
      ((repeat refine c_seq ?_); refine c_region ?_; (repeat (first | ((first | apply o_move rfl rfl | apply o_easy1 rfl rfl rfl | apply o_ld rfl rfl (by assumption) (by first | rfl | assumption)); conv => lhs; whnf) | apply o_no rfl | refine o_b rfl rfl rfl (by constructor; omega) ?_ | refine o_f rfl rfl rfl (by constructor; omega) ?_ | refine o_s rfl rfl rfl (by constructor; first | omega | assumption) ?_ | refine o_t rfl rfl rfl (by constructor; assumption) ?_ | (apply o_easy rfl rfl rfl; conv => lhs; whnf) | apply o_non rfl)))
      refine o_appB (t0 := 0) (l := []) (p := [97, 255]) rfl rfl (.inl ⟨rfl, rfl⟩) (by show (0 : Nat) ≤ 0; omega) (by omega) rfl rfl (by simp) fun v2 s2 hv2 hh2 ht2 => ?_
      rcases hv2 with ⟨he, _⟩ | ⟨ui, un, rfl, utk, _⟩
      · simp at he
      (repeat (first | ((first | apply o_move rfl rfl | apply o_easy1 rfl rfl rfl | apply o_ld rfl rfl (by assumption) (by first | rfl | assumption)); conv => lhs; whnf) | apply o_no rfl | refine o_b rfl rfl rfl (by constructor; omega) ?_ | refine o_f rfl rfl rfl (by constructor; omega) ?_ | refine o_s rfl rfl rfl (by constructor; first | omega | assumption) ?_ | refine o_t rfl rfl rfl (by constructor; assumption) ?_ | (apply o_easy rfl rfl rfl; conv => lhs; whnf) | apply o_non rfl))
      (apply o_end; (repeat (first | exact OutS.nil | exact GetS.hit | exact PutS.hit | apply GetS.miss rfl | apply PutS.miss rfl | apply OutS.cons | apply OutS.skip rfl)))
      ((repeat refine c_seq ?_); refine c_region ?_; (repeat (first | ((first | apply o_move rfl rfl | apply o_easy1 rfl rfl rfl | apply o_ld rfl rfl (by assumption) (by first | rfl | assumption)); conv => lhs; whnf) | apply o_no rfl | refine o_b rfl rfl rfl (by constructor; omega) ?_ | refine o_f rfl rfl rfl (by constructor; omega) ?_ | refine o_s rfl rfl rfl (by constructor; first | omega | assumption) ?_ | refine o_t rfl rfl rfl (by constructor; assumption) ?_ | (apply o_easy rfl rfl rfl; conv => lhs; whnf) | apply o_non rfl)))
      refine o_appB (t0 := 0) (l := [97, 255]) (p := bad) rfl rfl (.inr ⟨ui, un, rfl, utk, by omega⟩) (by show (0 : Nat) ≤ 0; omega) (by omega) rfl rfl (by simp; omega) fun v3 s3 hv3 hh3 ht3 => ?_
      rcases hv3 with ⟨he, _⟩ | ⟨wi, wn, rfl, wtk, _⟩
      · simp at he
      have hul : (Am.byteCells ([97, 255] ++ bad)).length = bad.length + 2 := by rw [Am.byteCells_length]; simp
      (repeat (first | ((first | apply o_move rfl rfl | apply o_easy1 rfl rfl rfl | apply o_ld rfl rfl (by assumption) (by first | rfl | assumption)); conv => lhs; whnf) | apply o_no rfl | refine o_b rfl rfl rfl (by constructor; omega) ?_ | refine o_f rfl rfl rfl (by constructor; omega) ?_ | refine o_s rfl rfl rfl (by constructor; first | omega | assumption) ?_ | refine o_t rfl rfl rfl (by constructor; assumption) ?_ | (apply o_easy rfl rfl rfl; conv => lhs; whnf) | apply o_non rfl))
      (apply o_end; (repeat (first | exact OutS.nil | exact GetS.hit | exact PutS.hit | apply GetS.miss rfl | apply PutS.miss rfl | apply OutS.cons | apply OutS.skip rfl)))
      ((repeat refine c_seq ?_); refine c_region ?_; (repeat (first | ((first | apply o_move rfl rfl | apply o_easy1 rfl rfl rfl | apply o_ld rfl rfl (by assumption) (by first | rfl | assumption)); conv => lhs; whnf) | apply o_no rfl | refine o_b rfl rfl rfl (by constructor; omega) ?_ | refine o_f rfl rfl rfl (by constructor; omega) ?_ | refine o_s rfl rfl rfl (by constructor; first | omega | assumption) ?_ | refine o_t rfl rfl rfl (by constructor; assumption) ?_ | (apply o_easy rfl rfl rfl; conv => lhs; whnf) | apply o_non rfl)); apply o_end; (repeat (first | exact OutS.nil | exact GetS.hit | exact PutS.hit | apply GetS.miss rfl | apply PutS.miss rfl | apply OutS.cons | apply OutS.skip rfl)))
      ((repeat refine c_seq ?_); refine c_else rfl ?_)
      refine c_skip ?_
      ((repeat refine c_seq ?_); refine c_region ?_; (repeat (first | ((first | apply o_move rfl rfl | apply o_easy1 rfl rfl rfl | apply o_ld rfl rfl (by assumption) (by first | rfl | assumption)); conv => lhs; whnf) | apply o_no rfl | refine o_b rfl rfl rfl (by constructor; omega) ?_ | refine o_f rfl rfl rfl (by constructor; omega) ?_ | refine o_s rfl rfl rfl (by constructor; first | omega | assumption) ?_ | refine o_t rfl rfl rfl (by constructor; assumption) ?_ | (apply o_easy rfl rfl rfl; conv => lhs; whnf) | apply o_non rfl)))
      refine o_call rfl rfl (lex_utf bad (by omega) _ _ s3 _ rfl) ?_
      (repeat (first | ((first | apply o_move rfl rfl | apply o_easy1 rfl rfl rfl | apply o_ld rfl rfl (by assumption) (by first | rfl | assumption)); conv => lhs; whnf) | apply o_no rfl | refine o_b rfl rfl rfl (by constructor; omega) ?_ | refine o_f rfl rfl rfl (by constructor; omega) ?_ | refine o_s rfl rfl rfl (by constructor; first | omega | assumption) ?_ | refine o_t rfl rfl rfl (by constructor; assumption) ?_ | (apply o_easy rfl rfl rfl; conv => lhs; whnf) | apply o_non rfl))
      (apply o_end; (repeat (first | exact OutS.nil | exact GetS.hit | exact PutS.hit | apply GetS.miss rfl | apply PutS.miss rfl | apply OutS.cons | apply OutS.skip rfl)))
      ((repeat refine c_seq ?_); refine c_region ?_; (repeat (first | ((first | apply o_move rfl rfl | apply o_easy1 rfl rfl rfl | apply o_ld rfl rfl (by assumption) (by first | rfl | assumption)); conv => lhs; whnf) | apply o_no rfl | refine o_b rfl rfl rfl (by constructor; omega) ?_ | refine o_f rfl rfl rfl (by constructor; omega) ?_ | refine o_s rfl rfl rfl (by constructor; first | omega | assumption) ?_ | refine o_t rfl rfl rfl (by constructor; assumption) ?_ | (apply o_easy rfl rfl rfl; conv => lhs; whnf) | apply o_non rfl)))
      refine o_slvecTo (j := 1000) (q := Am.byteCells (g.take 1000)) rfl rfl rfl rfl (by omega) (bc_take g 1000) fun tl' => ?_
      refine o_call rfl rfl (lex_parens _ (by omega) _ s3 (g.take 1000) hpp _ rfl) ?_
      (repeat (first | ((first | apply o_move rfl rfl | apply o_easy1 rfl rfl rfl | apply o_ld rfl rfl (by assumption) (by first | rfl | assumption)); conv => lhs; whnf) | apply o_no rfl | refine o_b rfl rfl rfl (by constructor; omega) ?_ | refine o_f rfl rfl rfl (by constructor; omega) ?_ | refine o_s rfl rfl rfl (by constructor; first | omega | assumption) ?_ | refine o_t rfl rfl rfl (by constructor; assumption) ?_ | (apply o_easy rfl rfl rfl; conv => lhs; whnf) | apply o_non rfl))
      (apply o_end; (repeat (first | exact OutS.nil | exact GetS.hit | exact PutS.hit | apply GetS.miss rfl | apply PutS.miss rfl | apply OutS.cons | apply OutS.skip rfl)))
      ((repeat refine c_seq ?_); refine c_region ?_; (repeat (first | ((first | apply o_move rfl rfl | apply o_easy1 rfl rfl rfl | apply o_ld rfl rfl (by assumption) (by first | rfl | assumption)); conv => lhs; whnf) | apply o_no rfl | refine o_b rfl rfl rfl (by constructor; omega) ?_ | refine o_f rfl rfl rfl (by constructor; omega) ?_ | refine o_s rfl rfl rfl (by constructor; first | omega | assumption) ?_ | refine o_t rfl rfl rfl (by constructor; assumption) ?_ | (apply o_easy rfl rfl rfl; conv => lhs; whnf) | apply o_non rfl)); apply o_end; (repeat (first | exact OutS.nil | exact GetS.hit | exact PutS.hit | apply GetS.miss rfl | apply PutS.miss rfl | apply OutS.cons | apply OutS.skip rfl)))
      exact c_ret rfl

end Go.Tok

/-
  What is too long, is no UTF-8, or has options that there are not, is refused ahead of all else: TokensBounds answers true, whatever the number and the bytes, and leaves them as they were.
-/
namespace Go.Proofs.YthlgbcfijipkcaaGreat
open Go.ChangeShapes Go.WideShapes Go.ChangeAt Go.RowKit

theorem own : ownKnob Tryz.prog.godebug = none := by kernel_rfl
theorem laidOut : laidOutB Tryz.prog = true := by kernel_rfl
theorem rowed : mapsRowed Tryz.prog = true := by kernel_rfl
theorem full : ∀ t e, t < Tryz.prog.types.size → Tryz.prog.underlying t = some (.slice e) → 0 < Tryz.prog.cellsOf e := slices_full_of Tryz.prog (by kernel_rfl)
theorem cells5 : Tryz.prog.cellsOf 5 = 1 := by kernel_rfl

set_option maxRecDepth 100000 in
theorem bounds_lifted (os : Os) (started : os.Started) (H : Type) (enc : TypeId × Value → H) :
    ReturnsInHanded {} Tryz.checked os 4 .any (Rows.tokensBoundsSpec.pre6 enc Tryz.prog Tryz.f4 Rows.tokensBoundsRow.domain false) (Rows.tokensBoundsSpec.post enc Tryz.prog Tryz.f4 false true false false) := by
  refine returnsInHanded_of_change (C := Tryz.checked) own started (by kernel_rfl) Tryz.func4
    (ChangeSpec.witness6 (enc := enc) (C := Tryz.checked) false ⟨#[], #[.int .i64 0, .slice none 0 0], []⟩ 8 (by kernel_rfl) (by kernel_rfl) (by kernel_rfl) (by kernel_rfl)) ?_
  intro W base args ds gs before hval0 hW hcnd _
  have hval : ∀ (j : Nat) t v, Tryz.f4.params[j]? = some t → args[j]? = some v → Value.okWide Tryz.prog W .any base t v := hval0
  have hW' : DataW.Whole enc Tryz.prog Tryz.f4.params.toList Rows.tokensBoundsSpec.vars false W args.toList ds gs before := hW
  obtain ⟨p, q, hA0, hV, rfl, hfz, hnd⟩ := hW
  have hA : DataW.TrodAll enc Tryz.prog W 0 (fun _ => true) true Tryz.f4.params.toList args.toList ds p := hA0
  have hts : ∀ t ∈ Tryz.f4.params.toList, t < Tryz.prog.types.size := of_decide_eq_true (by kernel_rfl)
  rw [Tryz.params4] at hA hval
  obtain ⟨v0, v1, d0, d1, p0, p1, rfl, rfl, rfl, h0, h1⟩ := trodAll_two hA
  have hgs : gs = [] ∧ q = [] := trodVars_none hV
  obtain ⟨rfl, rfl⟩ := hgs
  obtain ⟨more, hv0, hm⟩ := Am.lay_int Tryz.underlying3 (hval 0 3 v0 rfl rfl) h0
  obtain ⟨bad, hv1, hlen⟩ := Am.lay_bytes Tryz.underlying22 Tryz.underlying5 cells5 (hval 1 22 v1 rfl rfl) h1
  have hmore : -(2 ^ 63) ≤ more ∧ more < 2 ^ 63 := by
    simp only [Lit.wf, IntKind.min, IntKind.max, IntKind.signed, IntKind.bits, Bool.and_eq_true, decide_eq_true_eq] at hm
    simp at hm
    omega
  obtain ⟨n, hn⟩ := Tok.bounds_true more hmore bad hlen
  have hc := Am.law_true Tok.tab_ok hn (Am.vrs_cons hv0 (Am.vrs_cons hv1 Am.vrs_nil)) Tryz.func4 rfl (by decide +kernel)
  exact hc.mono fun e W' he => ⟨_, he.1, Am.law_post laidOut rowed full hts rfl rfl Tryz.underlying4 hW' rfl rfl rfl he.2⟩

theorem tokensBounds : Rows.TokensBoundsSaid :=
  OpenClaim.holds_of_wide 4 Tryz.f4 rfl rfl rfl rfl rfl rfl rfl ⟨rfl, rfl, rfl, rfl, rfl⟩ rfl rfl rfl rfl rfl (by kernel_rfl) Tryz.func4 (by kernel_rfl)
    (of_decide_eq_true (by kernel_rfl)) (by unfold Func.isWrapper; first | (rw [if_pos (by decide +kernel)]; kernel_rfl) | (rw [if_neg (by decide +kernel)]; exact ⟨rfl, rfl⟩))
    (fun os started H enc _ => bounds_lifted os started H enc)

#print axioms tokensBounds
end Go.Proofs.YthlgbcfijipkcaaGreat
