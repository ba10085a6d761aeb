/-
  What the lexer comes to: general lemmas, sequences of UTF-8.
-/
import Derived.Test.YthlgbcfijipkcaaGreatTokzB

namespace Go.Tok
open Go Go.Am Go.Proofs

theorem awake' (m : Nat) (hm : 400 ≤ m) : callF T m bar0 7 [] sg0 = some (.ret (.bool true), sg0) := callF_mono T 400 m hm _ _ _ _ _ awake

end Go.Tok

namespace Go.Tok
open Go Go.Am Go.Proofs

theorem bc_take (l : List UInt8) (n : Nat) : (Am.byteCells l).take n = Am.byteCells (l.take n) := by simp [Am.byteCells, List.map_take]

section
variable {call : CallFn} {b : Bar} {g : Option (Nat × Bool)} {r : List AOper} {loc : Env} {fr : Fr} {s : Sg} {Q : Ex → Env → Fr → Sg → Prop}

theorem o_slTo {l : List UInt8} {x hi : AOpd} {t j : Nat} {z : Int} {k : IntKind} (hg : wantedA loc fr.pers g = some true) (hx : x.ev loc fr.pers = some (.str l)) (hh : hi.ev loc fr.pers = some (.int k z)) (hz : z = (j : Int)) (hj : j ≤ l.length) (hr : OkO call b r ((t, .str (l.take j)) :: loc) fr s Q) : OkO call b (⟨some t, .v (.sliceS x none (some hi)), g⟩ :: r) loc fr s Q := by
  subst hz
  refine o_slS (u := none) (w := some (.int k (j : Int))) (i := 0) (j := j) hg hx rfl (by simp only [evOpt, hh, Option.map_some]) ?_ ?_ ?_
  · simp only [bnd]; rw [if_pos ⟨by omega, by omega⟩]; simp
  · rfl
  · simpa using hr

theorem o_slFrom {l : List UInt8} {x lo : AOpd} {t i : Nat} {z : Int} {k : IntKind} (hg : wantedA loc fr.pers g = some true) (hx : x.ev loc fr.pers = some (.str l)) (hh : lo.ev loc fr.pers = some (.int k z)) (hz : z = (i : Int)) (hj : i ≤ l.length) (hr : OkO call b r ((t, .str (l.drop i)) :: loc) fr s Q) : OkO call b (⟨some t, .v (.sliceS x (some lo) none), g⟩ :: r) loc fr s Q := by
  subst hz
  refine o_slS (u := some (.int k (i : Int))) (w := none) (i := i) (j := l.length) hg hx (by simp only [evOpt, hh, Option.map_some]) rfl ?_ ?_ ?_
  · rfl
  · simp only [bnd]; rw [if_pos ⟨by omega, by omega⟩]; simp
  · rw [List.take_of_length_le (by simp)]; exact hr
end

end Go.Tok

namespace Go.Tok
open Go Go.Am Go.Proofs

def kindCs : List AV := [.int .u8 0, .int .u8 0, .int .i64 0, .int .u8 128, .int .u8 0, .int .i64 0, .int .u8 224, .int .u8 192, .int .i64 128, .int .u8 240, .int .u8 224, .int .i64 2048, .int .u8 248, .int .u8 240, .int .i64 65536]

/-- utf.kinds -/
theorem kinds_spec (m : Nat) (b : Bar) (s : Sg) : callF T (m + 1) b 24 [] s = some (.ret (.agg kindCs), s) := by
  suffices h : OkF (callF T (m + 1) b 24 [] s) (fun o s' => o = .ret (.agg kindCs) ∧ s' = s) by
    obtain ⟨o, s', h1, rfl, rfl⟩ := h.ok
    exact h1
  (apply f_wp rfl rfl; (repeat (first | exact Shape.nil | (apply Shape.cons; conv => lhs; whnf))))
  ((repeat refine c_seq ?_); refine c_region ?_; (repeat (first | ((first | apply o_move rfl rfl | apply o_easy1 rfl rfl rfl | apply o_ld rfl rfl (by assumption) (by first | rfl | assumption)); conv => lhs; whnf) | apply o_no rfl | refine o_b rfl rfl rfl (by constructor; omega) ?_ | refine o_f rfl rfl rfl (by constructor; omega) ?_ | (apply o_easy rfl rfl rfl; conv => lhs; whnf) | apply o_non rfl)))
  refine o_alloc rfl ?_
  (apply o_end; (repeat (first | exact OutS.nil | exact GetS.hit | exact PutS.hit | apply GetS.miss rfl | apply PutS.miss rfl | apply OutS.cons | apply OutS.skip rfl)))
  have hA := getCells_new s [.int .u8 0, .int .u8 0, .int .i64 0, .int .u8 0, .int .u8 0, .int .i64 0, .int .u8 0, .int .u8 0, .int .i64 0, .int .u8 0, .int .u8 0, .int .i64 0, .int .u8 0, .int .u8 0, .int .i64 0] 0
  ((repeat refine c_seq ?_); refine c_region ?_; (repeat (first | ((first | apply o_move rfl rfl | apply o_easy1 rfl rfl rfl | apply o_ld rfl rfl (by assumption) (by first | rfl | assumption)); conv => lhs; whnf) | apply o_no rfl | refine o_b rfl rfl rfl (by constructor; omega) ?_ | refine o_f rfl rfl rfl (by constructor; omega) ?_ | (apply o_easy rfl rfl rfl; conv => lhs; whnf) | apply o_non rfl)))
  refine o_st rfl rfl rfl rfl hA rfl (lets_of (blt_no (by show s.heap.length ≤ s.heap.length; omega)) (fun e => rfl)) (cs' := kindCs) rfl ?_
  have hA2 := getCells_put (cs' := kindCs) (g' := 0) hA
  (apply o_end; (repeat (first | exact OutS.nil | exact GetS.hit | exact PutS.hit | apply GetS.miss rfl | apply PutS.miss rfl | apply OutS.cons | apply OutS.skip rfl)))
  refine c_ret ?_
  show OkF (endRet _ _ _ _) _
  exact end_ret (read_cell rfl hA2 rfl read_nil) (leave_pure (lay_cons rfl lay_nil) (by simp [AV.oldAll, AV.old, AV.weak, kindCs])) ⟨rfl, rfl⟩

/-- the loop 0 of function 13 -/
def lp13_0 : ACode := .seq (.region [⟨(some 13), .v (.bin .lss (.tmp 12) (.const (.int .i64 5))), none⟩] [13]) (.seq (.cond (.tmp 13) (.skip) (.exit 0)) (.seq (.block 1 (.seq (.region [⟨(some 14), .v (.move (.tmp 12)), none⟩, ⟨(some 15), .v (.indexA 5 (some 3) (.tmp 11) (.tmp 12)), none⟩, ⟨(some 7), .e (.alloc [(.int .u8 0), (.int .u8 0), (.int .i64 0)]), none⟩, ⟨(some 6), .v (.move (.tmp 14)), none⟩, ⟨none, .e (.store 3 (.tmp 7) (.tmp 15)), none⟩] [7, 6]) (.seq (.seq (.drawn [⟨(some 16), .v (.move (.tmp 6)), none⟩, ⟨(some 17), .v (.bin .eql (.tmp 16) (.const (.int .i64 0))), none⟩, ⟨(some 18), .v (.move (.tmp 17)), none⟩, ⟨(some 19), .v (.move (.tmp 0)), (some (18, false))⟩, ⟨(some 20), .v (.move (.tmp 1)), (some (18, false))⟩, ⟨(some 21), .v (.indexAddrS none (.tmp 19) (.tmp 20)), (some (18, false))⟩, ⟨(some 22), .v (.load none (.tmp 21)), (some (18, false))⟩, ⟨(some 23), .v (.fieldAddr 0 none (.tmp 7)), (some (18, false))⟩, ⟨(some 24), .v (.load none (.tmp 23)), (some (18, false))⟩, ⟨(some 25), .v (.bin .and (.tmp 22) (.tmp 24)), (some (18, false))⟩, ⟨(some 26), .v (.fieldAddr 1 none (.tmp 7)), (some (18, false))⟩, ⟨(some 27), .v (.load none (.tmp 26)), (some (18, false))⟩, ⟨(some 28), .v (.bin .neq (.tmp 25) (.tmp 27)), (some (18, false))⟩, ⟨(some 29), .v (.pick (.tmp 18) (.const (.bool true)) (.tmp 28)), none⟩, ⟨(some 30), .v (.move (.tmp 29)), none⟩, ⟨(some 31), .v (.move (.tmp 1)), (some (30, false))⟩, ⟨(some 32), .v (.move (.tmp 6)), (some (30, false))⟩, ⟨(some 33), .v (.bin .add (.tmp 31) (.tmp 32)), (some (30, false))⟩, ⟨(some 34), .v (.move (.tmp 0)), (some (30, false))⟩, ⟨(some 35), .v (.len 1 (.tmp 34)), (some (30, false))⟩, ⟨(some 36), .v (.bin .gtr (.tmp 33) (.tmp 35)), (some (30, false))⟩, ⟨(some 37), .v (.pick (.tmp 30) (.const (.bool true)) (.tmp 36)), none⟩] [37] [] false 0) (.cond (.tmp 37) (.exit 1) (.skip))) (.seq (.drawn [⟨(some 38), .v (.move (.tmp 0)), none⟩, ⟨(some 39), .v (.move (.tmp 1)), none⟩, ⟨(some 40), .v (.indexAddrS none (.tmp 38) (.tmp 39)), none⟩, ⟨(some 41), .v (.load none (.tmp 40)), none⟩, ⟨(some 42), .v (.fieldAddr 0 none (.tmp 7)), none⟩, ⟨(some 43), .v (.load none (.tmp 42)), none⟩, ⟨(some 44), .v (.bin .andNot (.tmp 41) (.tmp 43)), none⟩, ⟨(some 45), .v (.conv (.intInt .i64) (.tmp 44)), none⟩, ⟨(some 8), .v (.move (.tmp 45)), none⟩] [8] [] false 0) (.seq (.seq (.region [⟨(some 46), .v (.move (.tmp 6)), none⟩, ⟨(some 47), .v (.bin .sub (.tmp 46) (.const (.int .i64 1))), none⟩, ⟨(some 48), .v (.move (.const (.int .i64 0))), none⟩] [47, 48]) (.block 2 (.loop (.seq (.region [⟨(some 49), .v (.bin .lss (.tmp 48) (.tmp 47)), none⟩] [49]) (.seq (.cond (.tmp 49) (.skip) (.exit 2)) (.seq (.block 3 (.seq (.region [⟨(some 50), .v (.move (.tmp 48)), none⟩, ⟨(some 9), .v (.move (.tmp 50)), none⟩] [9]) (.seq (.region [⟨(some 51), .v (.move (.tmp 0)), none⟩, ⟨(some 52), .v (.move (.tmp 1)), none⟩, ⟨(some 53), .v (.bin .add (.tmp 52) (.const (.int .i64 1))), none⟩, ⟨(some 54), .v (.move (.tmp 9)), none⟩, ⟨(some 55), .v (.bin .add (.tmp 53) (.tmp 54)), none⟩, ⟨(some 56), .v (.indexAddrS none (.tmp 51) (.tmp 55)), none⟩, ⟨(some 57), .v (.load none (.tmp 56)), none⟩, ⟨(some 10), .v (.move (.tmp 57)), none⟩] [10]) (.seq (.seq (.region [⟨(some 58), .v (.move (.tmp 10)), none⟩, ⟨(some 59), .v (.bin .shr (.tmp 58) (.const (.int .u64 6))), none⟩, ⟨(some 60), .v (.bin .neq (.tmp 59) (.const (.int .u8 2))), none⟩] [60]) (.cond (.tmp 60) (.seq (.region [⟨(some 4), .v (.move (.const (.int .i64 0))), none⟩, ⟨(some 5), .v (.move (.const (.int .i64 0))), none⟩] [4, 5]) (.ret)) (.skip))) (.region [⟨(some 61), .v (.move (.tmp 8)), none⟩, ⟨(some 62), .v (.bin .shl (.tmp 61) (.const (.int .u64 6))), none⟩, ⟨(some 63), .v (.move (.tmp 10)), none⟩, ⟨(some 64), .v (.bin .and (.tmp 63) (.const (.int .u8 63))), none⟩, ⟨(some 65), .v (.conv (.intInt .i64) (.tmp 64)), none⟩, ⟨(some 66), .v (.bin .or (.tmp 62) (.tmp 65)), none⟩, ⟨(some 8), .v (.move (.tmp 66)), none⟩] [8]))))) (.region [⟨(some 67), .v (.bin .add (.tmp 48) (.const (.int .i64 1))), none⟩, ⟨(some 48), .v (.move (.tmp 67)), none⟩] [48]))))))) (.seq (.seq (.region [⟨(some 68), .v (.move (.tmp 8)), none⟩, ⟨(some 69), .v (.fieldAddr 2 none (.tmp 7)), none⟩, ⟨(some 70), .v (.load none (.tmp 69)), none⟩, ⟨(some 71), .v (.bin .lss (.tmp 68) (.tmp 70)), none⟩, ⟨(some 72), .v (.move (.tmp 71)), none⟩, ⟨(some 73), .v (.move (.tmp 8)), (some (72, false))⟩, ⟨(some 74), .v (.bin .gtr (.tmp 73) (.const (.int .i64 1114111))), (some (72, false))⟩, ⟨(some 75), .v (.pick (.tmp 72) (.const (.bool true)) (.tmp 74)), none⟩, ⟨(some 76), .v (.move (.tmp 75)), none⟩, ⟨(some 77), .v (.move (.tmp 8)), (some (76, false))⟩, ⟨(some 78), .v (.bin .shr (.tmp 77) (.const (.int .u64 11))), (some (76, false))⟩, ⟨(some 79), .v (.bin .eql (.tmp 78) (.const (.int .i64 27))), (some (76, false))⟩, ⟨(some 80), .v (.pick (.tmp 76) (.const (.bool true)) (.tmp 79)), none⟩] [80]) (.cond (.tmp 80) (.seq (.region [⟨(some 4), .v (.move (.const (.int .i64 0))), none⟩, ⟨(some 5), .v (.move (.const (.int .i64 0))), none⟩] [4, 5]) (.ret)) (.skip))) (.seq (.region [⟨(some 81), .v (.move (.tmp 8)), none⟩, ⟨(some 82), .v (.move (.tmp 6)), none⟩, ⟨(some 4), .v (.move (.tmp 81)), none⟩, ⟨(some 5), .v (.move (.tmp 82)), none⟩] [4, 5]) (.ret)))))))) (.region [⟨(some 83), .v (.bin .add (.tmp 12) (.const (.int .i64 1))), none⟩, ⟨(some 12), .v (.move (.tmp 83)), none⟩] [12])))

abbrev fr13 (t : List UInt8) (a : Nat) (k : Int) (x13 x6 x7 x37 : AV) : Fr :=
  ⟨[(0, .vec (Am.byteCells t) .shut), (1, .int .i64 a), (4, .int .i64 0), (5, .int .i64 0), (12, .int .i64 k), (13, x13), (11, .agg kindCs), (6, x6), (7, x7), (37, x37), (48, .undef), (47, .undef), (49, .undef), (9, .undef), (10, .undef), (60, .undef), (8, .undef), (80, .undef)], [], .off⟩

/-- a round that goes by: the first one -/
theorem round0 (M L : Nat) (b : Bar) (t : List UInt8) (a : Nat) (x13 x6 x7 x37 : AV) (s : Sg) (hb : b.w ≤ s.heap.length) {Q : Ex → Fr → Sg → Prop}
    (h : ∀ x7 s', s.heap.length ≤ s'.heap.length → OkL L (fun fr s => ACode.run (loopN M) (callF T M) b lp13_0 fr s) (fr13 t a 1 (.bool true) (.int .i64 0) x7 (.bool true)) s' Q) :
    OkL (L + 1) (fun fr s => ACode.run (loopN M) (callF T M) b lp13_0 fr s) (fr13 t a 0 x13 x6 x7 x37) s Q := by
  apply l_round
  ((repeat refine c_seq ?_); refine c_region ?_; (repeat (first | ((first | apply o_move rfl rfl | apply o_easy1 rfl rfl rfl | apply o_ld rfl rfl (by assumption) (by first | rfl | assumption)); conv => lhs; whnf) | apply o_no rfl | refine o_b rfl rfl rfl (by constructor; omega) ?_ | refine o_f rfl rfl rfl (by constructor; omega) ?_ | (apply o_easy rfl rfl rfl; conv => lhs; whnf) | apply o_non rfl)); apply o_end; (repeat (first | exact OutS.nil | exact GetS.hit | exact PutS.hit | apply GetS.miss rfl | apply PutS.miss rfl | apply OutS.cons | apply OutS.skip rfl)))
  ((repeat refine c_seq ?_); refine c_if rfl ?_)
  refine c_skip ?_
  ((repeat refine c_seq ?_); refine c_block ?_)
  ((repeat refine c_seq ?_); refine c_region ?_; (repeat (first | ((first | apply o_move rfl rfl | apply o_easy1 rfl rfl rfl | apply o_ld rfl rfl (by assumption) (by first | rfl | assumption)); conv => lhs; whnf) | apply o_no rfl | refine o_b rfl rfl rfl (by constructor; omega) ?_ | refine o_f rfl rfl rfl (by constructor; omega) ?_ | (apply o_easy rfl rfl rfl; conv => lhs; whnf) | apply o_non rfl)))
  refine o_alloc rfl ?_
  (repeat (first | ((first | apply o_move rfl rfl | apply o_easy1 rfl rfl rfl | apply o_ld rfl rfl (by assumption) (by first | rfl | assumption)); conv => lhs; whnf) | apply o_no rfl | refine o_b rfl rfl rfl (by constructor; omega) ?_ | refine o_f rfl rfl rfl (by constructor; omega) ?_ | (apply o_easy rfl rfl rfl; conv => lhs; whnf) | apply o_non rfl))
  have h7 := getCells_new s [.int .u8 0, .int .u8 0, .int .i64 0] 0
  refine o_st rfl rfl rfl rfl h7 rfl (lets_of (blt_no hb) (fun e => rfl)) (cs' := [.int .u8 0, .int .u8 0, .int .i64 0]) rfl ?_
  (apply o_end; (repeat (first | exact OutS.nil | exact GetS.hit | exact PutS.hit | apply GetS.miss rfl | apply PutS.miss rfl | apply OutS.cons | apply OutS.skip rfl)))
  ((repeat refine c_seq ?_); refine c_drawn ?_; (repeat (first | ((first | apply o_move rfl rfl | apply o_easy1 rfl rfl rfl | apply o_ld rfl rfl (by assumption) (by first | rfl | assumption)); conv => lhs; whnf) | apply o_no rfl | refine o_b rfl rfl rfl (by constructor; omega) ?_ | refine o_f rfl rfl rfl (by constructor; omega) ?_ | (apply o_easy rfl rfl rfl; conv => lhs; whnf) | apply o_non rfl)); apply d_end rfl; (repeat (first | exact OutS.nil | exact GetS.hit | exact PutS.hit | apply GetS.miss rfl | apply PutS.miss rfl | apply OutS.cons | apply OutS.skip rfl)))
  ((repeat refine c_seq ?_); refine c_if rfl ?_)
  refine c_exit ?_
  show OkC _ _ _ _ _ _ _
  ((repeat refine c_seq ?_); refine c_region ?_; (repeat (first | ((first | apply o_move rfl rfl | apply o_easy1 rfl rfl rfl | apply o_ld rfl rfl (by assumption) (by first | rfl | assumption)); conv => lhs; whnf) | apply o_no rfl | refine o_b rfl rfl rfl (by constructor; omega) ?_ | refine o_f rfl rfl rfl (by constructor; omega) ?_ | (apply o_easy rfl rfl rfl; conv => lhs; whnf) | apply o_non rfl)); apply o_end; (repeat (first | exact OutS.nil | exact GetS.hit | exact PutS.hit | apply GetS.miss rfl | apply PutS.miss rfl | apply OutS.cons | apply OutS.skip rfl)))
  exact h _ _ (by rw [Sg.put_len]; simp [Sg.push])

end Go.Tok

namespace Go.Tok
open Go Go.Am Go.Proofs

theorem bnd_nat' {k : IntKind} {j n d : Nat} (h : j ≤ n) : bnd (some (.int k (j : Int))) d n = some j := by
  simp only [bnd]; rw [if_pos ⟨by omega, by omega⟩]; simp

section
variable {call : CallFn} {b : Bar} {g : Option (Nat × Bool)} {r : List AOper} {loc : Env} {fr : Fr} {s : Sg} {Q : Ex → Env → Fr → Sg → Prop}

theorem o_slvecTo {sz : Nat} {es q : List AV} {tl : Tail} {x hi : AOpd} {t j : Nat} {z : Int} {k : IntKind} (hg : wantedA loc fr.pers g = some true) (hx : x.ev loc fr.pers = some (.vec es tl)) (hh : hi.ev loc fr.pers = some (.int k z)) (ez : z = (j : Int)) (hj : j ≤ es.length) (hq : es.take j = q)
    (hr : ∀ tl', OkO call b r ((t, .vec q tl') :: loc) fr s Q) : OkO call b (⟨some t, .v (.slice sz x none (some hi) none), g⟩ :: r) loc fr s Q := by
  subst ez hq
  refine o_w (v := .vec (es.take j) (cutTail es.length 0 j (none : Option AV).isSome tl)) hg ?_ (hr _)
  have h1 : bnd (some (.int k (j : Int))) es.length es.length = some j := bnd_nat' hj
  have h2 : bnd none 0 j = some 0 := rfl
  have h3 : bnd none j j = some j := rfl
  simp only [evV, hx, evOpt, hh, Option.map_some, Option.bind_some, h1, h2, h3, Nat.beq_refl, Bool.true_or, Bool.and_self, if_true, List.drop_zero, Nat.sub_zero]

theorem o_rem {x y : AOpd} {t : Nat} {k : IntKind} {a c z : Int} (hg : wantedA loc fr.pers g = some true) (hx : x.ev loc fr.pers = some (.int k a)) (hy : y.ev loc fr.pers = some (.int k c)) (hc : c ≠ 0) (hz : a.tmod c = z) (hr : OkO call b r ((t, .int k z) :: loc) fr s Q) : OkO call b (⟨some t, .v (.bin .rem x y), g⟩ :: r) loc fr s Q := by
  subst hz
  refine o_w hg ?_ hr
  simp only [evV, hx, hy, Option.bind_some, evBin, if_true, intBin, if_neg hc]

theorem o_neg {x : AOpd} {t : Nat} {a z : Int} (hg : wantedA loc fr.pers g = some true) (hx : x.ev loc fr.pers = some (.int .i64 a)) (hz : z = 0 - a) (h0 : -(2 ^ 63) ≤ z) (h1 : z < 2 ^ 63) (hr : OkO call b r ((t, .int .i64 z) :: loc) fr s Q) : OkO call b (⟨some t, .v (.un .neg x), g⟩ :: r) loc fr s Q := by
  subst hz
  refine o_w hg ?_ hr
  simp only [evV, hx, Option.bind_some, evUn, intBin, wrap_i64 h0 h1]
end

theorem evAll2 {loc pers : Env} {x y : AOpd} {a c : AV} (hx : x.ev loc pers = some a) (hy : y.ev loc pers = some c) : evAll loc pers [x, y] = some [a, c] := by
  simp only [evAll, hx, hy, Option.bind_some]

end Go.Tok

namespace Go.Tok
open Go Go.Am Go.Proofs

/-- the loop 1 of function 13 -/
def lp13_1 : ACode := .seq (.region [⟨(some 49), .v (.bin .lss (.tmp 48) (.tmp 47)), none⟩] [49]) (.seq (.cond (.tmp 49) (.skip) (.exit 2)) (.seq (.block 3 (.seq (.region [⟨(some 50), .v (.move (.tmp 48)), none⟩, ⟨(some 9), .v (.move (.tmp 50)), none⟩] [9]) (.seq (.region [⟨(some 51), .v (.move (.tmp 0)), none⟩, ⟨(some 52), .v (.move (.tmp 1)), none⟩, ⟨(some 53), .v (.bin .add (.tmp 52) (.const (.int .i64 1))), none⟩, ⟨(some 54), .v (.move (.tmp 9)), none⟩, ⟨(some 55), .v (.bin .add (.tmp 53) (.tmp 54)), none⟩, ⟨(some 56), .v (.indexAddrS none (.tmp 51) (.tmp 55)), none⟩, ⟨(some 57), .v (.load none (.tmp 56)), none⟩, ⟨(some 10), .v (.move (.tmp 57)), none⟩] [10]) (.seq (.seq (.region [⟨(some 58), .v (.move (.tmp 10)), none⟩, ⟨(some 59), .v (.bin .shr (.tmp 58) (.const (.int .u64 6))), none⟩, ⟨(some 60), .v (.bin .neq (.tmp 59) (.const (.int .u8 2))), none⟩] [60]) (.cond (.tmp 60) (.seq (.region [⟨(some 4), .v (.move (.const (.int .i64 0))), none⟩, ⟨(some 5), .v (.move (.const (.int .i64 0))), none⟩] [4, 5]) (.ret)) (.skip))) (.region [⟨(some 61), .v (.move (.tmp 8)), none⟩, ⟨(some 62), .v (.bin .shl (.tmp 61) (.const (.int .u64 6))), none⟩, ⟨(some 63), .v (.move (.tmp 10)), none⟩, ⟨(some 64), .v (.bin .and (.tmp 63) (.const (.int .u8 63))), none⟩, ⟨(some 65), .v (.conv (.intInt .i64) (.tmp 64)), none⟩, ⟨(some 66), .v (.bin .or (.tmp 62) (.tmp 65)), none⟩, ⟨(some 8), .v (.move (.tmp 66)), none⟩] [8]))))) (.region [⟨(some 67), .v (.bin .add (.tmp 48) (.const (.int .i64 1))), none⟩, ⟨(some 48), .v (.move (.tmp 67)), none⟩] [48])))

abbrev fr13b (t : List UInt8) (i : Nat) (r4 r5 : Int) (k K j N : Nat) (c : Int) (x49 x9 x10 x60 : AV) : Fr :=
  ⟨[(0, .vec (Am.byteCells t) .shut), (1, .int .i64 i), (4, .int .i64 r4), (5, .int .i64 r5), (12, .int .i64 k), (13, .bool true), (11, .agg kindCs), (6, .int .i64 k), (7, .ptr N 0 0), (37, .bool false), (48, .int .i64 j), (47, .int .i64 K), (49, x49), (9, x9), (10, x10), (60, x60), (8, .int .i64 c), (80, .undef)], [], .off⟩

theorem o_anyz {call : CallFn} {b : Bar} {g : Option (Nat × Bool)} {r : List AOper} {loc : Env} {fr : Fr} {s : Sg} {Q : Ex → Env → Fr → Sg → Prop} {op : BinOp} {x y : AOpd} {t : Nat} {k k' : IntKind} {a c : Int} (hg : wantedA loc fr.pers g = some true) (hx : x.ev loc fr.pers = some (.int k a)) (hy : y.ev loc fr.pers = some (.int k' c)) (h : ∃ z, evBin op (.int k a) (.int k' c) = some (.int k z)) (hr : ∀ z, OkO call b r ((t, .int k z) :: loc) fr s Q) : OkO call b (⟨some t, .v (.bin op x y), g⟩ :: r) loc fr s Q := by
  obtain ⟨z, hz⟩ := h
  refine o_w hg ?_ (hr z)
  simp only [evV, hx, hy, Option.bind_some, hz]

theorem o_anycv {call : CallFn} {b : Bar} {g : Option (Nat × Bool)} {r : List AOper} {loc : Env} {fr : Fr} {s : Sg} {Q : Ex → Env → Fr → Sg → Prop} {x : AOpd} {t : Nat} {k k' : IntKind} {a : Int} (hg : wantedA loc fr.pers g = some true) (hx : x.ev loc fr.pers = some (.int k a)) (hr : ∀ z, OkO call b r ((t, .int k' z) :: loc) fr s Q) : OkO call b (⟨some t, .v (.conv (.intInt k') x), g⟩ :: r) loc fr s Q := o_cv hg hx rfl (hr _)

def Contd (t : List UInt8) (p n : Nat) : Prop := ∀ j, j < n → ∃ x, t[p + j]? = some x ∧ 128 ≤ x.toNat

theorem cont_loop (M : Nat) (b : Bar) (t : List UInt8) (i k K N : Nat) (s : Sg) (hik : i + 1 + K ≤ t.length) (htl : t.length < 2 ^ 40) {Q : Ex → Fr → Sg → Prop}
    (hq : ∀ c x49 x9 x10 x60, Contd t (i + 1) K → Q (.exit 2) (fr13b t i 0 0 k K K N c x49 x9 x10 x60) s)
    (hr : ∀ j c x49 x9 x10 x60, Q .ret (fr13b t i 0 0 k K j N c x49 x9 x10 x60) s) :
    ∀ (d j L : Nat) (c : Int) (x49 x9 x10 x60 : AV), j + d = K → d + 1 ≤ L → Contd t (i + 1) j →
    OkL L (fun fr s => ACode.run (loopN M) (callF T M) b lp13_1 fr s) (fr13b t i 0 0 k K j N c x49 x9 x10 x60) s Q := by
  have hbl := Am.byteCells_length t
  intro d
  induction d with
  | zero =>
    intro j L c x49 x9 x10 x60 hj hL hc
    obtain ⟨L, rfl⟩ : ∃ L', L = L' + 1 := ⟨L - 1, by omega⟩
    obtain rfl : j = K := by omega
    apply l_round
    ((repeat refine c_seq ?_); refine c_region ?_; (repeat (first | ((first | apply o_move rfl rfl | apply o_easy1 rfl rfl rfl | apply o_ld rfl rfl (by assumption) (by first | rfl | assumption)); conv => lhs; whnf) | apply o_no rfl | refine o_b rfl rfl rfl (by constructor; omega) ?_ | refine o_f rfl rfl rfl (by constructor; omega) ?_ | (apply o_easy rfl rfl rfl; conv => lhs; whnf) | apply o_non rfl)); apply o_end; (repeat (first | exact OutS.nil | exact GetS.hit | exact PutS.hit | apply GetS.miss rfl | apply PutS.miss rfl | apply OutS.cons | apply OutS.skip rfl)))
    ((repeat refine c_seq ?_); refine c_else rfl ?_)
    exact c_exit (hq _ _ _ _ _ hc)
  | succ d ih =>
    intro j L c x49 x9 x10 x60 hj hL hc
    obtain ⟨L, rfl⟩ : ∃ L', L = L' + 1 := ⟨L - 1, by omega⟩
    obtain ⟨x, hx⟩ : ∃ x, t[i + 1 + j]? = some x := ⟨_, List.getElem?_eq_getElem (by omega)⟩
    have hx8 : x.toNat < 256 := x.toNat_lt
    have hfd : ((x.toNat : Int).fdiv 64) = ((x.toNat / 64 : Nat) : Int) := by rw [Int.fdiv_eq_ediv_of_nonneg _ (by omega)]; omega
    apply l_round
    ((repeat refine c_seq ?_); refine c_region ?_; (repeat (first | ((first | apply o_move rfl rfl | apply o_easy1 rfl rfl rfl | apply o_ld rfl rfl (by assumption) (by first | rfl | assumption)); conv => lhs; whnf) | apply o_no rfl | refine o_b rfl rfl rfl (by constructor; omega) ?_ | refine o_f rfl rfl rfl (by constructor; omega) ?_ | (apply o_easy rfl rfl rfl; conv => lhs; whnf) | apply o_non rfl)); apply o_end; (repeat (first | exact OutS.nil | exact GetS.hit | exact PutS.hit | apply GetS.miss rfl | apply PutS.miss rfl | apply OutS.cons | apply OutS.skip rfl)))
    ((repeat refine c_seq ?_); refine c_if rfl ?_)
    refine c_skip ?_
    ((repeat refine c_seq ?_); refine c_block ?_)
    ((repeat refine c_seq ?_); refine c_region ?_; (repeat (first | ((first | apply o_move rfl rfl | apply o_easy1 rfl rfl rfl | apply o_ld rfl rfl (by assumption) (by first | rfl | assumption)); conv => lhs; whnf) | apply o_no rfl | refine o_b rfl rfl rfl (by constructor; omega) ?_ | refine o_f rfl rfl rfl (by constructor; omega) ?_ | (apply o_easy rfl rfl rfl; conv => lhs; whnf) | apply o_non rfl)); apply o_end; (repeat (first | exact OutS.nil | exact GetS.hit | exact PutS.hit | apply GetS.miss rfl | apply PutS.miss rfl | apply OutS.cons | apply OutS.skip rfl)))
    ((repeat refine c_seq ?_); refine c_region ?_; (repeat (first | ((first | apply o_move rfl rfl | apply o_easy1 rfl rfl rfl | apply o_ld rfl rfl (by assumption) (by first | rfl | assumption)); conv => lhs; whnf) | apply o_no rfl | refine o_b rfl rfl rfl (by constructor; omega) ?_ | refine o_f rfl rfl rfl (by constructor; omega) ?_ | (apply o_easy rfl rfl rfl; conv => lhs; whnf) | apply o_non rfl)))
    refine o_ixvec (j := i + 1 + j) rfl rfl rfl (by omega) (bc_get hx) (by rfl) ?_
    (repeat (first | ((first | apply o_move rfl rfl | apply o_easy1 rfl rfl rfl | apply o_ld rfl rfl (by assumption) (by first | rfl | assumption)); conv => lhs; whnf) | apply o_no rfl | refine o_b rfl rfl rfl (by constructor; omega) ?_ | refine o_f rfl rfl rfl (by constructor; omega) ?_ | (apply o_easy rfl rfl rfl; conv => lhs; whnf) | apply o_non rfl))
    (apply o_end; (repeat (first | exact OutS.nil | exact GetS.hit | exact PutS.hit | apply GetS.miss rfl | apply PutS.miss rfl | apply OutS.cons | apply OutS.skip rfl)))
    ((repeat refine c_seq ?_); refine c_region ?_; (repeat (first | ((first | apply o_move rfl rfl | apply o_easy1 rfl rfl rfl | apply o_ld rfl rfl (by assumption) (by first | rfl | assumption)); conv => lhs; whnf) | apply o_no rfl | refine o_b rfl rfl rfl (by constructor; omega) ?_ | refine o_f rfl rfl rfl (by constructor; omega) ?_ | (apply o_easy rfl rfl rfl; conv => lhs; whnf) | apply o_non rfl)))
    refine o_w (v := .int .u8 ((x.toNat : Int).fdiv 64)) rfl rfl ?_
    rw [hfd]
    by_cases h2 : x.toNat / 64 = 2
    · (repeat (first | ((first | apply o_move rfl rfl | apply o_easy1 rfl rfl rfl | apply o_ld rfl rfl (by assumption) (by first | rfl | assumption)); conv => lhs; whnf) | apply o_no rfl | refine o_b rfl rfl rfl (by constructor; omega) ?_ | refine o_f rfl rfl rfl (by constructor; omega) ?_ | (apply o_easy rfl rfl rfl; conv => lhs; whnf) | apply o_non rfl))
      (apply o_end; (repeat (first | exact OutS.nil | exact GetS.hit | exact PutS.hit | apply GetS.miss rfl | apply PutS.miss rfl | apply OutS.cons | apply OutS.skip rfl)))
      ((repeat refine c_seq ?_); refine c_else rfl ?_)
      refine c_skip ?_
      ((repeat refine c_seq ?_); refine c_region ?_; (repeat (first | ((first | apply o_move rfl rfl | apply o_easy1 rfl rfl rfl | apply o_ld rfl rfl (by assumption) (by first | rfl | assumption)); conv => lhs; whnf) | apply o_no rfl | refine o_b rfl rfl rfl (by constructor; omega) ?_ | refine o_f rfl rfl rfl (by constructor; omega) ?_ | (apply o_easy rfl rfl rfl; conv => lhs; whnf) | apply o_non rfl)))
      refine o_anyz rfl rfl rfl ⟨_, rfl⟩ fun z1 => ?_
      (repeat (first | ((first | apply o_move rfl rfl | apply o_easy1 rfl rfl rfl | apply o_ld rfl rfl (by assumption) (by first | rfl | assumption)); conv => lhs; whnf) | apply o_no rfl | refine o_b rfl rfl rfl (by constructor; omega) ?_ | refine o_f rfl rfl rfl (by constructor; omega) ?_ | (apply o_easy rfl rfl rfl; conv => lhs; whnf) | apply o_non rfl))
      refine o_anyz rfl rfl rfl ⟨_, rfl⟩ fun z2 => ?_
      refine o_anycv rfl rfl fun z3 => ?_
      refine o_anyz rfl rfl rfl ⟨_, rfl⟩ fun z4 => ?_
      (repeat (first | ((first | apply o_move rfl rfl | apply o_easy1 rfl rfl rfl | apply o_ld rfl rfl (by assumption) (by first | rfl | assumption)); conv => lhs; whnf) | apply o_no rfl | refine o_b rfl rfl rfl (by constructor; omega) ?_ | refine o_f rfl rfl rfl (by constructor; omega) ?_ | (apply o_easy rfl rfl rfl; conv => lhs; whnf) | apply o_non rfl))
      (apply o_end; (repeat (first | exact OutS.nil | exact GetS.hit | exact PutS.hit | apply GetS.miss rfl | apply PutS.miss rfl | apply OutS.cons | apply OutS.skip rfl)))
      ((repeat refine c_seq ?_); refine c_region ?_; (repeat (first | ((first | apply o_move rfl rfl | apply o_easy1 rfl rfl rfl | apply o_ld rfl rfl (by assumption) (by first | rfl | assumption)); conv => lhs; whnf) | apply o_no rfl | refine o_b rfl rfl rfl (by constructor; omega) ?_ | refine o_f rfl rfl rfl (by constructor; omega) ?_ | (apply o_easy rfl rfl rfl; conv => lhs; whnf) | apply o_non rfl)); apply o_end; (repeat (first | exact OutS.nil | exact GetS.hit | exact PutS.hit | apply GetS.miss rfl | apply PutS.miss rfl | apply OutS.cons | apply OutS.skip rfl)))
      refine ih (j + 1) L z4 _ _ _ _ (by omega) (by omega) fun j' hj' => ?_
      rcases Nat.lt_or_ge j' j with h | h
      · exact hc j' h
      · obtain rfl : j' = j := by omega
        exact ⟨x, hx, by omega⟩
    · (repeat (first | ((first | apply o_move rfl rfl | apply o_easy1 rfl rfl rfl | apply o_ld rfl rfl (by assumption) (by first | rfl | assumption)); conv => lhs; whnf) | apply o_no rfl | refine o_b rfl rfl rfl (by constructor; omega) ?_ | refine o_f rfl rfl rfl (by constructor; omega) ?_ | (apply o_easy rfl rfl rfl; conv => lhs; whnf) | apply o_non rfl))
      (apply o_end; (repeat (first | exact OutS.nil | exact GetS.hit | exact PutS.hit | apply GetS.miss rfl | apply PutS.miss rfl | apply OutS.cons | apply OutS.skip rfl)))
      ((repeat refine c_seq ?_); refine c_if rfl ?_)
      ((repeat refine c_seq ?_); refine c_region ?_; (repeat (first | ((first | apply o_move rfl rfl | apply o_easy1 rfl rfl rfl | apply o_ld rfl rfl (by assumption) (by first | rfl | assumption)); conv => lhs; whnf) | apply o_no rfl | refine o_b rfl rfl rfl (by constructor; omega) ?_ | refine o_f rfl rfl rfl (by constructor; omega) ?_ | (apply o_easy rfl rfl rfl; conv => lhs; whnf) | apply o_non rfl)); apply o_end; (repeat (first | exact OutS.nil | exact GetS.hit | exact PutS.hit | apply GetS.miss rfl | apply PutS.miss rfl | apply OutS.cons | apply OutS.skip rfl)))
      exact c_ret (hr _ _ _ _ _ _)

end Go.Tok

namespace Go.Tok
open Go Go.Am Go.Proofs

/-- what a sequence's length tells -/
def PShape (t : List UInt8) (i n : Nat) : Prop := n = 0 ∨ (1 ≤ n ∧ n ≤ 4 ∧ i + n ≤ t.length ∧ Contd t (i + 1) (n - 1))

abbrev fr13c (t : List UInt8) (i : Nat) (r4 : Int) (r5 k K j N : Nat) (c : Int) (x49 x9 x10 x60 x80 : AV) : Fr :=
  ⟨[(0, .vec (Am.byteCells t) .shut), (1, .int .i64 i), (4, .int .i64 r4), (5, .int .i64 r5), (12, .int .i64 k), (13, .bool true), (11, .agg kindCs), (6, .int .i64 k), (7, .ptr N 0 0), (37, .bool false), (48, .int .i64 j), (47, .int .i64 K), (49, x49), (9, x9), (10, x10), (60, x60), (8, .int .i64 c), (80, x80)], [], .off⟩

/-- a round: the one of 1 -/
theorem rk1 (M L : Nat) (b : Bar) (t : List UInt8) (i : Nat) (c : UInt8) (x13 x6 x7 x37 : AV) (s : Sg) (hM : 5 ≤ M) (hc : t[i]? = some c) (htl : t.length < 2 ^ 40) (hb : b.w ≤ s.heap.length) {Q : Ex → Fr → Sg → Prop}
    (h : ∀ x7 s', s.heap.length ≤ s'.heap.length → OkL L (fun fr s => ACode.run (loopN M) (callF T M) b lp13_0 fr s) (fr13 t i 2 (.bool true) (.int .i64 1) x7 (.bool true)) s' Q)
    (hret : ∀ (r4 : Int) (r5 k K j N : Nat) (c : Int) (x49 x9 x10 x60 x80 : AV) (s' : Sg), PShape t i r5 → Q .ret (fr13c t i r4 r5 k K j N c x49 x9 x10 x60 x80) s') :
    OkL (L + 1) (fun fr s => ACode.run (loopN M) (callF T M) b lp13_0 fr s) (fr13 t i 1 x13 x6 x7 x37) s Q := by
  have hbl := Am.byteCells_length t
  have hil := lt_of_getElem? hc
  apply l_round
  ((repeat refine c_seq ?_); refine c_region ?_; (repeat (first | ((first | apply o_move rfl rfl | apply o_easy1 rfl rfl rfl | apply o_ld rfl rfl (by assumption) (by first | rfl | assumption)); conv => lhs; whnf) | apply o_no rfl | refine o_b rfl rfl rfl (by constructor; omega) ?_ | refine o_f rfl rfl rfl (by constructor; omega) ?_ | (apply o_easy rfl rfl rfl; conv => lhs; whnf) | apply o_non rfl)); apply o_end; (repeat (first | exact OutS.nil | exact GetS.hit | exact PutS.hit | apply GetS.miss rfl | apply PutS.miss rfl | apply OutS.cons | apply OutS.skip rfl)))
  ((repeat refine c_seq ?_); refine c_if rfl ?_)
  refine c_skip ?_
  ((repeat refine c_seq ?_); refine c_block ?_)
  ((repeat refine c_seq ?_); refine c_region ?_; (repeat (first | ((first | apply o_move rfl rfl | apply o_easy1 rfl rfl rfl | apply o_ld rfl rfl (by assumption) (by first | rfl | assumption)); conv => lhs; whnf) | apply o_no rfl | refine o_b rfl rfl rfl (by constructor; omega) ?_ | refine o_f rfl rfl rfl (by constructor; omega) ?_ | (apply o_easy rfl rfl rfl; conv => lhs; whnf) | apply o_non rfl)))
  refine o_alloc rfl ?_
  (repeat (first | ((first | apply o_move rfl rfl | apply o_easy1 rfl rfl rfl | apply o_ld rfl rfl (by assumption) (by first | rfl | assumption)); conv => lhs; whnf) | apply o_no rfl | refine o_b rfl rfl rfl (by constructor; omega) ?_ | refine o_f rfl rfl rfl (by constructor; omega) ?_ | (apply o_easy rfl rfl rfl; conv => lhs; whnf) | apply o_non rfl))
  have h7 := getCells_new s [.int .u8 0, .int .u8 0, .int .i64 0] 0
  refine o_st rfl rfl rfl rfl h7 rfl (lets_of (blt_no hb) (fun e => rfl)) (cs' := [.int .u8 128, .int .u8 0, .int .i64 0]) rfl ?_
  have h8 := getCells_put (cs' := [.int .u8 128, .int .u8 0, .int .i64 0]) (g' := 0) h7
  (apply o_end; (repeat (first | exact OutS.nil | exact GetS.hit | exact PutS.hit | apply GetS.miss rfl | apply PutS.miss rfl | apply OutS.cons | apply OutS.skip rfl)))
  have hnext := h
  ((repeat refine c_seq ?_); refine c_drawn ?_; (repeat (first | ((first | apply o_move rfl rfl | apply o_easy1 rfl rfl rfl | apply o_ld rfl rfl (by assumption) (by first | rfl | assumption)); conv => lhs; whnf) | apply o_no rfl | refine o_b rfl rfl rfl (by constructor; omega) ?_ | refine o_f rfl rfl rfl (by constructor; omega) ?_ | (apply o_easy rfl rfl rfl; conv => lhs; whnf) | apply o_non rfl)))
  refine o_ixvec (j := i) (v := .int .u8 c.toNat) rfl rfl rfl rfl (bc_get hc) rfl ?_
  (repeat (first | ((first | apply o_move rfl rfl | apply o_easy1 rfl rfl rfl | apply o_ld rfl rfl (by assumption) (by first | rfl | assumption)); conv => lhs; whnf) | apply o_no rfl | refine o_b rfl rfl rfl (by constructor; omega) ?_ | refine o_f rfl rfl rfl (by constructor; omega) ?_ | (apply o_easy rfl rfl rfl; conv => lhs; whnf) | apply o_non rfl))
  refine o_anyz rfl rfl rfl ⟨_, rfl⟩ fun z => ?_
  by_cases hz : z = 0
  · by_cases hlen : i + 1 ≤ t.length
    · (repeat (first | ((first | apply o_move rfl rfl | apply o_easy1 rfl rfl rfl | apply o_ld rfl rfl (by assumption) (by first | rfl | assumption)); conv => lhs; whnf) | apply o_no rfl | refine o_b rfl rfl rfl (by constructor; omega) ?_ | refine o_f rfl rfl rfl (by constructor; omega) ?_ | (apply o_easy rfl rfl rfl; conv => lhs; whnf) | apply o_non rfl))
      (apply d_end rfl; (repeat (first | exact OutS.nil | exact GetS.hit | exact PutS.hit | apply GetS.miss rfl | apply PutS.miss rfl | apply OutS.cons | apply OutS.skip rfl)))
      ((repeat refine c_seq ?_); refine c_else rfl ?_)
      refine c_skip ?_
      ((repeat refine c_seq ?_); refine c_drawn ?_; (repeat (first | ((first | apply o_move rfl rfl | apply o_easy1 rfl rfl rfl | apply o_ld rfl rfl (by assumption) (by first | rfl | assumption)); conv => lhs; whnf) | apply o_no rfl | refine o_b rfl rfl rfl (by constructor; omega) ?_ | refine o_f rfl rfl rfl (by constructor; omega) ?_ | (apply o_easy rfl rfl rfl; conv => lhs; whnf) | apply o_non rfl)))
      refine o_ixvec (j := i) (v := .int .u8 c.toNat) rfl rfl rfl rfl (bc_get hc) rfl ?_
      (repeat (first | ((first | apply o_move rfl rfl | apply o_easy1 rfl rfl rfl | apply o_ld rfl rfl (by assumption) (by first | rfl | assumption)); conv => lhs; whnf) | apply o_no rfl | refine o_b rfl rfl rfl (by constructor; omega) ?_ | refine o_f rfl rfl rfl (by constructor; omega) ?_ | (apply o_easy rfl rfl rfl; conv => lhs; whnf) | apply o_non rfl))
      refine o_anyz rfl rfl rfl ⟨_, rfl⟩ fun z1 => ?_
      refine o_anycv rfl rfl fun z2 => ?_
      (repeat (first | ((first | apply o_move rfl rfl | apply o_easy1 rfl rfl rfl | apply o_ld rfl rfl (by assumption) (by first | rfl | assumption)); conv => lhs; whnf) | apply o_no rfl | refine o_b rfl rfl rfl (by constructor; omega) ?_ | refine o_f rfl rfl rfl (by constructor; omega) ?_ | (apply o_easy rfl rfl rfl; conv => lhs; whnf) | apply o_non rfl))
      (apply d_end rfl; (repeat (first | exact OutS.nil | exact GetS.hit | exact PutS.hit | apply GetS.miss rfl | apply PutS.miss rfl | apply OutS.cons | apply OutS.skip rfl)))
      ((repeat refine c_seq ?_); refine c_region ?_; (repeat (first | ((first | apply o_move rfl rfl | apply o_easy1 rfl rfl rfl | apply o_ld rfl rfl (by assumption) (by first | rfl | assumption)); conv => lhs; whnf) | apply o_no rfl | refine o_b rfl rfl rfl (by constructor; omega) ?_ | refine o_f rfl rfl rfl (by constructor; omega) ?_ | (apply o_easy rfl rfl rfl; conv => lhs; whnf) | apply o_non rfl)); apply o_end; (repeat (first | exact OutS.nil | exact GetS.hit | exact PutS.hit | apply GetS.miss rfl | apply PutS.miss rfl | apply OutS.cons | apply OutS.skip rfl)))
      ((repeat refine c_seq ?_); refine c_block ?_)
      refine c_loop (x := lp13_1) ?_
      refine cont_loop M b t i 1 0 s.heap.length _ (by omega) htl ?_ ?_ 0 0 M z2 _ _ _ _ rfl (by omega) (fun j hj => absurd hj (Nat.not_lt_zero j))
      · intro z3 y49 y9 y10 y60 hct
        show OkC _ _ _ _ _ _ _
        by_cases h1 : z3 < 0
        · ((repeat refine c_seq ?_); refine c_region ?_; (repeat (first | ((first | apply o_move rfl rfl | apply o_easy1 rfl rfl rfl | apply o_ld rfl rfl (by assumption) (by first | rfl | assumption)); conv => lhs; whnf) | apply o_no rfl | refine o_b rfl rfl rfl (by constructor; omega) ?_ | refine o_f rfl rfl rfl (by constructor; omega) ?_ | (apply o_easy rfl rfl rfl; conv => lhs; whnf) | apply o_non rfl)); apply o_end; (repeat (first | exact OutS.nil | exact GetS.hit | exact PutS.hit | apply GetS.miss rfl | apply PutS.miss rfl | apply OutS.cons | apply OutS.skip rfl)))
          ((repeat refine c_seq ?_); refine c_if rfl ?_)
          ((repeat refine c_seq ?_); refine c_region ?_; (repeat (first | ((first | apply o_move rfl rfl | apply o_easy1 rfl rfl rfl | apply o_ld rfl rfl (by assumption) (by first | rfl | assumption)); conv => lhs; whnf) | apply o_no rfl | refine o_b rfl rfl rfl (by constructor; omega) ?_ | refine o_f rfl rfl rfl (by constructor; omega) ?_ | (apply o_easy rfl rfl rfl; conv => lhs; whnf) | apply o_non rfl)); apply o_end; (repeat (first | exact OutS.nil | exact GetS.hit | exact PutS.hit | apply GetS.miss rfl | apply PutS.miss rfl | apply OutS.cons | apply OutS.skip rfl)))
          exact c_ret (hret 0 0 1 0 0 _ z3 _ _ _ _ _ _ (.inl rfl))
        · by_cases h2 : z3 > 1114111
          · ((repeat refine c_seq ?_); refine c_region ?_; (repeat (first | ((first | apply o_move rfl rfl | apply o_easy1 rfl rfl rfl | apply o_ld rfl rfl (by assumption) (by first | rfl | assumption)); conv => lhs; whnf) | apply o_no rfl | refine o_b rfl rfl rfl (by constructor; omega) ?_ | refine o_f rfl rfl rfl (by constructor; omega) ?_ | (apply o_easy rfl rfl rfl; conv => lhs; whnf) | apply o_non rfl)); apply o_end; (repeat (first | exact OutS.nil | exact GetS.hit | exact PutS.hit | apply GetS.miss rfl | apply PutS.miss rfl | apply OutS.cons | apply OutS.skip rfl)))
            ((repeat refine c_seq ?_); refine c_if rfl ?_)
            ((repeat refine c_seq ?_); refine c_region ?_; (repeat (first | ((first | apply o_move rfl rfl | apply o_easy1 rfl rfl rfl | apply o_ld rfl rfl (by assumption) (by first | rfl | assumption)); conv => lhs; whnf) | apply o_no rfl | refine o_b rfl rfl rfl (by constructor; omega) ?_ | refine o_f rfl rfl rfl (by constructor; omega) ?_ | (apply o_easy rfl rfl rfl; conv => lhs; whnf) | apply o_non rfl)); apply o_end; (repeat (first | exact OutS.nil | exact GetS.hit | exact PutS.hit | apply GetS.miss rfl | apply PutS.miss rfl | apply OutS.cons | apply OutS.skip rfl)))
            exact c_ret (hret 0 0 1 0 0 _ z3 _ _ _ _ _ _ (.inl rfl))
          · ((repeat refine c_seq ?_); refine c_region ?_; (repeat (first | ((first | apply o_move rfl rfl | apply o_easy1 rfl rfl rfl | apply o_ld rfl rfl (by assumption) (by first | rfl | assumption)); conv => lhs; whnf) | apply o_no rfl | refine o_b rfl rfl rfl (by constructor; omega) ?_ | refine o_f rfl rfl rfl (by constructor; omega) ?_ | (apply o_easy rfl rfl rfl; conv => lhs; whnf) | apply o_non rfl)))
            refine o_anyz rfl rfl rfl ⟨_, rfl⟩ fun z4 => ?_
            by_cases h3 : z4 = 27
            · (repeat (first | ((first | apply o_move rfl rfl | apply o_easy1 rfl rfl rfl | apply o_ld rfl rfl (by assumption) (by first | rfl | assumption)); conv => lhs; whnf) | apply o_no rfl | refine o_b rfl rfl rfl (by constructor; omega) ?_ | refine o_f rfl rfl rfl (by constructor; omega) ?_ | (apply o_easy rfl rfl rfl; conv => lhs; whnf) | apply o_non rfl))
              (apply o_end; (repeat (first | exact OutS.nil | exact GetS.hit | exact PutS.hit | apply GetS.miss rfl | apply PutS.miss rfl | apply OutS.cons | apply OutS.skip rfl)))
              ((repeat refine c_seq ?_); refine c_if rfl ?_)
              ((repeat refine c_seq ?_); refine c_region ?_; (repeat (first | ((first | apply o_move rfl rfl | apply o_easy1 rfl rfl rfl | apply o_ld rfl rfl (by assumption) (by first | rfl | assumption)); conv => lhs; whnf) | apply o_no rfl | refine o_b rfl rfl rfl (by constructor; omega) ?_ | refine o_f rfl rfl rfl (by constructor; omega) ?_ | (apply o_easy rfl rfl rfl; conv => lhs; whnf) | apply o_non rfl)); apply o_end; (repeat (first | exact OutS.nil | exact GetS.hit | exact PutS.hit | apply GetS.miss rfl | apply PutS.miss rfl | apply OutS.cons | apply OutS.skip rfl)))
              exact c_ret (hret 0 0 1 0 0 _ z3 _ _ _ _ _ _ (.inl rfl))
            · (repeat (first | ((first | apply o_move rfl rfl | apply o_easy1 rfl rfl rfl | apply o_ld rfl rfl (by assumption) (by first | rfl | assumption)); conv => lhs; whnf) | apply o_no rfl | refine o_b rfl rfl rfl (by constructor; omega) ?_ | refine o_f rfl rfl rfl (by constructor; omega) ?_ | (apply o_easy rfl rfl rfl; conv => lhs; whnf) | apply o_non rfl))
              (apply o_end; (repeat (first | exact OutS.nil | exact GetS.hit | exact PutS.hit | apply GetS.miss rfl | apply PutS.miss rfl | apply OutS.cons | apply OutS.skip rfl)))
              ((repeat refine c_seq ?_); refine c_else rfl ?_)
              refine c_skip ?_
              ((repeat refine c_seq ?_); refine c_region ?_; (repeat (first | ((first | apply o_move rfl rfl | apply o_easy1 rfl rfl rfl | apply o_ld rfl rfl (by assumption) (by first | rfl | assumption)); conv => lhs; whnf) | apply o_no rfl | refine o_b rfl rfl rfl (by constructor; omega) ?_ | refine o_f rfl rfl rfl (by constructor; omega) ?_ | (apply o_easy rfl rfl rfl; conv => lhs; whnf) | apply o_non rfl)); apply o_end; (repeat (first | exact OutS.nil | exact GetS.hit | exact PutS.hit | apply GetS.miss rfl | apply PutS.miss rfl | apply OutS.cons | apply OutS.skip rfl)))
              exact c_ret (hret z3 1 1 0 0 _ z3 _ _ _ _ _ _ (.inr ⟨by omega, by omega, hlen, hct⟩))
      · intro j z3 y49 y9 y10 y60
        exact hret 0 0 1 0 j _ z3 _ _ _ _ _ _ (.inl rfl)
    · (repeat (first | ((first | apply o_move rfl rfl | apply o_easy1 rfl rfl rfl | apply o_ld rfl rfl (by assumption) (by first | rfl | assumption)); conv => lhs; whnf) | apply o_no rfl | refine o_b rfl rfl rfl (by constructor; omega) ?_ | refine o_f rfl rfl rfl (by constructor; omega) ?_ | (apply o_easy rfl rfl rfl; conv => lhs; whnf) | apply o_non rfl))
      (apply d_end rfl; (repeat (first | exact OutS.nil | exact GetS.hit | exact PutS.hit | apply GetS.miss rfl | apply PutS.miss rfl | apply OutS.cons | apply OutS.skip rfl)))
      ((repeat refine c_seq ?_); refine c_if rfl ?_)
      refine c_exit ?_
      show OkC _ _ _ _ _ _ _
      ((repeat refine c_seq ?_); refine c_region ?_; (repeat (first | ((first | apply o_move rfl rfl | apply o_easy1 rfl rfl rfl | apply o_ld rfl rfl (by assumption) (by first | rfl | assumption)); conv => lhs; whnf) | apply o_no rfl | refine o_b rfl rfl rfl (by constructor; omega) ?_ | refine o_f rfl rfl rfl (by constructor; omega) ?_ | (apply o_easy rfl rfl rfl; conv => lhs; whnf) | apply o_non rfl)); apply o_end; (repeat (first | exact OutS.nil | exact GetS.hit | exact PutS.hit | apply GetS.miss rfl | apply PutS.miss rfl | apply OutS.cons | apply OutS.skip rfl)))
      exact hnext _ _ (by rw [Sg.put_len]; simp [Sg.push])
  · (repeat (first | ((first | apply o_move rfl rfl | apply o_easy1 rfl rfl rfl | apply o_ld rfl rfl (by assumption) (by first | rfl | assumption)); conv => lhs; whnf) | apply o_no rfl | refine o_b rfl rfl rfl (by constructor; omega) ?_ | refine o_f rfl rfl rfl (by constructor; omega) ?_ | (apply o_easy rfl rfl rfl; conv => lhs; whnf) | apply o_non rfl))
    (apply d_end rfl; (repeat (first | exact OutS.nil | exact GetS.hit | exact PutS.hit | apply GetS.miss rfl | apply PutS.miss rfl | apply OutS.cons | apply OutS.skip rfl)))
    ((repeat refine c_seq ?_); refine c_if rfl ?_)
    refine c_exit ?_
    show OkC _ _ _ _ _ _ _
    ((repeat refine c_seq ?_); refine c_region ?_; (repeat (first | ((first | apply o_move rfl rfl | apply o_easy1 rfl rfl rfl | apply o_ld rfl rfl (by assumption) (by first | rfl | assumption)); conv => lhs; whnf) | apply o_no rfl | refine o_b rfl rfl rfl (by constructor; omega) ?_ | refine o_f rfl rfl rfl (by constructor; omega) ?_ | (apply o_easy rfl rfl rfl; conv => lhs; whnf) | apply o_non rfl)); apply o_end; (repeat (first | exact OutS.nil | exact GetS.hit | exact PutS.hit | apply GetS.miss rfl | apply PutS.miss rfl | apply OutS.cons | apply OutS.skip rfl)))
    exact hnext _ _ (by rw [Sg.put_len]; simp [Sg.push])

/-- a round: the one of 2 -/
theorem rk2 (M L : Nat) (b : Bar) (t : List UInt8) (i : Nat) (c : UInt8) (x13 x6 x7 x37 : AV) (s : Sg) (hM : 5 ≤ M) (hc : t[i]? = some c) (htl : t.length < 2 ^ 40) (hb : b.w ≤ s.heap.length) {Q : Ex → Fr → Sg → Prop}
    (h : ∀ x7 s', s.heap.length ≤ s'.heap.length → OkL L (fun fr s => ACode.run (loopN M) (callF T M) b lp13_0 fr s) (fr13 t i 3 (.bool true) (.int .i64 2) x7 (.bool true)) s' Q)
    (hret : ∀ (r4 : Int) (r5 k K j N : Nat) (c : Int) (x49 x9 x10 x60 x80 : AV) (s' : Sg), PShape t i r5 → Q .ret (fr13c t i r4 r5 k K j N c x49 x9 x10 x60 x80) s') :
    OkL (L + 1) (fun fr s => ACode.run (loopN M) (callF T M) b lp13_0 fr s) (fr13 t i 2 x13 x6 x7 x37) s Q := by
  have hbl := Am.byteCells_length t
  have hil := lt_of_getElem? hc
  apply l_round
  ((repeat refine c_seq ?_); refine c_region ?_; (repeat (first | ((first | apply o_move rfl rfl | apply o_easy1 rfl rfl rfl | apply o_ld rfl rfl (by assumption) (by first | rfl | assumption)); conv => lhs; whnf) | apply o_no rfl | refine o_b rfl rfl rfl (by constructor; omega) ?_ | refine o_f rfl rfl rfl (by constructor; omega) ?_ | (apply o_easy rfl rfl rfl; conv => lhs; whnf) | apply o_non rfl)); apply o_end; (repeat (first | exact OutS.nil | exact GetS.hit | exact PutS.hit | apply GetS.miss rfl | apply PutS.miss rfl | apply OutS.cons | apply OutS.skip rfl)))
  ((repeat refine c_seq ?_); refine c_if rfl ?_)
  refine c_skip ?_
  ((repeat refine c_seq ?_); refine c_block ?_)
  ((repeat refine c_seq ?_); refine c_region ?_; (repeat (first | ((first | apply o_move rfl rfl | apply o_easy1 rfl rfl rfl | apply o_ld rfl rfl (by assumption) (by first | rfl | assumption)); conv => lhs; whnf) | apply o_no rfl | refine o_b rfl rfl rfl (by constructor; omega) ?_ | refine o_f rfl rfl rfl (by constructor; omega) ?_ | (apply o_easy rfl rfl rfl; conv => lhs; whnf) | apply o_non rfl)))
  refine o_alloc rfl ?_
  (repeat (first | ((first | apply o_move rfl rfl | apply o_easy1 rfl rfl rfl | apply o_ld rfl rfl (by assumption) (by first | rfl | assumption)); conv => lhs; whnf) | apply o_no rfl | refine o_b rfl rfl rfl (by constructor; omega) ?_ | refine o_f rfl rfl rfl (by constructor; omega) ?_ | (apply o_easy rfl rfl rfl; conv => lhs; whnf) | apply o_non rfl))
  have h7 := getCells_new s [.int .u8 0, .int .u8 0, .int .i64 0] 0
  refine o_st rfl rfl rfl rfl h7 rfl (lets_of (blt_no hb) (fun e => rfl)) (cs' := [.int .u8 224, .int .u8 192, .int .i64 128]) rfl ?_
  have h8 := getCells_put (cs' := [.int .u8 224, .int .u8 192, .int .i64 128]) (g' := 0) h7
  (apply o_end; (repeat (first | exact OutS.nil | exact GetS.hit | exact PutS.hit | apply GetS.miss rfl | apply PutS.miss rfl | apply OutS.cons | apply OutS.skip rfl)))
  have hnext := h
  ((repeat refine c_seq ?_); refine c_drawn ?_; (repeat (first | ((first | apply o_move rfl rfl | apply o_easy1 rfl rfl rfl | apply o_ld rfl rfl (by assumption) (by first | rfl | assumption)); conv => lhs; whnf) | apply o_no rfl | refine o_b rfl rfl rfl (by constructor; omega) ?_ | refine o_f rfl rfl rfl (by constructor; omega) ?_ | (apply o_easy rfl rfl rfl; conv => lhs; whnf) | apply o_non rfl)))
  refine o_ixvec (j := i) (v := .int .u8 c.toNat) rfl rfl rfl rfl (bc_get hc) rfl ?_
  (repeat (first | ((first | apply o_move rfl rfl | apply o_easy1 rfl rfl rfl | apply o_ld rfl rfl (by assumption) (by first | rfl | assumption)); conv => lhs; whnf) | apply o_no rfl | refine o_b rfl rfl rfl (by constructor; omega) ?_ | refine o_f rfl rfl rfl (by constructor; omega) ?_ | (apply o_easy rfl rfl rfl; conv => lhs; whnf) | apply o_non rfl))
  refine o_anyz rfl rfl rfl ⟨_, rfl⟩ fun z => ?_
  by_cases hz : z = 192
  · by_cases hlen : i + 2 ≤ t.length
    · (repeat (first | ((first | apply o_move rfl rfl | apply o_easy1 rfl rfl rfl | apply o_ld rfl rfl (by assumption) (by first | rfl | assumption)); conv => lhs; whnf) | apply o_no rfl | refine o_b rfl rfl rfl (by constructor; omega) ?_ | refine o_f rfl rfl rfl (by constructor; omega) ?_ | (apply o_easy rfl rfl rfl; conv => lhs; whnf) | apply o_non rfl))
      (apply d_end rfl; (repeat (first | exact OutS.nil | exact GetS.hit | exact PutS.hit | apply GetS.miss rfl | apply PutS.miss rfl | apply OutS.cons | apply OutS.skip rfl)))
      ((repeat refine c_seq ?_); refine c_else rfl ?_)
      refine c_skip ?_
      ((repeat refine c_seq ?_); refine c_drawn ?_; (repeat (first | ((first | apply o_move rfl rfl | apply o_easy1 rfl rfl rfl | apply o_ld rfl rfl (by assumption) (by first | rfl | assumption)); conv => lhs; whnf) | apply o_no rfl | refine o_b rfl rfl rfl (by constructor; omega) ?_ | refine o_f rfl rfl rfl (by constructor; omega) ?_ | (apply o_easy rfl rfl rfl; conv => lhs; whnf) | apply o_non rfl)))
      refine o_ixvec (j := i) (v := .int .u8 c.toNat) rfl rfl rfl rfl (bc_get hc) rfl ?_
      (repeat (first | ((first | apply o_move rfl rfl | apply o_easy1 rfl rfl rfl | apply o_ld rfl rfl (by assumption) (by first | rfl | assumption)); conv => lhs; whnf) | apply o_no rfl | refine o_b rfl rfl rfl (by constructor; omega) ?_ | refine o_f rfl rfl rfl (by constructor; omega) ?_ | (apply o_easy rfl rfl rfl; conv => lhs; whnf) | apply o_non rfl))
      refine o_anyz rfl rfl rfl ⟨_, rfl⟩ fun z1 => ?_
      refine o_anycv rfl rfl fun z2 => ?_
      (repeat (first | ((first | apply o_move rfl rfl | apply o_easy1 rfl rfl rfl | apply o_ld rfl rfl (by assumption) (by first | rfl | assumption)); conv => lhs; whnf) | apply o_no rfl | refine o_b rfl rfl rfl (by constructor; omega) ?_ | refine o_f rfl rfl rfl (by constructor; omega) ?_ | (apply o_easy rfl rfl rfl; conv => lhs; whnf) | apply o_non rfl))
      (apply d_end rfl; (repeat (first | exact OutS.nil | exact GetS.hit | exact PutS.hit | apply GetS.miss rfl | apply PutS.miss rfl | apply OutS.cons | apply OutS.skip rfl)))
      ((repeat refine c_seq ?_); refine c_region ?_; (repeat (first | ((first | apply o_move rfl rfl | apply o_easy1 rfl rfl rfl | apply o_ld rfl rfl (by assumption) (by first | rfl | assumption)); conv => lhs; whnf) | apply o_no rfl | refine o_b rfl rfl rfl (by constructor; omega) ?_ | refine o_f rfl rfl rfl (by constructor; omega) ?_ | (apply o_easy rfl rfl rfl; conv => lhs; whnf) | apply o_non rfl)); apply o_end; (repeat (first | exact OutS.nil | exact GetS.hit | exact PutS.hit | apply GetS.miss rfl | apply PutS.miss rfl | apply OutS.cons | apply OutS.skip rfl)))
      ((repeat refine c_seq ?_); refine c_block ?_)
      refine c_loop (x := lp13_1) ?_
      refine cont_loop M b t i 2 1 s.heap.length _ (by omega) htl ?_ ?_ 1 0 M z2 _ _ _ _ rfl (by omega) (fun j hj => absurd hj (Nat.not_lt_zero j))
      · intro z3 y49 y9 y10 y60 hct
        show OkC _ _ _ _ _ _ _
        by_cases h1 : z3 < 128
        · ((repeat refine c_seq ?_); refine c_region ?_; (repeat (first | ((first | apply o_move rfl rfl | apply o_easy1 rfl rfl rfl | apply o_ld rfl rfl (by assumption) (by first | rfl | assumption)); conv => lhs; whnf) | apply o_no rfl | refine o_b rfl rfl rfl (by constructor; omega) ?_ | refine o_f rfl rfl rfl (by constructor; omega) ?_ | (apply o_easy rfl rfl rfl; conv => lhs; whnf) | apply o_non rfl)); apply o_end; (repeat (first | exact OutS.nil | exact GetS.hit | exact PutS.hit | apply GetS.miss rfl | apply PutS.miss rfl | apply OutS.cons | apply OutS.skip rfl)))
          ((repeat refine c_seq ?_); refine c_if rfl ?_)
          ((repeat refine c_seq ?_); refine c_region ?_; (repeat (first | ((first | apply o_move rfl rfl | apply o_easy1 rfl rfl rfl | apply o_ld rfl rfl (by assumption) (by first | rfl | assumption)); conv => lhs; whnf) | apply o_no rfl | refine o_b rfl rfl rfl (by constructor; omega) ?_ | refine o_f rfl rfl rfl (by constructor; omega) ?_ | (apply o_easy rfl rfl rfl; conv => lhs; whnf) | apply o_non rfl)); apply o_end; (repeat (first | exact OutS.nil | exact GetS.hit | exact PutS.hit | apply GetS.miss rfl | apply PutS.miss rfl | apply OutS.cons | apply OutS.skip rfl)))
          exact c_ret (hret 0 0 2 1 1 _ z3 _ _ _ _ _ _ (.inl rfl))
        · by_cases h2 : z3 > 1114111
          · ((repeat refine c_seq ?_); refine c_region ?_; (repeat (first | ((first | apply o_move rfl rfl | apply o_easy1 rfl rfl rfl | apply o_ld rfl rfl (by assumption) (by first | rfl | assumption)); conv => lhs; whnf) | apply o_no rfl | refine o_b rfl rfl rfl (by constructor; omega) ?_ | refine o_f rfl rfl rfl (by constructor; omega) ?_ | (apply o_easy rfl rfl rfl; conv => lhs; whnf) | apply o_non rfl)); apply o_end; (repeat (first | exact OutS.nil | exact GetS.hit | exact PutS.hit | apply GetS.miss rfl | apply PutS.miss rfl | apply OutS.cons | apply OutS.skip rfl)))
            ((repeat refine c_seq ?_); refine c_if rfl ?_)
            ((repeat refine c_seq ?_); refine c_region ?_; (repeat (first | ((first | apply o_move rfl rfl | apply o_easy1 rfl rfl rfl | apply o_ld rfl rfl (by assumption) (by first | rfl | assumption)); conv => lhs; whnf) | apply o_no rfl | refine o_b rfl rfl rfl (by constructor; omega) ?_ | refine o_f rfl rfl rfl (by constructor; omega) ?_ | (apply o_easy rfl rfl rfl; conv => lhs; whnf) | apply o_non rfl)); apply o_end; (repeat (first | exact OutS.nil | exact GetS.hit | exact PutS.hit | apply GetS.miss rfl | apply PutS.miss rfl | apply OutS.cons | apply OutS.skip rfl)))
            exact c_ret (hret 0 0 2 1 1 _ z3 _ _ _ _ _ _ (.inl rfl))
          · ((repeat refine c_seq ?_); refine c_region ?_; (repeat (first | ((first | apply o_move rfl rfl | apply o_easy1 rfl rfl rfl | apply o_ld rfl rfl (by assumption) (by first | rfl | assumption)); conv => lhs; whnf) | apply o_no rfl | refine o_b rfl rfl rfl (by constructor; omega) ?_ | refine o_f rfl rfl rfl (by constructor; omega) ?_ | (apply o_easy rfl rfl rfl; conv => lhs; whnf) | apply o_non rfl)))
            refine o_anyz rfl rfl rfl ⟨_, rfl⟩ fun z4 => ?_
            by_cases h3 : z4 = 27
            · (repeat (first | ((first | apply o_move rfl rfl | apply o_easy1 rfl rfl rfl | apply o_ld rfl rfl (by assumption) (by first | rfl | assumption)); conv => lhs; whnf) | apply o_no rfl | refine o_b rfl rfl rfl (by constructor; omega) ?_ | refine o_f rfl rfl rfl (by constructor; omega) ?_ | (apply o_easy rfl rfl rfl; conv => lhs; whnf) | apply o_non rfl))
              (apply o_end; (repeat (first | exact OutS.nil | exact GetS.hit | exact PutS.hit | apply GetS.miss rfl | apply PutS.miss rfl | apply OutS.cons | apply OutS.skip rfl)))
              ((repeat refine c_seq ?_); refine c_if rfl ?_)
              ((repeat refine c_seq ?_); refine c_region ?_; (repeat (first | ((first | apply o_move rfl rfl | apply o_easy1 rfl rfl rfl | apply o_ld rfl rfl (by assumption) (by first | rfl | assumption)); conv => lhs; whnf) | apply o_no rfl | refine o_b rfl rfl rfl (by constructor; omega) ?_ | refine o_f rfl rfl rfl (by constructor; omega) ?_ | (apply o_easy rfl rfl rfl; conv => lhs; whnf) | apply o_non rfl)); apply o_end; (repeat (first | exact OutS.nil | exact GetS.hit | exact PutS.hit | apply GetS.miss rfl | apply PutS.miss rfl | apply OutS.cons | apply OutS.skip rfl)))
              exact c_ret (hret 0 0 2 1 1 _ z3 _ _ _ _ _ _ (.inl rfl))
            · (repeat (first | ((first | apply o_move rfl rfl | apply o_easy1 rfl rfl rfl | apply o_ld rfl rfl (by assumption) (by first | rfl | assumption)); conv => lhs; whnf) | apply o_no rfl | refine o_b rfl rfl rfl (by constructor; omega) ?_ | refine o_f rfl rfl rfl (by constructor; omega) ?_ | (apply o_easy rfl rfl rfl; conv => lhs; whnf) | apply o_non rfl))
              (apply o_end; (repeat (first | exact OutS.nil | exact GetS.hit | exact PutS.hit | apply GetS.miss rfl | apply PutS.miss rfl | apply OutS.cons | apply OutS.skip rfl)))
              ((repeat refine c_seq ?_); refine c_else rfl ?_)
              refine c_skip ?_
              ((repeat refine c_seq ?_); refine c_region ?_; (repeat (first | ((first | apply o_move rfl rfl | apply o_easy1 rfl rfl rfl | apply o_ld rfl rfl (by assumption) (by first | rfl | assumption)); conv => lhs; whnf) | apply o_no rfl | refine o_b rfl rfl rfl (by constructor; omega) ?_ | refine o_f rfl rfl rfl (by constructor; omega) ?_ | (apply o_easy rfl rfl rfl; conv => lhs; whnf) | apply o_non rfl)); apply o_end; (repeat (first | exact OutS.nil | exact GetS.hit | exact PutS.hit | apply GetS.miss rfl | apply PutS.miss rfl | apply OutS.cons | apply OutS.skip rfl)))
              exact c_ret (hret z3 2 2 1 1 _ z3 _ _ _ _ _ _ (.inr ⟨by omega, by omega, hlen, hct⟩))
      · intro j z3 y49 y9 y10 y60
        exact hret 0 0 2 1 j _ z3 _ _ _ _ _ _ (.inl rfl)
    · (repeat (first | ((first | apply o_move rfl rfl | apply o_easy1 rfl rfl rfl | apply o_ld rfl rfl (by assumption) (by first | rfl | assumption)); conv => lhs; whnf) | apply o_no rfl | refine o_b rfl rfl rfl (by constructor; omega) ?_ | refine o_f rfl rfl rfl (by constructor; omega) ?_ | (apply o_easy rfl rfl rfl; conv => lhs; whnf) | apply o_non rfl))
      (apply d_end rfl; (repeat (first | exact OutS.nil | exact GetS.hit | exact PutS.hit | apply GetS.miss rfl | apply PutS.miss rfl | apply OutS.cons | apply OutS.skip rfl)))
      ((repeat refine c_seq ?_); refine c_if rfl ?_)
      refine c_exit ?_
      show OkC _ _ _ _ _ _ _
      ((repeat refine c_seq ?_); refine c_region ?_; (repeat (first | ((first | apply o_move rfl rfl | apply o_easy1 rfl rfl rfl | apply o_ld rfl rfl (by assumption) (by first | rfl | assumption)); conv => lhs; whnf) | apply o_no rfl | refine o_b rfl rfl rfl (by constructor; omega) ?_ | refine o_f rfl rfl rfl (by constructor; omega) ?_ | (apply o_easy rfl rfl rfl; conv => lhs; whnf) | apply o_non rfl)); apply o_end; (repeat (first | exact OutS.nil | exact GetS.hit | exact PutS.hit | apply GetS.miss rfl | apply PutS.miss rfl | apply OutS.cons | apply OutS.skip rfl)))
      exact hnext _ _ (by rw [Sg.put_len]; simp [Sg.push])
  · (repeat (first | ((first | apply o_move rfl rfl | apply o_easy1 rfl rfl rfl | apply o_ld rfl rfl (by assumption) (by first | rfl | assumption)); conv => lhs; whnf) | apply o_no rfl | refine o_b rfl rfl rfl (by constructor; omega) ?_ | refine o_f rfl rfl rfl (by constructor; omega) ?_ | (apply o_easy rfl rfl rfl; conv => lhs; whnf) | apply o_non rfl))
    (apply d_end rfl; (repeat (first | exact OutS.nil | exact GetS.hit | exact PutS.hit | apply GetS.miss rfl | apply PutS.miss rfl | apply OutS.cons | apply OutS.skip rfl)))
    ((repeat refine c_seq ?_); refine c_if rfl ?_)
    refine c_exit ?_
    show OkC _ _ _ _ _ _ _
    ((repeat refine c_seq ?_); refine c_region ?_; (repeat (first | ((first | apply o_move rfl rfl | apply o_easy1 rfl rfl rfl | apply o_ld rfl rfl (by assumption) (by first | rfl | assumption)); conv => lhs; whnf) | apply o_no rfl | refine o_b rfl rfl rfl (by constructor; omega) ?_ | refine o_f rfl rfl rfl (by constructor; omega) ?_ | (apply o_easy rfl rfl rfl; conv => lhs; whnf) | apply o_non rfl)); apply o_end; (repeat (first | exact OutS.nil | exact GetS.hit | exact PutS.hit | apply GetS.miss rfl | apply PutS.miss rfl | apply OutS.cons | apply OutS.skip rfl)))
    exact hnext _ _ (by rw [Sg.put_len]; simp [Sg.push])

/-- a round: the one of 3 -/
theorem rk3 (M L : Nat) (b : Bar) (t : List UInt8) (i : Nat) (c : UInt8) (x13 x6 x7 x37 : AV) (s : Sg) (hM : 5 ≤ M) (hc : t[i]? = some c) (htl : t.length < 2 ^ 40) (hb : b.w ≤ s.heap.length) {Q : Ex → Fr → Sg → Prop}
    (h : ∀ x7 s', s.heap.length ≤ s'.heap.length → OkL L (fun fr s => ACode.run (loopN M) (callF T M) b lp13_0 fr s) (fr13 t i 4 (.bool true) (.int .i64 3) x7 (.bool true)) s' Q)
    (hret : ∀ (r4 : Int) (r5 k K j N : Nat) (c : Int) (x49 x9 x10 x60 x80 : AV) (s' : Sg), PShape t i r5 → Q .ret (fr13c t i r4 r5 k K j N c x49 x9 x10 x60 x80) s') :
    OkL (L + 1) (fun fr s => ACode.run (loopN M) (callF T M) b lp13_0 fr s) (fr13 t i 3 x13 x6 x7 x37) s Q := by
  have hbl := Am.byteCells_length t
  have hil := lt_of_getElem? hc
  apply l_round
  ((repeat refine c_seq ?_); refine c_region ?_; (repeat (first | ((first | apply o_move rfl rfl | apply o_easy1 rfl rfl rfl | apply o_ld rfl rfl (by assumption) (by first | rfl | assumption)); conv => lhs; whnf) | apply o_no rfl | refine o_b rfl rfl rfl (by constructor; omega) ?_ | refine o_f rfl rfl rfl (by constructor; omega) ?_ | (apply o_easy rfl rfl rfl; conv => lhs; whnf) | apply o_non rfl)); apply o_end; (repeat (first | exact OutS.nil | exact GetS.hit | exact PutS.hit | apply GetS.miss rfl | apply PutS.miss rfl | apply OutS.cons | apply OutS.skip rfl)))
  ((repeat refine c_seq ?_); refine c_if rfl ?_)
  refine c_skip ?_
  ((repeat refine c_seq ?_); refine c_block ?_)
  ((repeat refine c_seq ?_); refine c_region ?_; (repeat (first | ((first | apply o_move rfl rfl | apply o_easy1 rfl rfl rfl | apply o_ld rfl rfl (by assumption) (by first | rfl | assumption)); conv => lhs; whnf) | apply o_no rfl | refine o_b rfl rfl rfl (by constructor; omega) ?_ | refine o_f rfl rfl rfl (by constructor; omega) ?_ | (apply o_easy rfl rfl rfl; conv => lhs; whnf) | apply o_non rfl)))
  refine o_alloc rfl ?_
  (repeat (first | ((first | apply o_move rfl rfl | apply o_easy1 rfl rfl rfl | apply o_ld rfl rfl (by assumption) (by first | rfl | assumption)); conv => lhs; whnf) | apply o_no rfl | refine o_b rfl rfl rfl (by constructor; omega) ?_ | refine o_f rfl rfl rfl (by constructor; omega) ?_ | (apply o_easy rfl rfl rfl; conv => lhs; whnf) | apply o_non rfl))
  have h7 := getCells_new s [.int .u8 0, .int .u8 0, .int .i64 0] 0
  refine o_st rfl rfl rfl rfl h7 rfl (lets_of (blt_no hb) (fun e => rfl)) (cs' := [.int .u8 240, .int .u8 224, .int .i64 2048]) rfl ?_
  have h8 := getCells_put (cs' := [.int .u8 240, .int .u8 224, .int .i64 2048]) (g' := 0) h7
  (apply o_end; (repeat (first | exact OutS.nil | exact GetS.hit | exact PutS.hit | apply GetS.miss rfl | apply PutS.miss rfl | apply OutS.cons | apply OutS.skip rfl)))
  have hnext := h
  ((repeat refine c_seq ?_); refine c_drawn ?_; (repeat (first | ((first | apply o_move rfl rfl | apply o_easy1 rfl rfl rfl | apply o_ld rfl rfl (by assumption) (by first | rfl | assumption)); conv => lhs; whnf) | apply o_no rfl | refine o_b rfl rfl rfl (by constructor; omega) ?_ | refine o_f rfl rfl rfl (by constructor; omega) ?_ | (apply o_easy rfl rfl rfl; conv => lhs; whnf) | apply o_non rfl)))
  refine o_ixvec (j := i) (v := .int .u8 c.toNat) rfl rfl rfl rfl (bc_get hc) rfl ?_
  (repeat (first | ((first | apply o_move rfl rfl | apply o_easy1 rfl rfl rfl | apply o_ld rfl rfl (by assumption) (by first | rfl | assumption)); conv => lhs; whnf) | apply o_no rfl | refine o_b rfl rfl rfl (by constructor; omega) ?_ | refine o_f rfl rfl rfl (by constructor; omega) ?_ | (apply o_easy rfl rfl rfl; conv => lhs; whnf) | apply o_non rfl))
  refine o_anyz rfl rfl rfl ⟨_, rfl⟩ fun z => ?_
  by_cases hz : z = 224
  · by_cases hlen : i + 3 ≤ t.length
    · (repeat (first | ((first | apply o_move rfl rfl | apply o_easy1 rfl rfl rfl | apply o_ld rfl rfl (by assumption) (by first | rfl | assumption)); conv => lhs; whnf) | apply o_no rfl | refine o_b rfl rfl rfl (by constructor; omega) ?_ | refine o_f rfl rfl rfl (by constructor; omega) ?_ | (apply o_easy rfl rfl rfl; conv => lhs; whnf) | apply o_non rfl))
      (apply d_end rfl; (repeat (first | exact OutS.nil | exact GetS.hit | exact PutS.hit | apply GetS.miss rfl | apply PutS.miss rfl | apply OutS.cons | apply OutS.skip rfl)))
      ((repeat refine c_seq ?_); refine c_else rfl ?_)
      refine c_skip ?_
      ((repeat refine c_seq ?_); refine c_drawn ?_; (repeat (first | ((first | apply o_move rfl rfl | apply o_easy1 rfl rfl rfl | apply o_ld rfl rfl (by assumption) (by first | rfl | assumption)); conv => lhs; whnf) | apply o_no rfl | refine o_b rfl rfl rfl (by constructor; omega) ?_ | refine o_f rfl rfl rfl (by constructor; omega) ?_ | (apply o_easy rfl rfl rfl; conv => lhs; whnf) | apply o_non rfl)))
      refine o_ixvec (j := i) (v := .int .u8 c.toNat) rfl rfl rfl rfl (bc_get hc) rfl ?_
      (repeat (first | ((first | apply o_move rfl rfl | apply o_easy1 rfl rfl rfl | apply o_ld rfl rfl (by assumption) (by first | rfl | assumption)); conv => lhs; whnf) | apply o_no rfl | refine o_b rfl rfl rfl (by constructor; omega) ?_ | refine o_f rfl rfl rfl (by constructor; omega) ?_ | (apply o_easy rfl rfl rfl; conv => lhs; whnf) | apply o_non rfl))
      refine o_anyz rfl rfl rfl ⟨_, rfl⟩ fun z1 => ?_
      refine o_anycv rfl rfl fun z2 => ?_
      (repeat (first | ((first | apply o_move rfl rfl | apply o_easy1 rfl rfl rfl | apply o_ld rfl rfl (by assumption) (by first | rfl | assumption)); conv => lhs; whnf) | apply o_no rfl | refine o_b rfl rfl rfl (by constructor; omega) ?_ | refine o_f rfl rfl rfl (by constructor; omega) ?_ | (apply o_easy rfl rfl rfl; conv => lhs; whnf) | apply o_non rfl))
      (apply d_end rfl; (repeat (first | exact OutS.nil | exact GetS.hit | exact PutS.hit | apply GetS.miss rfl | apply PutS.miss rfl | apply OutS.cons | apply OutS.skip rfl)))
      ((repeat refine c_seq ?_); refine c_region ?_; (repeat (first | ((first | apply o_move rfl rfl | apply o_easy1 rfl rfl rfl | apply o_ld rfl rfl (by assumption) (by first | rfl | assumption)); conv => lhs; whnf) | apply o_no rfl | refine o_b rfl rfl rfl (by constructor; omega) ?_ | refine o_f rfl rfl rfl (by constructor; omega) ?_ | (apply o_easy rfl rfl rfl; conv => lhs; whnf) | apply o_non rfl)); apply o_end; (repeat (first | exact OutS.nil | exact GetS.hit | exact PutS.hit | apply GetS.miss rfl | apply PutS.miss rfl | apply OutS.cons | apply OutS.skip rfl)))
      ((repeat refine c_seq ?_); refine c_block ?_)
      refine c_loop (x := lp13_1) ?_
      refine cont_loop M b t i 3 2 s.heap.length _ (by omega) htl ?_ ?_ 2 0 M z2 _ _ _ _ rfl (by omega) (fun j hj => absurd hj (Nat.not_lt_zero j))
      · intro z3 y49 y9 y10 y60 hct
        show OkC _ _ _ _ _ _ _
        by_cases h1 : z3 < 2048
        · ((repeat refine c_seq ?_); refine c_region ?_; (repeat (first | ((first | apply o_move rfl rfl | apply o_easy1 rfl rfl rfl | apply o_ld rfl rfl (by assumption) (by first | rfl | assumption)); conv => lhs; whnf) | apply o_no rfl | refine o_b rfl rfl rfl (by constructor; omega) ?_ | refine o_f rfl rfl rfl (by constructor; omega) ?_ | (apply o_easy rfl rfl rfl; conv => lhs; whnf) | apply o_non rfl)); apply o_end; (repeat (first | exact OutS.nil | exact GetS.hit | exact PutS.hit | apply GetS.miss rfl | apply PutS.miss rfl | apply OutS.cons | apply OutS.skip rfl)))
          ((repeat refine c_seq ?_); refine c_if rfl ?_)
          ((repeat refine c_seq ?_); refine c_region ?_; (repeat (first | ((first | apply o_move rfl rfl | apply o_easy1 rfl rfl rfl | apply o_ld rfl rfl (by assumption) (by first | rfl | assumption)); conv => lhs; whnf) | apply o_no rfl | refine o_b rfl rfl rfl (by constructor; omega) ?_ | refine o_f rfl rfl rfl (by constructor; omega) ?_ | (apply o_easy rfl rfl rfl; conv => lhs; whnf) | apply o_non rfl)); apply o_end; (repeat (first | exact OutS.nil | exact GetS.hit | exact PutS.hit | apply GetS.miss rfl | apply PutS.miss rfl | apply OutS.cons | apply OutS.skip rfl)))
          exact c_ret (hret 0 0 3 2 2 _ z3 _ _ _ _ _ _ (.inl rfl))
        · by_cases h2 : z3 > 1114111
          · ((repeat refine c_seq ?_); refine c_region ?_; (repeat (first | ((first | apply o_move rfl rfl | apply o_easy1 rfl rfl rfl | apply o_ld rfl rfl (by assumption) (by first | rfl | assumption)); conv => lhs; whnf) | apply o_no rfl | refine o_b rfl rfl rfl (by constructor; omega) ?_ | refine o_f rfl rfl rfl (by constructor; omega) ?_ | (apply o_easy rfl rfl rfl; conv => lhs; whnf) | apply o_non rfl)); apply o_end; (repeat (first | exact OutS.nil | exact GetS.hit | exact PutS.hit | apply GetS.miss rfl | apply PutS.miss rfl | apply OutS.cons | apply OutS.skip rfl)))
            ((repeat refine c_seq ?_); refine c_if rfl ?_)
            ((repeat refine c_seq ?_); refine c_region ?_; (repeat (first | ((first | apply o_move rfl rfl | apply o_easy1 rfl rfl rfl | apply o_ld rfl rfl (by assumption) (by first | rfl | assumption)); conv => lhs; whnf) | apply o_no rfl | refine o_b rfl rfl rfl (by constructor; omega) ?_ | refine o_f rfl rfl rfl (by constructor; omega) ?_ | (apply o_easy rfl rfl rfl; conv => lhs; whnf) | apply o_non rfl)); apply o_end; (repeat (first | exact OutS.nil | exact GetS.hit | exact PutS.hit | apply GetS.miss rfl | apply PutS.miss rfl | apply OutS.cons | apply OutS.skip rfl)))
            exact c_ret (hret 0 0 3 2 2 _ z3 _ _ _ _ _ _ (.inl rfl))
          · ((repeat refine c_seq ?_); refine c_region ?_; (repeat (first | ((first | apply o_move rfl rfl | apply o_easy1 rfl rfl rfl | apply o_ld rfl rfl (by assumption) (by first | rfl | assumption)); conv => lhs; whnf) | apply o_no rfl | refine o_b rfl rfl rfl (by constructor; omega) ?_ | refine o_f rfl rfl rfl (by constructor; omega) ?_ | (apply o_easy rfl rfl rfl; conv => lhs; whnf) | apply o_non rfl)))
            refine o_anyz rfl rfl rfl ⟨_, rfl⟩ fun z4 => ?_
            by_cases h3 : z4 = 27
            · (repeat (first | ((first | apply o_move rfl rfl | apply o_easy1 rfl rfl rfl | apply o_ld rfl rfl (by assumption) (by first | rfl | assumption)); conv => lhs; whnf) | apply o_no rfl | refine o_b rfl rfl rfl (by constructor; omega) ?_ | refine o_f rfl rfl rfl (by constructor; omega) ?_ | (apply o_easy rfl rfl rfl; conv => lhs; whnf) | apply o_non rfl))
              (apply o_end; (repeat (first | exact OutS.nil | exact GetS.hit | exact PutS.hit | apply GetS.miss rfl | apply PutS.miss rfl | apply OutS.cons | apply OutS.skip rfl)))
              ((repeat refine c_seq ?_); refine c_if rfl ?_)
              ((repeat refine c_seq ?_); refine c_region ?_; (repeat (first | ((first | apply o_move rfl rfl | apply o_easy1 rfl rfl rfl | apply o_ld rfl rfl (by assumption) (by first | rfl | assumption)); conv => lhs; whnf) | apply o_no rfl | refine o_b rfl rfl rfl (by constructor; omega) ?_ | refine o_f rfl rfl rfl (by constructor; omega) ?_ | (apply o_easy rfl rfl rfl; conv => lhs; whnf) | apply o_non rfl)); apply o_end; (repeat (first | exact OutS.nil | exact GetS.hit | exact PutS.hit | apply GetS.miss rfl | apply PutS.miss rfl | apply OutS.cons | apply OutS.skip rfl)))
              exact c_ret (hret 0 0 3 2 2 _ z3 _ _ _ _ _ _ (.inl rfl))
            · (repeat (first | ((first | apply o_move rfl rfl | apply o_easy1 rfl rfl rfl | apply o_ld rfl rfl (by assumption) (by first | rfl | assumption)); conv => lhs; whnf) | apply o_no rfl | refine o_b rfl rfl rfl (by constructor; omega) ?_ | refine o_f rfl rfl rfl (by constructor; omega) ?_ | (apply o_easy rfl rfl rfl; conv => lhs; whnf) | apply o_non rfl))
              (apply o_end; (repeat (first | exact OutS.nil | exact GetS.hit | exact PutS.hit | apply GetS.miss rfl | apply PutS.miss rfl | apply OutS.cons | apply OutS.skip rfl)))
              ((repeat refine c_seq ?_); refine c_else rfl ?_)
              refine c_skip ?_
              ((repeat refine c_seq ?_); refine c_region ?_; (repeat (first | ((first | apply o_move rfl rfl | apply o_easy1 rfl rfl rfl | apply o_ld rfl rfl (by assumption) (by first | rfl | assumption)); conv => lhs; whnf) | apply o_no rfl | refine o_b rfl rfl rfl (by constructor; omega) ?_ | refine o_f rfl rfl rfl (by constructor; omega) ?_ | (apply o_easy rfl rfl rfl; conv => lhs; whnf) | apply o_non rfl)); apply o_end; (repeat (first | exact OutS.nil | exact GetS.hit | exact PutS.hit | apply GetS.miss rfl | apply PutS.miss rfl | apply OutS.cons | apply OutS.skip rfl)))
              exact c_ret (hret z3 3 3 2 2 _ z3 _ _ _ _ _ _ (.inr ⟨by omega, by omega, hlen, hct⟩))
      · intro j z3 y49 y9 y10 y60
        exact hret 0 0 3 2 j _ z3 _ _ _ _ _ _ (.inl rfl)
    · (repeat (first | ((first | apply o_move rfl rfl | apply o_easy1 rfl rfl rfl | apply o_ld rfl rfl (by assumption) (by first | rfl | assumption)); conv => lhs; whnf) | apply o_no rfl | refine o_b rfl rfl rfl (by constructor; omega) ?_ | refine o_f rfl rfl rfl (by constructor; omega) ?_ | (apply o_easy rfl rfl rfl; conv => lhs; whnf) | apply o_non rfl))
      (apply d_end rfl; (repeat (first | exact OutS.nil | exact GetS.hit | exact PutS.hit | apply GetS.miss rfl | apply PutS.miss rfl | apply OutS.cons | apply OutS.skip rfl)))
      ((repeat refine c_seq ?_); refine c_if rfl ?_)
      refine c_exit ?_
      show OkC _ _ _ _ _ _ _
      ((repeat refine c_seq ?_); refine c_region ?_; (repeat (first | ((first | apply o_move rfl rfl | apply o_easy1 rfl rfl rfl | apply o_ld rfl rfl (by assumption) (by first | rfl | assumption)); conv => lhs; whnf) | apply o_no rfl | refine o_b rfl rfl rfl (by constructor; omega) ?_ | refine o_f rfl rfl rfl (by constructor; omega) ?_ | (apply o_easy rfl rfl rfl; conv => lhs; whnf) | apply o_non rfl)); apply o_end; (repeat (first | exact OutS.nil | exact GetS.hit | exact PutS.hit | apply GetS.miss rfl | apply PutS.miss rfl | apply OutS.cons | apply OutS.skip rfl)))
      exact hnext _ _ (by rw [Sg.put_len]; simp [Sg.push])
  · (repeat (first | ((first | apply o_move rfl rfl | apply o_easy1 rfl rfl rfl | apply o_ld rfl rfl (by assumption) (by first | rfl | assumption)); conv => lhs; whnf) | apply o_no rfl | refine o_b rfl rfl rfl (by constructor; omega) ?_ | refine o_f rfl rfl rfl (by constructor; omega) ?_ | (apply o_easy rfl rfl rfl; conv => lhs; whnf) | apply o_non rfl))
    (apply d_end rfl; (repeat (first | exact OutS.nil | exact GetS.hit | exact PutS.hit | apply GetS.miss rfl | apply PutS.miss rfl | apply OutS.cons | apply OutS.skip rfl)))
    ((repeat refine c_seq ?_); refine c_if rfl ?_)
    refine c_exit ?_
    show OkC _ _ _ _ _ _ _
    ((repeat refine c_seq ?_); refine c_region ?_; (repeat (first | ((first | apply o_move rfl rfl | apply o_easy1 rfl rfl rfl | apply o_ld rfl rfl (by assumption) (by first | rfl | assumption)); conv => lhs; whnf) | apply o_no rfl | refine o_b rfl rfl rfl (by constructor; omega) ?_ | refine o_f rfl rfl rfl (by constructor; omega) ?_ | (apply o_easy rfl rfl rfl; conv => lhs; whnf) | apply o_non rfl)); apply o_end; (repeat (first | exact OutS.nil | exact GetS.hit | exact PutS.hit | apply GetS.miss rfl | apply PutS.miss rfl | apply OutS.cons | apply OutS.skip rfl)))
    exact hnext _ _ (by rw [Sg.put_len]; simp [Sg.push])

/-- a round: the one of 4 -/
theorem rk4 (M L : Nat) (b : Bar) (t : List UInt8) (i : Nat) (c : UInt8) (x13 x6 x7 x37 : AV) (s : Sg) (hM : 5 ≤ M) (hc : t[i]? = some c) (htl : t.length < 2 ^ 40) (hb : b.w ≤ s.heap.length) {Q : Ex → Fr → Sg → Prop}
    (h : ∀ x7 s', s.heap.length ≤ s'.heap.length → OkL L (fun fr s => ACode.run (loopN M) (callF T M) b lp13_0 fr s) (fr13 t i 5 (.bool true) (.int .i64 4) x7 (.bool true)) s' Q)
    (hret : ∀ (r4 : Int) (r5 k K j N : Nat) (c : Int) (x49 x9 x10 x60 x80 : AV) (s' : Sg), PShape t i r5 → Q .ret (fr13c t i r4 r5 k K j N c x49 x9 x10 x60 x80) s') :
    OkL (L + 1) (fun fr s => ACode.run (loopN M) (callF T M) b lp13_0 fr s) (fr13 t i 4 x13 x6 x7 x37) s Q := by
  have hbl := Am.byteCells_length t
  have hil := lt_of_getElem? hc
  apply l_round
  ((repeat refine c_seq ?_); refine c_region ?_; (repeat (first | ((first | apply o_move rfl rfl | apply o_easy1 rfl rfl rfl | apply o_ld rfl rfl (by assumption) (by first | rfl | assumption)); conv => lhs; whnf) | apply o_no rfl | refine o_b rfl rfl rfl (by constructor; omega) ?_ | refine o_f rfl rfl rfl (by constructor; omega) ?_ | (apply o_easy rfl rfl rfl; conv => lhs; whnf) | apply o_non rfl)); apply o_end; (repeat (first | exact OutS.nil | exact GetS.hit | exact PutS.hit | apply GetS.miss rfl | apply PutS.miss rfl | apply OutS.cons | apply OutS.skip rfl)))
  ((repeat refine c_seq ?_); refine c_if rfl ?_)
  refine c_skip ?_
  ((repeat refine c_seq ?_); refine c_block ?_)
  ((repeat refine c_seq ?_); refine c_region ?_; (repeat (first | ((first | apply o_move rfl rfl | apply o_easy1 rfl rfl rfl | apply o_ld rfl rfl (by assumption) (by first | rfl | assumption)); conv => lhs; whnf) | apply o_no rfl | refine o_b rfl rfl rfl (by constructor; omega) ?_ | refine o_f rfl rfl rfl (by constructor; omega) ?_ | (apply o_easy rfl rfl rfl; conv => lhs; whnf) | apply o_non rfl)))
  refine o_alloc rfl ?_
  (repeat (first | ((first | apply o_move rfl rfl | apply o_easy1 rfl rfl rfl | apply o_ld rfl rfl (by assumption) (by first | rfl | assumption)); conv => lhs; whnf) | apply o_no rfl | refine o_b rfl rfl rfl (by constructor; omega) ?_ | refine o_f rfl rfl rfl (by constructor; omega) ?_ | (apply o_easy rfl rfl rfl; conv => lhs; whnf) | apply o_non rfl))
  have h7 := getCells_new s [.int .u8 0, .int .u8 0, .int .i64 0] 0
  refine o_st rfl rfl rfl rfl h7 rfl (lets_of (blt_no hb) (fun e => rfl)) (cs' := [.int .u8 248, .int .u8 240, .int .i64 65536]) rfl ?_
  have h8 := getCells_put (cs' := [.int .u8 248, .int .u8 240, .int .i64 65536]) (g' := 0) h7
  (apply o_end; (repeat (first | exact OutS.nil | exact GetS.hit | exact PutS.hit | apply GetS.miss rfl | apply PutS.miss rfl | apply OutS.cons | apply OutS.skip rfl)))
  have hnext := h
  ((repeat refine c_seq ?_); refine c_drawn ?_; (repeat (first | ((first | apply o_move rfl rfl | apply o_easy1 rfl rfl rfl | apply o_ld rfl rfl (by assumption) (by first | rfl | assumption)); conv => lhs; whnf) | apply o_no rfl | refine o_b rfl rfl rfl (by constructor; omega) ?_ | refine o_f rfl rfl rfl (by constructor; omega) ?_ | (apply o_easy rfl rfl rfl; conv => lhs; whnf) | apply o_non rfl)))
  refine o_ixvec (j := i) (v := .int .u8 c.toNat) rfl rfl rfl rfl (bc_get hc) rfl ?_
  (repeat (first | ((first | apply o_move rfl rfl | apply o_easy1 rfl rfl rfl | apply o_ld rfl rfl (by assumption) (by first | rfl | assumption)); conv => lhs; whnf) | apply o_no rfl | refine o_b rfl rfl rfl (by constructor; omega) ?_ | refine o_f rfl rfl rfl (by constructor; omega) ?_ | (apply o_easy rfl rfl rfl; conv => lhs; whnf) | apply o_non rfl))
  refine o_anyz rfl rfl rfl ⟨_, rfl⟩ fun z => ?_
  by_cases hz : z = 240
  · by_cases hlen : i + 4 ≤ t.length
    · (repeat (first | ((first | apply o_move rfl rfl | apply o_easy1 rfl rfl rfl | apply o_ld rfl rfl (by assumption) (by first | rfl | assumption)); conv => lhs; whnf) | apply o_no rfl | refine o_b rfl rfl rfl (by constructor; omega) ?_ | refine o_f rfl rfl rfl (by constructor; omega) ?_ | (apply o_easy rfl rfl rfl; conv => lhs; whnf) | apply o_non rfl))
      (apply d_end rfl; (repeat (first | exact OutS.nil | exact GetS.hit | exact PutS.hit | apply GetS.miss rfl | apply PutS.miss rfl | apply OutS.cons | apply OutS.skip rfl)))
      ((repeat refine c_seq ?_); refine c_else rfl ?_)
      refine c_skip ?_
      ((repeat refine c_seq ?_); refine c_drawn ?_; (repeat (first | ((first | apply o_move rfl rfl | apply o_easy1 rfl rfl rfl | apply o_ld rfl rfl (by assumption) (by first | rfl | assumption)); conv => lhs; whnf) | apply o_no rfl | refine o_b rfl rfl rfl (by constructor; omega) ?_ | refine o_f rfl rfl rfl (by constructor; omega) ?_ | (apply o_easy rfl rfl rfl; conv => lhs; whnf) | apply o_non rfl)))
      refine o_ixvec (j := i) (v := .int .u8 c.toNat) rfl rfl rfl rfl (bc_get hc) rfl ?_
      (repeat (first | ((first | apply o_move rfl rfl | apply o_easy1 rfl rfl rfl | apply o_ld rfl rfl (by assumption) (by first | rfl | assumption)); conv => lhs; whnf) | apply o_no rfl | refine o_b rfl rfl rfl (by constructor; omega) ?_ | refine o_f rfl rfl rfl (by constructor; omega) ?_ | (apply o_easy rfl rfl rfl; conv => lhs; whnf) | apply o_non rfl))
      refine o_anyz rfl rfl rfl ⟨_, rfl⟩ fun z1 => ?_
      refine o_anycv rfl rfl fun z2 => ?_
      (repeat (first | ((first | apply o_move rfl rfl | apply o_easy1 rfl rfl rfl | apply o_ld rfl rfl (by assumption) (by first | rfl | assumption)); conv => lhs; whnf) | apply o_no rfl | refine o_b rfl rfl rfl (by constructor; omega) ?_ | refine o_f rfl rfl rfl (by constructor; omega) ?_ | (apply o_easy rfl rfl rfl; conv => lhs; whnf) | apply o_non rfl))
      (apply d_end rfl; (repeat (first | exact OutS.nil | exact GetS.hit | exact PutS.hit | apply GetS.miss rfl | apply PutS.miss rfl | apply OutS.cons | apply OutS.skip rfl)))
      ((repeat refine c_seq ?_); refine c_region ?_; (repeat (first | ((first | apply o_move rfl rfl | apply o_easy1 rfl rfl rfl | apply o_ld rfl rfl (by assumption) (by first | rfl | assumption)); conv => lhs; whnf) | apply o_no rfl | refine o_b rfl rfl rfl (by constructor; omega) ?_ | refine o_f rfl rfl rfl (by constructor; omega) ?_ | (apply o_easy rfl rfl rfl; conv => lhs; whnf) | apply o_non rfl)); apply o_end; (repeat (first | exact OutS.nil | exact GetS.hit | exact PutS.hit | apply GetS.miss rfl | apply PutS.miss rfl | apply OutS.cons | apply OutS.skip rfl)))
      ((repeat refine c_seq ?_); refine c_block ?_)
      refine c_loop (x := lp13_1) ?_
      refine cont_loop M b t i 4 3 s.heap.length _ (by omega) htl ?_ ?_ 3 0 M z2 _ _ _ _ rfl (by omega) (fun j hj => absurd hj (Nat.not_lt_zero j))
      · intro z3 y49 y9 y10 y60 hct
        show OkC _ _ _ _ _ _ _
        by_cases h1 : z3 < 65536
        · ((repeat refine c_seq ?_); refine c_region ?_; (repeat (first | ((first | apply o_move rfl rfl | apply o_easy1 rfl rfl rfl | apply o_ld rfl rfl (by assumption) (by first | rfl | assumption)); conv => lhs; whnf) | apply o_no rfl | refine o_b rfl rfl rfl (by constructor; omega) ?_ | refine o_f rfl rfl rfl (by constructor; omega) ?_ | (apply o_easy rfl rfl rfl; conv => lhs; whnf) | apply o_non rfl)); apply o_end; (repeat (first | exact OutS.nil | exact GetS.hit | exact PutS.hit | apply GetS.miss rfl | apply PutS.miss rfl | apply OutS.cons | apply OutS.skip rfl)))
          ((repeat refine c_seq ?_); refine c_if rfl ?_)
          ((repeat refine c_seq ?_); refine c_region ?_; (repeat (first | ((first | apply o_move rfl rfl | apply o_easy1 rfl rfl rfl | apply o_ld rfl rfl (by assumption) (by first | rfl | assumption)); conv => lhs; whnf) | apply o_no rfl | refine o_b rfl rfl rfl (by constructor; omega) ?_ | refine o_f rfl rfl rfl (by constructor; omega) ?_ | (apply o_easy rfl rfl rfl; conv => lhs; whnf) | apply o_non rfl)); apply o_end; (repeat (first | exact OutS.nil | exact GetS.hit | exact PutS.hit | apply GetS.miss rfl | apply PutS.miss rfl | apply OutS.cons | apply OutS.skip rfl)))
          exact c_ret (hret 0 0 4 3 3 _ z3 _ _ _ _ _ _ (.inl rfl))
        · by_cases h2 : z3 > 1114111
          · ((repeat refine c_seq ?_); refine c_region ?_; (repeat (first | ((first | apply o_move rfl rfl | apply o_easy1 rfl rfl rfl | apply o_ld rfl rfl (by assumption) (by first | rfl | assumption)); conv => lhs; whnf) | apply o_no rfl | refine o_b rfl rfl rfl (by constructor; omega) ?_ | refine o_f rfl rfl rfl (by constructor; omega) ?_ | (apply o_easy rfl rfl rfl; conv => lhs; whnf) | apply o_non rfl)); apply o_end; (repeat (first | exact OutS.nil | exact GetS.hit | exact PutS.hit | apply GetS.miss rfl | apply PutS.miss rfl | apply OutS.cons | apply OutS.skip rfl)))
            ((repeat refine c_seq ?_); refine c_if rfl ?_)
            ((repeat refine c_seq ?_); refine c_region ?_; (repeat (first | ((first | apply o_move rfl rfl | apply o_easy1 rfl rfl rfl | apply o_ld rfl rfl (by assumption) (by first | rfl | assumption)); conv => lhs; whnf) | apply o_no rfl | refine o_b rfl rfl rfl (by constructor; omega) ?_ | refine o_f rfl rfl rfl (by constructor; omega) ?_ | (apply o_easy rfl rfl rfl; conv => lhs; whnf) | apply o_non rfl)); apply o_end; (repeat (first | exact OutS.nil | exact GetS.hit | exact PutS.hit | apply GetS.miss rfl | apply PutS.miss rfl | apply OutS.cons | apply OutS.skip rfl)))
            exact c_ret (hret 0 0 4 3 3 _ z3 _ _ _ _ _ _ (.inl rfl))
          · ((repeat refine c_seq ?_); refine c_region ?_; (repeat (first | ((first | apply o_move rfl rfl | apply o_easy1 rfl rfl rfl | apply o_ld rfl rfl (by assumption) (by first | rfl | assumption)); conv => lhs; whnf) | apply o_no rfl | refine o_b rfl rfl rfl (by constructor; omega) ?_ | refine o_f rfl rfl rfl (by constructor; omega) ?_ | (apply o_easy rfl rfl rfl; conv => lhs; whnf) | apply o_non rfl)))
            refine o_anyz rfl rfl rfl ⟨_, rfl⟩ fun z4 => ?_
            by_cases h3 : z4 = 27
            · (repeat (first | ((first | apply o_move rfl rfl | apply o_easy1 rfl rfl rfl | apply o_ld rfl rfl (by assumption) (by first | rfl | assumption)); conv => lhs; whnf) | apply o_no rfl | refine o_b rfl rfl rfl (by constructor; omega) ?_ | refine o_f rfl rfl rfl (by constructor; omega) ?_ | (apply o_easy rfl rfl rfl; conv => lhs; whnf) | apply o_non rfl))
              (apply o_end; (repeat (first | exact OutS.nil | exact GetS.hit | exact PutS.hit | apply GetS.miss rfl | apply PutS.miss rfl | apply OutS.cons | apply OutS.skip rfl)))
              ((repeat refine c_seq ?_); refine c_if rfl ?_)
              ((repeat refine c_seq ?_); refine c_region ?_; (repeat (first | ((first | apply o_move rfl rfl | apply o_easy1 rfl rfl rfl | apply o_ld rfl rfl (by assumption) (by first | rfl | assumption)); conv => lhs; whnf) | apply o_no rfl | refine o_b rfl rfl rfl (by constructor; omega) ?_ | refine o_f rfl rfl rfl (by constructor; omega) ?_ | (apply o_easy rfl rfl rfl; conv => lhs; whnf) | apply o_non rfl)); apply o_end; (repeat (first | exact OutS.nil | exact GetS.hit | exact PutS.hit | apply GetS.miss rfl | apply PutS.miss rfl | apply OutS.cons | apply OutS.skip rfl)))
              exact c_ret (hret 0 0 4 3 3 _ z3 _ _ _ _ _ _ (.inl rfl))
            · (repeat (first | ((first | apply o_move rfl rfl | apply o_easy1 rfl rfl rfl | apply o_ld rfl rfl (by assumption) (by first | rfl | assumption)); conv => lhs; whnf) | apply o_no rfl | refine o_b rfl rfl rfl (by constructor; omega) ?_ | refine o_f rfl rfl rfl (by constructor; omega) ?_ | (apply o_easy rfl rfl rfl; conv => lhs; whnf) | apply o_non rfl))
              (apply o_end; (repeat (first | exact OutS.nil | exact GetS.hit | exact PutS.hit | apply GetS.miss rfl | apply PutS.miss rfl | apply OutS.cons | apply OutS.skip rfl)))
              ((repeat refine c_seq ?_); refine c_else rfl ?_)
              refine c_skip ?_
              ((repeat refine c_seq ?_); refine c_region ?_; (repeat (first | ((first | apply o_move rfl rfl | apply o_easy1 rfl rfl rfl | apply o_ld rfl rfl (by assumption) (by first | rfl | assumption)); conv => lhs; whnf) | apply o_no rfl | refine o_b rfl rfl rfl (by constructor; omega) ?_ | refine o_f rfl rfl rfl (by constructor; omega) ?_ | (apply o_easy rfl rfl rfl; conv => lhs; whnf) | apply o_non rfl)); apply o_end; (repeat (first | exact OutS.nil | exact GetS.hit | exact PutS.hit | apply GetS.miss rfl | apply PutS.miss rfl | apply OutS.cons | apply OutS.skip rfl)))
              exact c_ret (hret z3 4 4 3 3 _ z3 _ _ _ _ _ _ (.inr ⟨by omega, by omega, hlen, hct⟩))
      · intro j z3 y49 y9 y10 y60
        exact hret 0 0 4 3 j _ z3 _ _ _ _ _ _ (.inl rfl)
    · (repeat (first | ((first | apply o_move rfl rfl | apply o_easy1 rfl rfl rfl | apply o_ld rfl rfl (by assumption) (by first | rfl | assumption)); conv => lhs; whnf) | apply o_no rfl | refine o_b rfl rfl rfl (by constructor; omega) ?_ | refine o_f rfl rfl rfl (by constructor; omega) ?_ | (apply o_easy rfl rfl rfl; conv => lhs; whnf) | apply o_non rfl))
      (apply d_end rfl; (repeat (first | exact OutS.nil | exact GetS.hit | exact PutS.hit | apply GetS.miss rfl | apply PutS.miss rfl | apply OutS.cons | apply OutS.skip rfl)))
      ((repeat refine c_seq ?_); refine c_if rfl ?_)
      refine c_exit ?_
      show OkC _ _ _ _ _ _ _
      ((repeat refine c_seq ?_); refine c_region ?_; (repeat (first | ((first | apply o_move rfl rfl | apply o_easy1 rfl rfl rfl | apply o_ld rfl rfl (by assumption) (by first | rfl | assumption)); conv => lhs; whnf) | apply o_no rfl | refine o_b rfl rfl rfl (by constructor; omega) ?_ | refine o_f rfl rfl rfl (by constructor; omega) ?_ | (apply o_easy rfl rfl rfl; conv => lhs; whnf) | apply o_non rfl)); apply o_end; (repeat (first | exact OutS.nil | exact GetS.hit | exact PutS.hit | apply GetS.miss rfl | apply PutS.miss rfl | apply OutS.cons | apply OutS.skip rfl)))
      exact hnext _ _ (by rw [Sg.put_len]; simp [Sg.push])
  · (repeat (first | ((first | apply o_move rfl rfl | apply o_easy1 rfl rfl rfl | apply o_ld rfl rfl (by assumption) (by first | rfl | assumption)); conv => lhs; whnf) | apply o_no rfl | refine o_b rfl rfl rfl (by constructor; omega) ?_ | refine o_f rfl rfl rfl (by constructor; omega) ?_ | (apply o_easy rfl rfl rfl; conv => lhs; whnf) | apply o_non rfl))
    (apply d_end rfl; (repeat (first | exact OutS.nil | exact GetS.hit | exact PutS.hit | apply GetS.miss rfl | apply PutS.miss rfl | apply OutS.cons | apply OutS.skip rfl)))
    ((repeat refine c_seq ?_); refine c_if rfl ?_)
    refine c_exit ?_
    show OkC _ _ _ _ _ _ _
    ((repeat refine c_seq ?_); refine c_region ?_; (repeat (first | ((first | apply o_move rfl rfl | apply o_easy1 rfl rfl rfl | apply o_ld rfl rfl (by assumption) (by first | rfl | assumption)); conv => lhs; whnf) | apply o_no rfl | refine o_b rfl rfl rfl (by constructor; omega) ?_ | refine o_f rfl rfl rfl (by constructor; omega) ?_ | (apply o_easy rfl rfl rfl; conv => lhs; whnf) | apply o_non rfl)); apply o_end; (repeat (first | exact OutS.nil | exact GetS.hit | exact PutS.hit | apply GetS.miss rfl | apply PutS.miss rfl | apply OutS.cons | apply OutS.skip rfl)))
    exact hnext _ _ (by rw [Sg.put_len]; simp [Sg.push])

end Go.Tok
