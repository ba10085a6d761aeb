/-
  Of MatchLeft: what the functions that the law reaches come to.
-/
import Derived.Test.YtndindldlkdigabGreatDoorMltC
import Derived.Test.YtndindldlkdigabGreatDoorMltB

namespace Go.Vmm
open Go Go.Am Go.Proofs

/-- nothing in the abstract heap points beyond it -/
def Olds (s : Sg) : Prop := allOld s.heap.length s.heap = true

theorem allOld_iff {e : Nat} : ∀ {l : List AObj}, allOld e l = true ↔ ∀ o ∈ l, o.old e = true
  | [] => by simp [allOld]
  | o :: r => by simp [allOld, allOld_iff (l := r)]

theorem Olds.push {s : Sg} {o : AObj} (h : Olds s) (ho : o.old (s.heap.length + 1) = true) : Olds (s.push o) := by
  unfold Olds at *
  rw [allOld_iff] at h ⊢
  rw [Sg.push_len]
  intro x hx
  rcases List.mem_append.mp hx with hx | hx
  · exact objOld_le (by omega) (h x hx)
  · rw [List.mem_singleton.mp hx]; exact ho

theorem mem_setAt {α : Type} {o x : α} : ∀ {l : List α} {i : Nat}, x ∈ setAt l i o → x ∈ l ∨ x = o
  | [], _, h => by simp [setAt] at h
  | c :: r, 0, h => by
    simp only [setAt] at h
    rcases List.mem_cons.mp h with h | h
    · exact .inr h
    · exact .inl (List.mem_cons_of_mem _ h)
  | c :: r, n + 1, h => by
    simp only [setAt] at h
    rcases List.mem_cons.mp h with h | h
    · exact .inl (h ▸ List.mem_cons_self)
    · rcases mem_setAt h with h | h
      · exact .inl (List.mem_cons_of_mem _ h)
      · exact .inr h

theorem Olds.put {s : Sg} {i : Nat} {o : AObj} (h : Olds s) (ho : o.old s.heap.length = true) : Olds (s.put i o) := by
  unfold Olds at *
  rw [allOld_iff] at h ⊢
  rw [Sg.put_len]
  intro x hx
  rcases mem_setAt hx with hx | rfl
  · exact h x hx
  · exact ho

/-- the program of "[..]+" -/
def plusIns : List In := [i0, ⟨21, 0, 0, 0, 0, false⟩, ⟨22, 1, -1, 5, 0, false⟩, ⟨1, 0, 0, 0, 0, false⟩, ⟨20, 2, 0, 0, 0, false⟩, ⟨23, 0, 0, 0, 0, false⟩]

theorem plus_run [At0] (b : Bar) (ip : Nat) (pcs : PG) (t : List UInt8) (n : Nat) (z : Int → Bool) (s : Sg) (hip : ip < s.heap.length) (hpo : PrOk s.heap ip pcs.cs) (hpg : Pg s.heap s.heap.length pcs) (hreg : pcs.cs[3]? = some (.int .i64 2)) (hins : pcs.ins = plusIns) (ha : SetOk pcs 0 z) (ht : Many t At0.a n z) (hn : At0.a < n) (hold : Olds s) :
    OkF (callF T 5000 b 30 [.ptr ip 0 0, .agg (xs (.vec (Am.byteCells t) .shut))] s) fun o s' => s' = s ∧ ∃ tk, o = .ret (.agg (es8 1 (spansOf n) tk)) := by
  have hnl := ht.le
  have hnl2 := ht.len
  exact vmrun_spec (3 * (n - (At0.a + 1)) + 1 + 2 + 1 + 1 + 1 + 1) 4990 b ip pcs t 2 s (some n) hip hpo hpg hreg (by omega) (by omega) hold hnl2 (by omega) (by omega)
    fun b' im q ri oi l ko s' ext hw hes hB a1 a2 a3 a4 a5 a6 a7 a8 => run_plus 4990 b' im ip q { pcs with ext := ext } ri oi l ko t n z s' a1 a2 a3 a4 a5 a6 a7 a8 hw hes hins ⟨ha.ex⟩ ht hn hB

end Go.Vmm

namespace Go.Vmm
open Go Go.Am Go.Proofs

/-- a matcher, as it lies -/
structure MOk (h : List AObj) (mp ip A B : Nat) (v : AV) : Prop where
  m : ∃ mcs, getCells h mp 0 = some mcs ∧ mcs[14]? = some (.int .i64 0) ∧ mcs[16]? = some (.ptr ip 0 0) ∧ mcs[17]? = some (.bool false) ∧ mcs[18]? = some (.func 25 [] [.ptr A 0 0, .ptr B 0 0])
  a : getCells h A 0 = some [.ptr mp 0 0]
  b : getCells h B 0 = some [v]

theorem MOk.grow {s s' : Sg} {mp ip A B : Nat} {v : AV} (h : MOk s.heap mp ip A B v) (hg : Grow s s') : MOk s'.heap mp ip A B v := by
  obtain ⟨⟨mcs, h1, h2⟩, h3, h4⟩ := h
  exact ⟨⟨mcs, hg.get h1, h2⟩, hg.get h3, hg.get h4⟩

/-- may an attempt there have a match? -/
theorem may_spec (m : Nat) (b : Bar) (t : List UInt8) (i : Nat) (c : UInt8) (s : Sg) (mp ip A B : Nat) (v : AV) (z : Int → Bool) (ht : t.length < 2 ^ 40) (hc : t[i]? = some c) (h : MOk s.heap mp ip A B v) (hz : HasOk v z) :
    callF T (m + 7) b 25 [.vec (Am.byteCells t) .shut, .int .i64 i, .ptr A 0 0, .ptr B 0 0] s = some (.ret (.bool (z c.toNat)), s) := by
  obtain ⟨⟨mcs, hm, h14, h16, h17, h18⟩, hA, hB⟩ := h
  (apply f_of rfl rfl; (repeat (first | exact Shape.nil | (apply Shape.cons; conv => lhs; whnf))))
  refine qqV ?_
  refine qV ?_
  refine o_call rfl rfl (next_spec (m + 5) _ t i c s ht hc) ?_
  refine sV ?_
  refine eV ?_
  refine qV ?_
  refine o_call (l := [.agg [v], .int .i64 c.toNat]) rfl rfl (hz m _ c.toNat s) ?_
  refine sV ?_
  refine eV ?_
  exact c_ret rfl

theorem may_end (m : Nat) (b : Bar) (t : List UInt8) (s : Sg) (mp ip A B : Nat) (v : AV) (z : Int → Bool) (h : MOk s.heap mp ip A B v) (hz : HasOk v z) :
    callF T (m + 7) b 25 [.vec (Am.byteCells t) .shut, .int .i64 t.length, .ptr A 0 0, .ptr B 0 0] s = some (.ret (.bool (z (-1))), s) := by
  obtain ⟨⟨mcs, hm, h14, h16, h17, h18⟩, hA, hB⟩ := h
  (apply f_of rfl rfl; (repeat (first | exact Shape.nil | (apply Shape.cons; conv => lhs; whnf))))
  refine qqV ?_
  refine qV ?_
  refine o_call rfl rfl (next_end (m + 5) _ t t.length s rfl) ?_
  refine sV ?_
  refine eV ?_
  refine qV ?_
  refine o_call (l := [.agg [v], .int .i64 (-1)]) rfl rfl (hz m _ (-1) s) ?_
  refine sV ?_
  refine eV ?_
  exact c_ret rfl

/-- nothing is refused -/
theorem refused_spec (m : Nat) (b : Bar) (t : List UInt8) (o : Nat) (ho : o ≤ t.length) (s : Sg) (mp ip A B : Nat) (v : AV) (h : MOk s.heap mp ip A B v) :
    callF T (m + 1) b 10 [.ptr mp 0 0, .vec (Am.byteCells t) .shut, .int .i64 0, .int .i64 o] s = some (.ret (.int .i64 0), s) := by
  obtain ⟨⟨mcs, hm, h14, h16, h17, h18⟩, hA, hB⟩ := h
  have hbl := Am.byteCells_length t
  (apply f_of rfl rfl; (repeat (first | exact Shape.nil | (apply Shape.cons; conv => lhs; whnf))))
  refine qqV ?_
  refine bV ?_
  refine qqV ?_
  refine lV ?_
  refine qqV ?_
  refine lV ?_
  refine c_skip ?_
  refine qqV ?_
  refine lV ?_
  refine c_skip ?_
  refine qqV ?_
  exact c_ret rfl

end Go.Vmm

namespace Go.Vmm
open Go Go.Am Go.Proofs

/-- the loop 0 of function 11 -/
def lp11_0 : ACode := .block 1 (.seq (.region [⟨(some 20), .v (.fieldAddr 5 none (.tmp 5)), none⟩, ⟨(some 21), .v (.load none (.tmp 20)), none⟩, ⟨(some 22), .v (.fieldAddr 9 none (.tmp 5)), none⟩, ⟨(some 23), .v (.load none (.tmp 22)), none⟩, ⟨(some 24), .v (.build [(.int .i64 0), .nilsl, (.str []), (.int .i64 0), (.int .i64 0), (.int .i64 0), (.int .i64 0), (.bool false)] [(0, 1, (.const (.int .i64 2))), (5, 1, (.tmp 21)), (6, 1, (.tmp 23))]), none⟩, ⟨(some 12), .e (.alloc [(.int .i64 0), .nilsl, (.str []), (.int .i64 0), (.int .i64 0), (.int .i64 0), (.int .i64 0), (.bool false)]), none⟩, ⟨none, .e (.store 8 (.tmp 12) (.tmp 24)), none⟩] [12]) (.seq (.seq (.drawn [⟨(some 25), .v (.move (.tmp 10)), none⟩, ⟨(some 26), .v (.bin .and (.tmp 25) (.const (.int .i64 16384))), none⟩, ⟨(some 27), .v (.bin .neq (.tmp 26) (.const (.int .i64 0))), none⟩, ⟨(some 28), .v (.move (.tmp 27)), none⟩, ⟨(some 29), .v (.move (.tmp 0)), (some (28, false))⟩, ⟨(some 30), .v (.nilCheck (.tmp 29)), (some (28, false))⟩, ⟨(some 31), .v (.fieldAddr 18 none (.tmp 30)), (some (28, false))⟩, ⟨(some 32), .v (.load none (.tmp 31)), (some (28, false))⟩, ⟨(some 33), .v (.move (.tmp 9)), (some (28, false))⟩, ⟨(some 34), .v (.fieldAddr 3 none (.tmp 5)), (some (28, false))⟩, ⟨(some 35), .v (.load none (.tmp 34)), (some (28, false))⟩, ⟨(some 36), .callv (.tmp 32) [(.tmp 33), (.tmp 35)], (some (28, false))⟩, ⟨(some 37), .v (.pick (.tmp 28) (.const (.bool true)) (.tmp 36)), none⟩] [37] [] false 0) (.cond (.tmp 37) (.region [⟨(some 38), .v (.move (.tmp 1)), none⟩, ⟨(some 39), .v (.load (some 10) (.tmp 5)), none⟩, ⟨(some 40), .call 30 [(.tmp 38), (.tmp 39)], none⟩, ⟨none, .e (.store 8 (.tmp 12) (.tmp 40)), none⟩] []) (.skip))) (.seq (.seq (.region [⟨(some 41), .v (.fieldAddr 7 none (.tmp 12)), none⟩, ⟨(some 42), .v (.load none (.tmp 41)), none⟩, ⟨(some 43), .v (.move (.tmp 42)), none⟩, ⟨(some 44), .v (.fieldAddr 0 none (.tmp 11)), (some (43, true))⟩, ⟨(some 45), .v (.load none (.tmp 44)), (some (43, true))⟩, ⟨(some 46), .v (.bin .eql (.tmp 45) (.const (.int .i64 0))), (some (43, true))⟩, ⟨(some 47), .v (.pick (.tmp 43) (.tmp 46) (.const (.bool false))), none⟩] [47]) (.cond (.tmp 47) (.region [⟨(some 48), .v (.fieldAddr 3 none (.tmp 5)), none⟩, ⟨(some 49), .v (.load none (.tmp 48)), none⟩, ⟨(some 50), .v (.move (.tmp 9)), none⟩, ⟨(some 51), .v (.len 1 (.tmp 50)), none⟩, ⟨(some 52), .v (.build [(.int .i64 0), (.int .i64 0)] [(0, 1, (.tmp 49)), (1, 1, (.tmp 51))]), none⟩, ⟨(some 53), .v (.buildSl 2 (.agg [(.int .i64 0), (.int .i64 0)]) 1 [(0, (.tmp 52))]), none⟩, ⟨(some 54), .v (.build [(.int .i64 0), .nilsl, (.str [])] [(0, 1, (.const (.int .i64 2))), (1, 1, (.tmp 53))]), none⟩, ⟨none, .e (.store 3 (.tmp 11) (.tmp 54)), none⟩] []) (.skip))) (.seq (.drawn [⟨(some 55), .v (.fieldAddr 5 none (.tmp 12)), none⟩, ⟨(some 56), .v (.load none (.tmp 55)), none⟩, ⟨(some 57), .v (.fieldAddr 6 none (.tmp 12)), none⟩, ⟨(some 58), .v (.load none (.tmp 57)), none⟩, ⟨(some 59), .v (.fieldAddr 5 none (.tmp 5)), none⟩, ⟨none, .e (.store 1 (.tmp 59) (.tmp 56)), none⟩, ⟨(some 60), .v (.fieldAddr 9 none (.tmp 5)), none⟩, ⟨none, .e (.store 1 (.tmp 60) (.tmp 58)), none⟩] [] [.apart ⟨(some (.tmp 57)), none⟩ ⟨(some (.tmp 59)), none⟩] false 0) (.seq (.drawn [⟨(some 62), .v (.move (.tmp 9)), none⟩, ⟨(some 63), .v (.fieldAddr 3 none (.tmp 5)), none⟩, ⟨(some 64), .v (.load none (.tmp 63)), none⟩, ⟨(some 65), .v (.move (.tmp 0)), none⟩, ⟨(some 66), .v (.nilCheck (.tmp 65)), none⟩, ⟨(some 67), .v (.fieldAddr 17 none (.tmp 66)), none⟩, ⟨(some 68), .v (.load none (.tmp 67)), none⟩, ⟨(some 69), .call 26 [(.tmp 62), (.tmp 64), (.tmp 68)], none⟩, ⟨(some 61), .v (.move (.tmp 69)), none⟩, ⟨(some 70), .v (.extract (.tmp 61) 0), none⟩, ⟨(some 71), .v (.extract (.tmp 61) 1), none⟩, ⟨(some 13), .v (.move (.tmp 70)), none⟩, ⟨(some 14), .v (.move (.tmp 71)), none⟩] [14] [] false 0) (.seq (.seq (.region [⟨(some 72), .v (.fieldAddr 0 none (.tmp 12)), none⟩, ⟨(some 73), .v (.load none (.tmp 72)), none⟩] [73]) (.block 2 (.seq (.region [⟨(some 75), .v (.bin .eql (.tmp 73) (.const (.int .i64 1))), none⟩, ⟨(some 74), .v (.move (.tmp 75)), none⟩] [74]) (.cond (.tmp 74) (.seq (.drawn [⟨(some 76), .v (.fieldAddr 1 none (.tmp 12)), none⟩, ⟨(some 77), .v (.load none (.tmp 76)), none⟩, ⟨(some 78), .v (.fieldAddr 2 none (.tmp 12)), none⟩, ⟨(some 79), .v (.load none (.tmp 78)), none⟩, ⟨(some 80), .v (.build [(.int .i64 0), .nilsl, (.str [])] [(0, 1, (.const (.int .i64 1))), (1, 1, (.tmp 77)), (2, 1, (.tmp 79))]), none⟩, ⟨(some 81), .v (.fieldAddr 5 none (.tmp 12)), none⟩, ⟨(some 82), .v (.load none (.tmp 81)), none⟩, ⟨none, .e (.store 3 (.tmp 6) (.tmp 80)), none⟩, ⟨(some 7), .v (.move (.const (.int .i64 0))), none⟩, ⟨(some 8), .v (.move (.tmp 82)), none⟩] [7, 8] [.apart ⟨(some (.tmp 81)), none⟩ ⟨(some (.tmp 6)), none⟩] false 0) (.ret)) (.seq (.region [⟨(some 84), .v (.bin .eql (.tmp 73) (.const (.int .i64 6))), none⟩, ⟨(some 83), .v (.move (.tmp 84)), none⟩] [83]) (.cond (.tmp 83) (.seq (.drawn [⟨(some 85), .v (.fieldAddr 1 none (.tmp 12)), none⟩, ⟨(some 86), .v (.load none (.tmp 85)), none⟩, ⟨(some 87), .v (.build [(.int .i64 0), .nilsl, (.str [])] [(0, 1, (.const (.int .i64 2))), (1, 1, (.tmp 86))]), none⟩, ⟨(some 88), .v (.fieldAddr 5 none (.tmp 12)), none⟩, ⟨(some 89), .v (.load none (.tmp 88)), none⟩, ⟨none, .e (.store 3 (.tmp 6) (.tmp 87)), none⟩, ⟨(some 7), .v (.move (.const (.int .i64 0))), none⟩, ⟨(some 8), .v (.move (.tmp 89)), none⟩] [7, 8] [.apart ⟨(some (.tmp 88)), none⟩ ⟨(some (.tmp 6)), none⟩] false 0) (.ret)) (.seq (.region [⟨(some 91), .v (.bin .eql (.tmp 73) (.const (.int .i64 7))), none⟩, ⟨(some 90), .v (.move (.tmp 91)), none⟩] [90]) (.cond (.tmp 90) (.seq (.drawn [⟨(some 92), .v (.build [(.int .i64 0), .nilsl, (.str [])] []), none⟩, ⟨(some 93), .v (.fieldAddr 4 none (.tmp 12)), none⟩, ⟨(some 94), .v (.load none (.tmp 93)), none⟩, ⟨(some 95), .v (.fieldAddr 5 none (.tmp 12)), none⟩, ⟨(some 96), .v (.load none (.tmp 95)), none⟩, ⟨none, .e (.store 3 (.tmp 6) (.tmp 92)), none⟩, ⟨(some 7), .v (.move (.tmp 94)), none⟩, ⟨(some 8), .v (.move (.tmp 96)), none⟩] [7, 8] [.apart ⟨(some (.tmp 93)), none⟩ ⟨(some (.tmp 6)), none⟩, .apart ⟨(some (.tmp 95)), none⟩ ⟨(some (.tmp 6)), none⟩] false 0) (.ret)) (.seq (.region [⟨(some 98), .v (.bin .eql (.tmp 73) (.const (.int .i64 4))), none⟩, ⟨(some 97), .v (.move (.tmp 98)), none⟩] [97]) (.cond (.tmp 97) (.seq (.region [⟨(some 99), .v (.fieldAddr 3 none (.tmp 12)), none⟩, ⟨(some 100), .v (.load none (.tmp 99)), none⟩, ⟨(some 101), .v (.fieldAddr 3 none (.tmp 5)), none⟩, ⟨(some 102), .v (.load none (.tmp 101)), none⟩, ⟨(some 103), .v (.bin .gtr (.tmp 100) (.tmp 102)), none⟩] [103]) (.cond (.tmp 103) (.region [⟨(some 104), .v (.fieldAddr 3 none (.tmp 12)), none⟩, ⟨(some 105), .v (.load none (.tmp 104)), none⟩, ⟨(some 14), .v (.move (.tmp 105)), none⟩] [14]) (.skip))) (.skip))))))))))) (.seq (.seq (.region [⟨(some 106), .v (.fieldAddr 0 none (.tmp 12)), none⟩, ⟨(some 107), .v (.load none (.tmp 106)), none⟩, ⟨(some 108), .v (.bin .eql (.tmp 107) (.const (.int .i64 5))), none⟩, ⟨(some 109), .v (.move (.tmp 108)), none⟩, ⟨(some 110), .v (.move (.tmp 10)), (some (109, false))⟩, ⟨(some 111), .v (.bin .and (.tmp 110) (.const (.int .i64 64))), (some (109, false))⟩, ⟨(some 112), .v (.bin .neq (.tmp 111) (.const (.int .i64 0))), (some (109, false))⟩, ⟨(some 113), .v (.pick (.tmp 109) (.const (.bool true)) (.tmp 112)), none⟩, ⟨(some 114), .v (.move (.tmp 113)), none⟩, ⟨(some 115), .v (.fieldAddr 3 none (.tmp 5)), (some (114, false))⟩, ⟨(some 116), .v (.load none (.tmp 115)), (some (114, false))⟩, ⟨(some 117), .v (.move (.tmp 9)), (some (114, false))⟩, ⟨(some 118), .v (.len 1 (.tmp 117)), (some (114, false))⟩, ⟨(some 119), .v (.bin .eql (.tmp 116) (.tmp 118)), (some (114, false))⟩, ⟨(some 120), .v (.pick (.tmp 114) (.const (.bool true)) (.tmp 119)), none⟩] [120]) (.cond (.tmp 120) (.seq (.drawn [⟨(some 121), .v (.load (some 3) (.tmp 11)), none⟩, ⟨(some 122), .v (.fieldAddr 5 none (.tmp 12)), none⟩, ⟨(some 123), .v (.load none (.tmp 122)), none⟩, ⟨none, .e (.store 3 (.tmp 6) (.tmp 121)), none⟩, ⟨(some 7), .v (.move (.const (.int .i64 0))), none⟩, ⟨(some 8), .v (.move (.tmp 123)), none⟩] [7, 8] [.apart ⟨(some (.tmp 122)), none⟩ ⟨(some (.tmp 6)), none⟩] false 0) (.ret)) (.skip))) (.region [⟨(some 124), .v (.move (.tmp 14)), none⟩, ⟨(some 125), .v (.fieldAddr 3 none (.tmp 5)), none⟩, ⟨none, .e (.store 1 (.tmp 125) (.tmp 124)), none⟩] []))))))))

/-- an attempt's input, as it lies -/
def xin (t : List UInt8) (o a : Nat) : List AV := [.vec (Am.byteCells t) .shut, .int .i64 0, .int .i64 o, .int .i64 a, .nilsl, .int .i64 0, .int .i64 0, .int .i64 0, .int .i64 0, .int .i64 0]

theorem xin_old (n : Nat) (t : List UInt8) (o a : Nat) : (AObj.cells (xin t o a) 0).old n = true := by
  have := @oldAll_bytes ⟨0, 0⟩ n t
  simp only [AObj.old, xin, AV.oldAll, AV.old, this, Bool.and_self]

/-- nothing was found -/
def fnd0 : List AV := [.int .i64 0, .nilsl, .str []]
/-- what is found -/
def fnd (a n : Nat) : List AV := [.int .i64 1, .vec [.agg [.int .i64 a, .int .i64 n]] (.exact true), .str []]

abbrev afr (mp ip X R N : Nat) (t : List UInt8) (o a : Nat) (u1 u2 u3 u4 u5 u6 u7 u8 u9 u10 u11 : AV) : Fr := ⟨[(0, .ptr mp 0 0), (1, .ptr ip 0 0), (2, .agg (xin t o a)), (6, .ptr R 0 0), (7, .int .i64 0), (8, .int .i64 0), (5, .ptr X 0 0), (10, .int .i64 0), (9, .vec (Am.byteCells t) .shut), (37, u1), (12, u2), (11, .ptr N 0 0), (47, u3), (73, u4), (74, u5), (83, u6), (90, u7), (97, u8), (103, u9), (120, u10), (14, u11)], [], .off⟩

/-- a state within attempts -/
structure AOk (s0 s : Sg) (X R N : Nat) (t : List UInt8) (o i : Nat) : Prop where
  g : Grow s0 s
  x : getCells s.heap X 0 = some (xin t o i)
  r : getCells s.heap R 0 = some fnd0
  n : getCells s.heap N 0 = some fnd0
  old : Olds s
  ids : s0.heap.length ≤ X ∧ s0.heap.length ≤ R ∧ s0.heap.length ≤ N ∧ X ≠ R ∧ X ≠ N ∧ R ≠ N

/-- a round where there is no match -/
theorem att_skip (b : Bar) (s0 s : Sg) (X R N mp ip A B : Nat) (v : AV) (z : Int → Bool) (t : List UInt8) (o a i : Nat) (c : UInt8) (ht : t.length < 1000) (hbw : b.w ≤ s0.heap.length) (hes : b.es = []) (h : AOk s0 s X R N t o i) (hm : MOk s0.heap mp ip A B v) (hz : HasOk v z) (hc : t[i]? = some c) (hcz : z c.toNat = false) (u1 u2 u3 u4 u5 u6 u7 u8 u9 u10 u11 : AV) (k : Nat) (Q : Ex → Fr → Sg → Prop)
    (hy : ∀ s' w1 w2 w3 w4 w5 w6 w7 w8 w9 w10 w11, AOk s0 s' X R N t o (i + 1) → OkL k (fun fr s => ACode.run (loopN 5000) (callF T 5000) b lp11_0 fr s) (afr mp ip X R N t o a w1 w2 w3 w4 w5 w6 w7 w8 w9 w10 w11) s' Q) :
    OkL (k + 1) (fun fr s => ACode.run (loopN 5000) (callF T 5000) b lp11_0 fr s) (afr mp ip X R N t o a u1 u2 u3 u4 u5 u6 u7 u8 u9 u10 u11) s Q := by
  have hil := lt_of_getElem? hc
  have hbl := Am.byteCells_length t
  obtain ⟨hg, hx, hr, hn, hold, i1, i2, i3, i4, i5, i6⟩ := h
  have hmk := hm.grow hg
  have hxl := getCells_lt hx
  refine l_round ?_
  refine c_block ?_
  refine c_seq ?_
  refine qV ?_
  refine o_alloc rfl ?_
  refine o_st (l := es8 2 .nilsl 0) rfl rfl rfl rfl (getCells_new _ _ 0) rfl (lets_nil (blt_no (by have := hg.len; omega)) hes) (cs' := es8 2 .nilsl 0) rfl ?_
  rw [push_put]
  refine eV ?_
  have hE := getCells_new s (es8 2 .nilsl 0) 0
  have hx1 := getCells_push (.cells (es8 2 .nilsl 0) 0) hx
  have hr1 := getCells_push (.cells (es8 2 .nilsl 0) 0) hr
  have hn1 := getCells_push (.cells (es8 2 .nilsl 0) 0) hn
  have hg1 := hg.push (.cells (es8 2 .nilsl 0) 0)
  have ho1 := hold.push (o := .cells (es8 2 .nilsl 0) 0) rfl
  have hm1 := hm.grow hg1
  have hL := Sg.push_len s (.cells (es8 2 .nilsl 0) 0)
  change OkC _ _ _ _ _ (s.push (.cells (es8 2 .nilsl 0) 0)) _
  generalize s.push (.cells (es8 2 .nilsl 0) 0) = s1 at hE hx1 hr1 hn1 hg1 ho1 hm1 hL ⊢
  obtain ⟨⟨mcs, hm0, h14, h16, h17, h18⟩, hA, hB⟩ := id hm1
  refine c_seq ?_
  refine dqV ?_
  refine o_w (v := .int .i64 0) rfl rfl ?_
  refine sV ?_
  refine o_callv rfl rfl rfl rfl (may_spec 4993 _ t i c s1 mp ip A B v z (by omega) hc hm1 hz) ?_
  rw [hcz]
  refine sV ?_
  refine dV ?_
  refine lV ?_
  refine c_skip ?_
  refine qqV ?_
  refine lV ?_
  refine c_skip ?_
  refine c_seq ?_
  refine dqV ?_
  refine o_st rfl rfl rfl rfl hx1 rfl (lets_nil (blt_no (by show b.w ≤ _; omega)) hes) (cs' := xin t o i) rfl ?_
  rw [Sg.put_same hx1]
  refine sV ?_
  refine o_st rfl rfl rfl rfl hx1 rfl (lets_nil (blt_no (by show b.w ≤ _; omega)) hes) (cs' := xin t o i) rfl ?_
  rw [Sg.put_same hx1]
  refine d_end (by show (!(Nat.beq s.heap.length X) && true) = true; rw [beq_no (by omega)]; rfl) (by (repeat (first | exact OutS.nil | exact GetS.hit | exact PutS.hit | apply GetS.miss rfl | apply PutS.miss rfl | apply OutS.cons | apply OutS.skip rfl))) ?_
  refine c_seq ?_
  refine dqV ?_
  refine o_call rfl rfl (next_spec 4999 _ t i c s1 (by omega) hc) ?_
  refine sV ?_
  refine dV ?_
  refine qqV ?_
  refine bV ?_
  refine qqV ?_
  refine lV ?_
  refine qqV ?_
  refine lV ?_
  refine qqV ?_
  refine lV ?_
  refine qqV ?_
  refine lV ?_
  refine c_skip ?_
  refine c_seq ?_
  refine qV ?_
  refine o_w (v := .int .i64 0) rfl rfl ?_
  refine sV ?_
  refine eV ?_
  refine lV ?_
  refine c_skip ?_
  refine qV ?_
  refine o_st rfl rfl rfl rfl hx1 rfl (lets_nil (blt_no (by show b.w ≤ _; omega)) hes) (cs' := xin t o (i + 1)) rfl ?_
  refine eV ?_
  exact hy _ _ _ _ _ _ _ _ _ _ _ _ ⟨hg1.put_new (by omega) _, getCells_put hx1, getCells_put_ne (by omega) hr1, getCells_put_ne (by omega) hn1, ho1.put (xin_old ..), i1, i2, i3, i4, i5, i6⟩

end Go.Vmm

namespace Go.Vmm
open Go Go.Am Go.Proofs

/-- a round at the end: nothing was found -/
theorem att_end (b : Bar) (s0 s : Sg) (X R N mp ip A B : Nat) (v : AV) (z : Int → Bool) (t : List UInt8) (o a : Nat) (ht : t.length < 1000) (hbw : b.w ≤ s0.heap.length) (hes : b.es = []) (h : AOk s0 s X R N t o t.length) (hm : MOk s0.heap mp ip A B v) (hz : HasOk v z) (hz1 : z (-1) = false) (u1 u2 u3 u4 u5 u6 u7 u8 u9 u10 u11 : AV) (k : Nat) (Q : Ex → Fr → Sg → Prop)
    (hy : ∀ s' w1 w2 w3 w4 w5 w6 w7 w8 w9 w10 w11, Grow s0 s' → getCells s'.heap R 0 = some fnd0 → Q .ret (afr mp ip X R N t o a w1 w2 w3 w4 w5 w6 w7 w8 w9 w10 w11) s') :
    OkL (k + 1) (fun fr s => ACode.run (loopN 5000) (callF T 5000) b lp11_0 fr s) (afr mp ip X R N t o a u1 u2 u3 u4 u5 u6 u7 u8 u9 u10 u11) s Q := by
  have hbl := Am.byteCells_length t
  obtain ⟨hg, hx, hr, hn, hold, i1, i2, i3, i4, i5, i6⟩ := h
  have hmk := hm.grow hg
  have hxl := getCells_lt hx
  have hrl := getCells_lt hr
  refine l_round ?_
  refine c_block ?_
  refine c_seq ?_
  refine qV ?_
  refine o_alloc rfl ?_
  refine o_st (l := es8 2 .nilsl 0) rfl rfl rfl rfl (getCells_new _ _ 0) rfl (lets_nil (blt_no (by have := hg.len; omega)) hes) (cs' := es8 2 .nilsl 0) rfl ?_
  rw [push_put]
  refine eV ?_
  have hE := getCells_new s (es8 2 .nilsl 0) 0
  have hx1 := getCells_push (.cells (es8 2 .nilsl 0) 0) hx
  have hr1 := getCells_push (.cells (es8 2 .nilsl 0) 0) hr
  have hn1 := getCells_push (.cells (es8 2 .nilsl 0) 0) hn
  have hg1 := hg.push (.cells (es8 2 .nilsl 0) 0)
  have hm1 := hm.grow hg1
  have hL := Sg.push_len s (.cells (es8 2 .nilsl 0) 0)
  change OkC _ _ _ _ _ (s.push (.cells (es8 2 .nilsl 0) 0)) _
  generalize s.push (.cells (es8 2 .nilsl 0) 0) = s1 at hE hx1 hr1 hn1 hg1 hm1 hL ⊢
  obtain ⟨⟨mcs, hm0, h14, h16, h17, h18⟩, hA, hB⟩ := id hm1
  refine c_seq ?_
  refine dqV ?_
  refine o_w (v := .int .i64 0) rfl rfl ?_
  refine sV ?_
  refine o_callv rfl rfl rfl rfl (may_end 4993 _ t s1 mp ip A B v z hm1 hz) ?_
  rw [hz1]
  refine sV ?_
  refine dV ?_
  refine lV ?_
  refine c_skip ?_
  refine qqV ?_
  refine lV ?_
  refine c_skip ?_
  refine c_seq ?_
  refine dqV ?_
  refine o_st rfl rfl rfl rfl hx1 rfl (lets_nil (blt_no (by show b.w ≤ _; omega)) hes) (cs' := xin t o t.length) rfl ?_
  rw [Sg.put_same hx1]
  refine sV ?_
  refine o_st rfl rfl rfl rfl hx1 rfl (lets_nil (blt_no (by show b.w ≤ _; omega)) hes) (cs' := xin t o t.length) rfl ?_
  rw [Sg.put_same hx1]
  refine d_end (by show (!(Nat.beq s.heap.length X) && true) = true; rw [beq_no (by omega)]; rfl) (by (repeat (first | exact OutS.nil | exact GetS.hit | exact PutS.hit | apply GetS.miss rfl | apply PutS.miss rfl | apply OutS.cons | apply OutS.skip rfl))) ?_
  refine c_seq ?_
  refine dqV ?_
  refine o_call rfl rfl (next_end 4999 _ t t.length s1 rfl) ?_
  refine sV ?_
  refine dV ?_
  refine qqV ?_
  refine bV ?_
  refine qqV ?_
  refine lV ?_
  refine qqV ?_
  refine lV ?_
  refine qqV ?_
  refine lV ?_
  refine qqV ?_
  refine lV ?_
  refine c_skip ?_
  refine c_seq ?_
  refine qV ?_
  refine o_w (v := .int .i64 0) rfl rfl ?_
  refine sV ?_
  refine eV ?_
  refine iV ?_
  refine c_seq ?_
  refine dqV ?_
  refine o_st (l := fnd0) rfl rfl rfl rfl hr1 rfl (lets_nil (blt_no (by show b.w ≤ _; omega)) hes) (cs' := fnd0) rfl ?_
  rw [Sg.put_same hr1]
  refine sV ?_
  refine d_end (by show (!(Nat.beq s.heap.length R) && true) = true; rw [beq_no (by omega)]; rfl) (by (repeat (first | exact OutS.nil | exact GetS.hit | exact PutS.hit | apply GetS.miss rfl | apply PutS.miss rfl | apply OutS.cons | apply OutS.skip rfl))) ?_
  refine c_ret ?_
  exact hy _ _ _ _ _ _ _ _ _ _ _ _ hg1 hr1

/-- a round that matches -/
theorem att_match (b : Bar) (s0 s : Sg) (X R N mp ip A B : Nat) (v : AV) (z : Int → Bool) (pcs : PG) (t : List UInt8) (o a i n : Nat) (hbw : b.w ≤ s0.heap.length) (hes : b.es = []) (h : AOk s0 s X R N t o i) (hm : MOk s0.heap mp ip A B v) (hz : HasOk v z)
    (hip : ip < s0.heap.length) (hpo : PrOk s0.heap ip pcs.cs) (hpg : Pg s0.heap s0.heap.length pcs) (hreg : pcs.cs[3]? = some (.int .i64 2)) (hins : pcs.ins = plusIns) (ha : SetOk pcs 0 z) (hmn : Many t i n z) (hn : i < n) (u1 u2 u3 u4 u5 u6 u7 u8 u9 u10 u11 : AV) (k : Nat) (Q : Ex → Fr → Sg → Prop)
    (hy : ∀ s' w1 w2 w3 w4 w5 w6 w7 w8 w9 w10 w11, Grow s0 s' → getCells s'.heap R 0 = some (fnd i n) → Q .ret (afr mp ip X R N t o a w1 w2 w3 w4 w5 w6 w7 w8 w9 w10 w11) s') :
    OkL (k + 1) (fun fr s => ACode.run (loopN 5000) (callF T 5000) b lp11_0 fr s) (afr mp ip X R N t o a u1 u2 u3 u4 u5 u6 u7 u8 u9 u10 u11) s Q := by
  have hbl := Am.byteCells_length t
  have ht := hmn.len
  obtain ⟨c, hc, hcz⟩ := hmn.all i (Nat.le_refl _) hn
  obtain ⟨hg, hx, hr, hnn, hold, i1, i2, i3, i4, i5, i6⟩ := h
  have hmk := hm.grow hg
  have hxl := getCells_lt hx
  have hrl := getCells_lt hr
  refine l_round ?_
  refine c_block ?_
  refine c_seq ?_
  refine qV ?_
  refine o_alloc rfl ?_
  refine o_st (l := es8 2 .nilsl 0) rfl rfl rfl rfl (getCells_new _ _ 0) rfl (lets_nil (blt_no (by have := hg.len; omega)) hes) (cs' := es8 2 .nilsl 0) rfl ?_
  rw [push_put]
  refine eV ?_
  have hE := getCells_new s (es8 2 .nilsl 0) 0
  have hx1 := getCells_push (.cells (es8 2 .nilsl 0) 0) hx
  have hr1 := getCells_push (.cells (es8 2 .nilsl 0) 0) hr
  have hn1 := getCells_push (.cells (es8 2 .nilsl 0) 0) hnn
  have hg1 := hg.push (.cells (es8 2 .nilsl 0) 0)
  have ho1 := hold.push (o := .cells (es8 2 .nilsl 0) 0) rfl
  have hm1 := hm.grow hg1
  have hL := Sg.push_len s (.cells (es8 2 .nilsl 0) 0)
  change OkC _ _ _ _ _ (s.push (.cells (es8 2 .nilsl 0) 0)) _
  generalize s.push (.cells (es8 2 .nilsl 0) 0) = s1 at hE hx1 hr1 hn1 hg1 ho1 hm1 hL ⊢
  have hL1 := hg1.len
  obtain ⟨⟨mcs, hm0, h14, h16, h17, h18⟩, hA, hB⟩ := id hm1
  refine c_seq ?_
  refine dqV ?_
  refine o_w (v := .int .i64 0) rfl rfl ?_
  refine sV ?_
  refine o_callv rfl rfl rfl rfl (may_spec 4993 _ t i c s1 mp ip A B v z (by omega) hc hm1 hz) ?_
  rw [hcz]
  refine sV ?_
  refine dV ?_
  refine iV ?_
  refine qV ?_
  letI : At0 := ⟨i, o⟩
  have hpg1 : Pg s1.heap s1.heap.length pcs := by
    obtain ⟨⟨j, w, g1, g2, g3⟩, ⟨j', w', g4, g5, g6⟩⟩ := hpg
    exact ⟨⟨j, w, g1, by omega, hg1.get g3⟩, ⟨j', w', g4, by omega, hg1.get g6⟩⟩
  refine o_callw (l := [.ptr ip 0 0, .agg (xs (.vec (Am.byteCells t) .shut))]) rfl rfl ((plus_run _ ip pcs t n z s1 (by omega) ⟨hg1.get hpo.1, hpo.2, hpo.3⟩ hpg1 hreg hins ha hmn hn ho1).mono ?_)
  rintro _ s2 ⟨rfl, tk, rfl⟩
  refine o_st (l := es8 1 (spansOf n) tk) rfl rfl rfl rfl hE rfl (lets_nil (blt_no (by show b.w ≤ _; have := hg.len; omega)) hes) (cs' := es8 1 (spansOf n) tk) rfl ?_
  refine eV ?_
  have hE2 := getCells_put (cs' := es8 1 (spansOf n) tk) (g' := 0) hE
  have hx2 := getCells_put_ne (i := s.heap.length) (o := .cells (es8 1 (spansOf n) tk) 0) (by omega) hx1
  have hr2 := getCells_put_ne (i := s.heap.length) (o := .cells (es8 1 (spansOf n) tk) 0) (by omega) hr1
  have hg2 := hg1.put_new (i := s.heap.length) (by have := hg.len; omega) (.cells (es8 1 (spansOf n) tk) 0)
  have hm2 := hm.grow hg2
  generalize s2.put s.heap.length (.cells (es8 1 (spansOf n) tk) 0) = s3 at hE2 hx2 hr2 hg2 hm2 ⊢
  obtain ⟨⟨mcs', hm0', h14', h16', h17', h18'⟩, hA', hB'⟩ := id hm2
  refine qqV ?_
  refine lV ?_
  refine c_skip ?_
  refine c_seq ?_
  refine dqV ?_
  refine o_st rfl rfl rfl rfl hx2 rfl (lets_nil (blt_no (by show b.w ≤ _; omega)) hes) (cs' := xin t o i) rfl ?_
  rw [Sg.put_same hx2]
  refine sV ?_
  refine o_st (l := [.int .i64 tk]) rfl rfl rfl rfl hx2 rfl (lets_nil (blt_no (by show b.w ≤ _; omega)) hes) rfl ?_
  refine d_end (by show (!(Nat.beq s.heap.length X) && true) = true; rw [beq_no (by omega)]; rfl) (by (repeat (first | exact OutS.nil | exact GetS.hit | exact PutS.hit | apply GetS.miss rfl | apply PutS.miss rfl | apply OutS.cons | apply OutS.skip rfl))) ?_
  have hx4 := getCells_put (cs' := [.vec (Am.byteCells t) .shut, .int .i64 0, .int .i64 o, .int .i64 i, .nilsl, .int .i64 0, .int .i64 0, .int .i64 0, .int .i64 0, .int .i64 tk]) (g' := 0) hx2
  have hE4 := getCells_put_ne (i := X) (o := .cells [.vec (Am.byteCells t) .shut, .int .i64 0, .int .i64 o, .int .i64 i, .nilsl, .int .i64 0, .int .i64 0, .int .i64 0, .int .i64 0, .int .i64 tk] 0) (by omega) hE2
  have hr4 := getCells_put_ne (i := X) (o := .cells [.vec (Am.byteCells t) .shut, .int .i64 0, .int .i64 o, .int .i64 i, .nilsl, .int .i64 0, .int .i64 0, .int .i64 0, .int .i64 0, .int .i64 tk] 0) (by omega) hr2
  have hg4 := hg2.put_new (i := X) (by omega) (.cells [.vec (Am.byteCells t) .shut, .int .i64 0, .int .i64 o, .int .i64 i, .nilsl, .int .i64 0, .int .i64 0, .int .i64 0, .int .i64 0, .int .i64 tk] 0)
  have hm4 := hm.grow hg4
  change OkC _ _ _ _ _ (s3.put X (.cells [.vec (Am.byteCells t) .shut, .int .i64 0, .int .i64 o, .int .i64 i, .nilsl, .int .i64 0, .int .i64 0, .int .i64 0, .int .i64 0, .int .i64 tk] 0)) _
  generalize s3.put X (.cells [.vec (Am.byteCells t) .shut, .int .i64 0, .int .i64 o, .int .i64 i, .nilsl, .int .i64 0, .int .i64 0, .int .i64 0, .int .i64 0, .int .i64 tk] 0) = s4 at hx4 hE4 hr4 hg4 hm4 ⊢
  obtain ⟨⟨mcs4, hm40, h144, h164, h174, h184⟩, hA4, hB4⟩ := id hm4
  refine c_seq ?_
  refine dqV ?_
  refine o_call rfl rfl (next_spec 4999 _ t i c s4 (by omega) hc) ?_
  refine sV ?_
  refine dV ?_
  refine qqV ?_
  refine bV ?_
  refine qqV ?_
  refine iV ?_
  refine c_seq ?_
  refine dqV ?_
  refine o_st (l := fnd i n) rfl rfl rfl rfl hr4 rfl (lets_nil (blt_no (by show b.w ≤ _; omega)) hes) (cs' := fnd i n) rfl ?_
  refine sV ?_
  refine d_end (by show (!(Nat.beq s.heap.length R) && true) = true; rw [beq_no (by omega)]; rfl) (by (repeat (first | exact OutS.nil | exact GetS.hit | exact PutS.hit | apply GetS.miss rfl | apply PutS.miss rfl | apply OutS.cons | apply OutS.skip rfl))) ?_
  refine c_ret ?_
  exact hy _ _ _ _ _ _ _ _ _ _ _ _ (hg4.put_new (by omega) _) (getCells_put hr4)

end Go.Vmm

namespace Go.Vmm
open Go Go.Am Go.Proofs

theorem OkL.more {k k' : Nat} {f : Fr → Sg → Ran} {fr : Fr} {s : Sg} {Q : Ex → Fr → Sg → Prop} (hk : k ≤ k') (h : OkL k f fr s Q) : OkL k' f fr s Q := by
  obtain ⟨e, fr', s', h1, h2⟩ := h.ok
  exact ⟨⟨e, fr', s', @loopN_mono ⟨0, 0⟩ _ _ _ _ _ _ hk h1, h2⟩⟩

theorem fnd_all (a n : Nat) : partOf (fnd a n) 0 (some 3) = some (.agg (fnd a n)) := rfl

/-- how attempts come out -/
def Comes (t : List UInt8) (z : Int → Bool) (fr : Nat) (res : List AV) : Prop := fr = t.length ∧ res = fnd0 ∨ ∃ n, Many t fr n z ∧ fr < n ∧ res = fnd fr n

theorem att_loop (b : Bar) (s0 : Sg) (X R N mp ip A B : Nat) (v : AV) (z : Int → Bool) (pcs : PG) (t : List UInt8) (o a fr : Nat) (res : List AV) (ht : t.length < 1000) (hbw : b.w ≤ s0.heap.length) (hes : b.es = []) (hm : MOk s0.heap mp ip A B v) (hz : HasOk v z) (hz1 : z (-1) = false)
    (hip : ip < s0.heap.length) (hpo : PrOk s0.heap ip pcs.cs) (hpg : Pg s0.heap s0.heap.length pcs) (hreg : pcs.cs[3]? = some (.int .i64 2)) (hins : pcs.ins = plusIns) (ha : SetOk pcs 0 z)
    (hno : ∀ j, o ≤ j → j < fr → ∃ c, t[j]? = some c ∧ z c.toNat = false) (hc : Comes t z fr res) (Q : Ex → Fr → Sg → Prop)
    (hy : ∀ s' w1 w2 w3 w4 w5 w6 w7 w8 w9 w10 w11, Grow s0 s' → getCells s'.heap R 0 = some res → Q .ret (afr mp ip X R N t o a w1 w2 w3 w4 w5 w6 w7 w8 w9 w10 w11) s') :
    ∀ d i, i + d = fr → o ≤ i → ∀ s u1 u2 u3 u4 u5 u6 u7 u8 u9 u10 u11, AOk s0 s X R N t o i → OkL (d + 1) (fun fr s => ACode.run (loopN 5000) (callF T 5000) b lp11_0 fr s) (afr mp ip X R N t o a u1 u2 u3 u4 u5 u6 u7 u8 u9 u10 u11) s Q := by
  intro d
  induction d with
  | zero =>
    intro i hi hoi s u1 u2 u3 u4 u5 u6 u7 u8 u9 u10 u11 h
    obtain rfl : i = fr := by omega
    rcases hc with ⟨rfl, rfl⟩ | ⟨n, hmn, hn, rfl⟩
    · exact att_end b s0 s X R N mp ip A B v z t o a ht hbw hes h hm hz hz1 u1 u2 u3 u4 u5 u6 u7 u8 u9 u10 u11 0 Q hy
    · exact att_match b s0 s X R N mp ip A B v z pcs t o a i n hbw hes h hm hz hip hpo hpg hreg hins ha hmn hn u1 u2 u3 u4 u5 u6 u7 u8 u9 u10 u11 0 Q hy
  | succ d ih =>
    intro i hi hoi s u1 u2 u3 u4 u5 u6 u7 u8 u9 u10 u11 h
    obtain ⟨c, hc1, hcz⟩ := hno i hoi (by omega)
    exact att_skip b s0 s X R N mp ip A B v z t o a i c ht hbw hes h hm hz hc1 hcz u1 u2 u3 u4 u5 u6 u7 u8 u9 u10 u11 (d + 1) Q fun s' w1 w2 w3 w4 w5 w6 w7 w8 w9 w10 w11 h' => ih (i + 1) (by omega) (by omega) s' w1 w2 w3 w4 w5 w6 w7 w8 w9 w10 w11 h'

/-- attempts -/
theorem attempts_spec (b : Bar) (s : Sg) (mp ip A B : Nat) (v : AV) (z : Int → Bool) (pcs : PG) (t : List UInt8) (o fr : Nat) (res : List AV) (ht : t.length < 1000) (hm : MOk s.heap mp ip A B v) (hz : HasOk v z) (hz1 : z (-1) = false)
    (hip : ip < s.heap.length) (hpo : PrOk s.heap ip pcs.cs) (hpg : Pg s.heap s.heap.length pcs) (hreg : pcs.cs[3]? = some (.int .i64 2)) (hins : pcs.ins = plusIns) (ha : SetOk pcs 0 z) (hold : Olds s)
    (hof : o ≤ fr) (hfr : fr ≤ t.length) (hno : ∀ j, o ≤ j → j < fr → ∃ c, t[j]? = some c ∧ z c.toNat = false) (hc : Comes t z fr res) :
    OkF (callF T 5001 b 11 [.ptr mp 0 0, .ptr ip 0 0, .agg (xin t o o)] s) fun o' s' => o' = .ret (.tup [.agg res, .int .i64 0, .int .i64 0]) ∧ s' = s := by
  (apply f_wp rfl rfl; (repeat (first | exact Shape.nil | (apply Shape.cons; conv => lhs; whnf))))
  refine qV ?_
  refine o_box (v := .agg (xin t o o)) (l := xin t o o) rfl rfl rfl ?_
  refine o_alloc rfl ?_
  refine sV ?_
  refine eV ?_
  have hX := getCells_push (.cells fnd0 0) (getCells_new s (xin t o o) 0)
  have hR := getCells_new (s.push (.cells (xin t o o) 0)) fnd0 0
  have hL1 := Sg.push_len s (.cells (xin t o o) 0)
  have hL2 : ((s.push (.cells (xin t o o) 0)).push (.cells fnd0 0)).heap.length = s.heap.length + 2 := by rw [Sg.push_len, Sg.push_len]
  have hG := ((Grow.refl s).push (.cells (xin t o o) 0)).push (.cells fnd0 0)
  have hO : Olds ((s.push (.cells (xin t o o) 0)).push (.cells fnd0 0)) := (hold.push (xin_old ..)).push rfl
  change OkC _ _ _ _ _ ((s.push (.cells (xin t o o) 0)).push (.cells fnd0 0)) _
  generalize (s.push (.cells (xin t o o) 0)).push (.cells fnd0 0) = s1 at hX hR hL2 hG hO ⊢
  generalize (s.push (.cells (xin t o o) 0)).heap.length = R at hR hL1 ⊢
  refine c_seq ?_
  refine dqV ?_
  refine dV ?_
  refine qV ?_
  refine o_alloc rfl ?_
  refine o_st (l := fnd0) rfl rfl rfl rfl (getCells_new _ _ 0) rfl (lets_nil (blt_no (by show s.heap.length ≤ _; omega)) rfl) (cs' := fnd0) rfl ?_
  rw [push_put]
  refine eV ?_
  have hN := getCells_new s1 fnd0 0
  have hX2 := getCells_push (.cells fnd0 0) hX
  have hR2 := getCells_push (.cells fnd0 0) hR
  have hG2 := hG.push (.cells fnd0 0)
  have hO2 : Olds (s1.push (.cells fnd0 0)) := hO.push rfl
  change OkC _ _ _ _ _ (s1.push (.cells fnd0 0)) _
  generalize s1.push (.cells fnd0 0) = s2 at hN hX2 hR2 hG2 hO2 ⊢
  refine c_block ?_
  refine c_loop ?_
  refine OkL.more (k := (fr - o) + 1) (by omega) (att_loop _ s s.heap.length R s1.heap.length mp ip A B v z pcs t o o fr res ht (Nat.le_refl _) rfl hm hz hz1 hip hpo hpg hreg hins ha hno hc _ ?_ (fr - o) o (by omega) (Nat.le_refl _) s2 _ _ _ _ _ _ _ _ _ _ _ ⟨hG2, hX2, hR2, hN, hO2, by omega, by omega, by omega, by omega, by omega, by omega⟩)
  intro s' w1 w2 w3 w4 w5 w6 w7 w8 w9 w10 w11 hg' hr'
  rcases hc with ⟨_, rfl⟩ | ⟨n, _, _, rfl⟩
  · refine fin_ret (.inl rfl) (read_cell (i := R) (g := 0) (off := 0) rfl hr' rfl (read_tmp rfl (read_tmp rfl read_nil))) (leave_pure rfl rfl) ⟨rfl, rfl⟩
  · refine fin_ret (.inl rfl) (read_cell (i := R) (g := 0) (off := 0) rfl hr' (fnd_all ..) (read_tmp rfl (read_tmp rfl read_nil))) (leave_pure rfl rfl) ⟨rfl, rfl⟩

end Go.Vmm

namespace Go.Vmm
open Go Go.Am Go.Proofs

/-- Match -/
theorem match_spec (b : Bar) (s : Sg) (mp ip A B : Nat) (v : AV) (z : Int → Bool) (pcs : PG) (t : List UInt8) (o fr : Nat) (res : List AV) (ht : t.length < 1000) (hm : MOk s.heap mp ip A B v) (hz : HasOk v z) (hz1 : z (-1) = false)
    (hip : ip < s.heap.length) (hpo : PrOk s.heap ip pcs.cs) (hpg : Pg s.heap s.heap.length pcs) (hreg : pcs.cs[3]? = some (.int .i64 2)) (hins : pcs.ins = plusIns) (ha : SetOk pcs 0 z) (hold : Olds s)
    (hof : o ≤ fr) (hfr : fr ≤ t.length) (hno : ∀ j, o ≤ j → j < fr → ∃ c, t[j]? = some c ∧ z c.toNat = false) (hc : Comes t z fr res) :
    OkF (callF T 5002 b 6 [.ptr mp 0 0, .vec (Am.byteCells t) .shut, .int .i64 0, .int .i64 o, .nilsl, .agg [.int .i64 0, .int .i64 0, .int .i64 0]] s) fun o' s' => o' = .ret (.tup [.agg res, .int .i64 0, .int .i64 0]) ∧ s' = s := by
  (apply f_wp rfl rfl; (repeat (first | exact Shape.nil | (apply Shape.cons; conv => lhs; whnf))))
  refine qV ?_
  refine o_box (v := .agg [.int .i64 0, .int .i64 0, .int .i64 0]) (l := [.int .i64 0, .int .i64 0, .int .i64 0]) rfl rfl rfl ?_
  refine o_alloc rfl ?_
  refine sV ?_
  refine eV ?_
  have hI := getCells_push (.cells fnd0 0) (getCells_new s [.int .i64 0, .int .i64 0, .int .i64 0] 0)
  have hR := getCells_new (s.push (.cells [.int .i64 0, .int .i64 0, .int .i64 0] 0)) fnd0 0
  have hL1 := Sg.push_len s (.cells [.int .i64 0, .int .i64 0, .int .i64 0] 0)
  have hL2 : ((s.push (.cells [.int .i64 0, .int .i64 0, .int .i64 0] 0)).push (.cells fnd0 0)).heap.length = s.heap.length + 2 := by rw [Sg.push_len, Sg.push_len]
  have hG := ((Grow.refl s).push (.cells [.int .i64 0, .int .i64 0, .int .i64 0] 0)).push (.cells fnd0 0)
  have hO : Olds ((s.push (.cells [.int .i64 0, .int .i64 0, .int .i64 0] 0)).push (.cells fnd0 0)) := (hold.push rfl).push rfl
  change OkC _ _ _ _ _ ((s.push (.cells [.int .i64 0, .int .i64 0, .int .i64 0] 0)).push (.cells fnd0 0)) _
  generalize (s.push (.cells [.int .i64 0, .int .i64 0, .int .i64 0] 0)).push (.cells fnd0 0) = s1 at hI hR hL2 hG hO ⊢
  generalize (s.push (.cells [.int .i64 0, .int .i64 0, .int .i64 0] 0)).heap.length = R at hR hL1 ⊢
  have hm1 := hm.grow hG
  obtain ⟨⟨mcs, hm0, h14, h16, h17, h18⟩, hA, hB⟩ := id hm1
  refine qV ?_
  refine o_call rfl rfl (refused_spec 5000 _ t o (by omega) s1 mp ip A B v hm1) ?_
  refine sV ?_
  refine eV ?_
  refine qqV ?_
  refine lV ?_
  refine c_skip ?_
  refine qV ?_
  refine o_w (v := .int .i64 0) rfl rfl ?_
  refine sV ?_
  refine eV ?_
  refine qV ?_
  refine o_alloc rfl ?_
  refine o_st (l := xin t o o) rfl rfl rfl rfl (getCells_new _ _ 0) rfl (lets_nil (blt_no (by show s.heap.length ≤ _; omega)) rfl) (cs' := xin t o o) rfl ?_
  rw [push_put]
  refine eV ?_
  have hX := getCells_new s1 (xin t o o) 0
  have hR2 := getCells_push (.cells (xin t o o) 0) hR
  have hG2 := hG.push (.cells (xin t o o) 0)
  have hO2 : Olds (s1.push (.cells (xin t o o) 0)) := hO.push (xin_old ..)
  have hL3 := Sg.push_len s1 (.cells (xin t o o) 0)
  change OkC _ _ _ _ _ (s1.push (.cells (xin t o o) 0)) _
  generalize s1.push (.cells (xin t o o) 0) = s2 at hX hR2 hG2 hO2 hL3 ⊢
  have hm2 := hm.grow hG2
  obtain ⟨⟨mcs2, hm20, h214, h216, h217, h218⟩, hA2, hB2⟩ := id hm2
  refine c_seq ?_
  refine qV ?_
  refine o_w (v := .int .i64 0) rfl rfl ?_
  refine sV ?_
  refine eV ?_
  refine iV ?_
  have hcut : ((s2.keep 1).cut s2.heap.length s2.toks.length).heap = s2.heap := by simp [Sg.cut, Sg.keep]
  have hpo2 : PrOk s2.heap ip pcs.cs := ⟨hG2.get hpo.1, hpo.2, hpo.3⟩
  have hpg2 : Pg s2.heap s2.heap.length pcs := by
    have := hG2.len
    obtain ⟨⟨j, w, g1, g2, g3⟩, ⟨j', w', g4, g5, g6⟩⟩ := hpg
    exact ⟨⟨j, w, g1, by omega, hG2.get g3⟩, ⟨j', w', g4, by omega, hG2.get g6⟩⟩
  have hip2 : ip < s2.heap.length := by have := hG2.len; omega
  have hatt := OkF.ret (attempts_spec (b := (({ w := s.heap.length, t := s.toks.length, es := [] } : Bar).drawn true s2)) ((s2.keep 1).cut s2.heap.length s2.toks.length) mp ip A B v z pcs t o fr res ht (by rw [hcut]; exact hm2) hz hz1 (by rw [hcut]; exact hip2) (by rw [hcut]; exact hpo2) (by rw [hcut]; exact hpg2) hreg hins ha (by unfold Olds; rw [hcut]; exact hO2) hof hfr hno hc)
  have hm2l := getCells_lt hm20
  have hXk := getCells_keep (k := 1) hX
  have hmk := getCells_keep (k := 1) hm20
  have hRk := getCells_push (.cells fnd0 0) hR2
  refine c_seq ?_
  refine c_drawnk ?_
  refine sV ?_
  refine o_calli (l := [.ptr mp 0 0, .ptr ip 0 0, .agg (xin t o o)]) rfl rfl ?_ hatt ?_
  · have := @oldAll_bytes ⟨0, 0⟩ s2.heap.length t
    show AV.oldAll s2.heap.length _ = true
    simp only [AV.oldAll, AV.old, xin, this, Nat.blt_eq.mpr hm2l, Nat.blt_eq.mpr hip2, Bool.and_self]
  refine sV ?_
  refine o_fill rfl (evF_alloc keep_last rfl (by show s.heap.length ≤ s2.heap.length; have := hG2.len; omega) (by show (Nat.ble s2.heap.length s2.heap.length && true) = true; rw [ble_of (Nat.le_refl _)]; rfl)) ?_
  show OkO _ _ _ _ _ ((s2.keep 1).put s2.heap.length _) _
  rw [keep_put]
  have hF := getCells_new s2 fnd0 0
  have hres : ∃ w, (AV.agg res).stored = some res ∧ res.length = 3 ∧ w = res := by
    rcases hc with ⟨_, rfl⟩ | ⟨n, _, _, rfl⟩ <;> exact ⟨_, rfl, rfl, rfl⟩
  obtain ⟨_, hst, hrl, _⟩ := hres
  have hwr : writeAt fnd0 0 res = some res := by
    rcases hc with ⟨_, rfl⟩ | ⟨n, _, _, rfl⟩ <;> rfl
  have hpt : partOf res 0 (some 3) = some (.agg res) := by
    rcases hc with ⟨_, rfl⟩ | ⟨n, _, _, rfl⟩ <;> rfl
  refine o_st (i := s2.heap.length) (g' := 0) (off := 0) (l := res) rfl rfl rfl hst hF (by rw [hrl]; rfl) (@lets_ge ⟨0, 0⟩ _ _ _ (blt_no (by show s.heap.length ≤ s2.heap.length; have := hG2.len; omega)) (by show (Nat.ble s2.heap.length s2.heap.length && true) = true; rw [ble_of (Nat.le_refl _)]; rfl)) hwr ?_
  rw [push_put]
  refine sV ?_
  refine d_end (by
    show (!(Nat.beq mp s2.heap.length) && (!(Nat.beq s1.heap.length s2.heap.length) && (Nat.ble s2.heap.length s2.heap.length && true))) = true
    rw [beq_no (by omega), beq_no (by omega), ble_of (Nat.le_refl _)]; rfl) (by (repeat (first | exact OutS.nil | exact GetS.hit | exact PutS.hit | apply GetS.miss rfl | apply PutS.miss rfl | apply OutS.cons | apply OutS.skip rfl))) ?_
  have hF2 := getCells_new s2 res 0
  have hR3 := getCells_push (.cells res 0) hR2
  generalize s2.push (.cells res 0) = s3 at hF2 hR3 ⊢
  refine qqV ?_
  refine iV ?_
  refine qV ?_
  refine o_st (i := R) (g' := 0) (off := 0) (l := res) rfl rfl rfl hst hR3 (by rw [hrl]; rfl) (lets_nil (blt_no (by show s.heap.length ≤ R; omega)) rfl) hwr ?_
  refine sV ?_
  refine eV ?_
  refine c_ret ?_
  have hrd := getCells_put (cs' := res) (g' := 0) hR3
  rcases hc with ⟨_, rfl⟩ | ⟨n, _, _, rfl⟩ <;> exact fin_ret (.inl rfl) (read_cell (i := R) (g := 0) (off := 0) rfl hrd hpt (read_tmp rfl (read_tmp rfl read_nil))) (leave_pure rfl rfl) ⟨rfl, rfl⟩

end Go.Vmm

namespace Go.Vmm
open Go Go.Am Go.Proofs

/-- the loop 0 of function 3 -/
def lp3_0 : ACode := .seq (.seq (.region [⟨(some 49), .v (.move (.tmp 12)), none⟩, ⟨(some 50), .v (.move (.tmp 0)), none⟩, ⟨(some 51), .v (.len 1 (.tmp 50)), none⟩, ⟨(some 52), .v (.bin .lss (.tmp 49) (.tmp 51)), none⟩, ⟨(some 53), .v (.move (.tmp 52)), none⟩, ⟨(some 54), .v (.move (.tmp 0)), (some (53, true))⟩, ⟨(some 55), .v (.move (.tmp 12)), (some (53, true))⟩, ⟨(some 56), .v (.indexAddrS none (.tmp 54) (.tmp 55)), (some (53, true))⟩, ⟨(some 57), .v (.load none (.tmp 56)), (some (53, true))⟩, ⟨(some 58), .call 7 [(.tmp 57)], (some (53, true))⟩, ⟨(some 59), .v (.un .not (.tmp 58)), (some (53, true))⟩, ⟨(some 60), .v (.pick (.tmp 53) (.tmp 59) (.const (.bool false))), none⟩] [60]) (.cond (.tmp 60) (.skip) (.exit 0))) (.block 1 (.region [⟨(some 61), .v (.move (.tmp 12)), none⟩, ⟨(some 62), .v (.bin .add (.tmp 61) (.const (.int .i64 1))), none⟩, ⟨(some 12), .v (.move (.tmp 62)), none⟩] [12]))
/-- the loop 1 of function 3 -/
def lp3_1 : ACode := .seq (.seq (.region [⟨(some 64), .v (.move (.tmp 13)), none⟩, ⟨(some 65), .v (.move (.tmp 0)), none⟩, ⟨(some 66), .v (.len 1 (.tmp 65)), none⟩, ⟨(some 67), .v (.bin .lss (.tmp 64) (.tmp 66)), none⟩, ⟨(some 68), .v (.move (.tmp 67)), none⟩, ⟨(some 69), .v (.move (.tmp 0)), (some (68, true))⟩, ⟨(some 70), .v (.move (.tmp 13)), (some (68, true))⟩, ⟨(some 71), .v (.indexAddrS none (.tmp 69) (.tmp 70)), (some (68, true))⟩, ⟨(some 72), .v (.load none (.tmp 71)), (some (68, true))⟩, ⟨(some 73), .call 7 [(.tmp 72)], (some (68, true))⟩, ⟨(some 74), .v (.pick (.tmp 68) (.tmp 73) (.const (.bool false))), none⟩] [74]) (.cond (.tmp 74) (.skip) (.exit 2))) (.block 3 (.region [⟨(some 75), .v (.move (.tmp 13)), none⟩, ⟨(some 76), .v (.bin .add (.tmp 75) (.const (.int .i64 1))), none⟩, ⟨(some 13), .v (.move (.tmp 76)), none⟩] [13]))

/-- a letter of the class -/
abbrev zin : Int → Bool := in2 98 100 120 120

theorem in_spec (m : Nat) (b : Bar) (c : Int) (s : Sg) : callF T (m + 1) b 7 [.int .u8 c] s = some (.ret (.bool (zin c)), s) := by
  by_cases h3 : c = 120
  · have e : zin c = true := decide_eq_true (by omega)
    rw [e]
    (apply f_of rfl rfl; (repeat (first | exact Shape.nil | (apply Shape.cons; conv => lhs; whnf))))
    refine qqV ?_
    refine qqV ?_
    exact c_ret rfl
  · by_cases h1 : 98 ≤ c
    · by_cases h2 : c ≤ 100
      · have e : zin c = true := decide_eq_true (by omega)
        rw [e]
        (apply f_of rfl rfl; (repeat (first | exact Shape.nil | (apply Shape.cons; conv => lhs; whnf))))
        refine qqV ?_
        refine qqV ?_
        exact c_ret rfl
      · have e : zin c = false := decide_eq_false (by omega)
        rw [e]
        (apply f_of rfl rfl; (repeat (first | exact Shape.nil | (apply Shape.cons; conv => lhs; whnf))))
        refine qqV ?_
        refine qqV ?_
        exact c_ret rfl
    · have e : zin c = false := decide_eq_false (by omega)
      rw [e]
      (apply f_of rfl rfl; (repeat (first | exact Shape.nil | (apply Shape.cons; conv => lhs; whnf))))
      refine qqV ?_
      refine qqV ?_
      exact c_ret rfl

abbrev lfr (t : List UInt8) (o fr : Nat) (to u1 u2 : AV) (P : Nat) (m : AV) : Fr := ⟨[(0, .vec (Am.byteCells t) .shut), (1, .int .i64 o), (4, .bool false), (5, .bool true), (16, .bool false), (29, .bool false), (8, .bool true), (38, .bool false), (7, m), (12, .int .i64 fr), (60, u1), (13, to), (74, u2), (80, .undef), (10, .int .i64 0), (9, .ptr P 0 0), (11, .int .i64 0)], [], .off⟩

/-- where the first letter stands -/
theorem from_loop (b : Bar) (s : Sg) (t : List UInt8) (o fr : Nat) (P : Nat) (m u2 : AV) (ht : t.length < 1000) (hno : ∀ j, o ≤ j → j < fr → ∃ c, t[j]? = some c ∧ zin c.toNat = false) (hfr : fr ≤ t.length) (hc : fr = t.length ∨ ∃ c, t[fr]? = some c ∧ zin c.toNat = true) (Q : Ex → Fr → Sg → Prop)
    (hend : ∀ u, Q (.exit 0) (lfr t o fr .undef u u2 P m) s) :
    ∀ d i, i + d = fr → o ≤ i → ∀ u, OkL (d + 1) (fun fr s => ACode.run (loopN 6000) (callF T 6000) b lp3_0 fr s) (lfr t o i .undef u u2 P m) s Q := by
  have hbl := Am.byteCells_length t
  intro d
  induction d with
  | zero =>
    intro i hi hoi u
    obtain rfl : i = fr := by omega
    rcases hc with rfl | ⟨c, hc, hcz⟩
    · refine l_round ?_
      refine qqV ?_
      refine lV ?_
      exact c_exit (hend _)
    · have hl := lt_of_getElem? hc
      refine l_round ?_
      refine c_seq ?_
      refine qV ?_
      refine o_ixvec (j := i) rfl rfl rfl rfl (bc_get hc) rfl ?_
      refine sV ?_
      refine o_call rfl rfl (in_spec 5999 _ c.toNat s) ?_
      rw [hcz]
      refine sV ?_
      refine eV ?_
      refine lV ?_
      exact c_exit (hend _)
  | succ d ih =>
    intro i hi hoi u
    obtain ⟨c, hc, hcz⟩ := hno i hoi (by omega)
    have hl := lt_of_getElem? hc
    refine l_round ?_
    refine c_seq ?_
    refine qV ?_
    refine o_ixvec (j := i) rfl rfl rfl rfl (bc_get hc) rfl ?_
    refine sV ?_
    refine o_call rfl rfl (in_spec 5999 _ c.toNat s) ?_
    rw [hcz]
    refine sV ?_
    refine eV ?_
    refine iV ?_
    refine c_skip ?_
    refine bV ?_
    refine qqV ?_
    exact ih (i + 1) (by omega) (by omega) _

/-- where they end -/
theorem to_loop (b : Bar) (s : Sg) (t : List UInt8) (o fr n : Nat) (P : Nat) (m u1 : AV) (hm : Many t fr n zin) (Q : Ex → Fr → Sg → Prop)
    (hend : ∀ u, Q (.exit 2) (lfr t o fr (.int .i64 n) u1 u P m) s) :
    ∀ d i, i + d = n → fr ≤ i → ∀ u, OkL (d + 1) (fun fr s => ACode.run (loopN 6000) (callF T 6000) b lp3_1 fr s) (lfr t o fr (.int .i64 i) u1 u P m) s Q := by
  have hbl := Am.byteCells_length t
  have hle := @Many.le ⟨0, 0⟩ _ _ _ _ hm
  have hlen := hm.len
  intro d
  induction d with
  | zero =>
    intro i hi hoi u
    obtain rfl : i = n := by omega
    rcases hm.last with rfl | ⟨c, hc, hcz⟩
    · refine l_round ?_
      refine qqV ?_
      refine lV ?_
      exact c_exit (hend _)
    · have hl := lt_of_getElem? hc
      refine l_round ?_
      refine c_seq ?_
      refine qV ?_
      refine o_ixvec (j := i) rfl rfl rfl rfl (bc_get hc) rfl ?_
      refine sV ?_
      refine o_call rfl rfl (in_spec 5999 _ c.toNat s) ?_
      rw [hcz]
      refine sV ?_
      refine eV ?_
      refine lV ?_
      exact c_exit (hend _)
  | succ d ih =>
    intro i hi hoi u
    obtain ⟨c, hc, hcz⟩ := hm.all i hoi (by omega)
    have hl := lt_of_getElem? hc
    refine l_round ?_
    refine c_seq ?_
    refine qV ?_
    refine o_ixvec (j := i) rfl rfl rfl rfl (bc_get hc) rfl ?_
    refine sV ?_
    refine o_call rfl rfl (in_spec 5999 _ c.toNat s) ?_
    rw [hcz]
    refine sV ?_
    refine eV ?_
    refine iV ?_
    refine c_skip ?_
    refine bV ?_
    refine qqV ?_
    exact ih (i + 1) (by omega) (by omega) _

end Go.Vmm
