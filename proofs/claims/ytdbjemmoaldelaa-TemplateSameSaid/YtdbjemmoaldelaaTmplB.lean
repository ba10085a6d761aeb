/-
  What the template reader's functions come to.
-/
import Derived.Test.YtdbjemmoaldelaaMachC
import Derived.Test.YtdbjemmoaldelaaTmplA

namespace Go.Tpl
open Go Go.Am Go.Proofs

theorem digit_spec (m : Nat) (b : Bar) (c : Int) (s : Sg) : callF T (m + 1) b 33 [.int .u8 c] s = some (.ret (.bool (decide (c ≥ 48) && decide (c ≤ 57))), s) := by
  cases h1 : decide (c ≥ 48)
  · apply call_of rfl rfl
    · apply run_seq
      · apply run_region (ops_v rfl rfl ops_nil) rfl
      · apply run_seq
        · apply run_region
          · refine ops_v rfl rfl (ops_v rfl (v := .bool false) (congrArg (fun x => some (AV.bool x)) h1) ?_)
            repeat (first | exact ops_nil | refine ops_no rfl ?_ | refine ops_v rfl rfl ?_)
          · rfl
        · rfl
    · rfl
  · apply call_of rfl rfl
    · apply run_seq
      · apply run_region (ops_v rfl rfl ops_nil) rfl
      · apply run_seq
        · apply run_region
          · refine ops_v rfl rfl (ops_v rfl (v := .bool true) (congrArg (fun x => some (AV.bool x)) h1) ?_)
            repeat (first | exact ops_nil | refine ops_no rfl ?_ | refine ops_v rfl rfl ?_)
          · rfl
        · rfl
    · rfl

/-- a text's part up to a length that it has -/
theorem sliceS_upto {loc pers : Env} {s : Sg} {x y : AOpd} {l : List UInt8} {k : IntKind} {n : Nat} (hx : x.ev loc pers = some (.str l)) (hy : y.ev loc pers = some (.int k n)) (hn : n ≤ l.length) : evV loc pers s (.sliceS x none (some y)) = some (.str (l.take n)) := by
  have h1 : bnd (some (.int k (n : Int))) l.length l.length = some n := by simp [bnd, hn]
  simp [evV, hx, hy, AV.str?, evOpt, bnd, hn]

theorem prefix41_spec (m : Nat) (b : Bar) (l p : List UInt8) (s : Sg) : callF T (m + 1) b 41 [.str l, .str p] s = some (.ret (.bool (decide (p.length ≤ l.length) && (l.take p.length == p))), s) := by
  by_cases h : p.length ≤ l.length
  · have h1 : decide ((l.length : Int) ≥ p.length) = true := by simp [h]
    rw [decide_eq_true h, Bool.true_and]
    apply call_of rfl rfl
    · apply run_seq
      · apply run_region (ops_v rfl rfl ops_nil) rfl
      · apply run_seq
        · apply run_region
          · refine ops_v rfl rfl (ops_v rfl rfl (ops_v rfl rfl (ops_v rfl rfl (ops_v rfl (v := .bool true) (congrArg (fun x => some (AV.bool x)) h1) ?_))))
            refine ops_v rfl rfl (ops_v rfl rfl (ops_v rfl rfl (ops_v rfl rfl (ops_v rfl (sliceS_upto rfl rfl h) ?_))))
            repeat (first | exact ops_nil | refine ops_no rfl ?_ | refine ops_v rfl rfl ?_)
          · rfl
        · rfl
    · rfl
  · have h1 : decide ((l.length : Int) ≥ p.length) = false := by simp [h]
    rw [decide_eq_false h, Bool.false_and]
    apply call_of rfl rfl
    · apply run_seq
      · apply run_region (ops_v rfl rfl ops_nil) rfl
      · apply run_seq
        · apply run_region
          · refine ops_v rfl rfl (ops_v rfl rfl (ops_v rfl rfl (ops_v rfl rfl (ops_v rfl (v := .bool false) (congrArg (fun x => some (AV.bool x)) h1) ?_))))
            repeat (first | exact ops_nil | refine ops_no rfl ?_ | refine ops_v rfl rfl ?_)
          · rfl
        · rfl
    · rfl

/-- strings.HasPrefix -/
theorem prefix_spec (m : Nat) (b : Bar) (l p : List UInt8) (s : Sg) : callF T (m + 2) b 32 [.str l, .str p] s = some (.ret (.bool (decide (p.length ≤ l.length) && (l.take p.length == p))), s) := by
  apply call_of rfl rfl
  · apply run_seq
    · apply run_region (ops_v rfl rfl ops_nil) rfl
    · apply run_seq
      · apply run_region
        · refine ops_v rfl rfl (ops_v rfl rfl (ops_call rfl rfl (prefix41_spec m _ l p s) ?_))
          repeat (first | exact ops_nil | refine ops_no rfl ?_ | refine ops_v rfl rfl ?_)
        · rfl
      · rfl
  · rfl

end Go.Tpl

namespace Go.Tpl
open Go Go.Am Go.Proofs

/-- does a text stand somewhere? -/
def stands (t : List UInt8) (i : Nat) (p : List UInt8) : Bool := decide (p.length ≤ (t.drop i).length) && ((t.drop i).take p.length == p)

/-- a text's part from a place on -/
theorem sliceS_from {loc pers : Env} {s : Sg} {x y : AOpd} {l : List UInt8} {k : IntKind} {n : Nat} (hx : x.ev loc pers = some (.str l)) (hy : y.ev loc pers = some (.int k n)) (hn : n ≤ l.length) : evV loc pers s (.sliceS x (some y) none) = some (.str (l.drop n)) := by
  simp [evV, hx, hy, AV.str?, evOpt, bnd, hn]
  rw [List.take_of_length_le (by simp)]

/-- (*reader).take: what stands nowhere -/
theorem take_no (m : Nat) (b : Bar) (s : Sg) {r g : Nat} {t p : List UInt8} {i : Nat} {k n : AV} (hg : getCells s.heap r g = some [.str t, .int .i64 i, k, n]) (hi : i ≤ t.length) (hs : stands t i p = false) :
    callF T (m + 3) b 25 [.ptr r g 0, .str p] s = some (.ret (.bool false), s) := by
  apply call_of rfl rfl
  · apply run_seq
    · apply run_region (ops_v rfl rfl ops_nil) rfl
    · apply run_seq
      · apply run_seq
        · apply run_drawn
          · refine ops_v rfl rfl (ops_v rfl rfl (ops_v rfl rfl (ops_v rfl (load_at rfl hg rfl) ?_)))
            refine ops_v rfl rfl (ops_v rfl rfl (ops_v rfl rfl (ops_v rfl (load_at rfl hg rfl) ?_)))
            refine ops_v rfl (sliceS_from rfl rfl hi) (ops_v rfl rfl (ops_call rfl rfl (prefix_spec m _ (t.drop i) p _) ops_nil))
          · rfl
          · rfl
        · apply run_cond (t := false)
          · exact congrArg (fun x => some (AV.bool x)) hs
          · rfl
      · apply run_seq
        · apply run_region (ops_v rfl rfl ops_nil) rfl
        · rfl
  · have e : s.heap.take s.heap.length = s.heap := List.take_length
    show some (Out.ret (.bool false), ({ heap := s.heap.take s.heap.length, toks := s.toks } : Sg)) = _
    rw [e]

theorem wrap_small {n : Int} (h0 : 0 ≤ n) (h1 : n < 2 ^ 63) : IntKind.i64.wrap n = n := by
  simp only [IntKind.wrap, IntKind.bits, IntKind.signed]
  simp
  omega

theorem scalar_old (k : IntKind) (n : Int) (e : Nat) : AV.oldAll e [.int k n] = true := rfl

/-- (*reader).take: what stands -/
theorem take_yes (m : Nat) (b : Bar) (s : Sg) {r g : Nat} {t p : List UInt8} {i : Nat} {k n : AV} (hg : getCells s.heap r g = some [.str t, .int .i64 i, k, n]) (hi : i ≤ t.length) (hs : stands t i p = true) (hw : Nat.blt r b.w = false) (hb : i + p.length < 2 ^ 62) :
    callF T (m + 3) b 25 [.ptr r g 0, .str p] s = some (.ret (.bool true), { s with heap := setAt s.heap r (.cells [.str t, .int .i64 ((i + p.length : Nat) : Int), k, n] g) }) := by
  have hadd : IntKind.i64.wrap ((i : Int) + (p.length : Int)) = ((i + p.length : Nat) : Int) := by
    rw [wrap_small (by omega) (by omega)]
    omega
  apply call_of rfl rfl
  · apply run_seq
    · apply run_region (ops_v rfl rfl ops_nil) rfl
    · apply run_seq_end
      · apply run_seq
        · apply run_drawn
          · refine ops_v rfl rfl (ops_v rfl rfl (ops_v rfl rfl (ops_v rfl (load_at rfl hg rfl) ?_)))
            refine ops_v rfl rfl (ops_v rfl rfl (ops_v rfl rfl (ops_v rfl (load_at rfl hg rfl) ?_)))
            refine ops_v rfl (sliceS_from rfl rfl hi) (ops_v rfl rfl (ops_call rfl rfl (prefix_spec m _ (t.drop i) p _) ops_nil))
          · rfl
          · rfl
        · apply run_cond (t := true)
          · exact congrArg (fun x => some (AV.bool x)) hs
          · apply run_seq
            · apply run_region
              · refine ops_v rfl rfl (ops_v rfl rfl (ops_v rfl rfl (ops_v rfl (load_at rfl hg rfl) ?_)))
                refine ops_v rfl rfl (ops_v rfl rfl (ops_v rfl (congrArg (fun x => some (AV.int .i64 x)) hadd) (ops_v rfl rfl (ops_v rfl rfl ?_))))
                exact ops_e rfl (store_at rfl rfl rfl hg rfl (lets_of hw (fun e => rfl)) rfl) ops_nil
              · rfl
            · apply run_seq
              · apply run_region (ops_v rfl rfl ops_nil) rfl
              · rfl
      · exact fun h => by cases h
  · show some (Out.ret (.bool true), ({ heap := (setAt s.heap r _).take s.heap.length, toks := s.toks } : Sg)) = _
    rw [take_setAt]
    rfl

end Go.Tpl

namespace Go.Tpl
open Go Go.Am Go.Proofs

/-- need: it is -/
theorem need_yes (m : Nat) (b : Bar) (s : Sg) (q : AV) : callF T (m + 1) b 26 [.bool true, q] s = some (.ret (.tup []), s) := by
  apply call_of rfl rfl
  · apply run_seq
    · apply run_region (ops_v rfl rfl (ops_v rfl rfl ops_nil)) rfl
    · apply run_cond (t := false)
      · rfl
      · rfl
  · rfl

/-- need: it is not -/
theorem need_no (m : Nat) (b : Bar) (s : Sg) {r g : Nat} {at' : Int} (hg : getCells s.heap r g = some [.int .i64 at']) : callF T (m + 1) b 26 [.bool false, .ptr r g 0] s = some (.panic (.iface 48 (.int .i64 at')), s) := by
  apply call_of rfl rfl
  · apply run_seq
    · apply run_region (ops_v rfl rfl (ops_v rfl rfl ops_nil)) rfl
    · apply run_cond (t := true)
      · rfl
      · apply run_region
        · exact ops_v rfl (load_at rfl hg rfl) (ops_v rfl rfl (ops_panic rfl rfl))
        · rfl
  · rfl

end Go.Tpl

namespace Go.Tpl
open Go Go.Am Go.Proofs

theorem idx42 (m : Nat) (b : Bar) (l : List UInt8) (c : UInt8) (s : Sg) : callF T (m + 1) b 42 [.str l, .int .u8 c.toNat] s = some (.ret (.int .i64 (Lib.indexByte l c)), s) := by
  show some (Out.ret (.int .i64 (Lib.indexByte l ((c.toNat : Int).toNat.toUInt8))), s) = _
  congr 6
  simp

theorem idx37 (m : Nat) (b : Bar) (l : List UInt8) (c : UInt8) (s : Sg) : callF T (m + 2) b 37 [.str l, .int .u8 c.toNat] s = some (.ret (.int .i64 (Lib.indexByte l c)), s) := by
  (apply f_of rfl rfl; (repeat (first | exact Shape.nil | (apply Shape.cons; conv => lhs; whnf))))
  ((repeat refine c_seq ?_); refine c_region ?_; (repeat (first | ((first | apply o_move rfl rfl | apply o_easy1 rfl rfl rfl | apply o_ld rfl rfl (by assumption) (by first | rfl | assumption)); conv => lhs; whnf) | apply o_no rfl | refine o_b rfl rfl rfl (by constructor; omega) ?_ | refine o_f rfl rfl rfl (by constructor; omega) ?_ | refine o_s rfl rfl rfl (by constructor; first | omega | assumption) ?_ | refine o_t rfl rfl rfl (by constructor; assumption) ?_ | (apply o_easy rfl rfl rfl; conv => lhs; whnf) | apply o_non rfl)); apply o_end; (repeat (first | exact OutS.nil | exact GetS.hit | exact PutS.hit | apply GetS.miss rfl | apply PutS.miss rfl | apply OutS.cons | apply OutS.skip rfl)))
  ((repeat refine c_seq ?_); refine c_region ?_; (repeat (first | ((first | apply o_move rfl rfl | apply o_easy1 rfl rfl rfl | apply o_ld rfl rfl (by assumption) (by first | rfl | assumption)); conv => lhs; whnf) | apply o_no rfl | refine o_b rfl rfl rfl (by constructor; omega) ?_ | refine o_f rfl rfl rfl (by constructor; omega) ?_ | refine o_s rfl rfl rfl (by constructor; first | omega | assumption) ?_ | refine o_t rfl rfl rfl (by constructor; assumption) ?_ | (apply o_easy rfl rfl rfl; conv => lhs; whnf) | apply o_non rfl)))
  refine o_call rfl rfl (idx42 m _ l c s) ?_
  (repeat (first | ((first | apply o_move rfl rfl | apply o_easy1 rfl rfl rfl | apply o_ld rfl rfl (by assumption) (by first | rfl | assumption)); conv => lhs; whnf) | apply o_no rfl | refine o_b rfl rfl rfl (by constructor; omega) ?_ | refine o_f rfl rfl rfl (by constructor; omega) ?_ | refine o_s rfl rfl rfl (by constructor; first | omega | assumption) ?_ | refine o_t rfl rfl rfl (by constructor; assumption) ?_ | (apply o_easy rfl rfl rfl; conv => lhs; whnf) | apply o_non rfl))
  (apply o_end; (repeat (first | exact OutS.nil | exact GetS.hit | exact PutS.hit | apply GetS.miss rfl | apply PutS.miss rfl | apply OutS.cons | apply OutS.skip rfl)))
  exact c_ret rfl

theorem indexByte_mem (l : List UInt8) (c : UInt8) : 0 ≤ Lib.indexByte l c ↔ c ∈ l := by
  induction l with
  | nil => simp [Lib.indexByte]
  | cons a r ih =>
    have hge := Lib.indexByte_ge r c
    unfold Lib.indexByte
    by_cases h : a = c
    · simp [h]
    · have h' : c ≠ a := fun e => h e.symm
      simp only [beq_eq_false_iff_ne.mpr h, Bool.false_eq_true, if_false, List.mem_cons, h', false_or]
      rw [← ih]
      split
      · rename_i e
        have e : Lib.indexByte r c = -1 := by simpa using e
        rw [e]
      · rename_i e
        have e : Lib.indexByte r c ≠ -1 := by simpa using e
        omega

theorem idx31 (m : Nat) (b : Bar) (l : List UInt8) (c : UInt8) (s : Sg) : ∃ n : Int, (0 ≤ n ↔ c ∈ l) ∧ callF T (m + 3) b 31 [.str l, .str [c]] s = some (.ret (.int .i64 n), s) := by
  have hl : [c].length = 1 := rfl
  by_cases hc : [c] = l
  · refine ⟨0, by simp [← hc], ?_⟩
    (apply f_of rfl rfl; (repeat (first | exact Shape.nil | (apply Shape.cons; conv => lhs; whnf))))
    ((repeat refine c_seq ?_); refine c_region ?_; (repeat (first | ((first | apply o_move rfl rfl | apply o_easy1 rfl rfl rfl | apply o_ld rfl rfl (by assumption) (by first | rfl | assumption)); conv => lhs; whnf) | apply o_no rfl | refine o_b rfl rfl rfl (by constructor; omega) ?_ | refine o_f rfl rfl rfl (by constructor; omega) ?_ | refine o_s rfl rfl rfl (by constructor; first | omega | assumption) ?_ | refine o_t rfl rfl rfl (by constructor; assumption) ?_ | (apply o_easy rfl rfl rfl; conv => lhs; whnf) | apply o_non rfl)); apply o_end; (repeat (first | exact OutS.nil | exact GetS.hit | exact PutS.hit | apply GetS.miss rfl | apply PutS.miss rfl | apply OutS.cons | apply OutS.skip rfl)))
    ((repeat refine c_seq ?_); refine c_region ?_; (repeat (first | ((first | apply o_move rfl rfl | apply o_easy1 rfl rfl rfl | apply o_ld rfl rfl (by assumption) (by first | rfl | assumption)); conv => lhs; whnf) | apply o_no rfl | refine o_b rfl rfl rfl (by constructor; omega) ?_ | refine o_f rfl rfl rfl (by constructor; omega) ?_ | refine o_s rfl rfl rfl (by constructor; first | omega | assumption) ?_ | refine o_t rfl rfl rfl (by constructor; assumption) ?_ | (apply o_easy rfl rfl rfl; conv => lhs; whnf) | apply o_non rfl)); apply o_end; (repeat (first | exact OutS.nil | exact GetS.hit | exact PutS.hit | apply GetS.miss rfl | apply PutS.miss rfl | apply OutS.cons | apply OutS.skip rfl)))
    ((repeat refine c_seq ?_); refine c_block ?_)
    ((repeat refine c_seq ?_); refine c_region ?_; (repeat (first | ((first | apply o_move rfl rfl | apply o_easy1 rfl rfl rfl | apply o_ld rfl rfl (by assumption) (by first | rfl | assumption)); conv => lhs; whnf) | apply o_no rfl | refine o_b rfl rfl rfl (by constructor; omega) ?_ | refine o_f rfl rfl rfl (by constructor; omega) ?_ | refine o_s rfl rfl rfl (by constructor; first | omega | assumption) ?_ | refine o_t rfl rfl rfl (by constructor; assumption) ?_ | (apply o_easy rfl rfl rfl; conv => lhs; whnf) | apply o_non rfl)); apply o_end; (repeat (first | exact OutS.nil | exact GetS.hit | exact PutS.hit | apply GetS.miss rfl | apply PutS.miss rfl | apply OutS.cons | apply OutS.skip rfl)))
    ((repeat refine c_seq ?_); refine c_if rfl ?_)
    ((repeat refine c_seq ?_); refine c_region ?_; (repeat (first | ((first | apply o_move rfl rfl | apply o_easy1 rfl rfl rfl | apply o_ld rfl rfl (by assumption) (by first | rfl | assumption)); conv => lhs; whnf) | apply o_no rfl | refine o_b rfl rfl rfl (by constructor; omega) ?_ | refine o_f rfl rfl rfl (by constructor; omega) ?_ | refine o_s rfl rfl rfl (by constructor; first | omega | assumption) ?_ | refine o_t rfl rfl rfl (by constructor; assumption) ?_ | (apply o_easy rfl rfl rfl; conv => lhs; whnf) | apply o_non rfl)); apply o_end; (repeat (first | exact OutS.nil | exact GetS.hit | exact PutS.hit | apply GetS.miss rfl | apply PutS.miss rfl | apply OutS.cons | apply OutS.skip rfl)))
    exact c_ret rfl
  · refine ⟨Lib.indexByte l c, indexByte_mem l c, ?_⟩
    (apply f_of rfl rfl; (repeat (first | exact Shape.nil | (apply Shape.cons; conv => lhs; whnf))))
    ((repeat refine c_seq ?_); refine c_region ?_; (repeat (first | ((first | apply o_move rfl rfl | apply o_easy1 rfl rfl rfl | apply o_ld rfl rfl (by assumption) (by first | rfl | assumption)); conv => lhs; whnf) | apply o_no rfl | refine o_b rfl rfl rfl (by constructor; omega) ?_ | refine o_f rfl rfl rfl (by constructor; omega) ?_ | refine o_s rfl rfl rfl (by constructor; first | omega | assumption) ?_ | refine o_t rfl rfl rfl (by constructor; assumption) ?_ | (apply o_easy rfl rfl rfl; conv => lhs; whnf) | apply o_non rfl)); apply o_end; (repeat (first | exact OutS.nil | exact GetS.hit | exact PutS.hit | apply GetS.miss rfl | apply PutS.miss rfl | apply OutS.cons | apply OutS.skip rfl)))
    ((repeat refine c_seq ?_); refine c_region ?_; (repeat (first | ((first | apply o_move rfl rfl | apply o_easy1 rfl rfl rfl | apply o_ld rfl rfl (by assumption) (by first | rfl | assumption)); conv => lhs; whnf) | apply o_no rfl | refine o_b rfl rfl rfl (by constructor; omega) ?_ | refine o_f rfl rfl rfl (by constructor; omega) ?_ | refine o_s rfl rfl rfl (by constructor; first | omega | assumption) ?_ | refine o_t rfl rfl rfl (by constructor; assumption) ?_ | (apply o_easy rfl rfl rfl; conv => lhs; whnf) | apply o_non rfl)); apply o_end; (repeat (first | exact OutS.nil | exact GetS.hit | exact PutS.hit | apply GetS.miss rfl | apply PutS.miss rfl | apply OutS.cons | apply OutS.skip rfl)))
    ((repeat refine c_seq ?_); refine c_block ?_)
    ((repeat refine c_seq ?_); refine c_region ?_; (repeat (first | ((first | apply o_move rfl rfl | apply o_easy1 rfl rfl rfl | apply o_ld rfl rfl (by assumption) (by first | rfl | assumption)); conv => lhs; whnf) | apply o_no rfl | refine o_b rfl rfl rfl (by constructor; omega) ?_ | refine o_f rfl rfl rfl (by constructor; omega) ?_ | refine o_s rfl rfl rfl (by constructor; first | omega | assumption) ?_ | refine o_t rfl rfl rfl (by constructor; assumption) ?_ | (apply o_easy rfl rfl rfl; conv => lhs; whnf) | apply o_non rfl)); apply o_end; (repeat (first | exact OutS.nil | exact GetS.hit | exact PutS.hit | apply GetS.miss rfl | apply PutS.miss rfl | apply OutS.cons | apply OutS.skip rfl)))
    ((repeat refine c_seq ?_); refine c_else rfl ?_)
    ((repeat refine c_seq ?_); refine c_region ?_; (repeat (first | ((first | apply o_move rfl rfl | apply o_easy1 rfl rfl rfl | apply o_ld rfl rfl (by assumption) (by first | rfl | assumption)); conv => lhs; whnf) | apply o_no rfl | refine o_b rfl rfl rfl (by constructor; omega) ?_ | refine o_f rfl rfl rfl (by constructor; omega) ?_ | refine o_s rfl rfl rfl (by constructor; first | omega | assumption) ?_ | refine o_t rfl rfl rfl (by constructor; assumption) ?_ | (apply o_easy rfl rfl rfl; conv => lhs; whnf) | apply o_non rfl)); apply o_end; (repeat (first | exact OutS.nil | exact GetS.hit | exact PutS.hit | apply GetS.miss rfl | apply PutS.miss rfl | apply OutS.cons | apply OutS.skip rfl)))
    ((repeat refine c_seq ?_); refine c_if rfl ?_)
    ((repeat refine c_seq ?_); refine c_region ?_; (repeat (first | ((first | apply o_move rfl rfl | apply o_easy1 rfl rfl rfl | apply o_ld rfl rfl (by assumption) (by first | rfl | assumption)); conv => lhs; whnf) | apply o_no rfl | refine o_b rfl rfl rfl (by constructor; omega) ?_ | refine o_f rfl rfl rfl (by constructor; omega) ?_ | refine o_s rfl rfl rfl (by constructor; first | omega | assumption) ?_ | refine o_t rfl rfl rfl (by constructor; assumption) ?_ | (apply o_easy rfl rfl rfl; conv => lhs; whnf) | apply o_non rfl)))
    refine o_idxS (j := 0) rfl rfl rfl rfl rfl ?_
    refine o_call rfl rfl (idx37 m _ l c s) ?_
    (repeat (first | ((first | apply o_move rfl rfl | apply o_easy1 rfl rfl rfl | apply o_ld rfl rfl (by assumption) (by first | rfl | assumption)); conv => lhs; whnf) | apply o_no rfl | refine o_b rfl rfl rfl (by constructor; omega) ?_ | refine o_f rfl rfl rfl (by constructor; omega) ?_ | refine o_s rfl rfl rfl (by constructor; first | omega | assumption) ?_ | refine o_t rfl rfl rfl (by constructor; assumption) ?_ | (apply o_easy rfl rfl rfl; conv => lhs; whnf) | apply o_non rfl))
    (apply o_end; (repeat (first | exact OutS.nil | exact GetS.hit | exact PutS.hit | apply GetS.miss rfl | apply PutS.miss rfl | apply OutS.cons | apply OutS.skip rfl)))
    exact c_ret rfl

theorem idx24 (m : Nat) (b : Bar) (l : List UInt8) (c : UInt8) (s : Sg) : ∃ n : Int, (0 ≤ n ↔ c ∈ l) ∧ callF T (m + 4) b 24 [.str l, .str [c]] s = some (.ret (.int .i64 n), s) := by
  obtain ⟨n, hn, h⟩ := idx31 m (b.into .pure s) l c s
  refine ⟨n, hn, ?_⟩
  (apply f_of rfl rfl; (repeat (first | exact Shape.nil | (apply Shape.cons; conv => lhs; whnf))))
  ((repeat refine c_seq ?_); refine c_region ?_; (repeat (first | ((first | apply o_move rfl rfl | apply o_easy1 rfl rfl rfl | apply o_ld rfl rfl (by assumption) (by first | rfl | assumption)); conv => lhs; whnf) | apply o_no rfl | refine o_b rfl rfl rfl (by constructor; omega) ?_ | refine o_f rfl rfl rfl (by constructor; omega) ?_ | refine o_s rfl rfl rfl (by constructor; first | omega | assumption) ?_ | refine o_t rfl rfl rfl (by constructor; assumption) ?_ | (apply o_easy rfl rfl rfl; conv => lhs; whnf) | apply o_non rfl)); apply o_end; (repeat (first | exact OutS.nil | exact GetS.hit | exact PutS.hit | apply GetS.miss rfl | apply PutS.miss rfl | apply OutS.cons | apply OutS.skip rfl)))
  ((repeat refine c_seq ?_); refine c_region ?_; (repeat (first | ((first | apply o_move rfl rfl | apply o_easy1 rfl rfl rfl | apply o_ld rfl rfl (by assumption) (by first | rfl | assumption)); conv => lhs; whnf) | apply o_no rfl | refine o_b rfl rfl rfl (by constructor; omega) ?_ | refine o_f rfl rfl rfl (by constructor; omega) ?_ | refine o_s rfl rfl rfl (by constructor; first | omega | assumption) ?_ | refine o_t rfl rfl rfl (by constructor; assumption) ?_ | (apply o_easy rfl rfl rfl; conv => lhs; whnf) | apply o_non rfl)))
  refine o_call rfl rfl h ?_
  (repeat (first | ((first | apply o_move rfl rfl | apply o_easy1 rfl rfl rfl | apply o_ld rfl rfl (by assumption) (by first | rfl | assumption)); conv => lhs; whnf) | apply o_no rfl | refine o_b rfl rfl rfl (by constructor; omega) ?_ | refine o_f rfl rfl rfl (by constructor; omega) ?_ | refine o_s rfl rfl rfl (by constructor; first | omega | assumption) ?_ | refine o_t rfl rfl rfl (by constructor; assumption) ?_ | (apply o_easy rfl rfl rfl; conv => lhs; whnf) | apply o_non rfl))
  (apply o_end; (repeat (first | exact OutS.nil | exact GetS.hit | exact PutS.hit | apply GetS.miss rfl | apply PutS.miss rfl | apply OutS.cons | apply OutS.skip rfl)))
  exact c_ret rfl

/-- strings.Contains, of a byte -/
theorem contains_spec (m : Nat) (b : Bar) (l : List UInt8) (c : UInt8) (s : Sg) : callF T (m + 5) b 18 [.str l, .str [c]] s = some (.ret (.bool (decide (c ∈ l))), s) := by
  obtain ⟨n, hn, h⟩ := idx24 m (b.into .pure s) l c s
  (apply f_of rfl rfl; (repeat (first | exact Shape.nil | (apply Shape.cons; conv => lhs; whnf))))
  ((repeat refine c_seq ?_); refine c_region ?_; (repeat (first | ((first | apply o_move rfl rfl | apply o_easy1 rfl rfl rfl | apply o_ld rfl rfl (by assumption) (by first | rfl | assumption)); conv => lhs; whnf) | apply o_no rfl | refine o_b rfl rfl rfl (by constructor; omega) ?_ | refine o_f rfl rfl rfl (by constructor; omega) ?_ | refine o_s rfl rfl rfl (by constructor; first | omega | assumption) ?_ | refine o_t rfl rfl rfl (by constructor; assumption) ?_ | (apply o_easy rfl rfl rfl; conv => lhs; whnf) | apply o_non rfl)); apply o_end; (repeat (first | exact OutS.nil | exact GetS.hit | exact PutS.hit | apply GetS.miss rfl | apply PutS.miss rfl | apply OutS.cons | apply OutS.skip rfl)))
  ((repeat refine c_seq ?_); refine c_region ?_; (repeat (first | ((first | apply o_move rfl rfl | apply o_easy1 rfl rfl rfl | apply o_ld rfl rfl (by assumption) (by first | rfl | assumption)); conv => lhs; whnf) | apply o_no rfl | refine o_b rfl rfl rfl (by constructor; omega) ?_ | refine o_f rfl rfl rfl (by constructor; omega) ?_ | refine o_s rfl rfl rfl (by constructor; first | omega | assumption) ?_ | refine o_t rfl rfl rfl (by constructor; assumption) ?_ | (apply o_easy rfl rfl rfl; conv => lhs; whnf) | apply o_non rfl)))
  refine o_call rfl rfl h ?_
  by_cases hc : c ∈ l
  · have := hn.mpr hc
    rw [decide_eq_true hc]
    (repeat (first | ((first | apply o_move rfl rfl | apply o_easy1 rfl rfl rfl | apply o_ld rfl rfl (by assumption) (by first | rfl | assumption)); conv => lhs; whnf) | apply o_no rfl | refine o_b rfl rfl rfl (by constructor; omega) ?_ | refine o_f rfl rfl rfl (by constructor; omega) ?_ | refine o_s rfl rfl rfl (by constructor; first | omega | assumption) ?_ | refine o_t rfl rfl rfl (by constructor; assumption) ?_ | (apply o_easy rfl rfl rfl; conv => lhs; whnf) | apply o_non rfl))
    (apply o_end; (repeat (first | exact OutS.nil | exact GetS.hit | exact PutS.hit | apply GetS.miss rfl | apply PutS.miss rfl | apply OutS.cons | apply OutS.skip rfl)))
    exact c_ret rfl
  · have : ¬ 0 ≤ n := fun e => hc (hn.mp e)
    rw [decide_eq_false hc]
    (repeat (first | ((first | apply o_move rfl rfl | apply o_easy1 rfl rfl rfl | apply o_ld rfl rfl (by assumption) (by first | rfl | assumption)); conv => lhs; whnf) | apply o_no rfl | refine o_b rfl rfl rfl (by constructor; omega) ?_ | refine o_f rfl rfl rfl (by constructor; omega) ?_ | refine o_s rfl rfl rfl (by constructor; first | omega | assumption) ?_ | refine o_t rfl rfl rfl (by constructor; assumption) ?_ | (apply o_easy rfl rfl rfl; conv => lhs; whnf) | apply o_non rfl))
    (apply o_end; (repeat (first | exact OutS.nil | exact GetS.hit | exact PutS.hit | apply GetS.miss rfl | apply PutS.miss rfl | apply OutS.cons | apply OutS.skip rfl)))
    exact c_ret rfl

end Go.Tpl

namespace Go.Tpl
open Go Go.Am Go.Proofs

/-- a template's part -/
inductive Tp
  | lit (t : List UInt8)
  | group (n : Int)
  | els (n : Int) (no : List Tp)
  | ifs (n : Int) (yes no : List Tp)

mutual
def Tp.cells : Tp → List AV
  | .lit t => [.int .i64 1, .str t, .int .i64 0, .nilsl, .nilsl]
  | .group n => [.int .i64 2, .str [], .int .i64 n, .nilsl, .nilsl]
  | .els n no => [.int .i64 3, .str [], .int .i64 n, .nilsl, .vec (avs no) .shut]
  | .ifs n yes no => [.int .i64 4, .str [], .int .i64 n, .vec (avs yes) .shut, .vec (avs no) .shut]
def avs : List Tp → List AV
  | [] => []
  | p :: r => .agg p.cells :: avs r
end

def Tp.isLit : Tp → Bool
  | .lit _ => true
  | _ => false
def Tp.text : Tp → List UInt8
  | .lit t => t
  | _ => []
def Tp.kind : Tp → Int
  | .lit _ => 1
  | .group _ => 2
  | .els .. => 3
  | .ifs .. => 4

theorem kind_lit (p : Tp) : p.kind = 1 ↔ p.isLit = true := by cases p <;> simp [Tp.kind, Tp.isLit]
theorem cells_len (p : Tp) : p.cells.length = 5 := by cases p <;> simp [Tp.cells]
theorem cells_0 (p : Tp) : p.cells[0]? = some (.int .i64 p.kind) := by cases p <;> simp [Tp.cells, Tp.kind]
theorem cells_1 (p : Tp) : p.cells[1]? = some (.str p.text) := by cases p <;> simp [Tp.cells, Tp.text]
theorem avs_len : ∀ l : List Tp, (avs l).length = l.length
  | [] => by simp [avs]
  | p :: r => by simp [avs, avs_len r]
theorem avs_app : ∀ a b : List Tp, avs (a ++ b) = avs a ++ avs b
  | [], b => by simp [avs]
  | p :: r, b => by simp [avs, avs_app r b]
theorem avs_size : ∀ l : List Tp, allSize 5 (avs l) = true
  | [] => by simp [avs, allSize]
  | p :: r => by simp [avs, allSize, AV.flat, cells_len, avs_size r]
theorem cells_one (p : Tp) : allOne p.cells = true := by cases p <;> simp [Tp.cells, allOne, AV.one]
theorem cells_kept (p : Tp) : keptAll p.cells = p.cells := by cases p <;> simp [Tp.cells, keptAll, AV.kept]
theorem stored_av (p : Tp) : (AV.agg p.cells).stored = some p.cells := by simp [AV.stored, AV.flat, cells_kept, cells_one]
theorem avs_one : ∀ l : List Tp, allOneAll (avs l) = true
  | [] => by simp [avs, allOneAll]
  | p :: r => by simp [avs, allOneAll, AV.flat, cells_one, avs_one r]

mutual
theorem cells_old (e : Nat) : ∀ p : Tp, AV.oldAll e p.cells = true
  | .lit t => by simp [Tp.cells, AV.oldAll, AV.old]
  | .group n => by simp [Tp.cells, AV.oldAll, AV.old]
  | .els n no => by simp [Tp.cells, AV.oldAll, AV.old, avs_old e no]
  | .ifs n yes no => by simp [Tp.cells, AV.oldAll, AV.old, avs_old e yes, avs_old e no]
theorem avs_old (e : Nat) : ∀ l : List Tp, AV.oldAll e (avs l) = true
  | [] => by simp [avs, AV.oldAll]
  | p :: r => by simp [avs, AV.oldAll, AV.old, cells_old e p, avs_old e r]
end

theorem oldAll_flat (e : Nat) : ∀ l : List Tp, AV.oldAll e (flatAll (avs l)) = true
  | [] => by simp [avs, AV.oldAll, flatAll]
  | p :: r => by
    have h : ∀ a b : List AV, AV.oldAll e a = true → AV.oldAll e b = true → AV.oldAll e (a ++ b) = true := by
      intro a
      induction a with
      | nil => intro b _ hb; exact hb
      | cons x a ih =>
        intro b ha hb
        simp only [AV.oldAll, Bool.and_eq_true, List.cons_append] at ha ⊢
        exact ⟨ha.1, ih b ha.2 hb⟩
    simp only [avs, flatAll, AV.flat]
    exact h _ _ (cells_old e p) (oldAll_flat e r)

theorem flat_len (l : List Tp) : (flatAll (avs l)).length = l.length * 5 := by rw [flatAll_length (avs_size l), avs_len]

/-- a part more; texts side by side are one -/
def addM (l : List Tp) (p : Tp) : List Tp :=
  match l.getLast?, p with
  | some (.lit t), .lit u => l.dropLast ++ [.lit (t ++ u)]
  | _, p => l ++ [p]

theorem addM_lit (l : List Tp) (t u : List UInt8) : addM (l ++ [.lit t]) (.lit u) = l ++ [.lit (t ++ u)] := by simp [addM]
theorem addM_nil (p : Tp) : addM [] p = [p] := by cases p <;> simp [addM]
theorem addM_other {l : List Tp} {q p : Tp} (h : (q.isLit && p.isLit) = false) : addM (l ++ [q]) p = l ++ [q] ++ [p] := by
  cases q <;> cases p <;> simp_all [addM, Tp.isLit]

/-- how a row of parts lies in the abstract heap, from lo on -/
def Rep (lo : Nat) (h : List AObj) (v : AV) (l : List Tp) : Prop :=
  (l = [] ∧ v = .nilsl) ∨ (l ≠ [] ∧ ∃ o g, v = .ms o g 0 l.length 5 ∧ getCells h o g = some (flatAll (avs l)) ∧ lo ≤ o)

theorem Rep.same {lo : Nat} {h h' : List AObj} {v : AV} {l : List Tp} (hr : Rep lo h v l) (hh : ∀ o, lo ≤ o → o < h.length → h'[o]? = h[o]?) : Rep lo h' v l := by
  rcases hr with h1 | ⟨h1, o, g, h2, h3, h4⟩
  · exact .inl h1
  · exact .inr ⟨h1, o, g, h2, getCells_at h3 (hh o h4 (getCells_lt h3)), h4⟩

theorem last_cases (l : List Tp) : l = [] ∨ ∃ l0 q, l = l0 ++ [q] := by
  rcases List.eq_nil_or_concat l with h | ⟨a, b, h⟩
  · exact .inl h
  · exact .inr ⟨a, b, by rw [h]; simp⟩

theorem flat_last (l0 : List Tp) (q : Tp) : flatAll (avs (l0 ++ [q])) = flatAll (avs l0) ++ q.cells := by
  simp [avs_app, flatAll_app, avs, flatAll, AV.flat]

theorem flat_last_get (l0 : List Tp) (q : Tp) (i : Nat) (hi : i < 5) : (flatAll (avs (l0 ++ [q])))[l0.length * 5 + i]? = q.cells[i]? := by
  rw [flat_last, List.getElem?_append_right (by rw [flat_len]; omega)]
  congr 1
  rw [flat_len]
  omega

theorem beq_of {a b : Nat} (h : a = b) : Nat.beq a b = true := by subst h; exact Nat.beq_refl a

theorem partOf_all {cs : List AV} {n : Nat} (h : cs.length = n) : partOf cs 0 (some n) = some (.agg cs) := by
  subst h
  simp [partOf]

theorem add_spec (m : Nat) (b : Bar) (s : Sg) (lo : Nat) (v : AV) (l : List Tp) (p : Tp) (hlo : lo ≤ s.heap.length) (hw : b.w ≤ lo) (hr : Rep lo s.heap v l) (hl : l.length < 2 ^ 30) (ht : p.text.length < 2 ^ 40) (hq : ∀ q ∈ l, q.text.length < 2 ^ 40) :
    OkF (callF T (m + 1) b 19 [v, .agg p.cells] s) fun o s' => ∃ v', o = .ret v' ∧ Rep lo s'.heap v' (addM l p) ∧ (∀ j, j < lo → s'.heap[j]? = s.heap[j]?) ∧ s.heap.length ≤ s'.heap.length ∧ s'.toks = s.toks := by
  have hbox := getCells_new s p.cells 0
  have hk : partOf p.cells 0 none = some (.int .i64 p.kind) := cells_0 p
  have hall : partOf p.cells 0 (some 5) = some (.agg p.cells) := partOf_all (cells_len p)
  rcases last_cases l with rfl | ⟨l0, q, rfl⟩
  · obtain ⟨_, rfl⟩ | ⟨h, _⟩ := hr
    · rw [addM_nil]
      (apply f_wp rfl rfl; (repeat (first | exact Shape.nil | (apply Shape.cons; conv => lhs; whnf))))
      ((repeat refine c_seq ?_); refine c_region ?_; (repeat (first | ((first | apply o_move rfl rfl | apply o_easy1 rfl rfl rfl | apply o_ld rfl rfl (by assumption) (by first | rfl | assumption)); conv => lhs; whnf) | apply o_no rfl | refine o_b rfl rfl rfl (by constructor; omega) ?_ | refine o_f rfl rfl rfl (by constructor; omega) ?_ | refine o_s rfl rfl rfl (by constructor; first | omega | assumption) ?_ | refine o_t rfl rfl rfl (by constructor; assumption) ?_ | (apply o_easy rfl rfl rfl; conv => lhs; whnf) | apply o_non rfl)))
      refine o_box rfl rfl (stored_av p) ?_
      (repeat (first | ((first | apply o_move rfl rfl | apply o_easy1 rfl rfl rfl | apply o_ld rfl rfl (by assumption) (by first | rfl | assumption)); conv => lhs; whnf) | apply o_no rfl | refine o_b rfl rfl rfl (by constructor; omega) ?_ | refine o_f rfl rfl rfl (by constructor; omega) ?_ | refine o_s rfl rfl rfl (by constructor; first | omega | assumption) ?_ | refine o_t rfl rfl rfl (by constructor; assumption) ?_ | (apply o_easy rfl rfl rfl; conv => lhs; whnf) | apply o_non rfl))
      (apply o_end; (repeat (first | exact OutS.nil | exact GetS.hit | exact PutS.hit | apply GetS.miss rfl | apply PutS.miss rfl | apply OutS.cons | apply OutS.skip rfl)))
      ((repeat refine c_seq ?_); refine c_region ?_; (repeat (first | ((first | apply o_move rfl rfl | apply o_easy1 rfl rfl rfl | apply o_ld rfl rfl (by assumption) (by first | rfl | assumption)); conv => lhs; whnf) | apply o_no rfl | refine o_b rfl rfl rfl (by constructor; omega) ?_ | refine o_f rfl rfl rfl (by constructor; omega) ?_ | refine o_s rfl rfl rfl (by constructor; first | omega | assumption) ?_ | refine o_t rfl rfl rfl (by constructor; assumption) ?_ | (apply o_easy rfl rfl rfl; conv => lhs; whnf) | apply o_non rfl)); apply o_end; (repeat (first | exact OutS.nil | exact GetS.hit | exact PutS.hit | apply GetS.miss rfl | apply PutS.miss rfl | apply OutS.cons | apply OutS.skip rfl)))
      ((repeat refine c_seq ?_); refine c_region ?_; (repeat (first | ((first | apply o_move rfl rfl | apply o_easy1 rfl rfl rfl | apply o_ld rfl rfl (by assumption) (by first | rfl | assumption)); conv => lhs; whnf) | apply o_no rfl | refine o_b rfl rfl rfl (by constructor; omega) ?_ | refine o_f rfl rfl rfl (by constructor; omega) ?_ | refine o_s rfl rfl rfl (by constructor; first | omega | assumption) ?_ | refine o_t rfl rfl rfl (by constructor; assumption) ?_ | (apply o_easy rfl rfl rfl; conv => lhs; whnf) | apply o_non rfl)); apply o_end; (repeat (first | exact OutS.nil | exact GetS.hit | exact PutS.hit | apply GetS.miss rfl | apply PutS.miss rfl | apply OutS.cons | apply OutS.skip rfl)))
      ((repeat refine c_seq ?_); refine c_else rfl ?_)
      refine c_skip ?_
      ((repeat refine c_seq ?_); refine c_region ?_; (repeat (first | ((first | apply o_move rfl rfl | apply o_easy1 rfl rfl rfl | apply o_ld rfl rfl (by assumption) (by first | rfl | assumption)); conv => lhs; whnf) | apply o_no rfl | refine o_b rfl rfl rfl (by constructor; omega) ?_ | refine o_f rfl rfl rfl (by constructor; omega) ?_ | refine o_s rfl rfl rfl (by constructor; first | omega | assumption) ?_ | refine o_t rfl rfl rfl (by constructor; assumption) ?_ | (apply o_easy rfl rfl rfl; conv => lhs; whnf) | apply o_non rfl)))
      refine o_bms1 rfl rfl (stored_av p) (beq_of (cells_len p)) ?_
      refine o_app_nil rfl rfl rfl (elems_one (getCells_new _ _ _) (cells_len p)) (by simp [allSize, allOneAll, AV.flat, cells_len, cells_one]) (by simp) rfl ?_
      (repeat (first | ((first | apply o_move rfl rfl | apply o_easy1 rfl rfl rfl | apply o_ld rfl rfl (by assumption) (by first | rfl | assumption)); conv => lhs; whnf) | apply o_no rfl | refine o_b rfl rfl rfl (by constructor; omega) ?_ | refine o_f rfl rfl rfl (by constructor; omega) ?_ | refine o_s rfl rfl rfl (by constructor; first | omega | assumption) ?_ | refine o_t rfl rfl rfl (by constructor; assumption) ?_ | (apply o_easy rfl rfl rfl; conv => lhs; whnf) | apply o_non rfl))
      (apply o_end; (repeat (first | exact OutS.nil | exact GetS.hit | exact PutS.hit | apply GetS.miss rfl | apply PutS.miss rfl | apply OutS.cons | apply OutS.skip rfl)))
      refine c_ret ⟨_, _, rfl, _, rfl, .inr ⟨by simp, _, _, rfl, ?_, ?_⟩, ?_, ?_, rfl⟩
      · exact getCells_new _ _ _
      · simp only [Sg.push_len]; omega
      · intro j hj
        rw [Sg.push_get _ _ (by simp only [Sg.push_len]; omega), Sg.push_get _ _ (by simp only [Sg.push_len]; omega), Sg.push_get _ _ (by omega)]
      · simp only [Sg.push_len]; omega
    · exact absurd rfl h
  · obtain ⟨h, _⟩ | ⟨_, o, go, rfl, hc, ho⟩ := hr
    · simp at h
    have hk2 : partOf (flatAll (avs (l0 ++ [q]))) (0 + l0.length * 5 + 0) none = some (.int .i64 q.kind) := by
      show (flatAll (avs (l0 ++ [q])))[0 + l0.length * 5 + 0]? = _
      rw [Nat.zero_add, flat_last_get _ _ 0 (by omega), cells_0]
    have hc1 := getCells_push (.cells p.cells 0) hc
    have hol : o < s.heap.length := getCells_lt hc
    have hlen : (l0 ++ [q]).length = l0.length + 1 := by simp
    by_cases hpl : p.kind = 1
    · by_cases hql : q.kind = 1
      · cases p with
        | lit u =>
          cases q with
          | lit t =>
            rw [addM_lit]
            have ht : t.length < 2 ^ 40 := hq (.lit t) (by simp)
            have hu : u.length < 2 ^ 40 := by assumption
            have hk3 : partOf (flatAll (avs (l0 ++ [.lit t]))) (0 + l0.length * 5 + 1) none = some (.str t) := by
              show (flatAll (avs (l0 ++ [.lit t])))[0 + l0.length * 5 + 1]? = _
              rw [Nat.zero_add, flat_last_get _ _ 1 (by omega), cells_1]
              rfl
            have hwr : writeAt (flatAll (avs (l0 ++ [.lit t]))) (0 + l0.length * 5 + 1) [.str (t ++ u)] = some (flatAll (avs (l0 ++ [.lit (t ++ u)]))) := by
              have e1 : flatAll (avs (l0 ++ [.lit t])) = (flatAll (avs l0) ++ [AV.int .i64 1]) ++ ([AV.str t] ++ [.int .i64 0, .nilsl, .nilsl]) := by
                rw [flat_last]; simp [Tp.cells]
              have e2 : flatAll (avs (l0 ++ [.lit (t ++ u)])) = (flatAll (avs l0) ++ [AV.int .i64 1]) ++ ([AV.str (t ++ u)] ++ [.int .i64 0, .nilsl, .nilsl]) := by
                rw [flat_last]; simp [Tp.cells]
              have e3 : 0 + l0.length * 5 + 1 = (flatAll (avs l0) ++ [AV.int .i64 1]).length := by simp [flat_len]
              rw [e1, e2, e3]
              exact writeAt_in _ _ _ _ rfl
            (apply f_wp rfl rfl; (repeat (first | exact Shape.nil | (apply Shape.cons; conv => lhs; whnf))))
            ((repeat refine c_seq ?_); refine c_region ?_; (repeat (first | ((first | apply o_move rfl rfl | apply o_easy1 rfl rfl rfl | apply o_ld rfl rfl (by assumption) (by first | rfl | assumption)); conv => lhs; whnf) | apply o_no rfl | refine o_b rfl rfl rfl (by constructor; omega) ?_ | refine o_f rfl rfl rfl (by constructor; omega) ?_ | refine o_s rfl rfl rfl (by constructor; first | omega | assumption) ?_ | refine o_t rfl rfl rfl (by constructor; assumption) ?_ | (apply o_easy rfl rfl rfl; conv => lhs; whnf) | apply o_non rfl)))
            refine o_box rfl rfl (stored_av _) ?_
            (repeat (first | ((first | apply o_move rfl rfl | apply o_easy1 rfl rfl rfl | apply o_ld rfl rfl (by assumption) (by first | rfl | assumption)); conv => lhs; whnf) | apply o_no rfl | refine o_b rfl rfl rfl (by constructor; omega) ?_ | refine o_f rfl rfl rfl (by constructor; omega) ?_ | refine o_s rfl rfl rfl (by constructor; first | omega | assumption) ?_ | refine o_t rfl rfl rfl (by constructor; assumption) ?_ | (apply o_easy rfl rfl rfl; conv => lhs; whnf) | apply o_non rfl))
            (apply o_end; (repeat (first | exact OutS.nil | exact GetS.hit | exact PutS.hit | apply GetS.miss rfl | apply PutS.miss rfl | apply OutS.cons | apply OutS.skip rfl)))
            ((repeat refine c_seq ?_); refine c_region ?_; (repeat (first | ((first | apply o_move rfl rfl | apply o_easy1 rfl rfl rfl | apply o_ld rfl rfl (by assumption) (by first | rfl | assumption)); conv => lhs; whnf) | apply o_no rfl | refine o_b rfl rfl rfl (by constructor; omega) ?_ | refine o_f rfl rfl rfl (by constructor; omega) ?_ | refine o_s rfl rfl rfl (by constructor; first | omega | assumption) ?_ | refine o_t rfl rfl rfl (by constructor; assumption) ?_ | (apply o_easy rfl rfl rfl; conv => lhs; whnf) | apply o_non rfl)); apply o_end; (repeat (first | exact OutS.nil | exact GetS.hit | exact PutS.hit | apply GetS.miss rfl | apply PutS.miss rfl | apply OutS.cons | apply OutS.skip rfl)))
            ((repeat refine c_seq ?_); refine c_region ?_; (repeat (first | ((first | apply o_move rfl rfl | apply o_easy1 rfl rfl rfl | apply o_ld rfl rfl (by assumption) (by first | rfl | assumption)); conv => lhs; whnf) | apply o_no rfl | refine o_b rfl rfl rfl (by constructor; omega) ?_ | refine o_f rfl rfl rfl (by constructor; omega) ?_ | refine o_s rfl rfl rfl (by constructor; first | omega | assumption) ?_ | refine o_t rfl rfl rfl (by constructor; assumption) ?_ | (apply o_easy rfl rfl rfl; conv => lhs; whnf) | apply o_non rfl)))
            refine o_ixms (j := l0.length) rfl rfl rfl (by omega) (by omega) hc1 rfl ?_
            (repeat (first | ((first | apply o_move rfl rfl | apply o_easy1 rfl rfl rfl | apply o_ld rfl rfl (by assumption) (by first | rfl | assumption)); conv => lhs; whnf) | apply o_no rfl | refine o_b rfl rfl rfl (by constructor; omega) ?_ | refine o_f rfl rfl rfl (by constructor; omega) ?_ | refine o_s rfl rfl rfl (by constructor; first | omega | assumption) ?_ | refine o_t rfl rfl rfl (by constructor; assumption) ?_ | (apply o_easy rfl rfl rfl; conv => lhs; whnf) | apply o_non rfl))
            (apply o_end; (repeat (first | exact OutS.nil | exact GetS.hit | exact PutS.hit | apply GetS.miss rfl | apply PutS.miss rfl | apply OutS.cons | apply OutS.skip rfl)))
            ((repeat refine c_seq ?_); refine c_if rfl ?_)
            ((repeat refine c_seq ?_); refine c_drawn ?_; (repeat (first | ((first | apply o_move rfl rfl | apply o_easy1 rfl rfl rfl | apply o_ld rfl rfl (by assumption) (by first | rfl | assumption)); conv => lhs; whnf) | apply o_no rfl | refine o_b rfl rfl rfl (by constructor; omega) ?_ | refine o_f rfl rfl rfl (by constructor; omega) ?_ | refine o_s rfl rfl rfl (by constructor; first | omega | assumption) ?_ | refine o_t rfl rfl rfl (by constructor; assumption) ?_ | (apply o_easy rfl rfl rfl; conv => lhs; whnf) | apply o_non rfl)))
            refine o_ixms (j := l0.length) rfl rfl rfl (by omega) (by omega) hc1 rfl ?_
            (repeat (first | ((first | apply o_move rfl rfl | apply o_easy1 rfl rfl rfl | apply o_ld rfl rfl (by assumption) (by first | rfl | assumption)); conv => lhs; whnf) | apply o_no rfl | refine o_b rfl rfl rfl (by constructor; omega) ?_ | refine o_f rfl rfl rfl (by constructor; omega) ?_ | refine o_s rfl rfl rfl (by constructor; first | omega | assumption) ?_ | refine o_t rfl rfl rfl (by constructor; assumption) ?_ | (apply o_easy rfl rfl rfl; conv => lhs; whnf) | apply o_non rfl))
            refine o_ixms (j := l0.length) rfl rfl rfl (by omega) (by omega) hc1 rfl ?_
            (repeat (first | ((first | apply o_move rfl rfl | apply o_easy1 rfl rfl rfl | apply o_ld rfl rfl (by assumption) (by first | rfl | assumption)); conv => lhs; whnf) | apply o_no rfl | refine o_b rfl rfl rfl (by constructor; omega) ?_ | refine o_f rfl rfl rfl (by constructor; omega) ?_ | refine o_s rfl rfl rfl (by constructor; first | omega | assumption) ?_ | refine o_t rfl rfl rfl (by constructor; assumption) ?_ | (apply o_easy rfl rfl rfl; conv => lhs; whnf) | apply o_non rfl))
            refine o_st rfl rfl rfl rfl hc1 rfl (lets_of (blt_no (by show b.w ≤ o; omega)) (fun e => rfl)) hwr ?_
            (apply d_end rfl; (repeat (first | exact OutS.nil | exact GetS.hit | exact PutS.hit | apply GetS.miss rfl | apply PutS.miss rfl | apply OutS.cons | apply OutS.skip rfl)))
            ((repeat refine c_seq ?_); refine c_region ?_; (repeat (first | ((first | apply o_move rfl rfl | apply o_easy1 rfl rfl rfl | apply o_ld rfl rfl (by assumption) (by first | rfl | assumption)); conv => lhs; whnf) | apply o_no rfl | refine o_b rfl rfl rfl (by constructor; omega) ?_ | refine o_f rfl rfl rfl (by constructor; omega) ?_ | refine o_s rfl rfl rfl (by constructor; first | omega | assumption) ?_ | refine o_t rfl rfl rfl (by constructor; assumption) ?_ | (apply o_easy rfl rfl rfl; conv => lhs; whnf) | apply o_non rfl)); apply o_end; (repeat (first | exact OutS.nil | exact GetS.hit | exact PutS.hit | apply GetS.miss rfl | apply PutS.miss rfl | apply OutS.cons | apply OutS.skip rfl)))
            refine c_ret ⟨_, _, rfl, _, rfl, .inr ⟨by simp, _, _, ?_, getCells_put hc1, ho⟩, ?_, ?_, rfl⟩
            · exact congrArg (fun n => AV.ms o go 0 n 5) (by simp)
            · intro j hj
              rw [Sg.put_get _ _ _ (by omega), Sg.push_get _ _ (by omega)]
            · simp only [Sg.put_len, Sg.push_len]; omega
          | _ => simp [Tp.kind] at hql
        | _ => simp [Tp.kind] at hpl
      · rw [addM_other (by cases q <;> simp_all [Tp.kind, Tp.isLit])]
        (apply f_wp rfl rfl; (repeat (first | exact Shape.nil | (apply Shape.cons; conv => lhs; whnf))))
        ((repeat refine c_seq ?_); refine c_region ?_; (repeat (first | ((first | apply o_move rfl rfl | apply o_easy1 rfl rfl rfl | apply o_ld rfl rfl (by assumption) (by first | rfl | assumption)); conv => lhs; whnf) | apply o_no rfl | refine o_b rfl rfl rfl (by constructor; omega) ?_ | refine o_f rfl rfl rfl (by constructor; omega) ?_ | refine o_s rfl rfl rfl (by constructor; first | omega | assumption) ?_ | refine o_t rfl rfl rfl (by constructor; assumption) ?_ | (apply o_easy rfl rfl rfl; conv => lhs; whnf) | apply o_non rfl)))
        refine o_box rfl rfl (stored_av p) ?_
        (repeat (first | ((first | apply o_move rfl rfl | apply o_easy1 rfl rfl rfl | apply o_ld rfl rfl (by assumption) (by first | rfl | assumption)); conv => lhs; whnf) | apply o_no rfl | refine o_b rfl rfl rfl (by constructor; omega) ?_ | refine o_f rfl rfl rfl (by constructor; omega) ?_ | refine o_s rfl rfl rfl (by constructor; first | omega | assumption) ?_ | refine o_t rfl rfl rfl (by constructor; assumption) ?_ | (apply o_easy rfl rfl rfl; conv => lhs; whnf) | apply o_non rfl))
        (apply o_end; (repeat (first | exact OutS.nil | exact GetS.hit | exact PutS.hit | apply GetS.miss rfl | apply PutS.miss rfl | apply OutS.cons | apply OutS.skip rfl)))
        ((repeat refine c_seq ?_); refine c_region ?_; (repeat (first | ((first | apply o_move rfl rfl | apply o_easy1 rfl rfl rfl | apply o_ld rfl rfl (by assumption) (by first | rfl | assumption)); conv => lhs; whnf) | apply o_no rfl | refine o_b rfl rfl rfl (by constructor; omega) ?_ | refine o_f rfl rfl rfl (by constructor; omega) ?_ | refine o_s rfl rfl rfl (by constructor; first | omega | assumption) ?_ | refine o_t rfl rfl rfl (by constructor; assumption) ?_ | (apply o_easy rfl rfl rfl; conv => lhs; whnf) | apply o_non rfl)); apply o_end; (repeat (first | exact OutS.nil | exact GetS.hit | exact PutS.hit | apply GetS.miss rfl | apply PutS.miss rfl | apply OutS.cons | apply OutS.skip rfl)))
        ((repeat refine c_seq ?_); refine c_region ?_; (repeat (first | ((first | apply o_move rfl rfl | apply o_easy1 rfl rfl rfl | apply o_ld rfl rfl (by assumption) (by first | rfl | assumption)); conv => lhs; whnf) | apply o_no rfl | refine o_b rfl rfl rfl (by constructor; omega) ?_ | refine o_f rfl rfl rfl (by constructor; omega) ?_ | refine o_s rfl rfl rfl (by constructor; first | omega | assumption) ?_ | refine o_t rfl rfl rfl (by constructor; assumption) ?_ | (apply o_easy rfl rfl rfl; conv => lhs; whnf) | apply o_non rfl)))
        refine o_ixms (j := l0.length) rfl rfl rfl (by omega) (by omega) hc1 rfl ?_
        (repeat (first | ((first | apply o_move rfl rfl | apply o_easy1 rfl rfl rfl | apply o_ld rfl rfl (by assumption) (by first | rfl | assumption)); conv => lhs; whnf) | apply o_no rfl | refine o_b rfl rfl rfl (by constructor; omega) ?_ | refine o_f rfl rfl rfl (by constructor; omega) ?_ | refine o_s rfl rfl rfl (by constructor; first | omega | assumption) ?_ | refine o_t rfl rfl rfl (by constructor; assumption) ?_ | (apply o_easy rfl rfl rfl; conv => lhs; whnf) | apply o_non rfl))
        (apply o_end; (repeat (first | exact OutS.nil | exact GetS.hit | exact PutS.hit | apply GetS.miss rfl | apply PutS.miss rfl | apply OutS.cons | apply OutS.skip rfl)))
        ((repeat refine c_seq ?_); refine c_else rfl ?_)
        refine c_skip ?_
        ((repeat refine c_seq ?_); refine c_region ?_; (repeat (first | ((first | apply o_move rfl rfl | apply o_easy1 rfl rfl rfl | apply o_ld rfl rfl (by assumption) (by first | rfl | assumption)); conv => lhs; whnf) | apply o_no rfl | refine o_b rfl rfl rfl (by constructor; omega) ?_ | refine o_f rfl rfl rfl (by constructor; omega) ?_ | refine o_s rfl rfl rfl (by constructor; first | omega | assumption) ?_ | refine o_t rfl rfl rfl (by constructor; assumption) ?_ | (apply o_easy rfl rfl rfl; conv => lhs; whnf) | apply o_non rfl)))
        refine o_bms1 rfl rfl (stored_av p) (beq_of (cells_len p)) ?_
        refine o_app_ms rfl rfl rfl (elems_one (getCells_new _ _ _) (cells_len p)) (by simp [allSize, allOneAll, AV.flat, cells_len, cells_one]) (ble_of (by simp only [List.length_singleton, limit]; omega)) rfl (lets_of (blt_no (by show b.w ≤ o; omega)) (fun e => by simp only [flatAll, AV.flat, List.append_nil]; exact cells_old e p)) (getCells_push _ hc1) (beq_of (flat_len _).symm) ?_
        (repeat (first | ((first | apply o_move rfl rfl | apply o_easy1 rfl rfl rfl | apply o_ld rfl rfl (by assumption) (by first | rfl | assumption)); conv => lhs; whnf) | apply o_no rfl | refine o_b rfl rfl rfl (by constructor; omega) ?_ | refine o_f rfl rfl rfl (by constructor; omega) ?_ | refine o_s rfl rfl rfl (by constructor; first | omega | assumption) ?_ | refine o_t rfl rfl rfl (by constructor; assumption) ?_ | (apply o_easy rfl rfl rfl; conv => lhs; whnf) | apply o_non rfl))
        (apply o_end; (repeat (first | exact OutS.nil | exact GetS.hit | exact PutS.hit | apply GetS.miss rfl | apply PutS.miss rfl | apply OutS.cons | apply OutS.skip rfl)))
        refine c_ret ⟨_, _, rfl, _, rfl, .inr ⟨by simp, _, _, ?_, (getCells_put (getCells_push _ hc1)).trans (by rw [flat_last (l0 ++ [q]) p]; simp only [flatAll, AV.flat, List.append_nil]), ho⟩, ?_, ?_, rfl⟩
        · exact congrArg (fun n => AV.ms o (go + 1) 0 n 5) (by simp)
        · intro j hj
          rw [Sg.put_get _ _ _ (by omega), Sg.push_get _ _ (by simp only [Sg.push_len]; omega), Sg.push_get _ _ (by omega)]
        · simp only [Sg.put_len, Sg.push_len]; omega
    · rw [addM_other (by cases p <;> cases q <;> simp_all [Tp.kind, Tp.isLit])]
      (apply f_wp rfl rfl; (repeat (first | exact Shape.nil | (apply Shape.cons; conv => lhs; whnf))))
      ((repeat refine c_seq ?_); refine c_region ?_; (repeat (first | ((first | apply o_move rfl rfl | apply o_easy1 rfl rfl rfl | apply o_ld rfl rfl (by assumption) (by first | rfl | assumption)); conv => lhs; whnf) | apply o_no rfl | refine o_b rfl rfl rfl (by constructor; omega) ?_ | refine o_f rfl rfl rfl (by constructor; omega) ?_ | refine o_s rfl rfl rfl (by constructor; first | omega | assumption) ?_ | refine o_t rfl rfl rfl (by constructor; assumption) ?_ | (apply o_easy rfl rfl rfl; conv => lhs; whnf) | apply o_non rfl)))
      refine o_box rfl rfl (stored_av p) ?_
      (repeat (first | ((first | apply o_move rfl rfl | apply o_easy1 rfl rfl rfl | apply o_ld rfl rfl (by assumption) (by first | rfl | assumption)); conv => lhs; whnf) | apply o_no rfl | refine o_b rfl rfl rfl (by constructor; omega) ?_ | refine o_f rfl rfl rfl (by constructor; omega) ?_ | refine o_s rfl rfl rfl (by constructor; first | omega | assumption) ?_ | refine o_t rfl rfl rfl (by constructor; assumption) ?_ | (apply o_easy rfl rfl rfl; conv => lhs; whnf) | apply o_non rfl))
      (apply o_end; (repeat (first | exact OutS.nil | exact GetS.hit | exact PutS.hit | apply GetS.miss rfl | apply PutS.miss rfl | apply OutS.cons | apply OutS.skip rfl)))
      ((repeat refine c_seq ?_); refine c_region ?_; (repeat (first | ((first | apply o_move rfl rfl | apply o_easy1 rfl rfl rfl | apply o_ld rfl rfl (by assumption) (by first | rfl | assumption)); conv => lhs; whnf) | apply o_no rfl | refine o_b rfl rfl rfl (by constructor; omega) ?_ | refine o_f rfl rfl rfl (by constructor; omega) ?_ | refine o_s rfl rfl rfl (by constructor; first | omega | assumption) ?_ | refine o_t rfl rfl rfl (by constructor; assumption) ?_ | (apply o_easy rfl rfl rfl; conv => lhs; whnf) | apply o_non rfl)); apply o_end; (repeat (first | exact OutS.nil | exact GetS.hit | exact PutS.hit | apply GetS.miss rfl | apply PutS.miss rfl | apply OutS.cons | apply OutS.skip rfl)))
      ((repeat refine c_seq ?_); refine c_region ?_; (repeat (first | ((first | apply o_move rfl rfl | apply o_easy1 rfl rfl rfl | apply o_ld rfl rfl (by assumption) (by first | rfl | assumption)); conv => lhs; whnf) | apply o_no rfl | refine o_b rfl rfl rfl (by constructor; omega) ?_ | refine o_f rfl rfl rfl (by constructor; omega) ?_ | refine o_s rfl rfl rfl (by constructor; first | omega | assumption) ?_ | refine o_t rfl rfl rfl (by constructor; assumption) ?_ | (apply o_easy rfl rfl rfl; conv => lhs; whnf) | apply o_non rfl)); apply o_end; (repeat (first | exact OutS.nil | exact GetS.hit | exact PutS.hit | apply GetS.miss rfl | apply PutS.miss rfl | apply OutS.cons | apply OutS.skip rfl)))
      ((repeat refine c_seq ?_); refine c_else rfl ?_)
      refine c_skip ?_
      ((repeat refine c_seq ?_); refine c_region ?_; (repeat (first | ((first | apply o_move rfl rfl | apply o_easy1 rfl rfl rfl | apply o_ld rfl rfl (by assumption) (by first | rfl | assumption)); conv => lhs; whnf) | apply o_no rfl | refine o_b rfl rfl rfl (by constructor; omega) ?_ | refine o_f rfl rfl rfl (by constructor; omega) ?_ | refine o_s rfl rfl rfl (by constructor; first | omega | assumption) ?_ | refine o_t rfl rfl rfl (by constructor; assumption) ?_ | (apply o_easy rfl rfl rfl; conv => lhs; whnf) | apply o_non rfl)))
      refine o_bms1 rfl rfl (stored_av p) (beq_of (cells_len p)) ?_
      refine o_app_ms rfl rfl rfl (elems_one (getCells_new _ _ _) (cells_len p)) (by simp [allSize, allOneAll, AV.flat, cells_len, cells_one]) (ble_of (by simp only [List.length_singleton, limit]; omega)) rfl (lets_of (blt_no (by show b.w ≤ o; omega)) (fun e => by simp only [flatAll, AV.flat, List.append_nil]; exact cells_old e p)) (getCells_push _ hc1) (beq_of (flat_len _).symm) ?_
      (repeat (first | ((first | apply o_move rfl rfl | apply o_easy1 rfl rfl rfl | apply o_ld rfl rfl (by assumption) (by first | rfl | assumption)); conv => lhs; whnf) | apply o_no rfl | refine o_b rfl rfl rfl (by constructor; omega) ?_ | refine o_f rfl rfl rfl (by constructor; omega) ?_ | refine o_s rfl rfl rfl (by constructor; first | omega | assumption) ?_ | refine o_t rfl rfl rfl (by constructor; assumption) ?_ | (apply o_easy rfl rfl rfl; conv => lhs; whnf) | apply o_non rfl))
      (apply o_end; (repeat (first | exact OutS.nil | exact GetS.hit | exact PutS.hit | apply GetS.miss rfl | apply PutS.miss rfl | apply OutS.cons | apply OutS.skip rfl)))
      refine c_ret ⟨_, _, rfl, _, rfl, .inr ⟨by simp, _, _, ?_, (getCells_put (getCells_push _ hc1)).trans (by rw [flat_last (l0 ++ [q]) p]; simp only [flatAll, AV.flat, List.append_nil]), ho⟩, ?_, ?_, rfl⟩
      · exact congrArg (fun n => AV.ms o (go + 1) 0 n 5) (by simp)
      · intro j hj
        rw [Sg.put_get _ _ _ (by omega), Sg.push_get _ _ (by simp only [Sg.push_len]; omega), Sg.push_get _ _ (by omega)]
      · simp only [Sg.put_len, Sg.push_len]; omega

end Go.Tpl

namespace Go.Tpl
open Go Go.Am Go.Proofs

/-- a reader, as it lies -/
def rd (t : List UInt8) (i : Nat) (gr : Int) : List AV := [.str t, .int .i64 i, .int .i64 gr, .vec [] .shut]

def isDig (c : UInt8) : Bool := decide (48 ≤ c.toNat) && decide (c.toNat ≤ 57)

/-- a number of so many digits at most, and where it ends -/
def numM (t : List UInt8) : Nat → Nat → Nat → Nat × Nat
  | 0, i, n => (n, i)
  | k + 1, i, n => match t[i]? with
    | some c => if isDig c then numM t k (i + 1) (n * 10 + (c.toNat - 48)) else (n, i)
    | none => (n, i)

theorem dig_spec (m : Nat) (b : Bar) (c : UInt8) (s : Sg) : callF T (m + 1) b 33 [.int .u8 c.toNat] s = some (.ret (.bool (isDig c)), s) := by
  have e1 : ((c.toNat : Int) ≥ 48) ↔ 48 ≤ c.toNat := by omega
  have e2 : ((c.toNat : Int) ≤ 57) ↔ c.toNat ≤ 57 := by omega
  rw [digit_spec]
  simp only [isDig, e1, e2]

theorem u8_sub {c : UInt8} (h : isDig c = true) : IntKind.u8.wrap ((c.toNat : Int) - 48) = ((c.toNat - 48 : Nat) : Int) := by
  simp only [isDig, Bool.and_eq_true, decide_eq_true_eq] at h
  have : c.toNat < 256 := c.toNat_lt
  simp only [IntKind.wrap, IntKind.bits, IntKind.signed]
  simp
  omega

/-- the loop 0 of function 27 -/
def lp27_0 : ACode := .seq (.seq (.drawn [⟨(some 12), .v (.move (.tmp 0)), none⟩, ⟨(some 13), .v (.nilCheck (.tmp 12)), none⟩, ⟨(some 14), .v (.fieldAddr 1 none (.tmp 13)), none⟩, ⟨(some 15), .v (.load none (.tmp 14)), none⟩, ⟨(some 16), .v (.move (.tmp 0)), none⟩, ⟨(some 17), .v (.nilCheck (.tmp 16)), none⟩, ⟨(some 18), .v (.fieldAddr 0 none (.tmp 17)), none⟩, ⟨(some 19), .v (.load none (.tmp 18)), none⟩, ⟨(some 20), .v (.len 0 (.tmp 19)), none⟩, ⟨(some 21), .v (.bin .lss (.tmp 15) (.tmp 20)), none⟩, ⟨(some 22), .v (.move (.tmp 21)), none⟩, ⟨(some 23), .v (.move (.tmp 0)), (some (22, true))⟩, ⟨(some 24), .v (.nilCheck (.tmp 23)), (some (22, true))⟩, ⟨(some 25), .v (.fieldAddr 1 none (.tmp 24)), (some (22, true))⟩, ⟨(some 26), .v (.load none (.tmp 25)), (some (22, true))⟩, ⟨(some 27), .v (.move (.tmp 7)), (some (22, true))⟩, ⟨(some 28), .v (.move (.tmp 1)), (some (22, true))⟩, ⟨(some 29), .v (.bin .add (.tmp 27) (.tmp 28)), (some (22, true))⟩, ⟨(some 30), .v (.bin .lss (.tmp 26) (.tmp 29)), (some (22, true))⟩, ⟨(some 31), .v (.pick (.tmp 22) (.tmp 30) (.const (.bool false))), none⟩, ⟨(some 32), .v (.move (.tmp 31)), none⟩, ⟨(some 33), .v (.move (.tmp 0)), (some (32, true))⟩, ⟨(some 34), .v (.nilCheck (.tmp 33)), (some (32, true))⟩, ⟨(some 35), .v (.fieldAddr 0 none (.tmp 34)), (some (32, true))⟩, ⟨(some 36), .v (.load none (.tmp 35)), (some (32, true))⟩, ⟨(some 37), .v (.move (.tmp 0)), (some (32, true))⟩, ⟨(some 38), .v (.nilCheck (.tmp 37)), (some (32, true))⟩, ⟨(some 39), .v (.fieldAddr 1 none (.tmp 38)), (some (32, true))⟩, ⟨(some 40), .v (.load none (.tmp 39)), (some (32, true))⟩, ⟨(some 41), .v (.indexS (.tmp 36) (.tmp 40)), (some (32, true))⟩, ⟨(some 42), .call 33 [(.tmp 41)], (some (32, true))⟩, ⟨(some 43), .v (.pick (.tmp 32) (.tmp 42) (.const (.bool false))), none⟩] [43] []) (.cond (.tmp 43) (.skip) (.exit 0))) (.block 1 (.seq (.drawn [⟨(some 44), .v (.move (.tmp 6)), none⟩, ⟨(some 45), .v (.bin .mul (.tmp 44) (.const (.int .i64 10))), none⟩, ⟨(some 46), .v (.move (.tmp 0)), none⟩, ⟨(some 47), .v (.nilCheck (.tmp 46)), none⟩, ⟨(some 48), .v (.fieldAddr 0 none (.tmp 47)), none⟩, ⟨(some 49), .v (.load none (.tmp 48)), none⟩, ⟨(some 50), .v (.move (.tmp 0)), none⟩, ⟨(some 51), .v (.nilCheck (.tmp 50)), none⟩, ⟨(some 52), .v (.fieldAddr 1 none (.tmp 51)), none⟩, ⟨(some 53), .v (.load none (.tmp 52)), none⟩, ⟨(some 54), .v (.indexS (.tmp 49) (.tmp 53)), none⟩, ⟨(some 55), .v (.bin .sub (.tmp 54) (.const (.int .u8 48))), none⟩, ⟨(some 56), .v (.conv (.intInt .i64) (.tmp 55)), none⟩, ⟨(some 57), .v (.bin .add (.tmp 45) (.tmp 56)), none⟩, ⟨(some 6), .v (.move (.tmp 57)), none⟩] [6] []) (.region [⟨(some 58), .v (.move (.tmp 0)), none⟩, ⟨(some 59), .v (.nilCheck (.tmp 58)), none⟩, ⟨(some 60), .v (.fieldAddr 1 none (.tmp 59)), none⟩, ⟨(some 61), .v (.load none (.tmp 60)), none⟩, ⟨(some 62), .v (.bin .add (.tmp 61) (.const (.int .i64 1))), none⟩, ⟨(some 63), .v (.nilCheck (.tmp 58)), none⟩, ⟨(some 64), .v (.fieldAddr 1 none (.tmp 63)), none⟩, ⟨none, .e (.store 1 (.tmp 64) (.tmp 62)), none⟩] [])))

theorem num_loop (m : Nat) (b : Bar) (t : List UInt8) (gr : Int) (r g fr0 most : Nat) (hb : b.w ≤ r) (ht : t.length < 2 ^ 40) (hmost : most ≤ 3) {Q : Ex → Fr → Sg → Prop} :
    ∀ (k L : Nat) (i n : Nat) (x : AV) (s : Sg), k + 1 ≤ L → i + k = fr0 + most → k ≤ most → i ≤ t.length → n < 10 ^ (most - k) → getCells s.heap r g = some (rd t i gr) →
    (Q (.exit 0) ⟨[(0, .ptr r g 0), (1, .int .i64 most), (4, .int .i64 0), (5, .bool false), (7, .int .i64 fr0), (43, .bool false), (6, .int .i64 (numM t k i n).1)], [], .off⟩ (s.put r (.cells (rd t (numM t k i n).2 gr) g))) →
    OkL L (fun fr s => ACode.run (loopN (m + 1)) (callF T (m + 1)) b lp27_0 fr s) ⟨[(0, .ptr r g 0), (1, .int .i64 most), (4, .int .i64 0), (5, .bool false), (7, .int .i64 fr0), (43, x), (6, .int .i64 n)], [], .off⟩ s Q := by
  intro k
  induction k with
  | zero =>
    intro L i n x s hL hi hk hit hn hg hq
    obtain ⟨L, rfl⟩ : ∃ L', L = L' + 1 := ⟨L - 1, by omega⟩
    simp only [numM] at hq
    rw [Sg.put_same hg] at hq
    apply l_round
    by_cases h1 : i < t.length
    · ((repeat refine c_seq ?_); refine c_drawn ?_; (repeat (first | ((first | apply o_move rfl rfl | apply o_easy1 rfl rfl rfl | apply o_ld rfl rfl (by assumption) (by first | rfl | assumption)); conv => lhs; whnf) | apply o_no rfl | refine o_b rfl rfl rfl (by constructor; omega) ?_ | refine o_f rfl rfl rfl (by constructor; omega) ?_ | refine o_s rfl rfl rfl (by constructor; first | omega | assumption) ?_ | refine o_t rfl rfl rfl (by constructor; assumption) ?_ | (apply o_easy rfl rfl rfl; conv => lhs; whnf) | apply o_non rfl)))
      (apply d_end rfl; (repeat (first | exact OutS.nil | exact GetS.hit | exact PutS.hit | apply GetS.miss rfl | apply PutS.miss rfl | apply OutS.cons | apply OutS.skip rfl)))
      ((repeat refine c_seq ?_); refine c_else rfl ?_)
      exact c_exit hq
    · ((repeat refine c_seq ?_); refine c_drawn ?_; (repeat (first | ((first | apply o_move rfl rfl | apply o_easy1 rfl rfl rfl | apply o_ld rfl rfl (by assumption) (by first | rfl | assumption)); conv => lhs; whnf) | apply o_no rfl | refine o_b rfl rfl rfl (by constructor; omega) ?_ | refine o_f rfl rfl rfl (by constructor; omega) ?_ | refine o_s rfl rfl rfl (by constructor; first | omega | assumption) ?_ | refine o_t rfl rfl rfl (by constructor; assumption) ?_ | (apply o_easy rfl rfl rfl; conv => lhs; whnf) | apply o_non rfl)))
      (apply d_end rfl; (repeat (first | exact OutS.nil | exact GetS.hit | exact PutS.hit | apply GetS.miss rfl | apply PutS.miss rfl | apply OutS.cons | apply OutS.skip rfl)))
      ((repeat refine c_seq ?_); refine c_else rfl ?_)
      exact c_exit hq
  | succ k ih =>
    intro L i n x s hL hi hk hit hn hg hq
    obtain ⟨L, rfl⟩ : ∃ L', L = L' + 1 := ⟨L - 1, by omega⟩
    apply l_round
    cases hc : t[i]? with
    | none =>
      have h1 : t.length ≤ i := by simpa using hc
      simp only [numM, hc] at hq
      rw [Sg.put_same hg] at hq
      ((repeat refine c_seq ?_); refine c_drawn ?_; (repeat (first | ((first | apply o_move rfl rfl | apply o_easy1 rfl rfl rfl | apply o_ld rfl rfl (by assumption) (by first | rfl | assumption)); conv => lhs; whnf) | apply o_no rfl | refine o_b rfl rfl rfl (by constructor; omega) ?_ | refine o_f rfl rfl rfl (by constructor; omega) ?_ | refine o_s rfl rfl rfl (by constructor; first | omega | assumption) ?_ | refine o_t rfl rfl rfl (by constructor; assumption) ?_ | (apply o_easy rfl rfl rfl; conv => lhs; whnf) | apply o_non rfl)))
      (apply d_end rfl; (repeat (first | exact OutS.nil | exact GetS.hit | exact PutS.hit | apply GetS.miss rfl | apply PutS.miss rfl | apply OutS.cons | apply OutS.skip rfl)))
      ((repeat refine c_seq ?_); refine c_else rfl ?_)
      exact c_exit hq
    | some c =>
      have h1 : i < t.length := lt_of_getElem? hc
      cases hd : isDig c with
      | false =>
        simp only [numM, hc, hd, Bool.false_eq_true, if_false] at hq
        rw [Sg.put_same hg] at hq
        ((repeat refine c_seq ?_); refine c_drawn ?_; (repeat (first | ((first | apply o_move rfl rfl | apply o_easy1 rfl rfl rfl | apply o_ld rfl rfl (by assumption) (by first | rfl | assumption)); conv => lhs; whnf) | apply o_no rfl | refine o_b rfl rfl rfl (by constructor; omega) ?_ | refine o_f rfl rfl rfl (by constructor; omega) ?_ | refine o_s rfl rfl rfl (by constructor; first | omega | assumption) ?_ | refine o_t rfl rfl rfl (by constructor; assumption) ?_ | (apply o_easy rfl rfl rfl; conv => lhs; whnf) | apply o_non rfl)))
        refine o_idxS (j := i) rfl rfl rfl rfl hc ?_
        refine o_call rfl rfl (dig_spec m _ c s) ?_
        rw [hd]
        (repeat (first | ((first | apply o_move rfl rfl | apply o_easy1 rfl rfl rfl | apply o_ld rfl rfl (by assumption) (by first | rfl | assumption)); conv => lhs; whnf) | apply o_no rfl | refine o_b rfl rfl rfl (by constructor; omega) ?_ | refine o_f rfl rfl rfl (by constructor; omega) ?_ | refine o_s rfl rfl rfl (by constructor; first | omega | assumption) ?_ | refine o_t rfl rfl rfl (by constructor; assumption) ?_ | (apply o_easy rfl rfl rfl; conv => lhs; whnf) | apply o_non rfl))
        (apply d_end rfl; (repeat (first | exact OutS.nil | exact GetS.hit | exact PutS.hit | apply GetS.miss rfl | apply PutS.miss rfl | apply OutS.cons | apply OutS.skip rfl)))
        ((repeat refine c_seq ?_); refine c_else rfl ?_)
        exact c_exit hq
      | true =>
        simp only [numM, hc, hd, if_true] at hq
        ((repeat refine c_seq ?_); refine c_drawn ?_; (repeat (first | ((first | apply o_move rfl rfl | apply o_easy1 rfl rfl rfl | apply o_ld rfl rfl (by assumption) (by first | rfl | assumption)); conv => lhs; whnf) | apply o_no rfl | refine o_b rfl rfl rfl (by constructor; omega) ?_ | refine o_f rfl rfl rfl (by constructor; omega) ?_ | refine o_s rfl rfl rfl (by constructor; first | omega | assumption) ?_ | refine o_t rfl rfl rfl (by constructor; assumption) ?_ | (apply o_easy rfl rfl rfl; conv => lhs; whnf) | apply o_non rfl)))
        refine o_idxS (j := i) rfl rfl rfl rfl hc ?_
        refine o_call rfl rfl (dig_spec m _ c s) ?_
        rw [hd]
        (repeat (first | ((first | apply o_move rfl rfl | apply o_easy1 rfl rfl rfl | apply o_ld rfl rfl (by assumption) (by first | rfl | assumption)); conv => lhs; whnf) | apply o_no rfl | refine o_b rfl rfl rfl (by constructor; omega) ?_ | refine o_f rfl rfl rfl (by constructor; omega) ?_ | refine o_s rfl rfl rfl (by constructor; first | omega | assumption) ?_ | refine o_t rfl rfl rfl (by constructor; assumption) ?_ | (apply o_easy rfl rfl rfl; conv => lhs; whnf) | apply o_non rfl))
        (apply d_end rfl; (repeat (first | exact OutS.nil | exact GetS.hit | exact PutS.hit | apply GetS.miss rfl | apply PutS.miss rfl | apply OutS.cons | apply OutS.skip rfl)))
        ((repeat refine c_seq ?_); refine c_if rfl ?_)
        refine c_skip ?_
        ((repeat refine c_seq ?_); refine c_block ?_)
        have hn3 : n < 1000 := by
          have h3 : 10 ^ (most - (k + 1)) ≤ 10 ^ 3 := Nat.pow_le_pow_right (by omega) (by omega)
          omega
        ((repeat refine c_seq ?_); refine c_drawn ?_; (repeat (first | ((first | apply o_move rfl rfl | apply o_easy1 rfl rfl rfl | apply o_ld rfl rfl (by assumption) (by first | rfl | assumption)); conv => lhs; whnf) | apply o_no rfl | refine o_b rfl rfl rfl (by constructor; omega) ?_ | refine o_f rfl rfl rfl (by constructor; omega) ?_ | refine o_s rfl rfl rfl (by constructor; first | omega | assumption) ?_ | refine o_t rfl rfl rfl (by constructor; assumption) ?_ | (apply o_easy rfl rfl rfl; conv => lhs; whnf) | apply o_non rfl)))
        refine o_idxS (j := i) rfl rfl rfl rfl hc ?_
        refine o_subk rfl rfl rfl (u8_sub hd) ?_
        have hcs : c.toNat < 256 := c.toNat_lt
        refine o_convi rfl rfl (wrap_i64 (by omega) (by omega)) ?_
        (repeat (first | ((first | apply o_move rfl rfl | apply o_easy1 rfl rfl rfl | apply o_ld rfl rfl (by assumption) (by first | rfl | assumption)); conv => lhs; whnf) | apply o_no rfl | refine o_b rfl rfl rfl (by constructor; omega) ?_ | refine o_f rfl rfl rfl (by constructor; omega) ?_ | refine o_s rfl rfl rfl (by constructor; first | omega | assumption) ?_ | refine o_t rfl rfl rfl (by constructor; assumption) ?_ | (apply o_easy rfl rfl rfl; conv => lhs; whnf) | apply o_non rfl))
        (apply d_end rfl; (repeat (first | exact OutS.nil | exact GetS.hit | exact PutS.hit | apply GetS.miss rfl | apply PutS.miss rfl | apply OutS.cons | apply OutS.skip rfl)))
        ((repeat refine c_seq ?_); refine c_region ?_; (repeat (first | ((first | apply o_move rfl rfl | apply o_easy1 rfl rfl rfl | apply o_ld rfl rfl (by assumption) (by first | rfl | assumption)); conv => lhs; whnf) | apply o_no rfl | refine o_b rfl rfl rfl (by constructor; omega) ?_ | refine o_f rfl rfl rfl (by constructor; omega) ?_ | refine o_s rfl rfl rfl (by constructor; first | omega | assumption) ?_ | refine o_t rfl rfl rfl (by constructor; assumption) ?_ | (apply o_easy rfl rfl rfl; conv => lhs; whnf) | apply o_non rfl)))
        refine o_st rfl rfl rfl rfl hg rfl (lets_of (blt_no hb) (fun e => rfl)) (cs' := rd t (i + 1) gr) rfl ?_
        (apply o_end; (repeat (first | exact OutS.nil | exact GetS.hit | exact PutS.hit | apply GetS.miss rfl | apply PutS.miss rfl | apply OutS.cons | apply OutS.skip rfl)))
        have hp : n * 10 + (c.toNat - 48) < 10 ^ (most - k) := by
          simp only [isDig, Bool.and_eq_true, decide_eq_true_eq] at hd
          have e : most - k = (most - (k + 1)) + 1 := by omega
          rw [e, Nat.pow_succ]
          omega
        have := ih L (i + 1) (n * 10 + (c.toNat - 48)) (.bool true) (s.put r (.cells (rd t (i + 1) gr) g)) (by omega) (by omega) (by omega) (by omega) hp (getCells_put hg) (by rw [Sg.put_put]; exact hq)
        exact this

/-- (*reader).number -/
theorem number_spec (m : Nat) (b : Bar) (t : List UInt8) (gr : Int) (r g i most : Nat) (s : Sg) (hb : b.w ≤ r) (ht : t.length < 2 ^ 40) (hmost : most ≤ 3) (hi : i ≤ t.length) (hg : getCells s.heap r g = some (rd t i gr)) :
    callF T (m + 6) b 27 [.ptr r g 0, .int .i64 most] s = some (.ret (.tup [.int .i64 (numM t most i 0).1, .bool (decide (i < (numM t most i 0).2))]), s.put r (.cells (rd t (numM t most i 0).2 gr) g)) := by
  (apply f_of rfl rfl; (repeat (first | exact Shape.nil | (apply Shape.cons; conv => lhs; whnf))))
  ((repeat refine c_seq ?_); refine c_region ?_; (repeat (first | ((first | apply o_move rfl rfl | apply o_easy1 rfl rfl rfl | apply o_ld rfl rfl (by assumption) (by first | rfl | assumption)); conv => lhs; whnf) | apply o_no rfl | refine o_b rfl rfl rfl (by constructor; omega) ?_ | refine o_f rfl rfl rfl (by constructor; omega) ?_ | refine o_s rfl rfl rfl (by constructor; first | omega | assumption) ?_ | refine o_t rfl rfl rfl (by constructor; assumption) ?_ | (apply o_easy rfl rfl rfl; conv => lhs; whnf) | apply o_non rfl)); apply o_end; (repeat (first | exact OutS.nil | exact GetS.hit | exact PutS.hit | apply GetS.miss rfl | apply PutS.miss rfl | apply OutS.cons | apply OutS.skip rfl)))
  ((repeat refine c_seq ?_); refine c_drawn ?_; (repeat (first | ((first | apply o_move rfl rfl | apply o_easy1 rfl rfl rfl | apply o_ld rfl rfl (by assumption) (by first | rfl | assumption)); conv => lhs; whnf) | apply o_no rfl | refine o_b rfl rfl rfl (by constructor; omega) ?_ | refine o_f rfl rfl rfl (by constructor; omega) ?_ | refine o_s rfl rfl rfl (by constructor; first | omega | assumption) ?_ | refine o_t rfl rfl rfl (by constructor; assumption) ?_ | (apply o_easy rfl rfl rfl; conv => lhs; whnf) | apply o_non rfl)); apply d_end rfl; (repeat (first | exact OutS.nil | exact GetS.hit | exact PutS.hit | apply GetS.miss rfl | apply PutS.miss rfl | apply OutS.cons | apply OutS.skip rfl)))
  ((repeat refine c_seq ?_); refine c_block ?_)
  refine c_loop ?_
  refine num_loop (m + 4) _ t gr r g i most (by exact hb) ht hmost most _ i 0 _ s (by omega) (by omega) (by omega) hi (Nat.pow_pos (by omega)) hg ?_
  have hg' := getCells_put (cs' := rd t (numM t most i 0).2 gr) (g' := g) hg
  have e : ((numM t most i 0).2 > i) = (i < (numM t most i 0).2) := rfl
  by_cases h : i < (numM t most i 0).2
  · ((repeat refine c_seq ?_); refine c_drawn ?_; (repeat (first | ((first | apply o_move rfl rfl | apply o_easy1 rfl rfl rfl | apply o_ld rfl rfl (by assumption) (by first | rfl | assumption)); conv => lhs; whnf) | apply o_no rfl | refine o_b rfl rfl rfl (by constructor; omega) ?_ | refine o_f rfl rfl rfl (by constructor; omega) ?_ | refine o_s rfl rfl rfl (by constructor; first | omega | assumption) ?_ | refine o_t rfl rfl rfl (by constructor; assumption) ?_ | (apply o_easy rfl rfl rfl; conv => lhs; whnf) | apply o_non rfl)); apply d_end rfl; (repeat (first | exact OutS.nil | exact GetS.hit | exact PutS.hit | apply GetS.miss rfl | apply PutS.miss rfl | apply OutS.cons | apply OutS.skip rfl)))
    refine c_ret ?_
    rw [decide_eq_true h]
    show some (Out.ret _, ({ heap := (s.put r _).heap.take s.heap.length, toks := s.toks } : Sg)) = _
    rw [← s.put_len, List.take_length]
    rfl
  · ((repeat refine c_seq ?_); refine c_drawn ?_; (repeat (first | ((first | apply o_move rfl rfl | apply o_easy1 rfl rfl rfl | apply o_ld rfl rfl (by assumption) (by first | rfl | assumption)); conv => lhs; whnf) | apply o_no rfl | refine o_b rfl rfl rfl (by constructor; omega) ?_ | refine o_f rfl rfl rfl (by constructor; omega) ?_ | refine o_s rfl rfl rfl (by constructor; first | omega | assumption) ?_ | refine o_t rfl rfl rfl (by constructor; assumption) ?_ | (apply o_easy rfl rfl rfl; conv => lhs; whnf) | apply o_non rfl)); apply d_end rfl; (repeat (first | exact OutS.nil | exact GetS.hit | exact PutS.hit | apply GetS.miss rfl | apply PutS.miss rfl | apply OutS.cons | apply OutS.skip rfl)))
    refine c_ret ?_
    rw [decide_eq_false h]
    show some (Out.ret _, ({ heap := (s.put r _).heap.take s.heap.length, toks := s.toks } : Sg)) = _
    rw [← s.put_len, List.take_length]
    rfl

end Go.Tpl

namespace Go.Tpl
open Go Go.Am Go.Proofs

/-- slices.IndexFunc of nothing -/
theorem indexFunc_nil (m : Nat) (b : Bar) (f : AV) (s : Sg) : callF T (m + 2) b 34 [.vec [] .shut, f] s = some (.ret (.int .i64 (-1)), s) := by
  (apply f_of rfl rfl; (repeat (first | exact Shape.nil | (apply Shape.cons; conv => lhs; whnf))))
  ((repeat refine c_seq ?_); refine c_region ?_; (repeat (first | ((first | apply o_move rfl rfl | apply o_easy1 rfl rfl rfl | apply o_ld rfl rfl (by assumption) (by first | rfl | assumption)); conv => lhs; whnf) | apply o_no rfl | refine o_b rfl rfl rfl (by constructor; omega) ?_ | refine o_f rfl rfl rfl (by constructor; omega) ?_ | refine o_s rfl rfl rfl (by constructor; first | omega | assumption) ?_ | refine o_t rfl rfl rfl (by constructor; assumption) ?_ | (apply o_easy rfl rfl rfl; conv => lhs; whnf) | apply o_non rfl)); apply o_end; (repeat (first | exact OutS.nil | exact GetS.hit | exact PutS.hit | apply GetS.miss rfl | apply PutS.miss rfl | apply OutS.cons | apply OutS.skip rfl)))
  ((repeat refine c_seq ?_); refine c_region ?_; (repeat (first | ((first | apply o_move rfl rfl | apply o_easy1 rfl rfl rfl | apply o_ld rfl rfl (by assumption) (by first | rfl | assumption)); conv => lhs; whnf) | apply o_no rfl | refine o_b rfl rfl rfl (by constructor; omega) ?_ | refine o_f rfl rfl rfl (by constructor; omega) ?_ | refine o_s rfl rfl rfl (by constructor; first | omega | assumption) ?_ | refine o_t rfl rfl rfl (by constructor; assumption) ?_ | (apply o_easy rfl rfl rfl; conv => lhs; whnf) | apply o_non rfl)); apply o_end; (repeat (first | exact OutS.nil | exact GetS.hit | exact PutS.hit | apply GetS.miss rfl | apply PutS.miss rfl | apply OutS.cons | apply OutS.skip rfl)))
  ((repeat refine c_seq ?_); refine c_block ?_)
  refine c_loop ?_
  apply l_round
  ((repeat refine c_seq ?_); refine c_region ?_; (repeat (first | ((first | apply o_move rfl rfl | apply o_easy1 rfl rfl rfl | apply o_ld rfl rfl (by assumption) (by first | rfl | assumption)); conv => lhs; whnf) | apply o_no rfl | refine o_b rfl rfl rfl (by constructor; omega) ?_ | refine o_f rfl rfl rfl (by constructor; omega) ?_ | refine o_s rfl rfl rfl (by constructor; first | omega | assumption) ?_ | refine o_t rfl rfl rfl (by constructor; assumption) ?_ | (apply o_easy rfl rfl rfl; conv => lhs; whnf) | apply o_non rfl)); apply o_end; (repeat (first | exact OutS.nil | exact GetS.hit | exact PutS.hit | apply GetS.miss rfl | apply PutS.miss rfl | apply OutS.cons | apply OutS.skip rfl)))
  ((repeat refine c_seq ?_); refine c_else rfl ?_)
  refine c_exit ?_
  ((repeat refine c_seq ?_); refine c_region ?_; (repeat (first | ((first | apply o_move rfl rfl | apply o_easy1 rfl rfl rfl | apply o_ld rfl rfl (by assumption) (by first | rfl | assumption)); conv => lhs; whnf) | apply o_no rfl | refine o_b rfl rfl rfl (by constructor; omega) ?_ | refine o_f rfl rfl rfl (by constructor; omega) ?_ | refine o_s rfl rfl rfl (by constructor; first | omega | assumption) ?_ | refine o_t rfl rfl rfl (by constructor; assumption) ?_ | (apply o_easy rfl rfl rfl; conv => lhs; whnf) | apply o_non rfl)); apply o_end; (repeat (first | exact OutS.nil | exact GetS.hit | exact PutS.hit | apply GetS.miss rfl | apply PutS.miss rfl | apply OutS.cons | apply OutS.skip rfl)))
  exact c_ret rfl

/-- the loop 0 of function 28 -/
def lp28_0 : ACode := .seq (.seq (.drawn [⟨(some 25), .v (.load none (.tmp 1)), none⟩, ⟨(some 26), .v (.nilCheck (.tmp 25)), none⟩, ⟨(some 27), .v (.fieldAddr 1 none (.tmp 26)), none⟩, ⟨(some 28), .v (.load none (.tmp 27)), none⟩, ⟨(some 29), .v (.load none (.tmp 1)), none⟩, ⟨(some 30), .v (.nilCheck (.tmp 29)), none⟩, ⟨(some 31), .v (.fieldAddr 0 none (.tmp 30)), none⟩, ⟨(some 32), .v (.load none (.tmp 31)), none⟩, ⟨(some 33), .v (.len 0 (.tmp 32)), none⟩, ⟨(some 34), .v (.bin .lss (.tmp 28) (.tmp 33)), none⟩, ⟨(some 35), .v (.move (.tmp 34)), none⟩, ⟨(some 36), .v (.load none (.tmp 1)), (some (35, true))⟩, ⟨(some 37), .v (.nilCheck (.tmp 36)), (some (35, true))⟩, ⟨(some 38), .v (.fieldAddr 0 none (.tmp 37)), (some (35, true))⟩, ⟨(some 39), .v (.load none (.tmp 38)), (some (35, true))⟩, ⟨(some 40), .v (.load none (.tmp 1)), (some (35, true))⟩, ⟨(some 41), .v (.nilCheck (.tmp 40)), (some (35, true))⟩, ⟨(some 42), .v (.fieldAddr 1 none (.tmp 41)), (some (35, true))⟩, ⟨(some 43), .v (.load none (.tmp 42)), (some (35, true))⟩, ⟨(some 44), .v (.indexS (.tmp 39) (.tmp 43)), (some (35, true))⟩, ⟨(some 45), .v (.bin .or (.tmp 44) (.const (.int .u8 32))), (some (35, true))⟩, ⟨(some 46), .v (.bin .geq (.tmp 45) (.const (.int .u8 97))), (some (35, true))⟩, ⟨(some 47), .v (.move (.tmp 46)), (some (35, true))⟩, ⟨(some 48), .v (.load none (.tmp 1)), (some (47, true))⟩, ⟨(some 49), .v (.nilCheck (.tmp 48)), (some (47, true))⟩, ⟨(some 50), .v (.fieldAddr 0 none (.tmp 49)), (some (47, true))⟩, ⟨(some 51), .v (.load none (.tmp 50)), (some (47, true))⟩, ⟨(some 52), .v (.load none (.tmp 1)), (some (47, true))⟩, ⟨(some 53), .v (.nilCheck (.tmp 52)), (some (47, true))⟩, ⟨(some 54), .v (.fieldAddr 1 none (.tmp 53)), (some (47, true))⟩, ⟨(some 55), .v (.load none (.tmp 54)), (some (47, true))⟩, ⟨(some 56), .v (.indexS (.tmp 51) (.tmp 55)), (some (47, true))⟩, ⟨(some 57), .v (.bin .or (.tmp 56) (.const (.int .u8 32))), (some (47, true))⟩, ⟨(some 58), .v (.bin .leq (.tmp 57) (.const (.int .u8 122))), (some (47, true))⟩, ⟨(some 59), .v (.pick (.tmp 47) (.tmp 58) (.const (.bool false))), (some (35, true))⟩, ⟨(some 60), .v (.move (.tmp 59)), (some (35, true))⟩, ⟨(some 61), .v (.load none (.tmp 1)), (some (60, false))⟩, ⟨(some 62), .v (.nilCheck (.tmp 61)), (some (60, false))⟩, ⟨(some 63), .v (.fieldAddr 0 none (.tmp 62)), (some (60, false))⟩, ⟨(some 64), .v (.load none (.tmp 63)), (some (60, false))⟩, ⟨(some 65), .v (.load none (.tmp 1)), (some (60, false))⟩, ⟨(some 66), .v (.nilCheck (.tmp 65)), (some (60, false))⟩, ⟨(some 67), .v (.fieldAddr 1 none (.tmp 66)), (some (60, false))⟩, ⟨(some 68), .v (.load none (.tmp 67)), (some (60, false))⟩, ⟨(some 69), .v (.indexS (.tmp 64) (.tmp 68)), (some (60, false))⟩, ⟨(some 70), .v (.bin .eql (.tmp 69) (.const (.int .u8 95))), (some (60, false))⟩, ⟨(some 71), .v (.pick (.tmp 60) (.const (.bool true)) (.tmp 70)), (some (35, true))⟩, ⟨(some 72), .v (.move (.tmp 71)), (some (35, true))⟩, ⟨(some 73), .v (.load none (.tmp 1)), (some (72, false))⟩, ⟨(some 74), .v (.nilCheck (.tmp 73)), (some (72, false))⟩, ⟨(some 75), .v (.fieldAddr 1 none (.tmp 74)), (some (72, false))⟩, ⟨(some 76), .v (.load none (.tmp 75)), (some (72, false))⟩, ⟨(some 77), .v (.load none (.tmp 6)), (some (72, false))⟩, ⟨(some 78), .v (.bin .gtr (.tmp 76) (.tmp 77)), (some (72, false))⟩, ⟨(some 79), .v (.move (.tmp 78)), (some (72, false))⟩, ⟨(some 80), .v (.load none (.tmp 1)), (some (79, true))⟩, ⟨(some 81), .v (.nilCheck (.tmp 80)), (some (79, true))⟩, ⟨(some 82), .v (.fieldAddr 0 none (.tmp 81)), (some (79, true))⟩, ⟨(some 83), .v (.load none (.tmp 82)), (some (79, true))⟩, ⟨(some 84), .v (.load none (.tmp 1)), (some (79, true))⟩, ⟨(some 85), .v (.nilCheck (.tmp 84)), (some (79, true))⟩, ⟨(some 86), .v (.fieldAddr 1 none (.tmp 85)), (some (79, true))⟩, ⟨(some 87), .v (.load none (.tmp 86)), (some (79, true))⟩, ⟨(some 88), .v (.indexS (.tmp 83) (.tmp 87)), (some (79, true))⟩, ⟨(some 89), .call 33 [(.tmp 88)], (some (79, true))⟩, ⟨(some 90), .v (.pick (.tmp 79) (.tmp 89) (.const (.bool false))), (some (72, false))⟩, ⟨(some 91), .v (.pick (.tmp 72) (.const (.bool true)) (.tmp 90)), (some (35, true))⟩, ⟨(some 92), .v (.pick (.tmp 35) (.tmp 91) (.const (.bool false))), none⟩] [92] []) (.cond (.tmp 92) (.skip) (.exit 0))) (.block 1 (.region [⟨(some 93), .v (.load none (.tmp 1)), none⟩, ⟨(some 94), .v (.nilCheck (.tmp 93)), none⟩, ⟨(some 95), .v (.fieldAddr 1 none (.tmp 94)), none⟩, ⟨(some 96), .v (.load none (.tmp 95)), none⟩, ⟨(some 97), .v (.bin .add (.tmp 96) (.const (.int .i64 1))), none⟩, ⟨(some 98), .v (.nilCheck (.tmp 93)), none⟩, ⟨(some 99), .v (.fieldAddr 1 none (.tmp 98)), none⟩, ⟨none, .e (.store 1 (.tmp 99) (.tmp 97)), none⟩] []))

theorem name_loop (m : Nat) (b : Bar) (t : List UInt8) (gr : Int) (r g from' h1 h2 : Nat) (v4 : AV) (s : Sg) (hb : b.w ≤ r) (ht : t.length < 2 ^ 40) (hr : r < s.heap.length) (hh1 : s.heap.length ≤ h1) (hh2 : s.heap.length ≤ h2) {Q : Ex → Fr → Sg → Prop}
    (hq : ∀ j s'', j ≤ t.length → On s r g (rd t j gr) s'' → getCells s''.heap h1 0 = some [.ptr r g 0] → getCells s''.heap h2 0 = some [.int .i64 from'] →
      Q (.exit 0) ⟨[(0, .ptr r g 0), (2, .int .i64 0), (3, .bool false), (1, .ptr h1 0 0), (5, .bool false), (13, .bool false), (4, v4), (6, .ptr h2 0 0), (92, .bool false), (7, .undef), (126, .undef)], [], .off⟩ s'') :
    ∀ (k L : Nat) (i : Nat) (x : AV) (s' : Sg), k + 1 ≤ L → i + k = t.length → On s r g (rd t i gr) s' → getCells s'.heap h1 0 = some [.ptr r g 0] → getCells s'.heap h2 0 = some [.int .i64 from'] →
    OkL L (fun fr s => ACode.run (loopN (m + 1)) (callF T (m + 1)) b lp28_0 fr s) ⟨[(0, .ptr r g 0), (2, .int .i64 0), (3, .bool false), (1, .ptr h1 0 0), (5, .bool false), (13, .bool false), (4, v4), (6, .ptr h2 0 0), (92, x), (7, .undef), (126, .undef)], [], .off⟩ s' Q := by
  intro k
  induction k with
  | zero =>
    intro L i x s' hL hi hon hc1 hc2
    obtain ⟨L, rfl⟩ : ∃ L', L = L' + 1 := ⟨L - 1, by omega⟩
    have hg := hon.get hr
    apply l_round
    ((repeat refine c_seq ?_); refine c_drawn ?_; (repeat (first | ((first | apply o_move rfl rfl | apply o_easy1 rfl rfl rfl | apply o_ld rfl rfl (by assumption) (by first | rfl | assumption)); conv => lhs; whnf) | apply o_no rfl | refine o_b rfl rfl rfl (by constructor; omega) ?_ | refine o_f rfl rfl rfl (by constructor; omega) ?_ | refine o_s rfl rfl rfl (by constructor; first | omega | assumption) ?_ | refine o_t rfl rfl rfl (by constructor; assumption) ?_ | (apply o_easy rfl rfl rfl; conv => lhs; whnf) | apply o_non rfl)); apply d_end rfl; (repeat (first | exact OutS.nil | exact GetS.hit | exact PutS.hit | apply GetS.miss rfl | apply PutS.miss rfl | apply OutS.cons | apply OutS.skip rfl)))
    ((repeat refine c_seq ?_); refine c_else rfl ?_)
    exact c_exit (hq i s' (by omega) hon hc1 hc2)
  | succ k ih =>
    intro L i x s' hL hi hon hc1 hc2
    obtain ⟨L, rfl⟩ : ∃ L', L = L' + 1 := ⟨L - 1, by omega⟩
    have hg := hon.get hr
    have hlt : i < t.length := by omega
    obtain ⟨c, hc⟩ : ∃ c, t[i]? = some c := ⟨t[i], by simp [hlt]⟩
    apply l_round
    ((repeat refine c_seq ?_); refine c_drawn ?_; (repeat (first | ((first | apply o_move rfl rfl | apply o_easy1 rfl rfl rfl | apply o_ld rfl rfl (by assumption) (by first | rfl | assumption)); conv => lhs; whnf) | apply o_no rfl | refine o_b rfl rfl rfl (by constructor; omega) ?_ | refine o_f rfl rfl rfl (by constructor; omega) ?_ | refine o_s rfl rfl rfl (by constructor; first | omega | assumption) ?_ | refine o_t rfl rfl rfl (by constructor; assumption) ?_ | (apply o_easy rfl rfl rfl; conv => lhs; whnf) | apply o_non rfl)))
    refine o_idxS (j := i) rfl rfl rfl rfl hc ?_
    refine o_or rfl rfl rfl fun z _ => ?_
    by_cases hz : z ≥ 97
    · (repeat (first | ((first | apply o_move rfl rfl | apply o_easy1 rfl rfl rfl | apply o_ld rfl rfl (by assumption) (by first | rfl | assumption)); conv => lhs; whnf) | apply o_no rfl | refine o_b rfl rfl rfl (by constructor; omega) ?_ | refine o_f rfl rfl rfl (by constructor; omega) ?_ | refine o_s rfl rfl rfl (by constructor; first | omega | assumption) ?_ | refine o_t rfl rfl rfl (by constructor; assumption) ?_ | (apply o_easy rfl rfl rfl; conv => lhs; whnf) | apply o_non rfl))
      refine o_idxS (j := i) rfl rfl rfl rfl hc ?_
      refine o_or rfl rfl rfl fun y _ => ?_
      by_cases hy : y ≤ 122
      · (repeat (first | ((first | apply o_move rfl rfl | apply o_easy1 rfl rfl rfl | apply o_ld rfl rfl (by assumption) (by first | rfl | assumption)); conv => lhs; whnf) | apply o_no rfl | refine o_b rfl rfl rfl (by constructor; omega) ?_ | refine o_f rfl rfl rfl (by constructor; omega) ?_ | refine o_s rfl rfl rfl (by constructor; first | omega | assumption) ?_ | refine o_t rfl rfl rfl (by constructor; assumption) ?_ | (apply o_easy rfl rfl rfl; conv => lhs; whnf) | apply o_non rfl))
        (apply d_end rfl; (repeat (first | exact OutS.nil | exact GetS.hit | exact PutS.hit | apply GetS.miss rfl | apply PutS.miss rfl | apply OutS.cons | apply OutS.skip rfl)))
        ((repeat refine c_seq ?_); refine c_if rfl ?_)
        refine c_skip ?_
        ((repeat refine c_seq ?_); refine c_block ?_)
        ((repeat refine c_seq ?_); refine c_region ?_; (repeat (first | ((first | apply o_move rfl rfl | apply o_easy1 rfl rfl rfl | apply o_ld rfl rfl (by assumption) (by first | rfl | assumption)); conv => lhs; whnf) | apply o_no rfl | refine o_b rfl rfl rfl (by constructor; omega) ?_ | refine o_f rfl rfl rfl (by constructor; omega) ?_ | refine o_s rfl rfl rfl (by constructor; first | omega | assumption) ?_ | refine o_t rfl rfl rfl (by constructor; assumption) ?_ | (apply o_easy rfl rfl rfl; conv => lhs; whnf) | apply o_non rfl)))
        refine o_st rfl rfl rfl rfl hg rfl (lets_of (blt_no hb) (fun e => rfl)) (cs' := rd t (i + 1) gr) rfl ?_
        (apply o_end; (repeat (first | exact OutS.nil | exact GetS.hit | exact PutS.hit | apply GetS.miss rfl | apply PutS.miss rfl | apply OutS.cons | apply OutS.skip rfl)))
        exact ih L (i + 1) _ _ (by omega) (by omega) (hon.putr _ _) (getCells_put_ne (by omega) hc1) (getCells_put_ne (by omega) hc2)
      · (repeat (first | ((first | apply o_move rfl rfl | apply o_easy1 rfl rfl rfl | apply o_ld rfl rfl (by assumption) (by first | rfl | assumption)); conv => lhs; whnf) | apply o_no rfl | refine o_b rfl rfl rfl (by constructor; omega) ?_ | refine o_f rfl rfl rfl (by constructor; omega) ?_ | refine o_s rfl rfl rfl (by constructor; first | omega | assumption) ?_ | refine o_t rfl rfl rfl (by constructor; assumption) ?_ | (apply o_easy rfl rfl rfl; conv => lhs; whnf) | apply o_non rfl))
        refine o_idxS (j := i) rfl rfl rfl rfl hc ?_
        by_cases h95 : (c.toNat : Int) = 95
        · (repeat (first | ((first | apply o_move rfl rfl | apply o_easy1 rfl rfl rfl | apply o_ld rfl rfl (by assumption) (by first | rfl | assumption)); conv => lhs; whnf) | apply o_no rfl | refine o_b rfl rfl rfl (by constructor; omega) ?_ | refine o_f rfl rfl rfl (by constructor; omega) ?_ | refine o_s rfl rfl rfl (by constructor; first | omega | assumption) ?_ | refine o_t rfl rfl rfl (by constructor; assumption) ?_ | (apply o_easy rfl rfl rfl; conv => lhs; whnf) | apply o_non rfl))
          (apply d_end rfl; (repeat (first | exact OutS.nil | exact GetS.hit | exact PutS.hit | apply GetS.miss rfl | apply PutS.miss rfl | apply OutS.cons | apply OutS.skip rfl)))
          ((repeat refine c_seq ?_); refine c_if rfl ?_)
          refine c_skip ?_
          ((repeat refine c_seq ?_); refine c_block ?_)
          ((repeat refine c_seq ?_); refine c_region ?_; (repeat (first | ((first | apply o_move rfl rfl | apply o_easy1 rfl rfl rfl | apply o_ld rfl rfl (by assumption) (by first | rfl | assumption)); conv => lhs; whnf) | apply o_no rfl | refine o_b rfl rfl rfl (by constructor; omega) ?_ | refine o_f rfl rfl rfl (by constructor; omega) ?_ | refine o_s rfl rfl rfl (by constructor; first | omega | assumption) ?_ | refine o_t rfl rfl rfl (by constructor; assumption) ?_ | (apply o_easy rfl rfl rfl; conv => lhs; whnf) | apply o_non rfl)))
          refine o_st rfl rfl rfl rfl hg rfl (lets_of (blt_no hb) (fun e => rfl)) (cs' := rd t (i + 1) gr) rfl ?_
          (apply o_end; (repeat (first | exact OutS.nil | exact GetS.hit | exact PutS.hit | apply GetS.miss rfl | apply PutS.miss rfl | apply OutS.cons | apply OutS.skip rfl)))
          exact ih L (i + 1) _ _ (by omega) (by omega) (hon.putr _ _) (getCells_put_ne (by omega) hc1) (getCells_put_ne (by omega) hc2)
        · by_cases hfr : i > from'
          · (repeat (first | ((first | apply o_move rfl rfl | apply o_easy1 rfl rfl rfl | apply o_ld rfl rfl (by assumption) (by first | rfl | assumption)); conv => lhs; whnf) | apply o_no rfl | refine o_b rfl rfl rfl (by constructor; omega) ?_ | refine o_f rfl rfl rfl (by constructor; omega) ?_ | refine o_s rfl rfl rfl (by constructor; first | omega | assumption) ?_ | refine o_t rfl rfl rfl (by constructor; assumption) ?_ | (apply o_easy rfl rfl rfl; conv => lhs; whnf) | apply o_non rfl))
            refine o_idxS (j := i) rfl rfl rfl rfl hc ?_
            refine o_call rfl rfl (dig_spec m _ c s') ?_
            cases isDig c with
            | true =>
              (repeat (first | ((first | apply o_move rfl rfl | apply o_easy1 rfl rfl rfl | apply o_ld rfl rfl (by assumption) (by first | rfl | assumption)); conv => lhs; whnf) | apply o_no rfl | refine o_b rfl rfl rfl (by constructor; omega) ?_ | refine o_f rfl rfl rfl (by constructor; omega) ?_ | refine o_s rfl rfl rfl (by constructor; first | omega | assumption) ?_ | refine o_t rfl rfl rfl (by constructor; assumption) ?_ | (apply o_easy rfl rfl rfl; conv => lhs; whnf) | apply o_non rfl))
              (apply d_end rfl; (repeat (first | exact OutS.nil | exact GetS.hit | exact PutS.hit | apply GetS.miss rfl | apply PutS.miss rfl | apply OutS.cons | apply OutS.skip rfl)))
              ((repeat refine c_seq ?_); refine c_if rfl ?_)
              refine c_skip ?_
              ((repeat refine c_seq ?_); refine c_block ?_)
              ((repeat refine c_seq ?_); refine c_region ?_; (repeat (first | ((first | apply o_move rfl rfl | apply o_easy1 rfl rfl rfl | apply o_ld rfl rfl (by assumption) (by first | rfl | assumption)); conv => lhs; whnf) | apply o_no rfl | refine o_b rfl rfl rfl (by constructor; omega) ?_ | refine o_f rfl rfl rfl (by constructor; omega) ?_ | refine o_s rfl rfl rfl (by constructor; first | omega | assumption) ?_ | refine o_t rfl rfl rfl (by constructor; assumption) ?_ | (apply o_easy rfl rfl rfl; conv => lhs; whnf) | apply o_non rfl)))
              refine o_st rfl rfl rfl rfl hg rfl (lets_of (blt_no hb) (fun e => rfl)) (cs' := rd t (i + 1) gr) rfl ?_
              (apply o_end; (repeat (first | exact OutS.nil | exact GetS.hit | exact PutS.hit | apply GetS.miss rfl | apply PutS.miss rfl | apply OutS.cons | apply OutS.skip rfl)))
              exact ih L (i + 1) _ _ (by omega) (by omega) (hon.putr _ _) (getCells_put_ne (by omega) hc1) (getCells_put_ne (by omega) hc2)
            | false =>
              (repeat (first | ((first | apply o_move rfl rfl | apply o_easy1 rfl rfl rfl | apply o_ld rfl rfl (by assumption) (by first | rfl | assumption)); conv => lhs; whnf) | apply o_no rfl | refine o_b rfl rfl rfl (by constructor; omega) ?_ | refine o_f rfl rfl rfl (by constructor; omega) ?_ | refine o_s rfl rfl rfl (by constructor; first | omega | assumption) ?_ | refine o_t rfl rfl rfl (by constructor; assumption) ?_ | (apply o_easy rfl rfl rfl; conv => lhs; whnf) | apply o_non rfl))
              (apply d_end rfl; (repeat (first | exact OutS.nil | exact GetS.hit | exact PutS.hit | apply GetS.miss rfl | apply PutS.miss rfl | apply OutS.cons | apply OutS.skip rfl)))
              ((repeat refine c_seq ?_); refine c_else rfl ?_)
              exact c_exit (hq i s' (by omega) hon hc1 hc2)
          · (repeat (first | ((first | apply o_move rfl rfl | apply o_easy1 rfl rfl rfl | apply o_ld rfl rfl (by assumption) (by first | rfl | assumption)); conv => lhs; whnf) | apply o_no rfl | refine o_b rfl rfl rfl (by constructor; omega) ?_ | refine o_f rfl rfl rfl (by constructor; omega) ?_ | refine o_s rfl rfl rfl (by constructor; first | omega | assumption) ?_ | refine o_t rfl rfl rfl (by constructor; assumption) ?_ | (apply o_easy rfl rfl rfl; conv => lhs; whnf) | apply o_non rfl))
            (apply d_end rfl; (repeat (first | exact OutS.nil | exact GetS.hit | exact PutS.hit | apply GetS.miss rfl | apply PutS.miss rfl | apply OutS.cons | apply OutS.skip rfl)))
            ((repeat refine c_seq ?_); refine c_else rfl ?_)
            exact c_exit (hq i s' (by omega) hon hc1 hc2)
    · (repeat (first | ((first | apply o_move rfl rfl | apply o_easy1 rfl rfl rfl | apply o_ld rfl rfl (by assumption) (by first | rfl | assumption)); conv => lhs; whnf) | apply o_no rfl | refine o_b rfl rfl rfl (by constructor; omega) ?_ | refine o_f rfl rfl rfl (by constructor; omega) ?_ | refine o_s rfl rfl rfl (by constructor; first | omega | assumption) ?_ | refine o_t rfl rfl rfl (by constructor; assumption) ?_ | (apply o_easy rfl rfl rfl; conv => lhs; whnf) | apply o_non rfl))
      refine o_idxS (j := i) rfl rfl rfl rfl hc ?_
      by_cases h95 : (c.toNat : Int) = 95
      · (repeat (first | ((first | apply o_move rfl rfl | apply o_easy1 rfl rfl rfl | apply o_ld rfl rfl (by assumption) (by first | rfl | assumption)); conv => lhs; whnf) | apply o_no rfl | refine o_b rfl rfl rfl (by constructor; omega) ?_ | refine o_f rfl rfl rfl (by constructor; omega) ?_ | refine o_s rfl rfl rfl (by constructor; first | omega | assumption) ?_ | refine o_t rfl rfl rfl (by constructor; assumption) ?_ | (apply o_easy rfl rfl rfl; conv => lhs; whnf) | apply o_non rfl))
        (apply d_end rfl; (repeat (first | exact OutS.nil | exact GetS.hit | exact PutS.hit | apply GetS.miss rfl | apply PutS.miss rfl | apply OutS.cons | apply OutS.skip rfl)))
        ((repeat refine c_seq ?_); refine c_if rfl ?_)
        refine c_skip ?_
        ((repeat refine c_seq ?_); refine c_block ?_)
        ((repeat refine c_seq ?_); refine c_region ?_; (repeat (first | ((first | apply o_move rfl rfl | apply o_easy1 rfl rfl rfl | apply o_ld rfl rfl (by assumption) (by first | rfl | assumption)); conv => lhs; whnf) | apply o_no rfl | refine o_b rfl rfl rfl (by constructor; omega) ?_ | refine o_f rfl rfl rfl (by constructor; omega) ?_ | refine o_s rfl rfl rfl (by constructor; first | omega | assumption) ?_ | refine o_t rfl rfl rfl (by constructor; assumption) ?_ | (apply o_easy rfl rfl rfl; conv => lhs; whnf) | apply o_non rfl)))
        refine o_st rfl rfl rfl rfl hg rfl (lets_of (blt_no hb) (fun e => rfl)) (cs' := rd t (i + 1) gr) rfl ?_
        (apply o_end; (repeat (first | exact OutS.nil | exact GetS.hit | exact PutS.hit | apply GetS.miss rfl | apply PutS.miss rfl | apply OutS.cons | apply OutS.skip rfl)))
        exact ih L (i + 1) _ _ (by omega) (by omega) (hon.putr _ _) (getCells_put_ne (by omega) hc1) (getCells_put_ne (by omega) hc2)
      · by_cases hfr : i > from'
        · (repeat (first | ((first | apply o_move rfl rfl | apply o_easy1 rfl rfl rfl | apply o_ld rfl rfl (by assumption) (by first | rfl | assumption)); conv => lhs; whnf) | apply o_no rfl | refine o_b rfl rfl rfl (by constructor; omega) ?_ | refine o_f rfl rfl rfl (by constructor; omega) ?_ | refine o_s rfl rfl rfl (by constructor; first | omega | assumption) ?_ | refine o_t rfl rfl rfl (by constructor; assumption) ?_ | (apply o_easy rfl rfl rfl; conv => lhs; whnf) | apply o_non rfl))
          refine o_idxS (j := i) rfl rfl rfl rfl hc ?_
          refine o_call rfl rfl (dig_spec m _ c s') ?_
          cases isDig c with
          | true =>
            (repeat (first | ((first | apply o_move rfl rfl | apply o_easy1 rfl rfl rfl | apply o_ld rfl rfl (by assumption) (by first | rfl | assumption)); conv => lhs; whnf) | apply o_no rfl | refine o_b rfl rfl rfl (by constructor; omega) ?_ | refine o_f rfl rfl rfl (by constructor; omega) ?_ | refine o_s rfl rfl rfl (by constructor; first | omega | assumption) ?_ | refine o_t rfl rfl rfl (by constructor; assumption) ?_ | (apply o_easy rfl rfl rfl; conv => lhs; whnf) | apply o_non rfl))
            (apply d_end rfl; (repeat (first | exact OutS.nil | exact GetS.hit | exact PutS.hit | apply GetS.miss rfl | apply PutS.miss rfl | apply OutS.cons | apply OutS.skip rfl)))
            ((repeat refine c_seq ?_); refine c_if rfl ?_)
            refine c_skip ?_
            ((repeat refine c_seq ?_); refine c_block ?_)
            ((repeat refine c_seq ?_); refine c_region ?_; (repeat (first | ((first | apply o_move rfl rfl | apply o_easy1 rfl rfl rfl | apply o_ld rfl rfl (by assumption) (by first | rfl | assumption)); conv => lhs; whnf) | apply o_no rfl | refine o_b rfl rfl rfl (by constructor; omega) ?_ | refine o_f rfl rfl rfl (by constructor; omega) ?_ | refine o_s rfl rfl rfl (by constructor; first | omega | assumption) ?_ | refine o_t rfl rfl rfl (by constructor; assumption) ?_ | (apply o_easy rfl rfl rfl; conv => lhs; whnf) | apply o_non rfl)))
            refine o_st rfl rfl rfl rfl hg rfl (lets_of (blt_no hb) (fun e => rfl)) (cs' := rd t (i + 1) gr) rfl ?_
            (apply o_end; (repeat (first | exact OutS.nil | exact GetS.hit | exact PutS.hit | apply GetS.miss rfl | apply PutS.miss rfl | apply OutS.cons | apply OutS.skip rfl)))
            exact ih L (i + 1) _ _ (by omega) (by omega) (hon.putr _ _) (getCells_put_ne (by omega) hc1) (getCells_put_ne (by omega) hc2)
          | false =>
            (repeat (first | ((first | apply o_move rfl rfl | apply o_easy1 rfl rfl rfl | apply o_ld rfl rfl (by assumption) (by first | rfl | assumption)); conv => lhs; whnf) | apply o_no rfl | refine o_b rfl rfl rfl (by constructor; omega) ?_ | refine o_f rfl rfl rfl (by constructor; omega) ?_ | refine o_s rfl rfl rfl (by constructor; first | omega | assumption) ?_ | refine o_t rfl rfl rfl (by constructor; assumption) ?_ | (apply o_easy rfl rfl rfl; conv => lhs; whnf) | apply o_non rfl))
            (apply d_end rfl; (repeat (first | exact OutS.nil | exact GetS.hit | exact PutS.hit | apply GetS.miss rfl | apply PutS.miss rfl | apply OutS.cons | apply OutS.skip rfl)))
            ((repeat refine c_seq ?_); refine c_else rfl ?_)
            exact c_exit (hq i s' (by omega) hon hc1 hc2)
        · (repeat (first | ((first | apply o_move rfl rfl | apply o_easy1 rfl rfl rfl | apply o_ld rfl rfl (by assumption) (by first | rfl | assumption)); conv => lhs; whnf) | apply o_no rfl | refine o_b rfl rfl rfl (by constructor; omega) ?_ | refine o_f rfl rfl rfl (by constructor; omega) ?_ | refine o_s rfl rfl rfl (by constructor; first | omega | assumption) ?_ | refine o_t rfl rfl rfl (by constructor; assumption) ?_ | (apply o_easy rfl rfl rfl; conv => lhs; whnf) | apply o_non rfl))
          (apply d_end rfl; (repeat (first | exact OutS.nil | exact GetS.hit | exact PutS.hit | apply GetS.miss rfl | apply PutS.miss rfl | apply OutS.cons | apply OutS.skip rfl)))
          ((repeat refine c_seq ?_); refine c_else rfl ?_)
          exact c_exit (hq i s' (by omega) hon hc1 hc2)


theorem numM_le (t : List UInt8) : ∀ (k i n : Nat), i ≤ t.length → (numM t k i n).2 ≤ t.length
  | 0, i, n, h => h
  | k + 1, i, n, h => by
    simp only [numM]
    split
    · rename_i c hc
      split
      · exact numM_le t k (i + 1) _ (lt_of_getElem? hc)
      · exact h
    · exact h

theorem refer_no (m : Nat) (b : Bar) (t : List UInt8) (gr : Int) (r g i : Nat) (s : Sg) (hb : b.w ≤ r) (ht : t.length < 2 ^ 40) (hi : i ≤ t.length) (hm : t.length + 8 ≤ m) (hg : getCells s.heap r g = some (rd t i gr)) (hn : ¬ i < (numM t 3 i 0).2) :
    OkF (callF T (m + 1) b 28 [.ptr r g 0] s) fun o s' => o = .ret (.tup [.int .i64 0, .bool false]) ∧ ∃ j, j ≤ t.length ∧ s' = s.put r (.cells (rd t j gr) g) := by
  obtain ⟨m, rfl⟩ : ∃ m', m = m' + 6 := ⟨m - 6, by omega⟩
  have hr := getCells_lt hg
  have hc1 := getCells_new s [.ptr r g 0] 0
  have hon := (On.refl hg).push (.cells [.ptr r g 0] 0)
  have hnum := number_spec m (b.into .eff s) t gr r g i 3 _ hb ht (by omega) hi (hon.get hr)
  rw [decide_eq_false hn] at hnum
  have hi' : (numM t 3 i 0).2 ≤ t.length := numM_le t 3 i 0 hi
  have hon1 := hon.putr (rd t (numM t 3 i 0).2 gr) g
  have hc1' := getCells_put_ne (i := r) (j := s.heap.length) (o := .cells (rd t (numM t 3 i 0).2 gr) g) (by omega) hc1
  (apply f_wp rfl rfl; (repeat (first | exact Shape.nil | (apply Shape.cons; conv => lhs; whnf))))
  ((repeat refine c_seq ?_); refine c_region ?_; (repeat (first | ((first | apply o_move rfl rfl | apply o_easy1 rfl rfl rfl | apply o_ld rfl rfl (by assumption) (by first | rfl | assumption)); conv => lhs; whnf) | apply o_no rfl | refine o_b rfl rfl rfl (by constructor; omega) ?_ | refine o_f rfl rfl rfl (by constructor; omega) ?_ | refine o_s rfl rfl rfl (by constructor; first | omega | assumption) ?_ | refine o_t rfl rfl rfl (by constructor; assumption) ?_ | (apply o_easy rfl rfl rfl; conv => lhs; whnf) | apply o_non rfl)))
  refine o_box (v := .ptr r g 0) (l := [.ptr r g 0]) rfl rfl rfl ?_
  (repeat (first | ((first | apply o_move rfl rfl | apply o_easy1 rfl rfl rfl | apply o_ld rfl rfl (by assumption) (by first | rfl | assumption)); conv => lhs; whnf) | apply o_no rfl | refine o_b rfl rfl rfl (by constructor; omega) ?_ | refine o_f rfl rfl rfl (by constructor; omega) ?_ | refine o_s rfl rfl rfl (by constructor; first | omega | assumption) ?_ | refine o_t rfl rfl rfl (by constructor; assumption) ?_ | (apply o_easy rfl rfl rfl; conv => lhs; whnf) | apply o_non rfl))
  (apply o_end; (repeat (first | exact OutS.nil | exact GetS.hit | exact PutS.hit | apply GetS.miss rfl | apply PutS.miss rfl | apply OutS.cons | apply OutS.skip rfl)))
  ((repeat refine c_seq ?_); refine c_region ?_; (repeat (first | ((first | apply o_move rfl rfl | apply o_easy1 rfl rfl rfl | apply o_ld rfl rfl (by assumption) (by first | rfl | assumption)); conv => lhs; whnf) | apply o_no rfl | refine o_b rfl rfl rfl (by constructor; omega) ?_ | refine o_f rfl rfl rfl (by constructor; omega) ?_ | refine o_s rfl rfl rfl (by constructor; first | omega | assumption) ?_ | refine o_t rfl rfl rfl (by constructor; assumption) ?_ | (apply o_easy rfl rfl rfl; conv => lhs; whnf) | apply o_non rfl)))
  refine o_call rfl rfl hnum ?_
  (repeat (first | ((first | apply o_move rfl rfl | apply o_easy1 rfl rfl rfl | apply o_ld rfl rfl (by assumption) (by first | rfl | assumption)); conv => lhs; whnf) | apply o_no rfl | refine o_b rfl rfl rfl (by constructor; omega) ?_ | refine o_f rfl rfl rfl (by constructor; omega) ?_ | refine o_s rfl rfl rfl (by constructor; first | omega | assumption) ?_ | refine o_t rfl rfl rfl (by constructor; assumption) ?_ | (apply o_easy rfl rfl rfl; conv => lhs; whnf) | apply o_non rfl))
  (apply o_end; (repeat (first | exact OutS.nil | exact GetS.hit | exact PutS.hit | apply GetS.miss rfl | apply PutS.miss rfl | apply OutS.cons | apply OutS.skip rfl)))
  ((repeat refine c_seq ?_); refine c_region ?_; (repeat (first | ((first | apply o_move rfl rfl | apply o_easy1 rfl rfl rfl | apply o_ld rfl rfl (by assumption) (by first | rfl | assumption)); conv => lhs; whnf) | apply o_no rfl | refine o_b rfl rfl rfl (by constructor; omega) ?_ | refine o_f rfl rfl rfl (by constructor; omega) ?_ | refine o_s rfl rfl rfl (by constructor; first | omega | assumption) ?_ | refine o_t rfl rfl rfl (by constructor; assumption) ?_ | (apply o_easy rfl rfl rfl; conv => lhs; whnf) | apply o_non rfl)); apply o_end; (repeat (first | exact OutS.nil | exact GetS.hit | exact PutS.hit | apply GetS.miss rfl | apply PutS.miss rfl | apply OutS.cons | apply OutS.skip rfl)))
  ((repeat refine c_seq ?_); refine c_else rfl ?_)
  refine c_skip ?_
  have hg1 := hon1.get hr
  ((repeat refine c_seq ?_); refine c_region ?_; (repeat (first | ((first | apply o_move rfl rfl | apply o_easy1 rfl rfl rfl | apply o_ld rfl rfl (by assumption) (by first | rfl | assumption)); conv => lhs; whnf) | apply o_no rfl | refine o_b rfl rfl rfl (by constructor; omega) ?_ | refine o_f rfl rfl rfl (by constructor; omega) ?_ | refine o_s rfl rfl rfl (by constructor; first | omega | assumption) ?_ | refine o_t rfl rfl rfl (by constructor; assumption) ?_ | (apply o_easy rfl rfl rfl; conv => lhs; whnf) | apply o_non rfl)))
  refine o_alloc rfl ?_
  have hc2 := getCells_new ((s.push (.cells [.ptr r g 0] 0)).put r (.cells (rd t (numM t 3 i 0).2 gr) g)) [.int .i64 0] 0
  refine o_st rfl rfl rfl rfl hc2 rfl (lets_of (blt_no (by show b.w ≤ _; simp only [Sg.put_len, Sg.push_len]; omega)) (fun e => rfl)) (cs' := [.int .i64 ((numM t 3 i 0).2 : Nat)]) rfl ?_
  (apply o_end; (repeat (first | exact OutS.nil | exact GetS.hit | exact PutS.hit | apply GetS.miss rfl | apply PutS.miss rfl | apply OutS.cons | apply OutS.skip rfl)))
  ((repeat refine c_seq ?_); refine c_block ?_)
  refine c_loop (x := lp28_0) ?_
  generalize hk0 : (numM t 3 i 0).2 = k0 at *
  generalize (numM t 3 i 0).1 = v0 at *
  have hh2 : s.heap.length ≤ ((s.push (.cells [.ptr r g 0] 0)).put r (.cells (rd t k0 gr) g)).heap.length := by simp only [Sg.put_len, Sg.push_len]; omega
  have X := fun Q hq => @name_loop (m + 5) (b.into .eff s) t gr r g k0 s.heap.length _ (.int .i64 v0) s hb ht hr (by omega) hh2 Q hq (t.length - k0) (m+6) k0 .undef
  have Y := fun Q hq s1 h => X Q hq s1 (by omega) (by omega) h
  refine Y _ ?_ _ ?_ ?_ ?_
  · intro j s'' hj hon2 hd1 hd2
    have hg2 := hon2.get hr
    ((repeat refine c_seq ?_); refine c_region ?_; (repeat (first | ((first | apply o_move rfl rfl | apply o_easy1 rfl rfl rfl | apply o_ld rfl rfl (by assumption) (by first | rfl | assumption)); conv => lhs; whnf) | apply o_no rfl | refine o_b rfl rfl rfl (by constructor; omega) ?_ | refine o_f rfl rfl rfl (by constructor; omega) ?_ | refine o_s rfl rfl rfl (by constructor; first | omega | assumption) ?_ | refine o_t rfl rfl rfl (by constructor; assumption) ?_ | (apply o_easy rfl rfl rfl; conv => lhs; whnf) | apply o_non rfl)))
    refine o_call rfl rfl (indexFunc_nil (m + 4) _ _ s'') ?_
    (repeat (first | ((first | apply o_move rfl rfl | apply o_easy1 rfl rfl rfl | apply o_ld rfl rfl (by assumption) (by first | rfl | assumption)); conv => lhs; whnf) | apply o_no rfl | refine o_b rfl rfl rfl (by constructor; omega) ?_ | refine o_f rfl rfl rfl (by constructor; omega) ?_ | refine o_s rfl rfl rfl (by constructor; first | omega | assumption) ?_ | refine o_t rfl rfl rfl (by constructor; assumption) ?_ | (apply o_easy rfl rfl rfl; conv => lhs; whnf) | apply o_non rfl))
    (apply o_end; (repeat (first | exact OutS.nil | exact GetS.hit | exact PutS.hit | apply GetS.miss rfl | apply PutS.miss rfl | apply OutS.cons | apply OutS.skip rfl)))
    ((repeat refine c_seq ?_); refine c_drawn ?_; (repeat (first | ((first | apply o_move rfl rfl | apply o_easy1 rfl rfl rfl | apply o_ld rfl rfl (by assumption) (by first | rfl | assumption)); conv => lhs; whnf) | apply o_no rfl | refine o_b rfl rfl rfl (by constructor; omega) ?_ | refine o_f rfl rfl rfl (by constructor; omega) ?_ | refine o_s rfl rfl rfl (by constructor; first | omega | assumption) ?_ | refine o_t rfl rfl rfl (by constructor; assumption) ?_ | (apply o_easy rfl rfl rfl; conv => lhs; whnf) | apply o_non rfl)); apply d_end rfl; (repeat (first | exact OutS.nil | exact GetS.hit | exact PutS.hit | apply GetS.miss rfl | apply PutS.miss rfl | apply OutS.cons | apply OutS.skip rfl)))
    ((repeat refine c_seq ?_); refine c_if rfl ?_)
    ((repeat refine c_seq ?_); refine c_region ?_; (repeat (first | ((first | apply o_move rfl rfl | apply o_easy1 rfl rfl rfl | apply o_ld rfl rfl (by assumption) (by first | rfl | assumption)); conv => lhs; whnf) | apply o_no rfl | refine o_b rfl rfl rfl (by constructor; omega) ?_ | refine o_f rfl rfl rfl (by constructor; omega) ?_ | refine o_s rfl rfl rfl (by constructor; first | omega | assumption) ?_ | refine o_t rfl rfl rfl (by constructor; assumption) ?_ | (apply o_easy rfl rfl rfl; conv => lhs; whnf) | apply o_non rfl)); apply o_end; (repeat (first | exact OutS.nil | exact GetS.hit | exact PutS.hit | apply GetS.miss rfl | apply PutS.miss rfl | apply OutS.cons | apply OutS.skip rfl)))
    refine c_ret ⟨_, _, rfl, rfl, j, hj, hon2.trunc⟩
  · exact (hon1.push _).putn (by simp only [Sg.put_len, Sg.push_len]; omega) _
  · exact getCells_put_ne (by simp only [Sg.put_len, Sg.push_len]; omega) (getCells_push _ hc1')
  · exact getCells_put hc2

theorem refer_yes (m : Nat) (b : Bar) (t : List UInt8) (gr : Int) (r g i : Nat) (s : Sg) (hb : b.w ≤ r) (ht : t.length < 2 ^ 40) (hi : i ≤ t.length) (hm : t.length + 8 ≤ m) (hg : getCells s.heap r g = some (rd t i gr)) (hn : i < (numM t 3 i 0).2) :
    OkF (callF T (m + 1) b 28 [.ptr r g 0] s) fun o s' => o = .ret (.tup [.int .i64 (numM t 3 i 0).1, .bool (decide (((numM t 3 i 0).1 : Int) ≤ gr))]) ∧ s' = s.put r (.cells (rd t (numM t 3 i 0).2 gr) g) := by
  obtain ⟨m, rfl⟩ : ∃ m', m = m' + 6 := ⟨m - 6, by omega⟩
  have hr := getCells_lt hg
  have hc1 := getCells_new s [.ptr r g 0] 0
  have hon := (On.refl hg).push (.cells [.ptr r g 0] 0)
  have hnum := number_spec m (b.into .eff s) t gr r g i 3 _ hb ht (by omega) hi (hon.get hr)
  rw [decide_eq_true hn] at hnum
  have hon1 := hon.putr (rd t (numM t 3 i 0).2 gr) g
  have hg1 := hon1.get hr
  have hc1' := getCells_put_ne (i := r) (j := s.heap.length) (o := .cells (rd t (numM t 3 i 0).2 gr) g) (by omega) hc1
  (apply f_wp rfl rfl; (repeat (first | exact Shape.nil | (apply Shape.cons; conv => lhs; whnf))))
  ((repeat refine c_seq ?_); refine c_region ?_; (repeat (first | ((first | apply o_move rfl rfl | apply o_easy1 rfl rfl rfl | apply o_ld rfl rfl (by assumption) (by first | rfl | assumption)); conv => lhs; whnf) | apply o_no rfl | refine o_b rfl rfl rfl (by constructor; omega) ?_ | refine o_f rfl rfl rfl (by constructor; omega) ?_ | refine o_s rfl rfl rfl (by constructor; first | omega | assumption) ?_ | refine o_t rfl rfl rfl (by constructor; assumption) ?_ | (apply o_easy rfl rfl rfl; conv => lhs; whnf) | apply o_non rfl)))
  refine o_box (v := .ptr r g 0) (l := [.ptr r g 0]) rfl rfl rfl ?_
  (repeat (first | ((first | apply o_move rfl rfl | apply o_easy1 rfl rfl rfl | apply o_ld rfl rfl (by assumption) (by first | rfl | assumption)); conv => lhs; whnf) | apply o_no rfl | refine o_b rfl rfl rfl (by constructor; omega) ?_ | refine o_f rfl rfl rfl (by constructor; omega) ?_ | refine o_s rfl rfl rfl (by constructor; first | omega | assumption) ?_ | refine o_t rfl rfl rfl (by constructor; assumption) ?_ | (apply o_easy rfl rfl rfl; conv => lhs; whnf) | apply o_non rfl))
  (apply o_end; (repeat (first | exact OutS.nil | exact GetS.hit | exact PutS.hit | apply GetS.miss rfl | apply PutS.miss rfl | apply OutS.cons | apply OutS.skip rfl)))
  ((repeat refine c_seq ?_); refine c_region ?_; (repeat (first | ((first | apply o_move rfl rfl | apply o_easy1 rfl rfl rfl | apply o_ld rfl rfl (by assumption) (by first | rfl | assumption)); conv => lhs; whnf) | apply o_no rfl | refine o_b rfl rfl rfl (by constructor; omega) ?_ | refine o_f rfl rfl rfl (by constructor; omega) ?_ | refine o_s rfl rfl rfl (by constructor; first | omega | assumption) ?_ | refine o_t rfl rfl rfl (by constructor; assumption) ?_ | (apply o_easy rfl rfl rfl; conv => lhs; whnf) | apply o_non rfl)))
  refine o_call rfl rfl hnum ?_
  (repeat (first | ((first | apply o_move rfl rfl | apply o_easy1 rfl rfl rfl | apply o_ld rfl rfl (by assumption) (by first | rfl | assumption)); conv => lhs; whnf) | apply o_no rfl | refine o_b rfl rfl rfl (by constructor; omega) ?_ | refine o_f rfl rfl rfl (by constructor; omega) ?_ | refine o_s rfl rfl rfl (by constructor; first | omega | assumption) ?_ | refine o_t rfl rfl rfl (by constructor; assumption) ?_ | (apply o_easy rfl rfl rfl; conv => lhs; whnf) | apply o_non rfl))
  (apply o_end; (repeat (first | exact OutS.nil | exact GetS.hit | exact PutS.hit | apply GetS.miss rfl | apply PutS.miss rfl | apply OutS.cons | apply OutS.skip rfl)))
  ((repeat refine c_seq ?_); refine c_region ?_; (repeat (first | ((first | apply o_move rfl rfl | apply o_easy1 rfl rfl rfl | apply o_ld rfl rfl (by assumption) (by first | rfl | assumption)); conv => lhs; whnf) | apply o_no rfl | refine o_b rfl rfl rfl (by constructor; omega) ?_ | refine o_f rfl rfl rfl (by constructor; omega) ?_ | refine o_s rfl rfl rfl (by constructor; first | omega | assumption) ?_ | refine o_t rfl rfl rfl (by constructor; assumption) ?_ | (apply o_easy rfl rfl rfl; conv => lhs; whnf) | apply o_non rfl)); apply o_end; (repeat (first | exact OutS.nil | exact GetS.hit | exact PutS.hit | apply GetS.miss rfl | apply PutS.miss rfl | apply OutS.cons | apply OutS.skip rfl)))
  ((repeat refine c_seq ?_); refine c_if rfl ?_)
  by_cases hle : ((numM t 3 i 0).1 : Int) ≤ gr
  · rw [decide_eq_true hle]
    ((repeat refine c_seq ?_); refine c_drawn ?_; (repeat (first | ((first | apply o_move rfl rfl | apply o_easy1 rfl rfl rfl | apply o_ld rfl rfl (by assumption) (by first | rfl | assumption)); conv => lhs; whnf) | apply o_no rfl | refine o_b rfl rfl rfl (by constructor; omega) ?_ | refine o_f rfl rfl rfl (by constructor; omega) ?_ | refine o_s rfl rfl rfl (by constructor; first | omega | assumption) ?_ | refine o_t rfl rfl rfl (by constructor; assumption) ?_ | (apply o_easy rfl rfl rfl; conv => lhs; whnf) | apply o_non rfl)); apply d_end rfl; (repeat (first | exact OutS.nil | exact GetS.hit | exact PutS.hit | apply GetS.miss rfl | apply PutS.miss rfl | apply OutS.cons | apply OutS.skip rfl)))
    exact c_ret ⟨_, _, rfl, rfl, hon1.trunc⟩
  · rw [decide_eq_false hle]
    ((repeat refine c_seq ?_); refine c_drawn ?_; (repeat (first | ((first | apply o_move rfl rfl | apply o_easy1 rfl rfl rfl | apply o_ld rfl rfl (by assumption) (by first | rfl | assumption)); conv => lhs; whnf) | apply o_no rfl | refine o_b rfl rfl rfl (by constructor; omega) ?_ | refine o_f rfl rfl rfl (by constructor; omega) ?_ | refine o_s rfl rfl rfl (by constructor; first | omega | assumption) ?_ | refine o_t rfl rfl rfl (by constructor; assumption) ?_ | (apply o_easy rfl rfl rfl; conv => lhs; whnf) | apply o_non rfl)); apply d_end rfl; (repeat (first | exact OutS.nil | exact GetS.hit | exact PutS.hit | apply GetS.miss rfl | apply PutS.miss rfl | apply OutS.cons | apply OutS.skip rfl)))
    exact c_ret ⟨_, _, rfl, rfl, hon1.trunc⟩

end Go.Tpl

namespace Go.Tpl
open Go Go.Am Go.Proofs

theorem take_spec (m : Nat) (b : Bar) (s : Sg) {r g : Nat} {t p : List UInt8} {gr : Int} {i : Nat} (hg : getCells s.heap r g = some (rd t i gr)) (hi : i ≤ t.length) (hw : b.w ≤ r) (hb : i + p.length < 2 ^ 62) :
    callF T (m + 3) b 25 [.ptr r g 0, .str p] s = some (.ret (.bool (stands t i p)), s.put r (.cells (rd t (if stands t i p then i + p.length else i) gr) g)) := by
  cases h : stands t i p with
  | false =>
    rw [take_no m b s hg hi h]
    simp only [Bool.false_eq_true, if_false]
    rw [s.put_same hg]
  | true =>
    rw [take_yes m b s hg hi h (blt_no hw) hb]
    rfl

theorem stands_le {t p : List UInt8} {i : Nat} (h : stands t i p = true) (hi : i ≤ t.length) : i + p.length ≤ t.length := by
  simp only [stands, Bool.and_eq_true, decide_eq_true_eq, List.length_drop] at h
  omega

abbrev PRes := Except Nat (List Tp × Nat)
abbrev DRes := Except Nat (Tp × Nat)

/-- what ends with a brace -/
def closeM (t : List UInt8) (at' : Nat) (p : Tp) (k : Nat) : Option DRes := if stands t k [125] then some (.ok (p, k + 1)) else some (.error at')

mutual
def partsM (t : List UInt8) (gr : Int) : Nat → List UInt8 → Nat → Nat → List Tp → Option PRes
  | 0, _, _, _, _ => none
  | n + 1, ends, d, i, out => match t[i]? with
    | none => some (.ok (out, i))
    | some c =>
      if c ∈ ends then some (.ok (out, i))
      else if c.toNat = 92 then match t[i + 1]? with
        | none => some (.error i)
        | some e => partsM t gr n ends d (i + 2) (addM out (.lit [e]))
      else if c.toNat = 36 then match dollarM t gr n i d (i + 1) with
        | none => none
        | some (.error a) => some (.error a)
        | some (.ok (p, j)) => partsM t gr n ends d j (addM out p)
      else partsM t gr n ends d (i + 1) (addM out (.lit [c]))
def dollarM (t : List UInt8) (gr : Int) : Nat → Nat → Nat → Nat → Option DRes
  | 0, _, _, _ => none
  | n + 1, at', d, i =>
    if stands t i [36] then some (.ok (.lit [36], i + 1))
    else if stands t i [123] = false then (if i < (numM t 2 i 0).2 ∧ ((numM t 2 i 0).1 : Int) ≤ gr then some (.ok (.group (numM t 2 i 0).1, (numM t 2 i 0).2)) else some (.error at'))
    else if ¬ (i + 1 < (numM t 3 (i + 1) 0).2 ∧ ((numM t 3 (i + 1) 0).1 : Int) ≤ gr) then some (.error at')
    else if stands t (numM t 3 (i + 1) 0).2 [58, 45] then
      if d < 10 then match partsM t gr n [125] (d + 1) ((numM t 3 (i + 1) 0).2 + 2) [] with
        | none => none
        | some (.error a) => some (.error a)
        | some (.ok (no, k)) => closeM t at' (.els (numM t 3 (i + 1) 0).1 no) k
      else some (.error at')
    else if stands t (numM t 3 (i + 1) 0).2 [58, 43] then
      if d < 10 then match partsM t gr n [58, 125] (d + 1) ((numM t 3 (i + 1) 0).2 + 2) [] with
        | none => none
        | some (.error a) => some (.error a)
        | some (.ok (yes, k)) =>
          if stands t k [58] then match partsM t gr n [125] (d + 1) (k + 1) [] with
            | none => none
            | some (.error a) => some (.error a)
            | some (.ok (no, k2)) => closeM t at' (.ifs (numM t 3 (i + 1) 0).1 yes no) k2
          else some (.error at')
      else some (.error at')
    else closeM t at' (.group (numM t 3 (i + 1) 0).1) (numM t 3 (i + 1) 0).2
end

/-- what parts leaves -/
def PQ (t : List UInt8) (gr : Int) (r g : Nat) (s : Sg) : PRes → Out → Sg → Prop
  | .ok (l, j), o, s' => o = .ret (.vec (avs l) .shut) ∧ s' = s.put r (.cells (rd t j gr) g) ∧ j ≤ t.length
  | .error a, o, s' => o = .panic (.iface 48 (.int .i64 a)) ∧ ∃ j : Nat, s' = s.put r (.cells (rd t j gr) g)

/-- what dollar leaves -/
def DQ (t : List UInt8) (gr : Int) (r g : Nat) (s : Sg) : DRes → Out → Sg → Prop
  | .ok (p, j), o, s' => o = .ret (.agg p.cells) ∧ s' = s.put r (.cells (rd t j gr) g) ∧ j ≤ t.length
  | .error a, o, s' => o = .panic (.iface 48 (.int .i64 a)) ∧ ∃ j : Nat, s' = s.put r (.cells (rd t j gr) g)

def PartsAt (t : List UInt8) (gr : Int) (n : Nat) (ends : List UInt8) (d i N : Nat) : Prop :=
  ∀ res, partsM t gr n ends d i [] = some res → i ≤ t.length → ∀ m, N ≤ m → ∀ b r g s, b.w ≤ r → getCells s.heap r g = some (rd t i gr) →
    OkF (callF T m b 14 [.ptr r g 0, .str ends, .int .i64 d] s) (PQ t gr r g s res)

def PartsOk (t : List UInt8) (gr : Int) (n : Nat) : Prop := ∀ ends d i, ∃ N, PartsAt t gr n ends d i N

def DollarAt (t : List UInt8) (gr : Int) (n : Nat) (at' d i N : Nat) : Prop :=
  ∀ res, dollarM t gr n at' d i = some res → i ≤ t.length → ∀ m, N ≤ m → ∀ b r g s, b.w ≤ r → getCells s.heap r g = some (rd t i gr) →
    OkF (callF T m b 20 [.ptr r g 0, .int .i64 at', .int .i64 d] s) (DQ t gr r g s res)

abbrev zc : List AV := [.int .i64 0, .str [], .int .i64 0, .nilsl, .nilsl]

/-- dollar's own objects, and the reader -/
structure DSt (t : List UInt8) (gr : Int) (at' : Nat) (s : Sg) (r g A B : Nat) (j : Nat) (s' : Sg) : Prop where
  on : On s r g (rd t j gr) s'
  a : getCells s'.heap A 0 = some [.int .i64 at']
  b : getCells s'.heap B 0 = some zc
  ra : r < A
  ab : A < B
  lo : s.heap.length ≤ A
  rl : r < s.heap.length

theorem DSt.get {t gr at' s r g A B j s'} (h : DSt t gr at' s r g A B j s') : getCells s'.heap r g = some (rd t j gr) := h.on.get h.rl
theorem DSt.putr {t gr at' s r g A B j s'} (h : DSt t gr at' s r g A B j s') (k : Nat) : DSt t gr at' s r g A B k (s'.put r (.cells (rd t k gr) g)) :=
  ⟨h.on.putr _ _, getCells_put_ne (by have := h.ra; omega) h.a, getCells_put_ne (by have := h.ra; have := h.ab; omega) h.b, h.ra, h.ab, h.lo, h.rl⟩
theorem DSt.push {t gr at' s r g A B j s'} (h : DSt t gr at' s r g A B j s') (o : AObj) : DSt t gr at' s r g A B j (s'.push o) :=
  ⟨h.on.push _, getCells_push _ h.a, getCells_push _ h.b, h.ra, h.ab, h.lo, h.rl⟩
theorem DSt.putn {t gr at' s r g A B j s'} (h : DSt t gr at' s r g A B j s') {o : Nat} (x : AObj) (ho : B < o) : DSt t gr at' s r g A B j (s'.put o x) :=
  ⟨h.on.putn (by have := h.lo; have := h.ab; omega) _, getCells_put_ne (by have := h.ab; omega) h.a, getCells_put_ne (by omega) h.b, h.ra, h.ab, h.lo, h.rl⟩

/-- dollar's end: with a part -/
theorem dollar_end {callD : DeferFn} {bb : Bar} {t : List UInt8} {gr : Int} {at' j : Nat} {s s' : Sg} {r g A B : Nat} {pers : Env} {p : Tp} (h : DSt t gr at' s r g A B j s') (hp : (Env.get pers 6).def? = some (.ptr B 0 0)) (hj : j ≤ t.length) :
    OkF (finish callD bb af20 s .ret ⟨pers, [], .off⟩ (s'.put B (.cells p.cells 0))) (DQ t gr r g s (.ok (p, j))) := by
  have hb := getCells_put (cs' := p.cells) (g' := 0) h.b
  refine fin_ret (.inl rfl) (read_cell hp hb (partOf_all (cells_len p)) read_nil) (leave_eff (lay_cons rfl lay_nil) ?_) ⟨rfl, ?_, hj⟩
  · show AV.oldAll _ [AV.agg p.cells] = true
    simp only [AV.oldAll, AV.old, cells_old, Bool.and_self]
  · exact (h.on.putn (by have := h.lo; have := h.ab; omega) _).trunc

theorem dollar_bad {callD : DeferFn} {bb : Bar} {t : List UInt8} {gr : Int} {at' j a : Nat} {s s' : Sg} {r g A B : Nat} {pers : Env} (h : DSt t gr at' s r g A B j s') :
    OkF (finish callD bb af20 s (.panic (.iface 48 (.int .i64 a))) ⟨pers, [], .off⟩ s') (DQ t gr r g s (.error a)) :=
  fin_panic (leave_eff (lay_cons rfl lay_nil) rfl) ⟨rfl, j, h.on.trunc⟩

theorem old_vec (e : Nat) (l : List Tp) : AV.oldAll e [.vec (avs l) .shut] = true := by simp [AV.oldAll, AV.old, avs_old]
theorem wr_all (p : Tp) : writeAt zc 0 p.cells = some p.cells := by cases p <;> rfl

set_option maxHeartbeats 4000000 in
theorem dollar_ok (t : List UInt8) (gr : Int) (n : Nat) (ht : t.length < 2 ^ 30) (hP : PartsOk t gr n) (at' d i : Nat) : ∃ N, DollarAt t gr (n + 1) at' d i N := by
  obtain ⟨N1, h1⟩ := hP [125] (d + 1) ((numM t 3 (i + 1) 0).2 + 2)
  obtain ⟨N2, h2⟩ := hP [58, 125] (d + 1) ((numM t 3 (i + 1) 0).2 + 2)
  obtain ⟨N3, h3⟩ := hP [125] (d + 1) ((match partsM t gr n [58, 125] (d + 1) ((numM t 3 (i + 1) 0).2 + 2) [] with | some (.ok (_, k)) => k | _ => 0) + 1)
  refine ⟨N1 + N2 + N3 + t.length + 40, ?_⟩
  intro res hres hi m hm b r g s hw hg
  obtain ⟨m, rfl⟩ : ∃ m', m = m' + 10 := ⟨m - 10, by omega⟩
  have hr := getCells_lt hg
  have hcA := getCells_new s [.int .i64 (at' : Int)] 0
  have hon := ((On.refl hg).push (.cells [.int .i64 (at' : Int)] 0)).push (.cells zc 0)
  have hcA := getCells_push (.cells zc 0) hcA
  have hcB := getCells_new (s.push (.cells [.int .i64 (at' : Int)] 0)) zc 0
  have hlen := s.push_len (.cells [.int .i64 (at' : Int)] 0)
  simp only [dollarM] at hres
  (apply f_wp rfl rfl; (repeat (first | exact Shape.nil | (apply Shape.cons; conv => lhs; whnf))))
  ((repeat refine c_seq ?_); refine c_region ?_; (repeat (first | ((first | apply o_move rfl rfl | apply o_easy1 rfl rfl rfl | apply o_ld rfl rfl (by assumption) (by first | rfl | assumption)); conv => lhs; whnf) | apply o_no rfl | refine o_b rfl rfl rfl (by constructor; omega) ?_ | refine o_f rfl rfl rfl (by constructor; omega) ?_ | refine o_s rfl rfl rfl (by constructor; first | omega | assumption) ?_ | refine o_t rfl rfl rfl (by constructor; assumption) ?_ | (apply o_easy rfl rfl rfl; conv => lhs; whnf) | apply o_non rfl)))
  refine o_box (v := .int .i64 at') (l := [.int .i64 at']) rfl rfl rfl ?_
  refine o_alloc rfl ?_
  (apply o_end; (repeat (first | exact OutS.nil | exact GetS.hit | exact PutS.hit | apply GetS.miss rfl | apply PutS.miss rfl | apply OutS.cons | apply OutS.skip rfl)))
  generalize (s.push (.cells [.int .i64 (at' : Int)] 0)).push (.cells [.int .i64 0, .str [], .int .i64 0, .nilsl, .nilsl] 0) = s2 at hon hcA hcB ⊢
  generalize (s.push (.cells [.int .i64 (at' : Int)] 0)).heap.length = B at hcB hlen ⊢
  have D2 : DSt t gr at' s r g s.heap.length B i s2 := ⟨hon, hcA, hcB, hr, by omega, Nat.le_refl _, hr⟩
  have htk := take_spec (m + 6) (b.into .eff s) s2 D2.get hi hw (p := [36]) (by simp; omega)
  cases hst : stands t i [36] with
  | true =>
    simp only [hst, if_true, Option.some.injEq] at hres htk
    subst hres
    have D3 := D2.putr (i + 1)
    have hb3 := D3.b
    ((repeat refine c_seq ?_); refine c_region ?_; (repeat (first | ((first | apply o_move rfl rfl | apply o_easy1 rfl rfl rfl | apply o_ld rfl rfl (by assumption) (by first | rfl | assumption)); conv => lhs; whnf) | apply o_no rfl | refine o_b rfl rfl rfl (by constructor; omega) ?_ | refine o_f rfl rfl rfl (by constructor; omega) ?_ | refine o_s rfl rfl rfl (by constructor; first | omega | assumption) ?_ | refine o_t rfl rfl rfl (by constructor; assumption) ?_ | (apply o_easy rfl rfl rfl; conv => lhs; whnf) | apply o_non rfl)))
    refine o_call rfl rfl htk ?_
    (repeat (first | ((first | apply o_move rfl rfl | apply o_easy1 rfl rfl rfl | apply o_ld rfl rfl (by assumption) (by first | rfl | assumption)); conv => lhs; whnf) | apply o_no rfl | refine o_b rfl rfl rfl (by constructor; omega) ?_ | refine o_f rfl rfl rfl (by constructor; omega) ?_ | refine o_s rfl rfl rfl (by constructor; first | omega | assumption) ?_ | refine o_t rfl rfl rfl (by constructor; assumption) ?_ | (apply o_easy rfl rfl rfl; conv => lhs; whnf) | apply o_non rfl))
    (apply o_end; (repeat (first | exact OutS.nil | exact GetS.hit | exact PutS.hit | apply GetS.miss rfl | apply PutS.miss rfl | apply OutS.cons | apply OutS.skip rfl)))
    ((repeat refine c_seq ?_); refine c_if rfl ?_)
    ((repeat refine c_seq ?_); refine c_region ?_; (repeat (first | ((first | apply o_move rfl rfl | apply o_easy1 rfl rfl rfl | apply o_ld rfl rfl (by assumption) (by first | rfl | assumption)); conv => lhs; whnf) | apply o_no rfl | refine o_b rfl rfl rfl (by constructor; omega) ?_ | refine o_f rfl rfl rfl (by constructor; omega) ?_ | refine o_s rfl rfl rfl (by constructor; first | omega | assumption) ?_ | refine o_t rfl rfl rfl (by constructor; assumption) ?_ | (apply o_easy rfl rfl rfl; conv => lhs; whnf) | apply o_non rfl)))
    refine o_st (v := .agg (Tp.lit [36]).cells) rfl rfl rfl (stored_av _) hb3 rfl (lets_of (blt_no (by show b.w ≤ B; omega)) (fun e => rfl)) (cs' := (Tp.lit [36]).cells) rfl ?_
    (apply o_end; (repeat (first | exact OutS.nil | exact GetS.hit | exact PutS.hit | apply GetS.miss rfl | apply PutS.miss rfl | apply OutS.cons | apply OutS.skip rfl)))
    exact c_ret (dollar_end D3 rfl (by have := stands_le hst hi; simp at this; omega))
  | false =>
    simp only [hst, Bool.false_eq_true, if_false] at hres htk
    rw [Sg.put_same D2.get] at htk
    ((repeat refine c_seq ?_); refine c_region ?_; (repeat (first | ((first | apply o_move rfl rfl | apply o_easy1 rfl rfl rfl | apply o_ld rfl rfl (by assumption) (by first | rfl | assumption)); conv => lhs; whnf) | apply o_no rfl | refine o_b rfl rfl rfl (by constructor; omega) ?_ | refine o_f rfl rfl rfl (by constructor; omega) ?_ | refine o_s rfl rfl rfl (by constructor; first | omega | assumption) ?_ | refine o_t rfl rfl rfl (by constructor; assumption) ?_ | (apply o_easy rfl rfl rfl; conv => lhs; whnf) | apply o_non rfl)))
    refine o_call rfl rfl htk ?_
    (repeat (first | ((first | apply o_move rfl rfl | apply o_easy1 rfl rfl rfl | apply o_ld rfl rfl (by assumption) (by first | rfl | assumption)); conv => lhs; whnf) | apply o_no rfl | refine o_b rfl rfl rfl (by constructor; omega) ?_ | refine o_f rfl rfl rfl (by constructor; omega) ?_ | refine o_s rfl rfl rfl (by constructor; first | omega | assumption) ?_ | refine o_t rfl rfl rfl (by constructor; assumption) ?_ | (apply o_easy rfl rfl rfl; conv => lhs; whnf) | apply o_non rfl))
    (apply o_end; (repeat (first | exact OutS.nil | exact GetS.hit | exact PutS.hit | apply GetS.miss rfl | apply PutS.miss rfl | apply OutS.cons | apply OutS.skip rfl)))
    ((repeat refine c_seq ?_); refine c_else rfl ?_)
    refine c_skip ?_
    ((repeat refine c_seq ?_); refine c_region ?_; (repeat (first | ((first | apply o_move rfl rfl | apply o_easy1 rfl rfl rfl | apply o_ld rfl rfl (by assumption) (by first | rfl | assumption)); conv => lhs; whnf) | apply o_no rfl | refine o_b rfl rfl rfl (by constructor; omega) ?_ | refine o_f rfl rfl rfl (by constructor; omega) ?_ | refine o_s rfl rfl rfl (by constructor; first | omega | assumption) ?_ | refine o_t rfl rfl rfl (by constructor; assumption) ?_ | (apply o_easy rfl rfl rfl; conv => lhs; whnf) | apply o_non rfl)); apply o_end; (repeat (first | exact OutS.nil | exact GetS.hit | exact PutS.hit | apply GetS.miss rfl | apply PutS.miss rfl | apply OutS.cons | apply OutS.skip rfl)))
    ((repeat refine c_seq ?_); refine c_region ?_; (repeat (first | ((first | apply o_move rfl rfl | apply o_easy1 rfl rfl rfl | apply o_ld rfl rfl (by assumption) (by first | rfl | assumption)); conv => lhs; whnf) | apply o_no rfl | refine o_b rfl rfl rfl (by constructor; omega) ?_ | refine o_f rfl rfl rfl (by constructor; omega) ?_ | refine o_s rfl rfl rfl (by constructor; first | omega | assumption) ?_ | refine o_t rfl rfl rfl (by constructor; assumption) ?_ | (apply o_easy rfl rfl rfl; conv => lhs; whnf) | apply o_non rfl)))
    refine o_alloc rfl ?_
    have hc8 := getCells_new s2 zc 0
    have hC3 := getCells_put (cs' := (Tp.group 0).cells) (g' := 0) hc8
    have hBC := getCells_lt D2.b
    have D3 := (D2.push (.cells zc 0)).putn (.cells (Tp.group 0).cells 0) hBC
    refine o_st (v := .agg (Tp.group 0).cells) rfl rfl rfl (stored_av _) hc8 rfl (lets_of (blt_no (by show b.w ≤ s2.heap.length; omega)) (fun e => rfl)) (cs' := (Tp.group 0).cells) rfl ?_
    (apply o_end; (repeat (first | exact OutS.nil | exact GetS.hit | exact PutS.hit | apply GetS.miss rfl | apply PutS.miss rfl | apply OutS.cons | apply OutS.skip rfl)))
    generalize (s2.push (.cells zc 0)).put s2.heap.length (.cells (Tp.group 0).cells 0) = s3 at D3 hC3 ⊢
    generalize s2.heap.length = C at hC3 hBC ⊢
    have htk := take_spec (m + 6) (b.into .eff s) s3 D3.get hi hw (p := [123]) (by simp; omega)
    cases hsb : stands t i [123] with
    | false =>
      simp only [hsb, Bool.false_eq_true, if_false, if_true] at hres htk
      rw [Sg.put_same D3.get] at htk
      ((repeat refine c_seq ?_); refine c_region ?_; (repeat (first | ((first | apply o_move rfl rfl | apply o_easy1 rfl rfl rfl | apply o_ld rfl rfl (by assumption) (by first | rfl | assumption)); conv => lhs; whnf) | apply o_no rfl | refine o_b rfl rfl rfl (by constructor; omega) ?_ | refine o_f rfl rfl rfl (by constructor; omega) ?_ | refine o_s rfl rfl rfl (by constructor; first | omega | assumption) ?_ | refine o_t rfl rfl rfl (by constructor; assumption) ?_ | (apply o_easy rfl rfl rfl; conv => lhs; whnf) | apply o_non rfl)))
      refine o_call rfl rfl htk ?_
      (repeat (first | ((first | apply o_move rfl rfl | apply o_easy1 rfl rfl rfl | apply o_ld rfl rfl (by assumption) (by first | rfl | assumption)); conv => lhs; whnf) | apply o_no rfl | refine o_b rfl rfl rfl (by constructor; omega) ?_ | refine o_f rfl rfl rfl (by constructor; omega) ?_ | refine o_s rfl rfl rfl (by constructor; first | omega | assumption) ?_ | refine o_t rfl rfl rfl (by constructor; assumption) ?_ | (apply o_easy rfl rfl rfl; conv => lhs; whnf) | apply o_non rfl))
      (apply o_end; (repeat (first | exact OutS.nil | exact GetS.hit | exact PutS.hit | apply GetS.miss rfl | apply PutS.miss rfl | apply OutS.cons | apply OutS.skip rfl)))
      ((repeat refine c_seq ?_); refine c_if rfl ?_)
      have hnum := number_spec (m + 3) (b.into .eff s) t gr r g i 2 s3 hw (by omega) (by omega) hi D3.get
      have hj := numM_le t 2 i 0 hi
      generalize numM t 2 i 0 = nj at hnum hres hj
      obtain ⟨v, j⟩ := nj
      simp only at hnum hres hj
      have D4 := D3.putr j
      have hC4 := getCells_put_ne (i := r) (o := .cells (rd t j gr) g) (by have := D3.ra; have := D3.ab; omega) hC3
      have hg4 := D4.get
      generalize hs4 : s3.put r (.cells (rd t j gr) g) = s4 at hnum D4 hC4 hg4
      ((repeat refine c_seq ?_); refine c_region ?_; (repeat (first | ((first | apply o_move rfl rfl | apply o_easy1 rfl rfl rfl | apply o_ld rfl rfl (by assumption) (by first | rfl | assumption)); conv => lhs; whnf) | apply o_no rfl | refine o_b rfl rfl rfl (by constructor; omega) ?_ | refine o_f rfl rfl rfl (by constructor; omega) ?_ | refine o_s rfl rfl rfl (by constructor; first | omega | assumption) ?_ | refine o_t rfl rfl rfl (by constructor; assumption) ?_ | (apply o_easy rfl rfl rfl; conv => lhs; whnf) | apply o_non rfl)))
      refine o_call rfl rfl hnum ?_
      (repeat (first | ((first | apply o_move rfl rfl | apply o_easy1 rfl rfl rfl | apply o_ld rfl rfl (by assumption) (by first | rfl | assumption)); conv => lhs; whnf) | apply o_no rfl | refine o_b rfl rfl rfl (by constructor; omega) ?_ | refine o_f rfl rfl rfl (by constructor; omega) ?_ | refine o_s rfl rfl rfl (by constructor; first | omega | assumption) ?_ | refine o_t rfl rfl rfl (by constructor; assumption) ?_ | (apply o_easy rfl rfl rfl; conv => lhs; whnf) | apply o_non rfl))
      (apply o_end; (repeat (first | exact OutS.nil | exact GetS.hit | exact PutS.hit | apply GetS.miss rfl | apply PutS.miss rfl | apply OutS.cons | apply OutS.skip rfl)))
      by_cases hij : i < j
      · rw [decide_eq_true hij]
        by_cases hle : (v : Int) ≤ gr
        · rw [if_pos ⟨hij, hle⟩] at hres
          cases hres
          ((repeat refine c_seq ?_); refine c_region ?_; (repeat (first | ((first | apply o_move rfl rfl | apply o_easy1 rfl rfl rfl | apply o_ld rfl rfl (by assumption) (by first | rfl | assumption)); conv => lhs; whnf) | apply o_no rfl | refine o_b rfl rfl rfl (by constructor; omega) ?_ | refine o_f rfl rfl rfl (by constructor; omega) ?_ | refine o_s rfl rfl rfl (by constructor; first | omega | assumption) ?_ | refine o_t rfl rfl rfl (by constructor; assumption) ?_ | (apply o_easy rfl rfl rfl; conv => lhs; whnf) | apply o_non rfl)))
          refine o_callv rfl rfl rfl rfl (need_yes (m + 8) _ s4 _) ?_
          (repeat (first | ((first | apply o_move rfl rfl | apply o_easy1 rfl rfl rfl | apply o_ld rfl rfl (by assumption) (by first | rfl | assumption)); conv => lhs; whnf) | apply o_no rfl | refine o_b rfl rfl rfl (by constructor; omega) ?_ | refine o_f rfl rfl rfl (by constructor; omega) ?_ | refine o_s rfl rfl rfl (by constructor; first | omega | assumption) ?_ | refine o_t rfl rfl rfl (by constructor; assumption) ?_ | (apply o_easy rfl rfl rfl; conv => lhs; whnf) | apply o_non rfl))
          (apply o_end; (repeat (first | exact OutS.nil | exact GetS.hit | exact PutS.hit | apply GetS.miss rfl | apply PutS.miss rfl | apply OutS.cons | apply OutS.skip rfl)))
          ((repeat refine c_seq ?_); refine c_region ?_; (repeat (first | ((first | apply o_move rfl rfl | apply o_easy1 rfl rfl rfl | apply o_ld rfl rfl (by assumption) (by first | rfl | assumption)); conv => lhs; whnf) | apply o_no rfl | refine o_b rfl rfl rfl (by constructor; omega) ?_ | refine o_f rfl rfl rfl (by constructor; omega) ?_ | refine o_s rfl rfl rfl (by constructor; first | omega | assumption) ?_ | refine o_t rfl rfl rfl (by constructor; assumption) ?_ | (apply o_easy rfl rfl rfl; conv => lhs; whnf) | apply o_non rfl)))
          refine o_st rfl rfl rfl rfl hC4 rfl (lets_of (blt_no (by show b.w ≤ C; omega)) (fun e => rfl)) (cs' := (Tp.group v).cells) rfl ?_
          (apply o_end; (repeat (first | exact OutS.nil | exact GetS.hit | exact PutS.hit | apply GetS.miss rfl | apply PutS.miss rfl | apply OutS.cons | apply OutS.skip rfl)))
          have D5 := D4.putn (.cells (Tp.group v).cells 0) hBC
          have hC5 := getCells_put (cs' := (Tp.group v).cells) (g' := 0) hC4
          ((repeat refine c_seq ?_); refine c_region ?_; (repeat (first | ((first | apply o_move rfl rfl | apply o_easy1 rfl rfl rfl | apply o_ld rfl rfl (by assumption) (by first | rfl | assumption)); conv => lhs; whnf) | apply o_no rfl | refine o_b rfl rfl rfl (by constructor; omega) ?_ | refine o_f rfl rfl rfl (by constructor; omega) ?_ | refine o_s rfl rfl rfl (by constructor; first | omega | assumption) ?_ | refine o_t rfl rfl rfl (by constructor; assumption) ?_ | (apply o_easy rfl rfl rfl; conv => lhs; whnf) | apply o_non rfl)))
          refine o_st (v := .agg (Tp.group v).cells) rfl rfl rfl (stored_av _) D5.b rfl (lets_of (blt_no (by show b.w ≤ B; omega)) (fun e => cells_old e (.group v))) (cs' := (Tp.group v).cells) rfl ?_
          (apply o_end; (repeat (first | exact OutS.nil | exact GetS.hit | exact PutS.hit | apply GetS.miss rfl | apply PutS.miss rfl | apply OutS.cons | apply OutS.skip rfl)))
          exact c_ret (dollar_end D5 rfl (by omega))
        · rw [if_neg (fun e => hle e.2)] at hres
          cases hres
          ((repeat refine c_seq ?_); refine c_region ?_; (repeat (first | ((first | apply o_move rfl rfl | apply o_easy1 rfl rfl rfl | apply o_ld rfl rfl (by assumption) (by first | rfl | assumption)); conv => lhs; whnf) | apply o_no rfl | refine o_b rfl rfl rfl (by constructor; omega) ?_ | refine o_f rfl rfl rfl (by constructor; omega) ?_ | refine o_s rfl rfl rfl (by constructor; first | omega | assumption) ?_ | refine o_t rfl rfl rfl (by constructor; assumption) ?_ | (apply o_easy rfl rfl rfl; conv => lhs; whnf) | apply o_non rfl)))
          refine o_callvp rfl rfl rfl rfl (need_no (m + 8) _ s4 D4.a) ?_
          exact dollar_bad D4
      · rw [decide_eq_false hij, if_neg (fun e => hij e.1)] at *
        cases hres
        ((repeat refine c_seq ?_); refine c_region ?_; (repeat (first | ((first | apply o_move rfl rfl | apply o_easy1 rfl rfl rfl | apply o_ld rfl rfl (by assumption) (by first | rfl | assumption)); conv => lhs; whnf) | apply o_no rfl | refine o_b rfl rfl rfl (by constructor; omega) ?_ | refine o_f rfl rfl rfl (by constructor; omega) ?_ | refine o_s rfl rfl rfl (by constructor; first | omega | assumption) ?_ | refine o_t rfl rfl rfl (by constructor; assumption) ?_ | (apply o_easy rfl rfl rfl; conv => lhs; whnf) | apply o_non rfl)))
        refine o_callvp rfl rfl rfl rfl (need_no (m + 8) _ s4 D4.a) ?_
        exact dollar_bad D4
    | true =>
      simp only [hsb, Bool.true_eq_false, if_false, if_true] at hres htk
      have hi4 : i + 1 ≤ t.length := by have := stands_le hsb hi; simpa using this
      have D4 := D3.putr (i + 1)
      have hC4 := getCells_put_ne (i := r) (o := .cells (rd t (i + 1) gr) g) (by have := D3.ra; have := D3.ab; omega) hC3
      ((repeat refine c_seq ?_); refine c_region ?_; (repeat (first | ((first | apply o_move rfl rfl | apply o_easy1 rfl rfl rfl | apply o_ld rfl rfl (by assumption) (by first | rfl | assumption)); conv => lhs; whnf) | apply o_no rfl | refine o_b rfl rfl rfl (by constructor; omega) ?_ | refine o_f rfl rfl rfl (by constructor; omega) ?_ | refine o_s rfl rfl rfl (by constructor; first | omega | assumption) ?_ | refine o_t rfl rfl rfl (by constructor; assumption) ?_ | (apply o_easy rfl rfl rfl; conv => lhs; whnf) | apply o_non rfl)))
      refine o_call rfl rfl htk ?_
      (repeat (first | ((first | apply o_move rfl rfl | apply o_easy1 rfl rfl rfl | apply o_ld rfl rfl (by assumption) (by first | rfl | assumption)); conv => lhs; whnf) | apply o_no rfl | refine o_b rfl rfl rfl (by constructor; omega) ?_ | refine o_f rfl rfl rfl (by constructor; omega) ?_ | refine o_s rfl rfl rfl (by constructor; first | omega | assumption) ?_ | refine o_t rfl rfl rfl (by constructor; assumption) ?_ | (apply o_easy rfl rfl rfl; conv => lhs; whnf) | apply o_non rfl))
      (apply o_end; (repeat (first | exact OutS.nil | exact GetS.hit | exact PutS.hit | apply GetS.miss rfl | apply PutS.miss rfl | apply OutS.cons | apply OutS.skip rfl)))
      ((repeat refine c_seq ?_); refine c_else rfl ?_)
      refine c_skip ?_
      have htk := 0
      change OkC _ _ _ _ _ (s3.put r (.cells (rd t (i + 1) gr) g)) _
      generalize s3.put r (.cells (rd t (i + 1) gr) g) = s4 at D4 hC4 ⊢
      have hj := numM_le t 3 (i + 1) 0 hi4
      ((repeat refine c_seq ?_); refine c_region ?_; (repeat (first | ((first | apply o_move rfl rfl | apply o_easy1 rfl rfl rfl | apply o_ld rfl rfl (by assumption) (by first | rfl | assumption)); conv => lhs; whnf) | apply o_no rfl | refine o_b rfl rfl rfl (by constructor; omega) ?_ | refine o_f rfl rfl rfl (by constructor; omega) ?_ | refine o_s rfl rfl rfl (by constructor; first | omega | assumption) ?_ | refine o_t rfl rfl rfl (by constructor; assumption) ?_ | (apply o_easy rfl rfl rfl; conv => lhs; whnf) | apply o_non rfl)))
      by_cases hij : i + 1 < (numM t 3 (i + 1) 0).2
      · have hrf := refer_yes (m + 8) (b.into .eff s) t gr r g (i + 1) s4 hw (by omega) hi4 (by omega) D4.get hij
        generalize numM t 3 (i + 1) 0 = nj at *
        obtain ⟨v, j⟩ := nj
        dsimp only at *
        refine o_callw rfl rfl (hrf.mono ?_)
        rintro o s5 ⟨rfl, rfl⟩
        have D5 := D4.putr j
        have hC5 := getCells_put_ne (i := r) (o := .cells (rd t j gr) g) (by have := D3.ra; have := D3.ab; omega) hC4
        generalize s4.put r (.cells (rd t j gr) g) = s5 at D5 hC5 ⊢
        (repeat (first | ((first | apply o_move rfl rfl | apply o_easy1 rfl rfl rfl | apply o_ld rfl rfl (by assumption) (by first | rfl | assumption)); conv => lhs; whnf) | apply o_no rfl | refine o_b rfl rfl rfl (by constructor; omega) ?_ | refine o_f rfl rfl rfl (by constructor; omega) ?_ | refine o_s rfl rfl rfl (by constructor; first | omega | assumption) ?_ | refine o_t rfl rfl rfl (by constructor; assumption) ?_ | (apply o_easy rfl rfl rfl; conv => lhs; whnf) | apply o_non rfl))
        (apply o_end; (repeat (first | exact OutS.nil | exact GetS.hit | exact PutS.hit | apply GetS.miss rfl | apply PutS.miss rfl | apply OutS.cons | apply OutS.skip rfl)))
        by_cases hle : (v : Int) ≤ gr
        · rw [decide_eq_true hle]
          rw [if_neg (fun e => e ⟨hij, hle⟩)] at hres
          ((repeat refine c_seq ?_); refine c_region ?_; (repeat (first | ((first | apply o_move rfl rfl | apply o_easy1 rfl rfl rfl | apply o_ld rfl rfl (by assumption) (by first | rfl | assumption)); conv => lhs; whnf) | apply o_no rfl | refine o_b rfl rfl rfl (by constructor; omega) ?_ | refine o_f rfl rfl rfl (by constructor; omega) ?_ | refine o_s rfl rfl rfl (by constructor; first | omega | assumption) ?_ | refine o_t rfl rfl rfl (by constructor; assumption) ?_ | (apply o_easy rfl rfl rfl; conv => lhs; whnf) | apply o_non rfl)))
          refine o_callv rfl rfl rfl rfl (need_yes (m + 8) _ s5 _) ?_
          (apply o_end; (repeat (first | exact OutS.nil | exact GetS.hit | exact PutS.hit | apply GetS.miss rfl | apply PutS.miss rfl | apply OutS.cons | apply OutS.skip rfl)))
          ((repeat refine c_seq ?_); refine c_region ?_; (repeat (first | ((first | apply o_move rfl rfl | apply o_easy1 rfl rfl rfl | apply o_ld rfl rfl (by assumption) (by first | rfl | assumption)); conv => lhs; whnf) | apply o_no rfl | refine o_b rfl rfl rfl (by constructor; omega) ?_ | refine o_f rfl rfl rfl (by constructor; omega) ?_ | refine o_s rfl rfl rfl (by constructor; first | omega | assumption) ?_ | refine o_t rfl rfl rfl (by constructor; assumption) ?_ | (apply o_easy rfl rfl rfl; conv => lhs; whnf) | apply o_non rfl)))
          refine o_st rfl rfl rfl rfl hC5 rfl (lets_of (blt_no (by show b.w ≤ C; omega)) (fun e => rfl)) (cs' := (Tp.group v).cells) rfl ?_
          (apply o_end; (repeat (first | exact OutS.nil | exact GetS.hit | exact PutS.hit | apply GetS.miss rfl | apply PutS.miss rfl | apply OutS.cons | apply OutS.skip rfl)))
          have D6 := D5.putn (.cells (Tp.group v).cells 0) hBC
          have hC6 := getCells_put (cs' := (Tp.group v).cells) (g' := 0) hC5
          generalize s5.put C (.cells (Tp.group v).cells 0) = s6 at D6 hC6 ⊢
          have htk := take_spec (m + 6) (b.into .eff s) s6 D6.get hj hw (p := [58, 45]) (by simp; omega)
          ((repeat refine c_seq ?_); refine c_block ?_)
          cases hsd : stands t j [58, 45] with
          | true =>
            simp only [hsd, if_true] at hres htk
            have hj2 : j + 2 ≤ t.length := by have := stands_le hsd hj; simpa using this
            have D7 := D6.putr (j + 2)
            have hC7 := getCells_put_ne (i := r) (o := .cells (rd t (j + 2) gr) g) (by have := D3.ra; have := D3.ab; omega) hC6
            ((repeat refine c_seq ?_); refine c_region ?_; (repeat (first | ((first | apply o_move rfl rfl | apply o_easy1 rfl rfl rfl | apply o_ld rfl rfl (by assumption) (by first | rfl | assumption)); conv => lhs; whnf) | apply o_no rfl | refine o_b rfl rfl rfl (by constructor; omega) ?_ | refine o_f rfl rfl rfl (by constructor; omega) ?_ | refine o_s rfl rfl rfl (by constructor; first | omega | assumption) ?_ | refine o_t rfl rfl rfl (by constructor; assumption) ?_ | (apply o_easy rfl rfl rfl; conv => lhs; whnf) | apply o_non rfl)))
            refine o_call rfl rfl htk ?_
            (repeat (first | ((first | apply o_move rfl rfl | apply o_easy1 rfl rfl rfl | apply o_ld rfl rfl (by assumption) (by first | rfl | assumption)); conv => lhs; whnf) | apply o_no rfl | refine o_b rfl rfl rfl (by constructor; omega) ?_ | refine o_f rfl rfl rfl (by constructor; omega) ?_ | refine o_s rfl rfl rfl (by constructor; first | omega | assumption) ?_ | refine o_t rfl rfl rfl (by constructor; assumption) ?_ | (apply o_easy rfl rfl rfl; conv => lhs; whnf) | apply o_non rfl))
            (apply o_end; (repeat (first | exact OutS.nil | exact GetS.hit | exact PutS.hit | apply GetS.miss rfl | apply PutS.miss rfl | apply OutS.cons | apply OutS.skip rfl)))
            ((repeat refine c_seq ?_); refine c_if rfl ?_)
            change OkC _ _ _ _ _ (s6.put r (.cells (rd t (j + 2) gr) g)) _
            generalize s6.put r (.cells (rd t (j + 2) gr) g) = s7 at D7 hC7 ⊢
            by_cases hd10 : d < 10
            · rw [if_pos hd10] at hres
              ((repeat refine c_seq ?_); refine c_region ?_; (repeat (first | ((first | apply o_move rfl rfl | apply o_easy1 rfl rfl rfl | apply o_ld rfl rfl (by assumption) (by first | rfl | assumption)); conv => lhs; whnf) | apply o_no rfl | refine o_b rfl rfl rfl (by constructor; omega) ?_ | refine o_f rfl rfl rfl (by constructor; omega) ?_ | refine o_s rfl rfl rfl (by constructor; first | omega | assumption) ?_ | refine o_t rfl rfl rfl (by constructor; assumption) ?_ | (apply o_easy rfl rfl rfl; conv => lhs; whnf) | apply o_non rfl)))
              refine o_callv rfl rfl rfl rfl (need_yes (m + 8) _ s7 _) ?_
              (apply o_end; (repeat (first | exact OutS.nil | exact GetS.hit | exact PutS.hit | apply GetS.miss rfl | apply PutS.miss rfl | apply OutS.cons | apply OutS.skip rfl)))
              cases hp1 : partsM t gr n [125] (d + 1) (j + 2) [] with
              | none => simp [hp1] at hres
              | some r1 =>
                have hcall := h1 r1 hp1 hj2 (m + 9) (by omega) (b.into .eff s) r g s7 hw D7.get
                ((repeat refine c_seq ?_); refine c_region ?_; (repeat (first | ((first | apply o_move rfl rfl | apply o_easy1 rfl rfl rfl | apply o_ld rfl rfl (by assumption) (by first | rfl | assumption)); conv => lhs; whnf) | apply o_no rfl | refine o_b rfl rfl rfl (by constructor; omega) ?_ | refine o_f rfl rfl rfl (by constructor; omega) ?_ | refine o_s rfl rfl rfl (by constructor; first | omega | assumption) ?_ | refine o_t rfl rfl rfl (by constructor; assumption) ?_ | (apply o_easy rfl rfl rfl; conv => lhs; whnf) | apply o_non rfl)))
                refine o_callw (l := [.ptr r g 0, .str [125], .int .i64 ((d + 1 : Nat) : Int)]) rfl rfl (hcall.mono ?_)
                cases r1 with
                | error a =>
                  simp only [hp1] at hres
                  cases hres
                  rintro o s8 ⟨rfl, j8, rfl⟩
                  exact dollar_bad (D7.putr j8)
                | ok x =>
                  obtain ⟨no, j⟩ := x
                  simp only [hp1] at hres
                  rintro o s8 ⟨rfl, rfl, hj⟩
                  have D8 := D7.putr j
                  have hC8 := getCells_put_ne (i := r) (o := .cells (rd t j gr) g) (by have := D3.ra; have := D3.ab; omega) hC7
                  generalize s7.put r (.cells (rd t j gr) g) = s8 at D8 hC8 ⊢
                  (repeat (first | ((first | apply o_move rfl rfl | apply o_easy1 rfl rfl rfl | apply o_ld rfl rfl (by assumption) (by first | rfl | assumption)); conv => lhs; whnf) | apply o_no rfl | refine o_b rfl rfl rfl (by constructor; omega) ?_ | refine o_f rfl rfl rfl (by constructor; omega) ?_ | refine o_s rfl rfl rfl (by constructor; first | omega | assumption) ?_ | refine o_t rfl rfl rfl (by constructor; assumption) ?_ | (apply o_easy rfl rfl rfl; conv => lhs; whnf) | apply o_non rfl))
                  refine o_st rfl rfl rfl rfl hC8 rfl (lets_of (blt_no (by show b.w ≤ C; omega)) (fun e => rfl)) (cs' := [.int .i64 3, .str [], .int .i64 v, .nilsl, .nilsl]) rfl ?_
                  have D9 := D8.putn (.cells [.int .i64 3, .str [], .int .i64 v, .nilsl, .nilsl] 0) hBC
                  have hC9 := getCells_put (cs' := [.int .i64 3, .str [], .int .i64 v, .nilsl, .nilsl]) (g' := 0) hC8
                  (repeat (first | ((first | apply o_move rfl rfl | apply o_easy1 rfl rfl rfl | apply o_ld rfl rfl (by assumption) (by first | rfl | assumption)); conv => lhs; whnf) | apply o_no rfl | refine o_b rfl rfl rfl (by constructor; omega) ?_ | refine o_f rfl rfl rfl (by constructor; omega) ?_ | refine o_s rfl rfl rfl (by constructor; first | omega | assumption) ?_ | refine o_t rfl rfl rfl (by constructor; assumption) ?_ | (apply o_easy rfl rfl rfl; conv => lhs; whnf) | apply o_non rfl))
                  refine o_st rfl rfl rfl rfl hC9 rfl (lets_of (blt_no (by show b.w ≤ C; omega)) (fun e => old_vec e no)) (cs' := (Tp.els v no).cells) rfl ?_
                  (apply o_end; (repeat (first | exact OutS.nil | exact GetS.hit | exact PutS.hit | apply GetS.miss rfl | apply PutS.miss rfl | apply OutS.cons | apply OutS.skip rfl)))
                  have D6 := D9.putn (.cells (Tp.els v no).cells 0) hBC
                  have hC6 := getCells_put (cs' := (Tp.els v no).cells) (g' := 0) hC9
                  generalize (s8.put C (.cells [.int .i64 3, .str [], .int .i64 v, .nilsl, .nilsl] 0)).put C (.cells (Tp.els v no).cells 0) = s6 at D6 hC6 ⊢
                  obtain ⟨pp, hpp⟩ : ∃ pp, pp = Tp.els v no := ⟨_, rfl⟩
                  rw [← hpp] at hres hC6
                  have htk := take_spec (m + 6) (b.into .eff s) s6 D6.get hj hw (p := [125]) (by simp; omega)
                  simp only [closeM] at hres
                  cases hsc : stands t j [125] with
                  | true =>
                    simp only [hsc, if_true] at hres htk
                    cases hres
                    have D7 := D6.putr (j + 1)
                    have hC7 := getCells_put_ne (i := r) (o := .cells (rd t (j + 1) gr) g) (by have := D3.ra; have := D3.ab; omega) hC6
                    have hall := partOf_all (cells_len pp)
                    ((repeat refine c_seq ?_); refine c_region ?_; (repeat (first | ((first | apply o_move rfl rfl | apply o_easy1 rfl rfl rfl | apply o_ld rfl rfl (by assumption) (by first | rfl | assumption)); conv => lhs; whnf) | apply o_no rfl | refine o_b rfl rfl rfl (by constructor; omega) ?_ | refine o_f rfl rfl rfl (by constructor; omega) ?_ | refine o_s rfl rfl rfl (by constructor; first | omega | assumption) ?_ | refine o_t rfl rfl rfl (by constructor; assumption) ?_ | (apply o_easy rfl rfl rfl; conv => lhs; whnf) | apply o_non rfl)))
                    refine o_call rfl rfl htk ?_
                    refine o_callv rfl rfl rfl rfl (need_yes (m + 8) _ _ _) ?_
                    (apply o_end; (repeat (first | exact OutS.nil | exact GetS.hit | exact PutS.hit | apply GetS.miss rfl | apply PutS.miss rfl | apply OutS.cons | apply OutS.skip rfl)))
                    ((repeat refine c_seq ?_); refine c_region ?_; (repeat (first | ((first | apply o_move rfl rfl | apply o_easy1 rfl rfl rfl | apply o_ld rfl rfl (by assumption) (by first | rfl | assumption)); conv => lhs; whnf) | apply o_no rfl | refine o_b rfl rfl rfl (by constructor; omega) ?_ | refine o_f rfl rfl rfl (by constructor; omega) ?_ | refine o_s rfl rfl rfl (by constructor; first | omega | assumption) ?_ | refine o_t rfl rfl rfl (by constructor; assumption) ?_ | (apply o_easy rfl rfl rfl; conv => lhs; whnf) | apply o_non rfl)))
                    refine o_st (v := .agg pp.cells) rfl rfl rfl (stored_av _) D7.b (beq_of (cells_len pp)) (lets_of (blt_no (by show b.w ≤ B; omega)) (fun e => cells_old e pp)) (cs' := pp.cells) (wr_all pp) ?_
                    (apply o_end; (repeat (first | exact OutS.nil | exact GetS.hit | exact PutS.hit | apply GetS.miss rfl | apply PutS.miss rfl | apply OutS.cons | apply OutS.skip rfl)))
                    exact c_ret (dollar_end D7 rfl (by have := stands_le hsc hj; simp at this; omega))
                  | false =>
                    simp only [hsc, Bool.false_eq_true, if_false] at hres htk
                    rw [Sg.put_same D6.get] at htk
                    cases hres
                    ((repeat refine c_seq ?_); refine c_region ?_; (repeat (first | ((first | apply o_move rfl rfl | apply o_easy1 rfl rfl rfl | apply o_ld rfl rfl (by assumption) (by first | rfl | assumption)); conv => lhs; whnf) | apply o_no rfl | refine o_b rfl rfl rfl (by constructor; omega) ?_ | refine o_f rfl rfl rfl (by constructor; omega) ?_ | refine o_s rfl rfl rfl (by constructor; first | omega | assumption) ?_ | refine o_t rfl rfl rfl (by constructor; assumption) ?_ | (apply o_easy rfl rfl rfl; conv => lhs; whnf) | apply o_non rfl)))
                    refine o_call rfl rfl htk ?_
                    refine o_callvp rfl rfl rfl rfl (need_no (m + 8) _ s6 D6.a) ?_
                    exact dollar_bad D6
            · rw [if_neg hd10] at hres
              cases hres
              ((repeat refine c_seq ?_); refine c_region ?_; (repeat (first | ((first | apply o_move rfl rfl | apply o_easy1 rfl rfl rfl | apply o_ld rfl rfl (by assumption) (by first | rfl | assumption)); conv => lhs; whnf) | apply o_no rfl | refine o_b rfl rfl rfl (by constructor; omega) ?_ | refine o_f rfl rfl rfl (by constructor; omega) ?_ | refine o_s rfl rfl rfl (by constructor; first | omega | assumption) ?_ | refine o_t rfl rfl rfl (by constructor; assumption) ?_ | (apply o_easy rfl rfl rfl; conv => lhs; whnf) | apply o_non rfl)))
              refine o_callvp rfl rfl rfl rfl (need_no (m + 8) _ s7 D7.a) ?_
              exact dollar_bad D7
          | false =>
            simp only [hsd, Bool.false_eq_true, if_false] at hres htk
            rw [Sg.put_same D6.get] at htk
            ((repeat refine c_seq ?_); refine c_region ?_; (repeat (first | ((first | apply o_move rfl rfl | apply o_easy1 rfl rfl rfl | apply o_ld rfl rfl (by assumption) (by first | rfl | assumption)); conv => lhs; whnf) | apply o_no rfl | refine o_b rfl rfl rfl (by constructor; omega) ?_ | refine o_f rfl rfl rfl (by constructor; omega) ?_ | refine o_s rfl rfl rfl (by constructor; first | omega | assumption) ?_ | refine o_t rfl rfl rfl (by constructor; assumption) ?_ | (apply o_easy rfl rfl rfl; conv => lhs; whnf) | apply o_non rfl)))
            refine o_call rfl rfl htk ?_
            (repeat (first | ((first | apply o_move rfl rfl | apply o_easy1 rfl rfl rfl | apply o_ld rfl rfl (by assumption) (by first | rfl | assumption)); conv => lhs; whnf) | apply o_no rfl | refine o_b rfl rfl rfl (by constructor; omega) ?_ | refine o_f rfl rfl rfl (by constructor; omega) ?_ | refine o_s rfl rfl rfl (by constructor; first | omega | assumption) ?_ | refine o_t rfl rfl rfl (by constructor; assumption) ?_ | (apply o_easy rfl rfl rfl; conv => lhs; whnf) | apply o_non rfl))
            (apply o_end; (repeat (first | exact OutS.nil | exact GetS.hit | exact PutS.hit | apply GetS.miss rfl | apply PutS.miss rfl | apply OutS.cons | apply OutS.skip rfl)))
            ((repeat refine c_seq ?_); refine c_else rfl ?_)
            have htk := take_spec (m + 6) (b.into .eff s) s6 D6.get hj hw (p := [58, 43]) (by simp; omega)
            cases hse : stands t j [58, 43] with
            | true =>
              simp only [hse, if_true] at hres htk
              have hj2 : j + 2 ≤ t.length := by have := stands_le hse hj; simpa using this
              have D7 := D6.putr (j + 2)
              have hC7 := getCells_put_ne (i := r) (o := .cells (rd t (j + 2) gr) g) (by have := D3.ra; have := D3.ab; omega) hC6
              ((repeat refine c_seq ?_); refine c_region ?_; (repeat (first | ((first | apply o_move rfl rfl | apply o_easy1 rfl rfl rfl | apply o_ld rfl rfl (by assumption) (by first | rfl | assumption)); conv => lhs; whnf) | apply o_no rfl | refine o_b rfl rfl rfl (by constructor; omega) ?_ | refine o_f rfl rfl rfl (by constructor; omega) ?_ | refine o_s rfl rfl rfl (by constructor; first | omega | assumption) ?_ | refine o_t rfl rfl rfl (by constructor; assumption) ?_ | (apply o_easy rfl rfl rfl; conv => lhs; whnf) | apply o_non rfl)))
              refine o_call rfl rfl htk ?_
              (repeat (first | ((first | apply o_move rfl rfl | apply o_easy1 rfl rfl rfl | apply o_ld rfl rfl (by assumption) (by first | rfl | assumption)); conv => lhs; whnf) | apply o_no rfl | refine o_b rfl rfl rfl (by constructor; omega) ?_ | refine o_f rfl rfl rfl (by constructor; omega) ?_ | refine o_s rfl rfl rfl (by constructor; first | omega | assumption) ?_ | refine o_t rfl rfl rfl (by constructor; assumption) ?_ | (apply o_easy rfl rfl rfl; conv => lhs; whnf) | apply o_non rfl))
              (apply o_end; (repeat (first | exact OutS.nil | exact GetS.hit | exact PutS.hit | apply GetS.miss rfl | apply PutS.miss rfl | apply OutS.cons | apply OutS.skip rfl)))
              ((repeat refine c_seq ?_); refine c_if rfl ?_)
              change OkC _ _ _ _ _ (s6.put r (.cells (rd t (j + 2) gr) g)) _
              generalize s6.put r (.cells (rd t (j + 2) gr) g) = s7 at D7 hC7 ⊢
              by_cases hd10 : d < 10
              · rw [if_pos hd10] at hres
                ((repeat refine c_seq ?_); refine c_region ?_; (repeat (first | ((first | apply o_move rfl rfl | apply o_easy1 rfl rfl rfl | apply o_ld rfl rfl (by assumption) (by first | rfl | assumption)); conv => lhs; whnf) | apply o_no rfl | refine o_b rfl rfl rfl (by constructor; omega) ?_ | refine o_f rfl rfl rfl (by constructor; omega) ?_ | refine o_s rfl rfl rfl (by constructor; first | omega | assumption) ?_ | refine o_t rfl rfl rfl (by constructor; assumption) ?_ | (apply o_easy rfl rfl rfl; conv => lhs; whnf) | apply o_non rfl)))
                refine o_callv rfl rfl rfl rfl (need_yes (m + 8) _ s7 _) ?_
                (apply o_end; (repeat (first | exact OutS.nil | exact GetS.hit | exact PutS.hit | apply GetS.miss rfl | apply PutS.miss rfl | apply OutS.cons | apply OutS.skip rfl)))
                cases hp1 : partsM t gr n [58, 125] (d + 1) (j + 2) [] with
                | none => simp [hp1] at hres
                | some r1 =>
                  have hcall := h2 r1 hp1 hj2 (m + 9) (by omega) (b.into .eff s) r g s7 hw D7.get
                  ((repeat refine c_seq ?_); refine c_region ?_; (repeat (first | ((first | apply o_move rfl rfl | apply o_easy1 rfl rfl rfl | apply o_ld rfl rfl (by assumption) (by first | rfl | assumption)); conv => lhs; whnf) | apply o_no rfl | refine o_b rfl rfl rfl (by constructor; omega) ?_ | refine o_f rfl rfl rfl (by constructor; omega) ?_ | refine o_s rfl rfl rfl (by constructor; first | omega | assumption) ?_ | refine o_t rfl rfl rfl (by constructor; assumption) ?_ | (apply o_easy rfl rfl rfl; conv => lhs; whnf) | apply o_non rfl)))
                  refine o_callw (l := [.ptr r g 0, .str [58, 125], .int .i64 ((d + 1 : Nat) : Int)]) rfl rfl (hcall.mono ?_)
                  cases r1 with
                  | error a =>
                    simp only [hp1] at hres
                    cases hres
                    rintro o s8 ⟨rfl, j8, rfl⟩
                    exact dollar_bad (D7.putr j8)
                  | ok x =>
                    obtain ⟨yes, k⟩ := x
                    simp only [hp1] at hres h3
                    rintro o s8 ⟨rfl, rfl, hk⟩
                    have D8 := D7.putr k
                    have hC8 := getCells_put_ne (i := r) (o := .cells (rd t k gr) g) (by have := D3.ra; have := D3.ab; omega) hC7
                    generalize s7.put r (.cells (rd t k gr) g) = s8 at D8 hC8 ⊢
                    (repeat (first | ((first | apply o_move rfl rfl | apply o_easy1 rfl rfl rfl | apply o_ld rfl rfl (by assumption) (by first | rfl | assumption)); conv => lhs; whnf) | apply o_no rfl | refine o_b rfl rfl rfl (by constructor; omega) ?_ | refine o_f rfl rfl rfl (by constructor; omega) ?_ | refine o_s rfl rfl rfl (by constructor; first | omega | assumption) ?_ | refine o_t rfl rfl rfl (by constructor; assumption) ?_ | (apply o_easy rfl rfl rfl; conv => lhs; whnf) | apply o_non rfl))
                    refine o_st rfl rfl rfl rfl hC8 rfl (lets_of (blt_no (by show b.w ≤ C; omega)) (fun e => rfl)) (cs' := [.int .i64 4, .str [], .int .i64 v, .nilsl, .nilsl]) rfl ?_
                    have D9 := D8.putn (.cells [.int .i64 4, .str [], .int .i64 v, .nilsl, .nilsl] 0) hBC
                    have hC9 := getCells_put (cs' := [.int .i64 4, .str [], .int .i64 v, .nilsl, .nilsl]) (g' := 0) hC8
                    (repeat (first | ((first | apply o_move rfl rfl | apply o_easy1 rfl rfl rfl | apply o_ld rfl rfl (by assumption) (by first | rfl | assumption)); conv => lhs; whnf) | apply o_no rfl | refine o_b rfl rfl rfl (by constructor; omega) ?_ | refine o_f rfl rfl rfl (by constructor; omega) ?_ | refine o_s rfl rfl rfl (by constructor; first | omega | assumption) ?_ | refine o_t rfl rfl rfl (by constructor; assumption) ?_ | (apply o_easy rfl rfl rfl; conv => lhs; whnf) | apply o_non rfl))
                    refine o_st rfl rfl rfl rfl hC9 rfl (lets_of (blt_no (by show b.w ≤ C; omega)) (fun e => old_vec e yes)) (cs' := [.int .i64 4, .str [], .int .i64 v, .vec (avs yes) .shut, .nilsl]) rfl ?_
                    (apply o_end; (repeat (first | exact OutS.nil | exact GetS.hit | exact PutS.hit | apply GetS.miss rfl | apply PutS.miss rfl | apply OutS.cons | apply OutS.skip rfl)))
                    have D10 := D9.putn (.cells [.int .i64 4, .str [], .int .i64 v, .vec (avs yes) .shut, .nilsl] 0) hBC
                    have hC10 := getCells_put (cs' := [.int .i64 4, .str [], .int .i64 v, .vec (avs yes) .shut, .nilsl]) (g' := 0) hC9
                    generalize (s8.put C (.cells [.int .i64 4, .str [], .int .i64 v, .nilsl, .nilsl] 0)).put C (.cells [.int .i64 4, .str [], .int .i64 v, .vec (avs yes) .shut, .nilsl] 0) = s10 at D10 hC10 ⊢
                    have htk := take_spec (m + 6) (b.into .eff s) s10 D10.get hk hw (p := [58]) (by simp; omega)
                    cases hsf : stands t k [58] with
                    | false =>
                      simp only [hsf, Bool.false_eq_true, if_false] at hres htk
                      rw [Sg.put_same D10.get] at htk
                      cases hres
                      ((repeat refine c_seq ?_); refine c_region ?_; (repeat (first | ((first | apply o_move rfl rfl | apply o_easy1 rfl rfl rfl | apply o_ld rfl rfl (by assumption) (by first | rfl | assumption)); conv => lhs; whnf) | apply o_no rfl | refine o_b rfl rfl rfl (by constructor; omega) ?_ | refine o_f rfl rfl rfl (by constructor; omega) ?_ | refine o_s rfl rfl rfl (by constructor; first | omega | assumption) ?_ | refine o_t rfl rfl rfl (by constructor; assumption) ?_ | (apply o_easy rfl rfl rfl; conv => lhs; whnf) | apply o_non rfl)))
                      refine o_call rfl rfl htk ?_
                      refine o_callvp rfl rfl rfl rfl (need_no (m + 8) _ s10 D10.a) ?_
                      exact dollar_bad D10
                    | true =>
                      simp only [hsf, if_true] at hres htk
                      have hk1 : k + 1 ≤ t.length := by have := stands_le hsf hk; simpa using this
                      have D11 := D10.putr (k + 1)
                      have hC11 := getCells_put_ne (i := r) (o := .cells (rd t (k + 1) gr) g) (by have := D3.ra; have := D3.ab; omega) hC10
                      ((repeat refine c_seq ?_); refine c_region ?_; (repeat (first | ((first | apply o_move rfl rfl | apply o_easy1 rfl rfl rfl | apply o_ld rfl rfl (by assumption) (by first | rfl | assumption)); conv => lhs; whnf) | apply o_no rfl | refine o_b rfl rfl rfl (by constructor; omega) ?_ | refine o_f rfl rfl rfl (by constructor; omega) ?_ | refine o_s rfl rfl rfl (by constructor; first | omega | assumption) ?_ | refine o_t rfl rfl rfl (by constructor; assumption) ?_ | (apply o_easy rfl rfl rfl; conv => lhs; whnf) | apply o_non rfl)))
                      refine o_call rfl rfl htk ?_
                      refine o_callv rfl rfl rfl rfl (need_yes (m + 8) _ _ _) ?_
                      (apply o_end; (repeat (first | exact OutS.nil | exact GetS.hit | exact PutS.hit | apply GetS.miss rfl | apply PutS.miss rfl | apply OutS.cons | apply OutS.skip rfl)))
                      change OkC _ _ _ _ _ (s10.put r (.cells (rd t (k + 1) gr) g)) _
                      generalize s10.put r (.cells (rd t (k + 1) gr) g) = s11 at D11 hC11 ⊢
                      cases hp2 : partsM t gr n [125] (d + 1) (k + 1) [] with
                      | none => simp [hp2] at hres
                      | some r2 =>
                        have hcall := h3 r2 hp2 hk1 (m + 9) (by omega) (b.into .eff s) r g s11 hw D11.get
                        ((repeat refine c_seq ?_); refine c_region ?_; (repeat (first | ((first | apply o_move rfl rfl | apply o_easy1 rfl rfl rfl | apply o_ld rfl rfl (by assumption) (by first | rfl | assumption)); conv => lhs; whnf) | apply o_no rfl | refine o_b rfl rfl rfl (by constructor; omega) ?_ | refine o_f rfl rfl rfl (by constructor; omega) ?_ | refine o_s rfl rfl rfl (by constructor; first | omega | assumption) ?_ | refine o_t rfl rfl rfl (by constructor; assumption) ?_ | (apply o_easy rfl rfl rfl; conv => lhs; whnf) | apply o_non rfl)))
                        refine o_callw (l := [.ptr r g 0, .str [125], .int .i64 ((d + 1 : Nat) : Int)]) rfl rfl (hcall.mono ?_)
                        cases r2 with
                        | error a =>
                          simp only [hp2] at hres
                          cases hres
                          rintro o s8 ⟨rfl, j8, rfl⟩
                          exact dollar_bad (D11.putr j8)
                        | ok x =>
                          obtain ⟨no, j⟩ := x
                          simp only [hp2] at hres
                          rintro o s12 ⟨rfl, rfl, hj⟩
                          have D12 := D11.putr j
                          have hC12 := getCells_put_ne (i := r) (o := .cells (rd t j gr) g) (by have := D3.ra; have := D3.ab; omega) hC11
                          generalize s11.put r (.cells (rd t j gr) g) = s12 at D12 hC12 ⊢
                          (repeat (first | ((first | apply o_move rfl rfl | apply o_easy1 rfl rfl rfl | apply o_ld rfl rfl (by assumption) (by first | rfl | assumption)); conv => lhs; whnf) | apply o_no rfl | refine o_b rfl rfl rfl (by constructor; omega) ?_ | refine o_f rfl rfl rfl (by constructor; omega) ?_ | refine o_s rfl rfl rfl (by constructor; first | omega | assumption) ?_ | refine o_t rfl rfl rfl (by constructor; assumption) ?_ | (apply o_easy rfl rfl rfl; conv => lhs; whnf) | apply o_non rfl))
                          refine o_st rfl rfl rfl rfl hC12 rfl (lets_of (blt_no (by show b.w ≤ C; omega)) (fun e => old_vec e no)) (cs' := (Tp.ifs v yes no).cells) rfl ?_
                          (apply o_end; (repeat (first | exact OutS.nil | exact GetS.hit | exact PutS.hit | apply GetS.miss rfl | apply PutS.miss rfl | apply OutS.cons | apply OutS.skip rfl)))
                          have D6 := D12.putn (.cells (Tp.ifs v yes no).cells 0) hBC
                          have hC6 := getCells_put (cs' := (Tp.ifs v yes no).cells) (g' := 0) hC12
                          generalize s12.put C (.cells (Tp.ifs v yes no).cells 0) = s6 at D6 hC6 ⊢
                          obtain ⟨pp, hpp⟩ : ∃ pp, pp = Tp.ifs v yes no := ⟨_, rfl⟩
                          rw [← hpp] at hres hC6
                          have htk := take_spec (m + 6) (b.into .eff s) s6 D6.get hj hw (p := [125]) (by simp; omega)
                          simp only [closeM] at hres
                          cases hsc : stands t j [125] with
                          | true =>
                            simp only [hsc, if_true] at hres htk
                            cases hres
                            have D7 := D6.putr (j + 1)
                            have hC7 := getCells_put_ne (i := r) (o := .cells (rd t (j + 1) gr) g) (by have := D3.ra; have := D3.ab; omega) hC6
                            have hall := partOf_all (cells_len pp)
                            ((repeat refine c_seq ?_); refine c_region ?_; (repeat (first | ((first | apply o_move rfl rfl | apply o_easy1 rfl rfl rfl | apply o_ld rfl rfl (by assumption) (by first | rfl | assumption)); conv => lhs; whnf) | apply o_no rfl | refine o_b rfl rfl rfl (by constructor; omega) ?_ | refine o_f rfl rfl rfl (by constructor; omega) ?_ | refine o_s rfl rfl rfl (by constructor; first | omega | assumption) ?_ | refine o_t rfl rfl rfl (by constructor; assumption) ?_ | (apply o_easy rfl rfl rfl; conv => lhs; whnf) | apply o_non rfl)))
                            refine o_call rfl rfl htk ?_
                            refine o_callv rfl rfl rfl rfl (need_yes (m + 8) _ _ _) ?_
                            (apply o_end; (repeat (first | exact OutS.nil | exact GetS.hit | exact PutS.hit | apply GetS.miss rfl | apply PutS.miss rfl | apply OutS.cons | apply OutS.skip rfl)))
                            ((repeat refine c_seq ?_); refine c_region ?_; (repeat (first | ((first | apply o_move rfl rfl | apply o_easy1 rfl rfl rfl | apply o_ld rfl rfl (by assumption) (by first | rfl | assumption)); conv => lhs; whnf) | apply o_no rfl | refine o_b rfl rfl rfl (by constructor; omega) ?_ | refine o_f rfl rfl rfl (by constructor; omega) ?_ | refine o_s rfl rfl rfl (by constructor; first | omega | assumption) ?_ | refine o_t rfl rfl rfl (by constructor; assumption) ?_ | (apply o_easy rfl rfl rfl; conv => lhs; whnf) | apply o_non rfl)))
                            refine o_st (v := .agg pp.cells) rfl rfl rfl (stored_av _) D7.b (beq_of (cells_len pp)) (lets_of (blt_no (by show b.w ≤ B; omega)) (fun e => cells_old e pp)) (cs' := pp.cells) (wr_all pp) ?_
                            (apply o_end; (repeat (first | exact OutS.nil | exact GetS.hit | exact PutS.hit | apply GetS.miss rfl | apply PutS.miss rfl | apply OutS.cons | apply OutS.skip rfl)))
                            exact c_ret (dollar_end D7 rfl (by have := stands_le hsc hj; simp at this; omega))
                          | false =>
                            simp only [hsc, Bool.false_eq_true, if_false] at hres htk
                            rw [Sg.put_same D6.get] at htk
                            cases hres
                            ((repeat refine c_seq ?_); refine c_region ?_; (repeat (first | ((first | apply o_move rfl rfl | apply o_easy1 rfl rfl rfl | apply o_ld rfl rfl (by assumption) (by first | rfl | assumption)); conv => lhs; whnf) | apply o_no rfl | refine o_b rfl rfl rfl (by constructor; omega) ?_ | refine o_f rfl rfl rfl (by constructor; omega) ?_ | refine o_s rfl rfl rfl (by constructor; first | omega | assumption) ?_ | refine o_t rfl rfl rfl (by constructor; assumption) ?_ | (apply o_easy rfl rfl rfl; conv => lhs; whnf) | apply o_non rfl)))
                            refine o_call rfl rfl htk ?_
                            refine o_callvp rfl rfl rfl rfl (need_no (m + 8) _ s6 D6.a) ?_
                            exact dollar_bad D6
              · rw [if_neg hd10] at hres
                cases hres
                ((repeat refine c_seq ?_); refine c_region ?_; (repeat (first | ((first | apply o_move rfl rfl | apply o_easy1 rfl rfl rfl | apply o_ld rfl rfl (by assumption) (by first | rfl | assumption)); conv => lhs; whnf) | apply o_no rfl | refine o_b rfl rfl rfl (by constructor; omega) ?_ | refine o_f rfl rfl rfl (by constructor; omega) ?_ | refine o_s rfl rfl rfl (by constructor; first | omega | assumption) ?_ | refine o_t rfl rfl rfl (by constructor; assumption) ?_ | (apply o_easy rfl rfl rfl; conv => lhs; whnf) | apply o_non rfl)))
                refine o_callvp rfl rfl rfl rfl (need_no (m + 8) _ s7 D7.a) ?_
                exact dollar_bad D7
            | false =>
              simp only [hse, Bool.false_eq_true, if_false] at hres htk
              rw [Sg.put_same D6.get] at htk
              ((repeat refine c_seq ?_); refine c_region ?_; (repeat (first | ((first | apply o_move rfl rfl | apply o_easy1 rfl rfl rfl | apply o_ld rfl rfl (by assumption) (by first | rfl | assumption)); conv => lhs; whnf) | apply o_no rfl | refine o_b rfl rfl rfl (by constructor; omega) ?_ | refine o_f rfl rfl rfl (by constructor; omega) ?_ | refine o_s rfl rfl rfl (by constructor; first | omega | assumption) ?_ | refine o_t rfl rfl rfl (by constructor; assumption) ?_ | (apply o_easy rfl rfl rfl; conv => lhs; whnf) | apply o_non rfl)))
              refine o_call rfl rfl htk ?_
              (repeat (first | ((first | apply o_move rfl rfl | apply o_easy1 rfl rfl rfl | apply o_ld rfl rfl (by assumption) (by first | rfl | assumption)); conv => lhs; whnf) | apply o_no rfl | refine o_b rfl rfl rfl (by constructor; omega) ?_ | refine o_f rfl rfl rfl (by constructor; omega) ?_ | refine o_s rfl rfl rfl (by constructor; first | omega | assumption) ?_ | refine o_t rfl rfl rfl (by constructor; assumption) ?_ | (apply o_easy rfl rfl rfl; conv => lhs; whnf) | apply o_non rfl))
              (apply o_end; (repeat (first | exact OutS.nil | exact GetS.hit | exact PutS.hit | apply GetS.miss rfl | apply PutS.miss rfl | apply OutS.cons | apply OutS.skip rfl)))
              ((repeat refine c_seq ?_); refine c_else rfl ?_)
              refine c_skip ?_
              obtain ⟨pp, hpp⟩ : ∃ pp, pp = Tp.group v := ⟨_, rfl⟩
              rw [← hpp] at hres hC6
              have htk := take_spec (m + 6) (b.into .eff s) s6 D6.get hj hw (p := [125]) (by simp; omega)
              simp only [closeM] at hres
              cases hsc : stands t j [125] with
              | true =>
                simp only [hsc, if_true] at hres htk
                cases hres
                have D7 := D6.putr (j + 1)
                have hC7 := getCells_put_ne (i := r) (o := .cells (rd t (j + 1) gr) g) (by have := D3.ra; have := D3.ab; omega) hC6
                have hall := partOf_all (cells_len pp)
                ((repeat refine c_seq ?_); refine c_region ?_; (repeat (first | ((first | apply o_move rfl rfl | apply o_easy1 rfl rfl rfl | apply o_ld rfl rfl (by assumption) (by first | rfl | assumption)); conv => lhs; whnf) | apply o_no rfl | refine o_b rfl rfl rfl (by constructor; omega) ?_ | refine o_f rfl rfl rfl (by constructor; omega) ?_ | refine o_s rfl rfl rfl (by constructor; first | omega | assumption) ?_ | refine o_t rfl rfl rfl (by constructor; assumption) ?_ | (apply o_easy rfl rfl rfl; conv => lhs; whnf) | apply o_non rfl)))
                refine o_call rfl rfl htk ?_
                refine o_callv rfl rfl rfl rfl (need_yes (m + 8) _ _ _) ?_
                (apply o_end; (repeat (first | exact OutS.nil | exact GetS.hit | exact PutS.hit | apply GetS.miss rfl | apply PutS.miss rfl | apply OutS.cons | apply OutS.skip rfl)))
                ((repeat refine c_seq ?_); refine c_region ?_; (repeat (first | ((first | apply o_move rfl rfl | apply o_easy1 rfl rfl rfl | apply o_ld rfl rfl (by assumption) (by first | rfl | assumption)); conv => lhs; whnf) | apply o_no rfl | refine o_b rfl rfl rfl (by constructor; omega) ?_ | refine o_f rfl rfl rfl (by constructor; omega) ?_ | refine o_s rfl rfl rfl (by constructor; first | omega | assumption) ?_ | refine o_t rfl rfl rfl (by constructor; assumption) ?_ | (apply o_easy rfl rfl rfl; conv => lhs; whnf) | apply o_non rfl)))
                refine o_st (v := .agg pp.cells) rfl rfl rfl (stored_av _) D7.b (beq_of (cells_len pp)) (lets_of (blt_no (by show b.w ≤ B; omega)) (fun e => cells_old e pp)) (cs' := pp.cells) (wr_all pp) ?_
                (apply o_end; (repeat (first | exact OutS.nil | exact GetS.hit | exact PutS.hit | apply GetS.miss rfl | apply PutS.miss rfl | apply OutS.cons | apply OutS.skip rfl)))
                exact c_ret (dollar_end D7 rfl (by have := stands_le hsc hj; simp at this; omega))
              | false =>
                simp only [hsc, Bool.false_eq_true, if_false] at hres htk
                rw [Sg.put_same D6.get] at htk
                cases hres
                ((repeat refine c_seq ?_); refine c_region ?_; (repeat (first | ((first | apply o_move rfl rfl | apply o_easy1 rfl rfl rfl | apply o_ld rfl rfl (by assumption) (by first | rfl | assumption)); conv => lhs; whnf) | apply o_no rfl | refine o_b rfl rfl rfl (by constructor; omega) ?_ | refine o_f rfl rfl rfl (by constructor; omega) ?_ | refine o_s rfl rfl rfl (by constructor; first | omega | assumption) ?_ | refine o_t rfl rfl rfl (by constructor; assumption) ?_ | (apply o_easy rfl rfl rfl; conv => lhs; whnf) | apply o_non rfl)))
                refine o_call rfl rfl htk ?_
                refine o_callvp rfl rfl rfl rfl (need_no (m + 8) _ s6 D6.a) ?_
                exact dollar_bad D6
        · rw [decide_eq_false hle]
          rw [if_pos (fun e => hle e.2)] at hres
          cases hres
          ((repeat refine c_seq ?_); refine c_region ?_; (repeat (first | ((first | apply o_move rfl rfl | apply o_easy1 rfl rfl rfl | apply o_ld rfl rfl (by assumption) (by first | rfl | assumption)); conv => lhs; whnf) | apply o_no rfl | refine o_b rfl rfl rfl (by constructor; omega) ?_ | refine o_f rfl rfl rfl (by constructor; omega) ?_ | refine o_s rfl rfl rfl (by constructor; first | omega | assumption) ?_ | refine o_t rfl rfl rfl (by constructor; assumption) ?_ | (apply o_easy rfl rfl rfl; conv => lhs; whnf) | apply o_non rfl)))
          refine o_callvp rfl rfl rfl rfl (need_no (m + 8) _ s5 D5.a) ?_
          exact dollar_bad D5
      · rw [if_pos (fun e => hij e.1)] at hres
        cases hres
        refine o_callw rfl rfl ((refer_no (m + 8) (b.into .eff s) t gr r g (i + 1) s4 hw (by omega) hi4 (by omega) D4.get hij).mono ?_)
        rintro o s5 ⟨rfl, j', hj', rfl⟩
        have D5 := D4.putr j'
        (repeat (first | ((first | apply o_move rfl rfl | apply o_easy1 rfl rfl rfl | apply o_ld rfl rfl (by assumption) (by first | rfl | assumption)); conv => lhs; whnf) | apply o_no rfl | refine o_b rfl rfl rfl (by constructor; omega) ?_ | refine o_f rfl rfl rfl (by constructor; omega) ?_ | refine o_s rfl rfl rfl (by constructor; first | omega | assumption) ?_ | refine o_t rfl rfl rfl (by constructor; assumption) ?_ | (apply o_easy rfl rfl rfl; conv => lhs; whnf) | apply o_non rfl))
        (apply o_end; (repeat (first | exact OutS.nil | exact GetS.hit | exact PutS.hit | apply GetS.miss rfl | apply PutS.miss rfl | apply OutS.cons | apply OutS.skip rfl)))
        ((repeat refine c_seq ?_); refine c_region ?_; (repeat (first | ((first | apply o_move rfl rfl | apply o_easy1 rfl rfl rfl | apply o_ld rfl rfl (by assumption) (by first | rfl | assumption)); conv => lhs; whnf) | apply o_no rfl | refine o_b rfl rfl rfl (by constructor; omega) ?_ | refine o_f rfl rfl rfl (by constructor; omega) ?_ | refine o_s rfl rfl rfl (by constructor; first | omega | assumption) ?_ | refine o_t rfl rfl rfl (by constructor; assumption) ?_ | (apply o_easy rfl rfl rfl; conv => lhs; whnf) | apply o_non rfl)))
        refine o_callvp rfl rfl rfl rfl (need_no (m + 8) _ _ D5.a) ?_
        exact dollar_bad D5


end Go.Tpl
