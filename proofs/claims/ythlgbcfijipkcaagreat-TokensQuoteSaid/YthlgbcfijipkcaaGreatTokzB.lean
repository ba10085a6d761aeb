/-
  What the lexer comes to, of text whose characters are themselves.
-/
import Derived.Test.YthlgbcfijipkcaaGreatTokzA

namespace Go.Tok
open Go Go.Am Go.Proofs

section
variable {call : CallFn} {b : Bar} {g : Option (Nat × Bool)} {r : List AOper} {loc : Env} {fr : Fr} {s : Sg} {Q : Ex → Env → Fr → Sg → Prop}

theorem o_fill {k t : Nat} {p : EOp} {v : AV} {s1 : Sg} (hg : wantedA loc fr.pers g = some true) (h : evF b loc fr.pers s k p = some (v, s1)) (hr : OkO call b r ((t, v) :: loc) fr s1 Q) : OkO call b (⟨some t, .fill k p, g⟩ :: r) loc fr s Q := by
  obtain ⟨e, l, f, u, h1, h2⟩ := hr.ok
  refine ⟨⟨e, l, f, u, ?_, h2⟩⟩
  simp only [runOps, hg, Option.bind_some, if_true, h]
  exact h1

theorem evF_nil {pers : Env} {k bytes : Nat} {ag : Option Nat} {x y : AOpd} {u : AV} {ys : List AV} (hx : x.ev loc pers = some .nilsl) (hy : y.ev loc pers = some u) (hu : heapRef u = none) (he : elemsOf s.heap ag u = some ys) (hs : (allSize (ag.getD 1) ys && allOneAll ys) = true) (hne : ys ≠ []) (hl : Nat.ble (ys.length * bytes) limit = true)
    (hp : s.heap[b.n0 + k]? = some .pend) (ho : AV.oldAll s.heap.length (flatAll ys) = true) (hw : b.w ≤ b.n0 + k) (hes : b.es = []) :
    evF b loc pers s k (.append true ag bytes x y) = some (.ms (b.n0 + k) 0 0 ys.length ys.length (ag.getD 1), { s with heap := setAt s.heap (b.n0 + k) (.cells (flatAll ys) 0) }) := by
  have hE : evE b loc pers s (.append true ag bytes x y) = some (.ms s.heap.length 0 0 ys.length ys.length (ag.getD 1), s.push (.cells (flatAll ys) 0)) := by
    simp only [evE, hx, hy, Option.bind_some, he, hs, if_true]
    cases ys with
    | nil => exact absurd rfl hne
    | cons a r => simp only [evAppend, hl, if_true]
  have hpl : plainApp loc pers (.append true ag bytes x y) = true := by simp only [plainApp, hx, hy, Option.bind_some, hu, Bool.and_self]
  have hnl : Nat.beq (s.push (.cells (flatAll ys) 0)).heap.length s.heap.length = false := by
    cases e : Nat.beq (s.push (.cells (flatAll ys) 0)).heap.length s.heap.length with
    | false => rfl
    | true => have := Nat.eq_of_beq_eq_true e; simp [Sg.push] at this
  have hlast : (s.push (.cells (flatAll ys) 0)).heap[s.heap.length]? = some (.cells (flatAll ys) 0) := by simp [Sg.push]
  unfold evF
  rw [hpl, hE]
  simp only [Bool.not_true, Bool.false_eq_true, if_false, Option.bind_some, hnl, hlast, hp, AObj.isPend, AObj.old, ho, ble_of hw, hes, allGe, Bool.not_false, Bool.and_self, if_true, renum, Nat.beq_refl, Option.map_some]

theorem evF_ms {pers : Env} {k bytes i g' len cp sz : Nat} {ag : Option Nat} {x y : AOpd} {u : AV} {ys cs : List AV} (hx : x.ev loc pers = some (.ms i g' 0 len cp sz)) (hy : y.ev loc pers = some u) (hu : heapRef u = none) (he : elemsOf s.heap ag u = some ys) (hs : (allSize (ag.getD 1) ys && allOneAll ys) = true)
    (hl : Nat.ble ((len + ys.length) * bytes) limit = true) (hz : Nat.beq sz (ag.getD 1) = true) (hb : b.lets i (flatAll ys) = true) (hc : getCells s.heap i g' = some cs) (hcl : Nat.beq (len * sz) cs.length = true) :
    evF b loc pers s k (.append true ag bytes x y) = some (.ms i (g' + 1) 0 (len + ys.length) (len + ys.length) sz, s.put i (.cells (cs ++ flatAll ys) (g' + 1))) := by
  have hE : evE b loc pers s (.append true ag bytes x y) = some (.ms i (g' + 1) 0 (len + ys.length) (len + ys.length) sz, s.put i (.cells (cs ++ flatAll ys) (g' + 1))) := by
    simp only [evE, hx, hy, Option.bind_some, he, hs, if_true, evAppend, hl, hz, hb, Bool.and_self, hc, Nat.beq_refl, hcl]
    rfl
  have hpl : plainApp loc pers (.append true ag bytes x y) = true := by simp only [plainApp, hx, hy, Option.bind_some, hu, Bool.and_self]
  have hnl : Nat.beq (s.put i (.cells (cs ++ flatAll ys) (g' + 1))).heap.length s.heap.length = true := by rw [Sg.put_len, Nat.beq_refl]
  unfold evF
  rw [hpl, hE]
  simp only [Bool.not_true, Bool.false_eq_true, if_false, Option.bind_some, hnl, if_true]
end

/-- a token: of those that bear numbers alone -/
structure Tk where
  k : Int
  at' : Int
  to : Int
  c : Int
  n : Int
  m : Int
  mode : Int

def Tk.cs (x : Tk) : List AV := [.int .i64 x.k, .int .i64 x.at', .int .i64 x.to, .int .i64 x.c, .nilsl, .bool false, .int .i64 x.n, .int .i64 x.m, .int .i64 x.mode, .str [], .int .i64 0, .int .i64 0]
def Tk.av (x : Tk) : AV := .agg x.cs
def tavs (l : List Tk) : List AV := l.map Tk.av

theorem tavs_app (l k : List Tk) : tavs (l ++ k) = tavs l ++ tavs k := List.map_append
theorem flat_len : ∀ l : List Tk, (flatAll (tavs l)).length = l.length * 12
  | [] => rfl
  | x :: r => by
    have ih := flat_len r
    simp only [tavs, List.map_cons, flatAll, List.length_append, List.length_cons, Nat.add_mul, Nat.one_mul] at ih ⊢
    rw [ih]
    show 12 + _ = _
    omega

/-- what was put out -/
def OutAt (r : Nat) (h : List AObj) (l : List Tk) (out : AV) : Prop :=
  (l = [] ∧ out = .nilsl) ∨ (l ≠ [] ∧ ∃ j g, out = .ms j g 0 l.length l.length 12 ∧ r < j ∧ getCells h j g = some (flatAll (tavs l)))

/-- a lexer in the abstract heap; what lies ahead of it is as it was -/
structure LS (s0 : Sg) (r : Nat) (t : List UInt8) (u : Bool) (o mx : Int) (at' i : Nat) (l : List Tk) (s : Sg) : Prop where
  out : ∃ out, getCells s.heap r 0 = some (lx t u o mx at' i out) ∧ OutAt r s.heap l out
  low : ∀ q, q < r → s.heap[q]? = s0.heap[q]?

theorem LS.put {s0 : Sg} {r : Nat} {t : List UInt8} {u : Bool} {o mx : Int} {at' i at2 i2 : Nat} {l : List Tk} {s : Sg} {out : AV} (hg : getCells s.heap r 0 = some (lx t u o mx at' i out)) (ho : OutAt r s.heap l out) (hl : ∀ q, q < r → s.heap[q]? = s0.heap[q]?) : LS s0 r t u o mx at2 i2 l (s.put r (.cells (lx t u o mx at2 i2 out) 0)) := by
  refine ⟨⟨out, getCells_put hg, ?_⟩, fun q hq => by rw [Sg.put_get _ _ _ (by omega)]; exact hl q hq⟩
  rcases ho with h | ⟨hne, j, g, h1, h2, h3⟩
  · exact .inl h
  · exact .inr ⟨hne, j, g, h1, h2, getCells_put_ne (by omega) h3⟩

theorem keep_get {s : Sg} {k q : Nat} (h : q < s.heap.length) : (s.keep k).heap[q]? = s.heap[q]? := List.getElem?_append_left h
theorem keep_last {s : Sg} : (s.keep 1).heap[s.heap.length]? = some .pend := by simp [Sg.keep]
theorem getCells_keep {s : Sg} {i g k : Nat} {cs : List AV} (e : getCells s.heap i g = some cs) : getCells (s.keep k).heap i g = some cs := getCells_at e (keep_get (getCells_lt e))
theorem beq_no {a b : Nat} (h : a ≠ b) : Nat.beq a b = false := by
  cases e : Nat.beq a b with
  | false => rfl
  | true => exact absurd (Nat.eq_of_beq_eq_true e) h

theorem lets_nil {b : Bar} {i : Nat} {xs : List AV} (hw : Nat.blt i b.w = false) (h : b.es = []) : b.lets i xs = true := by
  simp only [Bar.lets, hw, h, letsAll]
  rfl

theorem put_spec (m : Nat) (b : Bar) (s0 : Sg) (t : List UInt8) (u : Bool) (o mx : Int) (at' i r : Nat) (l : List Tk) (x : Tk) (s : Sg) (hb : b.w ≤ r) (hes : b.es = []) (hl : l.length < 2 ^ 20) (h : LS s0 r t u o mx at' i l s) :
    OkF (callF T (m + 1) b 21 [.ptr r 0 0, x.av] s) fun out s' => out = .ret (.tup []) ∧ LS s0 r t u o mx at' i (l ++ [{ x with at' := at', to := i }]) s' := by
  obtain ⟨⟨out, hg, ho⟩, hlow⟩ := h
  have hr := getCells_lt hg
  (apply f_wp rfl rfl; (repeat (first | exact Shape.nil | (apply Shape.cons; conv => lhs; whnf))))
  ((repeat refine c_seq ?_); refine c_region ?_; (repeat (first | ((first | apply o_move rfl rfl | apply o_easy1 rfl rfl rfl | apply o_ld rfl rfl (by assumption) (by first | rfl | assumption)); conv => lhs; whnf) | apply o_no rfl | refine o_b rfl rfl rfl (by constructor; omega) ?_ | refine o_f rfl rfl rfl (by constructor; omega) ?_ | (apply o_easy rfl rfl rfl; conv => lhs; whnf) | apply o_non rfl)))
  refine o_box (v := x.av) (l := x.cs) rfl rfl rfl ?_
  (apply o_end; (repeat (first | exact OutS.nil | exact GetS.hit | exact PutS.hit | apply GetS.miss rfl | apply PutS.miss rfl | apply OutS.cons | apply OutS.skip rfl)))
  have hg1 := getCells_push (.cells x.cs 0) hg
  have hn1 := getCells_new s x.cs 0
  ((repeat refine c_seq ?_); refine c_drawn ?_; (repeat (first | ((first | apply o_move rfl rfl | apply o_easy1 rfl rfl rfl | apply o_ld rfl rfl (by assumption) (by first | rfl | assumption)); conv => lhs; whnf) | apply o_no rfl | refine o_b rfl rfl rfl (by constructor; omega) ?_ | refine o_f rfl rfl rfl (by constructor; omega) ?_ | (apply o_easy rfl rfl rfl; conv => lhs; whnf) | apply o_non rfl)))
  refine o_st rfl rfl rfl rfl hn1 rfl (lets_of (blt_no (by show b.w ≤ s.heap.length; omega)) (fun e => rfl)) (cs' := { x with at' := at' }.cs) rfl ?_
  (repeat (first | ((first | apply o_move rfl rfl | apply o_easy1 rfl rfl rfl | apply o_ld rfl rfl (by assumption) (by first | rfl | assumption)); conv => lhs; whnf) | apply o_no rfl | refine o_b rfl rfl rfl (by constructor; omega) ?_ | refine o_f rfl rfl rfl (by constructor; omega) ?_ | (apply o_easy rfl rfl rfl; conv => lhs; whnf) | apply o_non rfl))
  refine o_st rfl rfl rfl rfl (getCells_put hn1) rfl (lets_of (blt_no (by show b.w ≤ s.heap.length; omega)) (fun e => rfl)) (cs' := { x with at' := at', to := i }.cs) rfl ?_
  have hg2 := getCells_put_ne (i := s.heap.length) (o := .cells ({ x with at' := at' } : Tk).cs 0) (by omega) hg1
  have hg3 := getCells_put_ne (i := s.heap.length) (o := .cells ({ x with at' := at', to := i } : Tk).cs 0) (by omega) hg2
  have hn2 := getCells_put (cs' := ({ x with at' := at', to := i } : Tk).cs) (g' := 0) (getCells_put (cs' := ({ x with at' := at' } : Tk).cs) (g' := 0) hn1)
  refine d_end ?_ (by (repeat (first | exact OutS.nil | exact GetS.hit | exact PutS.hit | apply GetS.miss rfl | apply PutS.miss rfl | apply OutS.cons | apply OutS.skip rfl))) ?_
  · show (!(Nat.beq r s.heap.length) && true) = true
    rw [beq_no (by omega)]
    rfl
  have hlo : ∀ q, q < s.heap.length → (((s.push (.cells x.cs 0)).put s.heap.length (.cells ({ x with at' := at' } : Tk).cs 0)).put s.heap.length (.cells ({ x with at' := at', to := i } : Tk).cs 0)).heap[q]? = s.heap[q]? := fun q hq => by
    rw [Sg.put_get _ _ _ (by omega), Sg.put_get _ _ _ (by omega), Sg.push_get _ _ hq]
  have hle : (((s.push (.cells x.cs 0)).put s.heap.length (.cells ({ x with at' := at' } : Tk).cs 0)).put s.heap.length (.cells ({ x with at' := at', to := i } : Tk).cs 0)).heap.length = s.heap.length + 1 := by
    rw [Sg.put_len, Sg.put_len]; simp [Sg.push]
  revert hg3 hn2 hlo hle
  generalize ((s.push (.cells x.cs 0)).put s.heap.length (.cells ({ x with at' := at' } : Tk).cs 0)).put s.heap.length (.cells ({ x with at' := at', to := i } : Tk).cs 0) = s2
  intro hg3 hn2 hlo hle
  have hg4 := getCells_keep (k := 1) hg3
  have hn4 := getCells_keep (k := 1) hn2
  refine c_drawnk ?_
  (repeat (first | ((first | apply o_move rfl rfl | apply o_easy1 rfl rfl rfl | apply o_ld rfl rfl (by assumption) (by first | rfl | assumption)); conv => lhs; whnf) | apply o_no rfl | refine o_b rfl rfl rfl (by constructor; omega) ?_ | refine o_f rfl rfl rfl (by constructor; omega) ?_ | (apply o_easy rfl rfl rfl; conv => lhs; whnf) | apply o_non rfl))
  have hlow2 : ∀ q, q < r → s2.heap[q]? = s0.heap[q]? := fun q hq => by rw [hlo q (by omega)]; exact hlow q hq
  rcases ho with ⟨rfl, rfl⟩ | ⟨hne, j, g, rfl, h2, h3⟩
  · refine o_fill rfl (evF_nil (ys := [({ x with at' := at', to := i } : Tk).av]) rfl rfl rfl rfl rfl (by simp) rfl (keep_last) rfl (by show b.w ≤ s2.heap.length; omega) hes) ?_
    have hs : ({ s2.keep 1 with heap := setAt (s2.keep 1).heap (((b.into af21.mode s).drawn false s2).n0 + 0) (.cells (flatAll [({ x with at' := at', to := i } : Tk).av]) 0) } : Sg) = s2.push (.cells (flatAll [({ x with at' := at', to := i } : Tk).av]) 0) := by
      show ({ s2.keep 1 with heap := setAt (s2.heap ++ [.pend]) s2.heap.length _ } : Sg) = _
      rw [setAt_last]; rfl
    rw [hs]
    have hg5 := getCells_push (.cells (flatAll [({ x with at' := at', to := i } : Tk).av]) 0) hg3
    (repeat (first | ((first | apply o_move rfl rfl | apply o_easy1 rfl rfl rfl | apply o_ld rfl rfl (by assumption) (by first | rfl | assumption)); conv => lhs; whnf) | apply o_no rfl | refine o_b rfl rfl rfl (by constructor; omega) ?_ | refine o_f rfl rfl rfl (by constructor; omega) ?_ | (apply o_easy rfl rfl rfl; conv => lhs; whnf) | apply o_non rfl))
    refine o_st rfl rfl rfl rfl hg5 rfl (lets_nil (blt_no hb) hes) (cs' := lx t u o mx at' i (.ms s2.heap.length 0 0 1 1 12)) rfl ?_
    (apply d_end rfl; (repeat (first | exact OutS.nil | exact GetS.hit | exact PutS.hit | apply GetS.miss rfl | apply PutS.miss rfl | apply OutS.cons | apply OutS.skip rfl)))
    refine ⟨_, _, rfl, rfl, ⟨_, getCells_put hg5, .inr ⟨by simp, s2.heap.length, 0, rfl, by omega, ?_⟩⟩, fun q hq => ?_⟩
    · rw [tavs_app]
      exact getCells_put_ne (by omega) (getCells_new s2 _ 0)
    · rw [Sg.put_get _ _ _ (by omega), Sg.push_get _ _ (by omega)]
      exact hlow2 q hq
  · have h3' : getCells (s2.keep 1).heap j g = some (flatAll (tavs l)) := getCells_keep (getCells_at h3 (hlo j (getCells_lt h3)))
    refine o_fill rfl (evF_ms (ys := [({ x with at' := at', to := i } : Tk).av]) rfl rfl rfl rfl rfl ?_ rfl (lets_nil (blt_no (by show b.w ≤ j; omega)) hes) h3' ?_) ?_
    · apply ble_of
      show (l.length + 1) * 120 ≤ 2 ^ 40
      omega
    · rw [flat_len]
      exact Nat.beq_refl _
    have hg5 := getCells_put_ne (i := j) (o := .cells (flatAll (tavs l) ++ flatAll [({ x with at' := at', to := i } : Tk).av]) (g + 1)) (by omega) hg4
    (repeat (first | ((first | apply o_move rfl rfl | apply o_easy1 rfl rfl rfl | apply o_ld rfl rfl (by assumption) (by first | rfl | assumption)); conv => lhs; whnf) | apply o_no rfl | refine o_b rfl rfl rfl (by constructor; omega) ?_ | refine o_f rfl rfl rfl (by constructor; omega) ?_ | (apply o_easy rfl rfl rfl; conv => lhs; whnf) | apply o_non rfl))
    refine o_st rfl rfl rfl rfl hg5 rfl (lets_nil (blt_no hb) hes) (cs' := lx t u o mx at' i (.ms j (g + 1) 0 (l.length + 1) (l.length + 1) 12)) rfl ?_
    (apply d_end rfl; (repeat (first | exact OutS.nil | exact GetS.hit | exact PutS.hit | apply GetS.miss rfl | apply PutS.miss rfl | apply OutS.cons | apply OutS.skip rfl)))
    have hfl : flatAll (tavs l) ++ flatAll [({ x with at' := at', to := i } : Tk).av] = flatAll (tavs (l ++ [{ x with at' := at', to := i }])) := by
      rw [tavs_app, flatAll_app]; rfl
    refine ⟨_, _, rfl, rfl, ⟨_, getCells_put hg5, .inr ⟨by simp, j, g + 1, ?_, h2, ?_⟩⟩, fun q hq => ?_⟩
    · rw [List.length_append]; rfl
    · rw [← hfl]
      exact getCells_put_ne (by omega) (getCells_put h3')
    · rw [Sg.put_get _ _ _ (by omega), Sg.put_get _ _ _ (by omega), keep_get (by omega)]
      exact hlow2 q hq

end Go.Tok

namespace Go.Tok
open Go Go.Am Go.Proofs

/-- a byte that is itself -/
def isIt (c : UInt8) : Prop := c.toNat ≠ 92 ∧ c.toNat ≠ 91 ∧ c.toNat ≠ 40 ∧ c.toNat ≠ 46 ∧ c.toNat ≠ 94 ∧ c.toNat ≠ 36 ∧ c.toNat ≠ 124 ∧ c.toNat ≠ 41 ∧ c.toNat ≠ 42 ∧ c.toNat ≠ 43 ∧ c.toNat ≠ 63 ∧ c.toNat ≠ 123

theorem one_spec (m : Nat) (b : Bar) (s0 : Sg) (t : List UInt8) (mx : Int) (at' i r : Nat) (l : List Tk) (c : UInt8) (s : Sg) (hb : b.w ≤ r) (hes : b.es = []) (ht : t.length < 2 ^ 40) (hl : l.length < 2 ^ 20) (hc : t[i]? = some c) (hi : isIt c) (h : LS s0 r t false 0 mx at' i l s) :
    OkF (callF T (m + 3) b 12 [.ptr r 0 0] s) fun out s' => out = .ret (.tup []) ∧ LS s0 r t false 0 mx at' (i + 1) (l ++ [⟨1, at', (i + 1 : Nat), c.toNat, 0, 0, 0⟩]) s' := by
  obtain ⟨⟨out, hg, ho⟩, hlow⟩ := h
  have hr := getCells_lt hg
  obtain ⟨h1, h2, h3, h4, h5, h6, h7, h8, h9, h10, h11, h12⟩ := hi
  (apply f_wp rfl rfl; (repeat (first | exact Shape.nil | (apply Shape.cons; conv => lhs; whnf))))
  ((repeat refine c_seq ?_); refine c_region ?_; (repeat (first | ((first | apply o_move rfl rfl | apply o_easy1 rfl rfl rfl | apply o_ld rfl rfl (by assumption) (by first | rfl | assumption)); conv => lhs; whnf) | apply o_no rfl | refine o_b rfl rfl rfl (by constructor; omega) ?_ | refine o_f rfl rfl rfl (by constructor; omega) ?_ | (apply o_easy rfl rfl rfl; conv => lhs; whnf) | apply o_non rfl)))
  refine o_call rfl rfl (char_spec m _ t 0 mx at' i r out c s hb ht hc hg) ?_
  (repeat (first | ((first | apply o_move rfl rfl | apply o_easy1 rfl rfl rfl | apply o_ld rfl rfl (by assumption) (by first | rfl | assumption)); conv => lhs; whnf) | apply o_no rfl | refine o_b rfl rfl rfl (by constructor; omega) ?_ | refine o_f rfl rfl rfl (by constructor; omega) ?_ | (apply o_easy rfl rfl rfl; conv => lhs; whnf) | apply o_non rfl))
  (apply o_end; (repeat (first | exact OutS.nil | exact GetS.hit | exact PutS.hit | apply GetS.miss rfl | apply PutS.miss rfl | apply OutS.cons | apply OutS.skip rfl)))
  have hL : LS s0 r t false 0 mx at' (i + 1) l (s.put r (.cells (lx t false 0 mx at' (i + 1) out) 0)) := LS.put hg ho hlow
  have hg' := getCells_put (cs' := lx t false 0 mx at' (i + 1) out) (g' := 0) hg
  ((repeat refine c_seq ?_); refine c_block ?_)
  ((repeat refine c_seq ?_); refine c_region ?_; (repeat (first | ((first | apply o_move rfl rfl | apply o_easy1 rfl rfl rfl | apply o_ld rfl rfl (by assumption) (by first | rfl | assumption)); conv => lhs; whnf) | apply o_no rfl | refine o_b rfl rfl rfl (by constructor; omega) ?_ | refine o_f rfl rfl rfl (by constructor; omega) ?_ | (apply o_easy rfl rfl rfl; conv => lhs; whnf) | apply o_non rfl)))
  refine o_w (v := .int .i64 0) rfl rfl ?_
  (repeat (first | ((first | apply o_move rfl rfl | apply o_easy1 rfl rfl rfl | apply o_ld rfl rfl (by assumption) (by first | rfl | assumption)); conv => lhs; whnf) | apply o_no rfl | refine o_b rfl rfl rfl (by constructor; omega) ?_ | refine o_f rfl rfl rfl (by constructor; omega) ?_ | (apply o_easy rfl rfl rfl; conv => lhs; whnf) | apply o_non rfl))
  (apply o_end; (repeat (first | exact OutS.nil | exact GetS.hit | exact PutS.hit | apply GetS.miss rfl | apply PutS.miss rfl | apply OutS.cons | apply OutS.skip rfl)))
  ((repeat refine c_seq ?_); refine c_else rfl ?_)
  ((repeat refine c_seq ?_); refine c_region ?_; (repeat (first | ((first | apply o_move rfl rfl | apply o_easy1 rfl rfl rfl | apply o_ld rfl rfl (by assumption) (by first | rfl | assumption)); conv => lhs; whnf) | apply o_no rfl | refine o_b rfl rfl rfl (by constructor; omega) ?_ | refine o_f rfl rfl rfl (by constructor; omega) ?_ | (apply o_easy rfl rfl rfl; conv => lhs; whnf) | apply o_non rfl)))
  refine o_w (v := .int .i64 0) rfl rfl ?_
  (repeat (first | ((first | apply o_move rfl rfl | apply o_easy1 rfl rfl rfl | apply o_ld rfl rfl (by assumption) (by first | rfl | assumption)); conv => lhs; whnf) | apply o_no rfl | refine o_b rfl rfl rfl (by constructor; omega) ?_ | refine o_f rfl rfl rfl (by constructor; omega) ?_ | (apply o_easy rfl rfl rfl; conv => lhs; whnf) | apply o_non rfl))
  (apply o_end; (repeat (first | exact OutS.nil | exact GetS.hit | exact PutS.hit | apply GetS.miss rfl | apply PutS.miss rfl | apply OutS.cons | apply OutS.skip rfl)))
  ((repeat refine c_seq ?_); refine c_else rfl ?_)
  ((repeat refine c_seq ?_); refine c_region ?_; (repeat (first | ((first | apply o_move rfl rfl | apply o_easy1 rfl rfl rfl | apply o_ld rfl rfl (by assumption) (by first | rfl | assumption)); conv => lhs; whnf) | apply o_no rfl | refine o_b rfl rfl rfl (by constructor; omega) ?_ | refine o_f rfl rfl rfl (by constructor; omega) ?_ | (apply o_easy rfl rfl rfl; conv => lhs; whnf) | apply o_non rfl)); apply o_end; (repeat (first | exact OutS.nil | exact GetS.hit | exact PutS.hit | apply GetS.miss rfl | apply PutS.miss rfl | apply OutS.cons | apply OutS.skip rfl)))
  ((repeat refine c_seq ?_); refine c_else rfl ?_)
  ((repeat refine c_seq ?_); refine c_region ?_; (repeat (first | ((first | apply o_move rfl rfl | apply o_easy1 rfl rfl rfl | apply o_ld rfl rfl (by assumption) (by first | rfl | assumption)); conv => lhs; whnf) | apply o_no rfl | refine o_b rfl rfl rfl (by constructor; omega) ?_ | refine o_f rfl rfl rfl (by constructor; omega) ?_ | (apply o_easy rfl rfl rfl; conv => lhs; whnf) | apply o_non rfl)); apply o_end; (repeat (first | exact OutS.nil | exact GetS.hit | exact PutS.hit | apply GetS.miss rfl | apply PutS.miss rfl | apply OutS.cons | apply OutS.skip rfl)))
  ((repeat refine c_seq ?_); refine c_else rfl ?_)
  ((repeat refine c_seq ?_); refine c_region ?_; (repeat (first | ((first | apply o_move rfl rfl | apply o_easy1 rfl rfl rfl | apply o_ld rfl rfl (by assumption) (by first | rfl | assumption)); conv => lhs; whnf) | apply o_no rfl | refine o_b rfl rfl rfl (by constructor; omega) ?_ | refine o_f rfl rfl rfl (by constructor; omega) ?_ | (apply o_easy rfl rfl rfl; conv => lhs; whnf) | apply o_non rfl)); apply o_end; (repeat (first | exact OutS.nil | exact GetS.hit | exact PutS.hit | apply GetS.miss rfl | apply PutS.miss rfl | apply OutS.cons | apply OutS.skip rfl)))
  ((repeat refine c_seq ?_); refine c_else rfl ?_)
  ((repeat refine c_seq ?_); refine c_region ?_; (repeat (first | ((first | apply o_move rfl rfl | apply o_easy1 rfl rfl rfl | apply o_ld rfl rfl (by assumption) (by first | rfl | assumption)); conv => lhs; whnf) | apply o_no rfl | refine o_b rfl rfl rfl (by constructor; omega) ?_ | refine o_f rfl rfl rfl (by constructor; omega) ?_ | (apply o_easy rfl rfl rfl; conv => lhs; whnf) | apply o_non rfl)); apply o_end; (repeat (first | exact OutS.nil | exact GetS.hit | exact PutS.hit | apply GetS.miss rfl | apply PutS.miss rfl | apply OutS.cons | apply OutS.skip rfl)))
  ((repeat refine c_seq ?_); refine c_else rfl ?_)
  ((repeat refine c_seq ?_); refine c_region ?_; (repeat (first | ((first | apply o_move rfl rfl | apply o_easy1 rfl rfl rfl | apply o_ld rfl rfl (by assumption) (by first | rfl | assumption)); conv => lhs; whnf) | apply o_no rfl | refine o_b rfl rfl rfl (by constructor; omega) ?_ | refine o_f rfl rfl rfl (by constructor; omega) ?_ | (apply o_easy rfl rfl rfl; conv => lhs; whnf) | apply o_non rfl)); apply o_end; (repeat (first | exact OutS.nil | exact GetS.hit | exact PutS.hit | apply GetS.miss rfl | apply PutS.miss rfl | apply OutS.cons | apply OutS.skip rfl)))
  ((repeat refine c_seq ?_); refine c_else rfl ?_)
  ((repeat refine c_seq ?_); refine c_region ?_; (repeat (first | ((first | apply o_move rfl rfl | apply o_easy1 rfl rfl rfl | apply o_ld rfl rfl (by assumption) (by first | rfl | assumption)); conv => lhs; whnf) | apply o_no rfl | refine o_b rfl rfl rfl (by constructor; omega) ?_ | refine o_f rfl rfl rfl (by constructor; omega) ?_ | (apply o_easy rfl rfl rfl; conv => lhs; whnf) | apply o_non rfl)); apply o_end; (repeat (first | exact OutS.nil | exact GetS.hit | exact PutS.hit | apply GetS.miss rfl | apply PutS.miss rfl | apply OutS.cons | apply OutS.skip rfl)))
  ((repeat refine c_seq ?_); refine c_else rfl ?_)
  ((repeat refine c_seq ?_); refine c_region ?_; (repeat (first | ((first | apply o_move rfl rfl | apply o_easy1 rfl rfl rfl | apply o_ld rfl rfl (by assumption) (by first | rfl | assumption)); conv => lhs; whnf) | apply o_no rfl | refine o_b rfl rfl rfl (by constructor; omega) ?_ | refine o_f rfl rfl rfl (by constructor; omega) ?_ | (apply o_easy rfl rfl rfl; conv => lhs; whnf) | apply o_non rfl)); apply o_end; (repeat (first | exact OutS.nil | exact GetS.hit | exact PutS.hit | apply GetS.miss rfl | apply PutS.miss rfl | apply OutS.cons | apply OutS.skip rfl)))
  ((repeat refine c_seq ?_); refine c_else rfl ?_)
  ((repeat refine c_seq ?_); refine c_region ?_; (repeat (first | ((first | apply o_move rfl rfl | apply o_easy1 rfl rfl rfl | apply o_ld rfl rfl (by assumption) (by first | rfl | assumption)); conv => lhs; whnf) | apply o_no rfl | refine o_b rfl rfl rfl (by constructor; omega) ?_ | refine o_f rfl rfl rfl (by constructor; omega) ?_ | (apply o_easy rfl rfl rfl; conv => lhs; whnf) | apply o_non rfl)); apply o_end; (repeat (first | exact OutS.nil | exact GetS.hit | exact PutS.hit | apply GetS.miss rfl | apply PutS.miss rfl | apply OutS.cons | apply OutS.skip rfl)))
  ((repeat refine c_seq ?_); refine c_else rfl ?_)
  ((repeat refine c_seq ?_); refine c_region ?_; (repeat (first | ((first | apply o_move rfl rfl | apply o_easy1 rfl rfl rfl | apply o_ld rfl rfl (by assumption) (by first | rfl | assumption)); conv => lhs; whnf) | apply o_no rfl | refine o_b rfl rfl rfl (by constructor; omega) ?_ | refine o_f rfl rfl rfl (by constructor; omega) ?_ | (apply o_easy rfl rfl rfl; conv => lhs; whnf) | apply o_non rfl)); apply o_end; (repeat (first | exact OutS.nil | exact GetS.hit | exact PutS.hit | apply GetS.miss rfl | apply PutS.miss rfl | apply OutS.cons | apply OutS.skip rfl)))
  ((repeat refine c_seq ?_); refine c_else rfl ?_)
  ((repeat refine c_seq ?_); refine c_region ?_; (repeat (first | ((first | apply o_move rfl rfl | apply o_easy1 rfl rfl rfl | apply o_ld rfl rfl (by assumption) (by first | rfl | assumption)); conv => lhs; whnf) | apply o_no rfl | refine o_b rfl rfl rfl (by constructor; omega) ?_ | refine o_f rfl rfl rfl (by constructor; omega) ?_ | (apply o_easy rfl rfl rfl; conv => lhs; whnf) | apply o_non rfl)); apply o_end; (repeat (first | exact OutS.nil | exact GetS.hit | exact PutS.hit | apply GetS.miss rfl | apply PutS.miss rfl | apply OutS.cons | apply OutS.skip rfl)))
  ((repeat refine c_seq ?_); refine c_else rfl ?_)
  ((repeat refine c_seq ?_); refine c_region ?_; (repeat (first | ((first | apply o_move rfl rfl | apply o_easy1 rfl rfl rfl | apply o_ld rfl rfl (by assumption) (by first | rfl | assumption)); conv => lhs; whnf) | apply o_no rfl | refine o_b rfl rfl rfl (by constructor; omega) ?_ | refine o_f rfl rfl rfl (by constructor; omega) ?_ | (apply o_easy rfl rfl rfl; conv => lhs; whnf) | apply o_non rfl)); apply o_end; (repeat (first | exact OutS.nil | exact GetS.hit | exact PutS.hit | apply GetS.miss rfl | apply PutS.miss rfl | apply OutS.cons | apply OutS.skip rfl)))
  ((repeat refine c_seq ?_); refine c_else rfl ?_)
  ((repeat refine c_seq ?_); refine c_region ?_; (repeat (first | ((first | apply o_move rfl rfl | apply o_easy1 rfl rfl rfl | apply o_ld rfl rfl (by assumption) (by first | rfl | assumption)); conv => lhs; whnf) | apply o_no rfl | refine o_b rfl rfl rfl (by constructor; omega) ?_ | refine o_f rfl rfl rfl (by constructor; omega) ?_ | (apply o_easy rfl rfl rfl; conv => lhs; whnf) | apply o_non rfl)); apply o_end; (repeat (first | exact OutS.nil | exact GetS.hit | exact PutS.hit | apply GetS.miss rfl | apply PutS.miss rfl | apply OutS.cons | apply OutS.skip rfl)))
  ((repeat refine c_seq ?_); refine c_else rfl ?_)
  ((repeat refine c_seq ?_); refine c_region ?_; (repeat (first | ((first | apply o_move rfl rfl | apply o_easy1 rfl rfl rfl | apply o_ld rfl rfl (by assumption) (by first | rfl | assumption)); conv => lhs; whnf) | apply o_no rfl | refine o_b rfl rfl rfl (by constructor; omega) ?_ | refine o_f rfl rfl rfl (by constructor; omega) ?_ | (apply o_easy rfl rfl rfl; conv => lhs; whnf) | apply o_non rfl)))
  refine o_callw (l := [.ptr r 0 0, (⟨1, 0, 0, c.toNat, 0, 0, 0⟩ : Tk).av]) rfl rfl ((put_spec (m + 1) (b.into af12.mode s) s0 t false 0 mx at' (i + 1) r l ⟨1, 0, 0, c.toNat, 0, 0, 0⟩ _ hb hes hl hL).mono ?_)
  rintro _ s2 ⟨rfl, h2⟩
  (apply o_end; (repeat (first | exact OutS.nil | exact GetS.hit | exact PutS.hit | apply GetS.miss rfl | apply PutS.miss rfl | apply OutS.cons | apply OutS.skip rfl)))
  exact ⟨_, _, rfl, rfl, h2⟩

end Go.Tok

namespace Go.Tok
open Go Go.Am Go.Proofs

/-- the loop 0 of function 8 -/
def lp8_0 : ACode := .seq (.seq (.drawn [⟨(some 43), .v (.move (.tmp 7)), none⟩, ⟨(some 44), .v (.nilCheck (.tmp 43)), none⟩, ⟨(some 45), .v (.fieldAddr 5 none (.tmp 44)), none⟩, ⟨(some 46), .v (.load none (.tmp 45)), none⟩, ⟨(some 47), .v (.move (.tmp 7)), none⟩, ⟨(some 48), .v (.nilCheck (.tmp 47)), none⟩, ⟨(some 49), .v (.fieldAddr 0 none (.tmp 48)), none⟩, ⟨(some 50), .v (.load none (.tmp 49)), none⟩, ⟨(some 51), .v (.len 0 (.tmp 50)), none⟩, ⟨(some 52), .v (.bin .lss (.tmp 46) (.tmp 51)), none⟩] [52] [] false 0) (.cond (.tmp 52) (.skip) (.exit 0))) (.block 1 (.seq (.region [⟨(some 53), .v (.move (.tmp 7)), none⟩, ⟨(some 54), .v (.move (.tmp 7)), none⟩, ⟨(some 55), .v (.nilCheck (.tmp 54)), none⟩, ⟨(some 56), .v (.fieldAddr 5 none (.tmp 55)), none⟩, ⟨(some 57), .v (.load none (.tmp 56)), none⟩, ⟨(some 58), .v (.nilCheck (.tmp 53)), none⟩, ⟨(some 59), .v (.fieldAddr 4 none (.tmp 58)), none⟩, ⟨none, .e (.store 1 (.tmp 59) (.tmp 57)), none⟩] []) (.region [⟨(some 60), .v (.move (.tmp 7)), none⟩, ⟨(some 61), .call 12 [(.tmp 60)], none⟩] [])))

/-- each character a token -/
def lits : Nat → List UInt8 → List Tk
  | _, [] => []
  | k, c :: r => ⟨1, k, (k + 1 : Nat), c.toNat, 0, 0, 0⟩ :: lits (k + 1) r

theorem lits_app : ∀ (k : Nat) (a b : List UInt8), lits k (a ++ b) = lits k a ++ lits (k + a.length) b
  | _, [], _ => rfl
  | k, c :: r, b => by
    simp only [List.cons_append, lits, List.length_cons, lits_app (k + 1) r b, Nat.add_assoc, Nat.add_comm 1]
theorem lits_len : ∀ (k : Nat) (a : List UInt8), (lits k a).length = a.length
  | _, [] => rfl
  | k, c :: r => by simp [lits, lits_len (k + 1) r]

abbrev fr8 (t : List UInt8) (A B C R : Nat) (x52 : AV) : Fr :=
  ⟨[(0, .vec (Am.byteCells t) .shut), (1, .int .i64 0), (4, .ptr A 0 0), (5, .ptr B 0 0), (6, .ptr C 0 0), (15, .bool false), (18, .bool false), (7, .ptr R 0 0), (30, .bool false), (9, .undef), (40, .undef), (8, .undef), (52, x52)], [(11, [.ptr A 0 0, .ptr B 0 0, .ptr C 0 0])], .off⟩

theorem lex_loop (m : Nat) (b : Bar) (s0 : Sg) (A B C r : Nat) (t : List UInt8) (hb : b.w ≤ r) (hes : b.es = []) (ht : t.length ≤ 1000) (hp : ∀ c ∈ t, isIt c) {Q : Ex → Fr → Sg → Prop}
    (hq : ∀ x at' s', LS s0 r t false 0 255 at' t.length (lits 0 t) s' → Q (.exit 0) (fr8 t A B C r x) s') :
    ∀ (rest done : List UInt8) (L : Nat) (x : AV) (at' : Nat) (s : Sg), t = done ++ rest → rest.length + 1 ≤ L → LS s0 r t false 0 255 at' done.length (lits 0 done) s →
    OkL L (fun fr s => ACode.run (loopN (m + 3)) (callF T (m + 3)) b lp8_0 fr s) (fr8 t A B C r x) s Q := by
  intro rest
  induction rest with
  | nil =>
    intro done L x at' s hl hL h
    obtain ⟨L, rfl⟩ : ∃ L', L = L' + 1 := ⟨L - 1, by omega⟩
    rw [List.append_nil] at hl
    subst hl
    have h' := h
    obtain ⟨⟨out, hg, ho⟩, hlow⟩ := h'
    apply l_round
    ((repeat refine c_seq ?_); refine c_drawn ?_; (repeat (first | ((first | apply o_move rfl rfl | apply o_easy1 rfl rfl rfl | apply o_ld rfl rfl (by assumption) (by first | rfl | assumption)); conv => lhs; whnf) | apply o_no rfl | refine o_b rfl rfl rfl (by constructor; omega) ?_ | refine o_f rfl rfl rfl (by constructor; omega) ?_ | (apply o_easy rfl rfl rfl; conv => lhs; whnf) | apply o_non rfl)); apply d_end rfl; (repeat (first | exact OutS.nil | exact GetS.hit | exact PutS.hit | apply GetS.miss rfl | apply PutS.miss rfl | apply OutS.cons | apply OutS.skip rfl)))
    ((repeat refine c_seq ?_); refine c_else rfl ?_)
    exact c_exit (hq _ _ _ h)
  | cons c rest ih =>
    intro done L x at' s hl hL h
    obtain ⟨L, rfl⟩ : ∃ L', L = L' + 1 := ⟨L - 1, by omega⟩
    have hkl : done.length < t.length := by rw [hl]; simp
    have hget : t[done.length]? = some c := by rw [hl]; simp
    have h' := h
    obtain ⟨⟨out, hg, ho⟩, hlow⟩ := h'
    apply l_round
    ((repeat refine c_seq ?_); refine c_drawn ?_; (repeat (first | ((first | apply o_move rfl rfl | apply o_easy1 rfl rfl rfl | apply o_ld rfl rfl (by assumption) (by first | rfl | assumption)); conv => lhs; whnf) | apply o_no rfl | refine o_b rfl rfl rfl (by constructor; omega) ?_ | refine o_f rfl rfl rfl (by constructor; omega) ?_ | (apply o_easy rfl rfl rfl; conv => lhs; whnf) | apply o_non rfl)); apply d_end rfl; (repeat (first | exact OutS.nil | exact GetS.hit | exact PutS.hit | apply GetS.miss rfl | apply PutS.miss rfl | apply OutS.cons | apply OutS.skip rfl)))
    ((repeat refine c_seq ?_); refine c_if rfl ?_)
    refine c_skip ?_
    ((repeat refine c_seq ?_); refine c_block ?_)
    ((repeat refine c_seq ?_); refine c_region ?_; (repeat (first | ((first | apply o_move rfl rfl | apply o_easy1 rfl rfl rfl | apply o_ld rfl rfl (by assumption) (by first | rfl | assumption)); conv => lhs; whnf) | apply o_no rfl | refine o_b rfl rfl rfl (by constructor; omega) ?_ | refine o_f rfl rfl rfl (by constructor; omega) ?_ | (apply o_easy rfl rfl rfl; conv => lhs; whnf) | apply o_non rfl)))
    refine o_st rfl rfl rfl rfl hg rfl (lets_nil (blt_no hb) hes) (cs' := lx t false 0 255 done.length done.length out) rfl ?_
    (apply o_end; (repeat (first | exact OutS.nil | exact GetS.hit | exact PutS.hit | apply GetS.miss rfl | apply PutS.miss rfl | apply OutS.cons | apply OutS.skip rfl)))
    have hL' : LS s0 r t false 0 255 done.length done.length (lits 0 done) (s.put r (.cells (lx t false 0 255 done.length done.length out) 0)) := LS.put hg ho hlow
    ((repeat refine c_seq ?_); refine c_region ?_; (repeat (first | ((first | apply o_move rfl rfl | apply o_easy1 rfl rfl rfl | apply o_ld rfl rfl (by assumption) (by first | rfl | assumption)); conv => lhs; whnf) | apply o_no rfl | refine o_b rfl rfl rfl (by constructor; omega) ?_ | refine o_f rfl rfl rfl (by constructor; omega) ?_ | (apply o_easy rfl rfl rfl; conv => lhs; whnf) | apply o_non rfl)))
    refine o_callw (l := [.ptr r 0 0]) rfl rfl ((one_spec m b s0 t 255 done.length done.length r (lits 0 done) c _ hb hes (by omega) (by rw [lits_len]; omega) hget (hp c (by rw [hl]; simp)) hL').mono ?_)
    rintro _ s2 ⟨rfl, h2⟩
    (apply o_end; (repeat (first | exact OutS.nil | exact GetS.hit | exact PutS.hit | apply GetS.miss rfl | apply PutS.miss rfl | apply OutS.cons | apply OutS.skip rfl)))
    refine ih (done ++ [c]) L _ done.length s2 (by rw [hl]; simp) (by simp at hL; omega) ?_
    rw [lits_app]
    simpa [lits] using h2

end Go.Tok

namespace Go.Tok
open Go Go.Am Go.Proofs

theorem bytesOf_cells : ∀ l : List UInt8, bytesOf (Am.byteCells l) = some l
  | [] => rfl
  | c :: r => by
    have ih := bytesOf_cells r
    simp only [Am.byteCells, List.map_cons, bytesOf] at ih ⊢
    rw [ih]
    simp

theorem tavs_old (b : Nat) : ∀ l : List Tk, AV.oldAll b (tavs l) = true
  | [] => rfl
  | x :: r => by
    have ih := tavs_old b r
    simp only [tavs, List.map_cons, AV.oldAll] at ih ⊢
    rw [ih]
    rfl

theorem tavs_chunk : ∀ l : List Tk, chunk l.length (some 12) (flatAll (tavs l)) = some (tavs l)
  | [] => rfl
  | x :: r => by
    have ih := tavs_chunk r
    have hf : flatAll (tavs (x :: r)) = x.cs ++ flatAll (tavs r) := rfl
    rw [hf]
    have hd : (x.cs ++ flatAll (tavs r)).drop 12 = flatAll (tavs r) := rfl
    have ht : (x.cs ++ flatAll (tavs r)).take 12 = x.cs := rfl
    simp only [List.length_cons, chunk, List.length_append]
    rw [show Nat.ble 12 (x.cs.length + (flatAll (tavs r)).length) = true from ble_of (Nat.le_add_right _ _), hd, ht, ih]
    rfl

/-- Lex, of a text of characters that are themselves -/
theorem lex_plain (t : List UInt8) (ht : t.length ≤ 1000) (hp : ∀ c ∈ t, isIt c) (m : Nat) (hm : t.length + 1 ≤ m) (b : Bar) (s : Sg) (a0 : AV) (h0 : a0.weak = .vec (Am.byteCells t) .shut) :
    callF T (m + 4) b 8 [a0, .int .i64 0] s = some (.ret (.tup [.vec (tavs (lits 0 t)) .shut, .int .i64 0, .int .i64 0]), s) := by
  have hbl := Am.byteCells_length t
  suffices h : OkF (callF T (m + 4) b 8 [a0, .int .i64 0] s) (fun o s' => o = .ret (.tup [.vec (tavs (lits 0 t)) .shut, .int .i64 0, .int .i64 0]) ∧ s' = s) by
    obtain ⟨o, s', h1, rfl, rfl⟩ := h.ok
    exact h1
  have hw0 : AV.weakAll [a0, .int .i64 0] = [.vec (Am.byteCells t) .shut, .int .i64 0] := by
    simp only [AV.weakAll, h0]
    rfl
  apply f_wp rfl rfl
  · show Shape (bindArgs (AV.weakAll [a0, .int .i64 0]) _) _
    rw [hw0]
    repeat (first | exact Shape.nil | (apply Shape.cons; (conv => lhs; whnf)))
  ((repeat refine c_seq ?_); refine c_region ?_; (repeat (first | ((first | apply o_move rfl rfl | apply o_easy1 rfl rfl rfl | apply o_ld rfl rfl (by assumption) (by first | rfl | assumption)); conv => lhs; whnf) | apply o_no rfl | refine o_b rfl rfl rfl (by constructor; omega) ?_ | refine o_f rfl rfl rfl (by constructor; omega) ?_ | (apply o_easy rfl rfl rfl; conv => lhs; whnf) | apply o_non rfl)))
  refine o_alloc rfl ?_
  refine o_alloc rfl ?_
  refine o_alloc rfl ?_
  (apply o_end; (repeat (first | exact OutS.nil | exact GetS.hit | exact PutS.hit | apply GetS.miss rfl | apply PutS.miss rfl | apply OutS.cons | apply OutS.skip rfl)))
  ((repeat refine c_seq ?_); refine c_region ?_; (repeat (first | ((first | apply o_move rfl rfl | apply o_easy1 rfl rfl rfl | apply o_ld rfl rfl (by assumption) (by first | rfl | assumption)); conv => lhs; whnf) | apply o_no rfl | refine o_b rfl rfl rfl (by constructor; omega) ?_ | refine o_f rfl rfl rfl (by constructor; omega) ?_ | (apply o_easy rfl rfl rfl; conv => lhs; whnf) | apply o_non rfl)); apply o_end; (repeat (first | exact OutS.nil | exact GetS.hit | exact PutS.hit | apply GetS.miss rfl | apply PutS.miss rfl | apply OutS.cons | apply OutS.skip rfl)))
  ((repeat refine c_seq ?_); refine c_else rfl ?_)
  refine c_skip ?_
  ((repeat refine c_seq ?_); refine c_region ?_; (repeat (first | ((first | apply o_move rfl rfl | apply o_easy1 rfl rfl rfl | apply o_ld rfl rfl (by assumption) (by first | rfl | assumption)); conv => lhs; whnf) | apply o_no rfl | refine o_b rfl rfl rfl (by constructor; omega) ?_ | refine o_f rfl rfl rfl (by constructor; omega) ?_ | (apply o_easy rfl rfl rfl; conv => lhs; whnf) | apply o_non rfl)); apply o_end; (repeat (first | exact OutS.nil | exact GetS.hit | exact PutS.hit | apply GetS.miss rfl | apply PutS.miss rfl | apply OutS.cons | apply OutS.skip rfl)))
  ((repeat refine c_seq ?_); refine c_else rfl ?_)
  refine c_skip ?_
  ((repeat refine c_seq ?_); refine c_region ?_; (repeat (first | ((first | apply o_move rfl rfl | apply o_easy1 rfl rfl rfl | apply o_ld rfl rfl (by assumption) (by first | rfl | assumption)); conv => lhs; whnf) | apply o_no rfl | refine o_b rfl rfl rfl (by constructor; omega) ?_ | refine o_f rfl rfl rfl (by constructor; omega) ?_ | (apply o_easy rfl rfl rfl; conv => lhs; whnf) | apply o_non rfl)))
  refine o_bs rfl rfl (bytesOf_cells t) ?_
  (repeat (first | ((first | apply o_move rfl rfl | apply o_easy1 rfl rfl rfl | apply o_ld rfl rfl (by assumption) (by first | rfl | assumption)); conv => lhs; whnf) | apply o_no rfl | refine o_b rfl rfl rfl (by constructor; omega) ?_ | refine o_f rfl rfl rfl (by constructor; omega) ?_ | (apply o_easy rfl rfl rfl; conv => lhs; whnf) | apply o_non rfl))
  refine o_w (v := .int .i64 0) rfl rfl ?_
  (repeat (first | ((first | apply o_move rfl rfl | apply o_easy1 rfl rfl rfl | apply o_ld rfl rfl (by assumption) (by first | rfl | assumption)); conv => lhs; whnf) | apply o_no rfl | refine o_b rfl rfl rfl (by constructor; omega) ?_ | refine o_f rfl rfl rfl (by constructor; omega) ?_ | (apply o_easy rfl rfl rfl; conv => lhs; whnf) | apply o_non rfl))
  refine o_box (v := .agg (lx t false 0 255 0 0 .nilsl)) (l := lx t false 0 255 0 0 .nilsl) rfl rfl rfl ?_
  (repeat (first | ((first | apply o_move rfl rfl | apply o_easy1 rfl rfl rfl | apply o_ld rfl rfl (by assumption) (by first | rfl | assumption)); conv => lhs; whnf) | apply o_no rfl | refine o_b rfl rfl rfl (by constructor; omega) ?_ | refine o_f rfl rfl rfl (by constructor; omega) ?_ | (apply o_easy rfl rfl rfl; conv => lhs; whnf) | apply o_non rfl))
  (apply o_end; (repeat (first | exact OutS.nil | exact GetS.hit | exact PutS.hit | apply GetS.miss rfl | apply PutS.miss rfl | apply OutS.cons | apply OutS.skip rfl)))
  have hA := getCells_push (.cells (lx t false 0 255 0 0 .nilsl) 0) (getCells_push (.cells [.int .i64 0] 0) (getCells_push (.cells [.int .i64 0] 0) (getCells_new s [.nilsl] 0)))
  have hB := getCells_push (.cells (lx t false 0 255 0 0 .nilsl) 0) (getCells_push (.cells [.int .i64 0] 0) (getCells_new (s.push (.cells [.nilsl] 0)) [.int .i64 0] 0))
  have hC := getCells_push (.cells (lx t false 0 255 0 0 .nilsl) 0) (getCells_new ((s.push (.cells [.nilsl] 0)).push (.cells [.int .i64 0] 0)) [.int .i64 0] 0)
  have hR := getCells_new (((s.push (.cells [.nilsl] 0)).push (.cells [.int .i64 0] 0)).push (.cells [.int .i64 0] 0)) (lx t false 0 255 0 0 .nilsl) 0
  have lA : s.heap.length < (s.push (.cells [.nilsl] 0)).heap.length := by rw [Sg.push_len]; omega
  have lB : (s.push (.cells [.nilsl] 0)).heap.length < ((s.push (.cells [.nilsl] 0)).push (.cells [.int .i64 0] 0)).heap.length := by rw [Sg.push_len (s.push _)]; omega
  have lC : ((s.push (.cells [.nilsl] 0)).push (.cells [.int .i64 0] 0)).heap.length < (((s.push (.cells [.nilsl] 0)).push (.cells [.int .i64 0] 0)).push (.cells [.int .i64 0] 0)).heap.length := by rw [Sg.push_len ((s.push _).push _)]; omega
  generalize ((((s.push (.cells [.nilsl] 0)).push (.cells [.int .i64 0] 0)).push (.cells [.int .i64 0] 0)).push (.cells (lx t false 0 255 0 0 .nilsl) 0)) = s1 at hA hB hC hR ⊢
  generalize (((s.push (.cells [.nilsl] 0)).push (.cells [.int .i64 0] 0)).push (.cells [.int .i64 0] 0)).heap.length = R at hR lC ⊢
  generalize ((s.push (.cells [.nilsl] 0)).push (.cells [.int .i64 0] 0)).heap.length = C at hC lB lC ⊢
  generalize (s.push (.cells [.nilsl] 0)).heap.length = B at hB lA lB ⊢
  ((repeat refine c_seq ?_); refine c_region ?_; (repeat (first | ((first | apply o_move rfl rfl | apply o_easy1 rfl rfl rfl | apply o_ld rfl rfl (by assumption) (by first | rfl | assumption)); conv => lhs; whnf) | apply o_no rfl | refine o_b rfl rfl rfl (by constructor; omega) ?_ | refine o_f rfl rfl rfl (by constructor; omega) ?_ | (apply o_easy rfl rfl rfl; conv => lhs; whnf) | apply o_non rfl)); apply o_end; (repeat (first | exact OutS.nil | exact GetS.hit | exact PutS.hit | apply GetS.miss rfl | apply PutS.miss rfl | apply OutS.cons | apply OutS.skip rfl)))
  ((repeat refine c_seq ?_); refine c_else rfl ?_)
  refine c_skip ?_
  ((repeat refine c_seq ?_); refine c_region ?_; (repeat (first | ((first | apply o_move rfl rfl | apply o_easy1 rfl rfl rfl | apply o_ld rfl rfl (by assumption) (by first | rfl | assumption)); conv => lhs; whnf) | apply o_no rfl | refine o_b rfl rfl rfl (by constructor; omega) ?_ | refine o_f rfl rfl rfl (by constructor; omega) ?_ | (apply o_easy rfl rfl rfl; conv => lhs; whnf) | apply o_non rfl)))
  refine o_defer rfl rfl rfl rfl rfl ?_
  (apply o_end; (repeat (first | exact OutS.nil | exact GetS.hit | exact PutS.hit | apply GetS.miss rfl | apply PutS.miss rfl | apply OutS.cons | apply OutS.skip rfl)))
  refine c_seq ?_
  ((repeat refine c_seq ?_); refine c_block ?_)
  refine c_loop (x := lp8_0) ?_
  have h0 : LS s1 R t false 0 255 0 0 (lits 0 []) s1 := ⟨⟨_, hR, .inl ⟨rfl, rfl⟩⟩, fun _ _ => rfl⟩
  refine lex_loop m (b.into .pure s) s1 s.heap.length B C R t (by show s.heap.length ≤ R; omega) rfl ht hp ?_ t [] (m + 3) _ 0 s1 rfl (by omega) h0
  intro x at' s2 h2
  obtain ⟨⟨out, hg, ho⟩, hlow⟩ := h2
  have hA1 := getCells_at hA (hlow _ (by omega))
  have hB1 := getCells_at hB (hlow _ (by omega))
  have hC1 := getCells_at hC (hlow _ (by omega))
  rcases ho with ⟨hz, rfl⟩ | ⟨hne, j, g, rfl, hj, h3⟩
  · have hlay : layOne (((s2.put s.heap.length (.cells [.nilsl] 0)).put B (.cells [.int .i64 0] 0)).put C (.cells [.int .i64 0] 0)).heap s.heap.length (some (some 12)) (.nilsl) = some (.vec (tavs (lits 0 t)) .shut) := by rw [hz]; rfl
    show OkC _ _ _ _ _ _ _
    ((repeat refine c_seq ?_); refine c_region ?_; (repeat (first | ((first | apply o_move rfl rfl | apply o_easy1 rfl rfl rfl | apply o_ld rfl rfl (by assumption) (by first | rfl | assumption)); conv => lhs; whnf) | apply o_no rfl | refine o_b rfl rfl rfl (by constructor; omega) ?_ | refine o_f rfl rfl rfl (by constructor; omega) ?_ | (apply o_easy rfl rfl rfl; conv => lhs; whnf) | apply o_non rfl)))
    refine o_st rfl rfl rfl rfl hA1 rfl (lets_nil (blt_no (by show s.heap.length ≤ s.heap.length; omega)) rfl) (cs' := [.nilsl]) rfl ?_
    have hA2 := getCells_put (cs' := [.nilsl]) (g' := 0) hA1
    have hB2 := getCells_put_ne (i := s.heap.length) (o := .cells [.nilsl] 0) (by omega) hB1
    have hC2 := getCells_put_ne (i := s.heap.length) (o := .cells [.nilsl] 0) (by omega) hC1
    refine o_st rfl rfl rfl rfl hB2 rfl (lets_of (blt_no (by show s.heap.length ≤ B; omega)) (fun e => rfl)) (cs' := [.int .i64 0]) rfl ?_
    have hA3 := getCells_put_ne (i := B) (o := .cells [.int .i64 0] 0) (by omega) hA2
    have hB3 := getCells_put (cs' := [.int .i64 0]) (g' := 0) hB2
    have hC3 := getCells_put_ne (i := B) (o := .cells [.int .i64 0] 0) (by omega) hC2
    refine o_st rfl rfl rfl rfl hC3 rfl (lets_of (blt_no (by show s.heap.length ≤ C; omega)) (fun e => rfl)) (cs' := [.int .i64 0]) rfl ?_
    have hA4 := getCells_put_ne (i := C) (o := .cells [.int .i64 0] 0) (by omega) hA3
    have hB4 := getCells_put_ne (i := C) (o := .cells [.int .i64 0] 0) (by omega) hB3
    have hC4 := getCells_put (cs' := [.int .i64 0]) (g' := 0) hC3
    generalize ((s2.put s.heap.length (.cells [.nilsl] 0)).put B (.cells [.int .i64 0] 0)).put C (.cells [.int .i64 0] 0) = s3 at hA4 hB4 hC4 hlay ⊢
    (apply o_end; (repeat (first | exact OutS.nil | exact GetS.hit | exact PutS.hit | apply GetS.miss rfl | apply PutS.miss rfl | apply OutS.cons | apply OutS.skip rfl)))
    refine c_ret (fin_def (.inl ⟨rfl, rfl⟩) ?_)
    apply d_wp rfl rfl
    · repeat (first | exact Shape.nil | (apply Shape.cons; (conv => lhs; whnf)))
    refine c_seq (c_region ?_)
    refine o_recq rfl ?_
    (apply o_end; (repeat (first | exact OutS.nil | exact GetS.hit | exact PutS.hit | apply GetS.miss rfl | apply PutS.miss rfl | apply OutS.cons | apply OutS.skip rfl)))
    ((repeat refine c_seq ?_); refine c_block ?_)
    ((repeat refine c_seq ?_); refine c_region ?_; (repeat (first | ((first | apply o_move rfl rfl | apply o_easy1 rfl rfl rfl | apply o_ld rfl rfl (by assumption) (by first | rfl | assumption)); conv => lhs; whnf) | apply o_no rfl | refine o_b rfl rfl rfl (by constructor; omega) ?_ | refine o_f rfl rfl rfl (by constructor; omega) ?_ | (apply o_easy rfl rfl rfl; conv => lhs; whnf) | apply o_non rfl)); apply o_end; (repeat (first | exact OutS.nil | exact GetS.hit | exact PutS.hit | apply GetS.miss rfl | apply PutS.miss rfl | apply OutS.cons | apply OutS.skip rfl)))
    ((repeat refine c_seq ?_); refine c_if rfl ?_)
    ((repeat refine c_seq ?_); refine c_region ?_; (repeat (first | ((first | apply o_move rfl rfl | apply o_easy1 rfl rfl rfl | apply o_ld rfl rfl (by assumption) (by first | rfl | assumption)); conv => lhs; whnf) | apply o_no rfl | refine o_b rfl rfl rfl (by constructor; omega) ?_ | refine o_f rfl rfl rfl (by constructor; omega) ?_ | (apply o_easy rfl rfl rfl; conv => lhs; whnf) | apply o_non rfl)); apply o_end; (repeat (first | exact OutS.nil | exact GetS.hit | exact PutS.hit | apply GetS.miss rfl | apply PutS.miss rfl | apply OutS.cons | apply OutS.skip rfl)))
    refine ⟨.inl rfl, rfl, rfl, ?_⟩
    exact end_ret (read_cell rfl hA4 rfl (read_cell rfl hB4 rfl (read_cell rfl hC4 rfl read_nil))) (leave_pure (lay_cons hlay (lay_cons rfl (lay_cons rfl lay_nil))) (by simp only [AV.oldAll, AV.old, tavs_old, Bool.and_true]; rfl)) ⟨rfl, rfl⟩
  · have hlay : layOne (((s2.put s.heap.length (.cells [.ms j g 0 (lits 0 t).length (lits 0 t).length 12] 0)).put B (.cells [.int .i64 0] 0)).put C (.cells [.int .i64 0] 0)).heap s.heap.length (some (some 12)) (.ms j g 0 (lits 0 t).length (lits 0 t).length 12) = some (.vec (tavs (lits 0 t)) .shut) := by
      refine layOne_ms (by omega) (getCells_put_ne (by omega) (getCells_put_ne (by omega) (getCells_put_ne (by omega) h3))) (tavs_chunk _) (tavs_old _ _)
    show OkC _ _ _ _ _ _ _
    ((repeat refine c_seq ?_); refine c_region ?_; (repeat (first | ((first | apply o_move rfl rfl | apply o_easy1 rfl rfl rfl | apply o_ld rfl rfl (by assumption) (by first | rfl | assumption)); conv => lhs; whnf) | apply o_no rfl | refine o_b rfl rfl rfl (by constructor; omega) ?_ | refine o_f rfl rfl rfl (by constructor; omega) ?_ | (apply o_easy rfl rfl rfl; conv => lhs; whnf) | apply o_non rfl)))
    refine o_st rfl rfl rfl rfl hA1 rfl (lets_nil (blt_no (by show s.heap.length ≤ s.heap.length; omega)) rfl) (cs' := [.ms j g 0 (lits 0 t).length (lits 0 t).length 12]) rfl ?_
    have hA2 := getCells_put (cs' := [.ms j g 0 (lits 0 t).length (lits 0 t).length 12]) (g' := 0) hA1
    have hB2 := getCells_put_ne (i := s.heap.length) (o := .cells [.ms j g 0 (lits 0 t).length (lits 0 t).length 12] 0) (by omega) hB1
    have hC2 := getCells_put_ne (i := s.heap.length) (o := .cells [.ms j g 0 (lits 0 t).length (lits 0 t).length 12] 0) (by omega) hC1
    refine o_st rfl rfl rfl rfl hB2 rfl (lets_of (blt_no (by show s.heap.length ≤ B; omega)) (fun e => rfl)) (cs' := [.int .i64 0]) rfl ?_
    have hA3 := getCells_put_ne (i := B) (o := .cells [.int .i64 0] 0) (by omega) hA2
    have hB3 := getCells_put (cs' := [.int .i64 0]) (g' := 0) hB2
    have hC3 := getCells_put_ne (i := B) (o := .cells [.int .i64 0] 0) (by omega) hC2
    refine o_st rfl rfl rfl rfl hC3 rfl (lets_of (blt_no (by show s.heap.length ≤ C; omega)) (fun e => rfl)) (cs' := [.int .i64 0]) rfl ?_
    have hA4 := getCells_put_ne (i := C) (o := .cells [.int .i64 0] 0) (by omega) hA3
    have hB4 := getCells_put_ne (i := C) (o := .cells [.int .i64 0] 0) (by omega) hB3
    have hC4 := getCells_put (cs' := [.int .i64 0]) (g' := 0) hC3
    generalize ((s2.put s.heap.length (.cells [.ms j g 0 (lits 0 t).length (lits 0 t).length 12] 0)).put B (.cells [.int .i64 0] 0)).put C (.cells [.int .i64 0] 0) = s3 at hA4 hB4 hC4 hlay ⊢
    (apply o_end; (repeat (first | exact OutS.nil | exact GetS.hit | exact PutS.hit | apply GetS.miss rfl | apply PutS.miss rfl | apply OutS.cons | apply OutS.skip rfl)))
    refine c_ret (fin_def (.inl ⟨rfl, rfl⟩) ?_)
    apply d_wp rfl rfl
    · repeat (first | exact Shape.nil | (apply Shape.cons; (conv => lhs; whnf)))
    refine c_seq (c_region ?_)
    refine o_recq rfl ?_
    (apply o_end; (repeat (first | exact OutS.nil | exact GetS.hit | exact PutS.hit | apply GetS.miss rfl | apply PutS.miss rfl | apply OutS.cons | apply OutS.skip rfl)))
    ((repeat refine c_seq ?_); refine c_block ?_)
    ((repeat refine c_seq ?_); refine c_region ?_; (repeat (first | ((first | apply o_move rfl rfl | apply o_easy1 rfl rfl rfl | apply o_ld rfl rfl (by assumption) (by first | rfl | assumption)); conv => lhs; whnf) | apply o_no rfl | refine o_b rfl rfl rfl (by constructor; omega) ?_ | refine o_f rfl rfl rfl (by constructor; omega) ?_ | (apply o_easy rfl rfl rfl; conv => lhs; whnf) | apply o_non rfl)); apply o_end; (repeat (first | exact OutS.nil | exact GetS.hit | exact PutS.hit | apply GetS.miss rfl | apply PutS.miss rfl | apply OutS.cons | apply OutS.skip rfl)))
    ((repeat refine c_seq ?_); refine c_if rfl ?_)
    ((repeat refine c_seq ?_); refine c_region ?_; (repeat (first | ((first | apply o_move rfl rfl | apply o_easy1 rfl rfl rfl | apply o_ld rfl rfl (by assumption) (by first | rfl | assumption)); conv => lhs; whnf) | apply o_no rfl | refine o_b rfl rfl rfl (by constructor; omega) ?_ | refine o_f rfl rfl rfl (by constructor; omega) ?_ | (apply o_easy rfl rfl rfl; conv => lhs; whnf) | apply o_non rfl)); apply o_end; (repeat (first | exact OutS.nil | exact GetS.hit | exact PutS.hit | apply GetS.miss rfl | apply PutS.miss rfl | apply OutS.cons | apply OutS.skip rfl)))
    refine ⟨.inl rfl, rfl, rfl, ?_⟩
    exact end_ret (read_cell rfl hA4 rfl (read_cell rfl hB4 rfl (read_cell rfl hC4 rfl read_nil))) (leave_pure (lay_cons hlay (lay_cons rfl (lay_cons rfl lay_nil))) (by simp only [AV.oldAll, AV.old, tavs_old, Bool.and_true]; rfl)) ⟨rfl, rfl⟩

end Go.Tok
