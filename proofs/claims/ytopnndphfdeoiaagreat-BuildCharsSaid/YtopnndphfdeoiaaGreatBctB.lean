/-
  Characters that are themselves: what the lexer, the parser and the check of trees come to.
-/
import Derived.Test.YtopnndphfdeoiaaGreatBctA

namespace Go.Vmm
open Go Go.Am Go.Proofs

/-- a lexer, as it lies -/
def lx (t : List UInt8) (u : Bool) (o mx : Int) (at' i : Nat) (out : AV) : List AV := [.str t, .bool u, .int .i64 o, .int .i64 mx, .int .i64 at', .int .i64 i, out]

theorem bc_get {l : List UInt8} {j : Nat} {c : UInt8} (h : l[j]? = some c) : (Am.byteCells l)[j]? = some (.int .u8 c.toNat) := by rw [Am.byteCells_get, h]; rfl

/-- a number that becomes another kind's -/
theorem o_cv {call : CallFn} {b : Bar} {g : Option (Nat × Bool)} {r : List AOper} {loc : Env} {fr : Fr} {s : Sg} {Q : Ex → Env → Fr → Sg → Prop} {x : AOpd} {t : Nat} {k k' : IntKind} {a c : Int} (hg : wantedA loc fr.pers g = some true) (hx : x.ev loc fr.pers = some (.int k' a)) (h : k.wrap a = c) (hr : OkO call b r ((t, .int k c) :: loc) fr s Q) : OkO call b (⟨some t, .v (.conv (.intInt k) x), g⟩ :: r) loc fr s Q := by
  refine o_w hg ?_ hr
  simp only [evV, hx, Option.bind_some, evConvH, evConv, h]

/-- utf.Next, of bytes -/
theorem next_spec (m : Nat) (b : Bar) (t : List UInt8) (i : Nat) (c : UInt8) (s : Sg) (ht : t.length < 2 ^ 40) (hc : t[i]? = some c) :
    callF T (m + 1) b 60 [.vec (Am.byteCells t) .shut, .int .i64 i, .bool false] s = some (.ret (.tup [.int .i64 c.toNat, .int .i64 (i + 1)]), s) := by
  have hi := lt_of_getElem? hc
  have hbl := Am.byteCells_length t
  have hc8 : c.toNat < 256 := c.toNat_lt
  (apply f_of rfl rfl; (repeat (first | exact Shape.nil | (apply Shape.cons; conv => lhs; whnf))))
  refine qqV ?_
  refine qqV ?_
  refine lV ?_
  refine c_skip ?_
  refine qqV ?_
  refine lV ?_
  refine c_skip ?_
  refine qV ?_
  refine o_ixvec (j := i) rfl rfl rfl rfl (bc_get hc) rfl ?_
  refine sV ?_
  refine o_cv rfl rfl (wrap_i64 (by omega) (by omega)) ?_
  refine sV ?_
  refine eV ?_
  exact c_ret rfl

/-- (*lexer).char, of bytes -/
theorem char_spec (m : Nat) (b : Bar) (t : List UInt8) (o mx : Int) (at' i r : Nat) (out : AV) (c : UInt8) (s : Sg) (hb : b.w ≤ r) (ht : t.length < 2 ^ 40) (hc : t[i]? = some c) (hg : getCells s.heap r 0 = some (lx t false o mx at' i out)) :
    callF T (m + 2) b 33 [.ptr r 0 0] s = some (.ret (.int .i64 c.toNat), s.put r (.cells (lx t false o mx at' (i + 1) out) 0)) := by
  (apply f_of rfl rfl; (repeat (first | exact Shape.nil | (apply Shape.cons; conv => lhs; whnf))))
  refine qqV ?_
  refine dqV ?_
  refine o_call rfl rfl (next_spec m _ t i c s ht hc) ?_
  refine sV ?_
  refine dV ?_
  refine qV ?_
  refine o_st rfl rfl rfl rfl hg rfl (lets_of (blt_no hb) (fun e => rfl)) (cs' := lx t false o mx at' (i + 1) out) rfl ?_
  refine eV ?_
  refine qqV ?_
  refine c_ret ?_
  show some (Out.ret _, ({ heap := (s.put r _).heap.take s.heap.length, toks := s.toks, ty := s.ty, gl := s.gl } : Sg)) = _
  rw [← s.put_len, List.take_length]
  rfl

end Go.Vmm

namespace Go.Vmm
open Go Go.Am Go.Proofs


/-- a token: of those that bear numbers alone -/
structure Tk where
  k : Int
  at' : Int
  to : Int
  c : Int
  n : Int
  m : Int
  mode : Int

def Tk.cs (x : Tk) : List AV := [.int .i64 x.k, .int .i64 x.at', .int .i64 x.to, .int .i64 x.c, .nilsl, .bool false, .int .i64 x.n, .int .i64 x.m, .int .i64 x.mode, .str [], .int .i64 0, .int .i64 0]
def Tk.av (x : Tk) : AV := .agg x.cs
def tavs (l : List Tk) : List AV := l.map Tk.av

theorem tavs_app (l k : List Tk) : tavs (l ++ k) = tavs l ++ tavs k := List.map_append
theorem flat_len : ∀ l : List Tk, (flatAll (tavs l)).length = l.length * 12
  | [] => rfl
  | x :: r => by
    have ih := flat_len r
    simp only [tavs, List.map_cons, flatAll, List.length_append, List.length_cons, Nat.add_mul, Nat.one_mul] at ih ⊢
    rw [ih]
    show 12 + _ = _
    omega

/-- what was put out -/
def OutAt (r : Nat) (h : List AObj) (l : List Tk) (out : AV) : Prop :=
  (l = [] ∧ out = .nilsl) ∨ (l ≠ [] ∧ ∃ j g, out = .ms j g 0 l.length l.length 12 ∧ r < j ∧ getCells h j g = some (flatAll (tavs l)))

/-- a lexer in the abstract heap; what lies ahead of it is as it was -/
structure LS (s0 : Sg) (r : Nat) (t : List UInt8) (u : Bool) (o mx : Int) (at' i : Nat) (l : List Tk) (s : Sg) : Prop where
  out : ∃ out, getCells s.heap r 0 = some (lx t u o mx at' i out) ∧ OutAt r s.heap l out
  low : ∀ q, q < r → s.heap[q]? = s0.heap[q]?

theorem LS.put {s0 : Sg} {r : Nat} {t : List UInt8} {u : Bool} {o mx : Int} {at' i at2 i2 : Nat} {l : List Tk} {s : Sg} {out : AV} (hg : getCells s.heap r 0 = some (lx t u o mx at' i out)) (ho : OutAt r s.heap l out) (hl : ∀ q, q < r → s.heap[q]? = s0.heap[q]?) : LS s0 r t u o mx at2 i2 l (s.put r (.cells (lx t u o mx at2 i2 out) 0)) := by
  refine ⟨⟨out, getCells_put hg, ?_⟩, fun q hq => by rw [Sg.put_get _ _ _ (by omega)]; exact hl q hq⟩
  rcases ho with h | ⟨hne, j, g, h1, h2, h3⟩
  · exact .inl h
  · exact .inr ⟨hne, j, g, h1, h2, getCells_put_ne (by omega) h3⟩

theorem put_spec (m : Nat) (b : Bar) (s0 : Sg) (t : List UInt8) (u : Bool) (o mx : Int) (at' i r : Nat) (l : List Tk) (x : Tk) (s : Sg) (hb : b.w ≤ r) (hes : b.es = []) (hl : l.length < 2 ^ 20) (h : LS s0 r t u o mx at' i l s) :
    OkF (callF T (m + 1) b 40 [.ptr r 0 0, x.av] s) fun out s' => out = .ret (.tup []) ∧ LS s0 r t u o mx at' i (l ++ [{ x with at' := at', to := i }]) s' := by
  obtain ⟨⟨out, hg, ho⟩, hlow⟩ := h
  have hr := getCells_lt hg
  (apply f_wp rfl rfl; (repeat (first | exact Shape.nil | (apply Shape.cons; conv => lhs; whnf))))
  refine qV ?_
  refine o_box (v := x.av) (l := x.cs) rfl rfl rfl ?_
  refine eV ?_
  have hg1 := getCells_push (.cells x.cs 0) hg
  have hn1 := getCells_new s x.cs 0
  refine dqV ?_
  refine o_st rfl rfl rfl rfl hn1 rfl (lets_of (blt_no (by show b.w ≤ s.heap.length; omega)) (fun e => rfl)) (cs' := { x with at' := at' }.cs) rfl ?_
  refine sV ?_
  refine o_st rfl rfl rfl rfl (getCells_put hn1) rfl (lets_of (blt_no (by show b.w ≤ s.heap.length; omega)) (fun e => rfl)) (cs' := { x with at' := at', to := i }.cs) rfl ?_
  have hg2 := getCells_put_ne (i := s.heap.length) (o := .cells ({ x with at' := at' } : Tk).cs 0) (by omega) hg1
  have hg3 := getCells_put_ne (i := s.heap.length) (o := .cells ({ x with at' := at', to := i } : Tk).cs 0) (by omega) hg2
  have hn2 := getCells_put (cs' := ({ x with at' := at', to := i } : Tk).cs) (g' := 0) (getCells_put (cs' := ({ x with at' := at' } : Tk).cs) (g' := 0) hn1)
  refine d_end ?_ (by (repeat (first | exact OutS.nil | exact GetS.hit | exact PutS.hit | apply GetS.miss rfl | apply PutS.miss rfl | apply OutS.cons | apply OutS.skip rfl))) ?_
  · show (!(Nat.beq r s.heap.length) && true) = true
    rw [beq_no (by omega)]
    rfl
  have hlo : ∀ q, q < s.heap.length → (((s.push (.cells x.cs 0)).put s.heap.length (.cells ({ x with at' := at' } : Tk).cs 0)).put s.heap.length (.cells ({ x with at' := at', to := i } : Tk).cs 0)).heap[q]? = s.heap[q]? := fun q hq => by
    rw [Sg.put_get _ _ _ (by omega), Sg.put_get _ _ _ (by omega), Sg.push_get _ _ hq]
  have hle : (((s.push (.cells x.cs 0)).put s.heap.length (.cells ({ x with at' := at' } : Tk).cs 0)).put s.heap.length (.cells ({ x with at' := at', to := i } : Tk).cs 0)).heap.length = s.heap.length + 1 := by
    rw [Sg.put_len, Sg.put_len]; simp [Sg.push]
  revert hg3 hn2 hlo hle
  generalize ((s.push (.cells x.cs 0)).put s.heap.length (.cells ({ x with at' := at' } : Tk).cs 0)).put s.heap.length (.cells ({ x with at' := at', to := i } : Tk).cs 0) = s2
  intro hg3 hn2 hlo hle
  have hg4 := getCells_keep (k := 1) hg3
  have hn4 := getCells_keep (k := 1) hn2
  refine c_drawnk ?_
  refine sV ?_
  have hlow2 : ∀ q, q < r → s2.heap[q]? = s0.heap[q]? := fun q hq => by rw [hlo q (by omega)]; exact hlow q hq
  rcases ho with ⟨rfl, rfl⟩ | ⟨hne, j, g, rfl, h2, h3⟩
  · refine o_fill rfl (evF_nil (ys := [({ x with at' := at', to := i } : Tk).av]) rfl rfl rfl rfl rfl (by simp) rfl (keep_last) rfl (by show b.w ≤ s2.heap.length; omega) (by show allGe _ b.es = true; rw [hes]; rfl)) ?_
    show OkO _ _ _ _ _ ((s2.keep 1).put s2.heap.length _) _
    rw [keep_put]
    have hg5 := getCells_push (.cells (flatAll [({ x with at' := at', to := i } : Tk).av]) 0) hg3
    refine sV ?_
    refine o_st rfl rfl rfl rfl hg5 rfl (lets_nil (blt_no hb) hes) (cs' := lx t u o mx at' i (.ms s2.heap.length 0 0 1 1 12)) rfl ?_
    refine dV ?_
    refine ⟨_, _, rfl, rfl, ⟨_, getCells_put hg5, .inr ⟨by simp, s2.heap.length, 0, rfl, by omega, ?_⟩⟩, fun q hq => ?_⟩
    · rw [tavs_app]
      exact getCells_put_ne (by omega) (getCells_new s2 _ 0)
    · rw [Sg.put_get _ _ _ (by omega), Sg.push_get _ _ (by omega)]
      exact hlow2 q hq
  · have h3' : getCells (s2.keep 1).heap j g = some (flatAll (tavs l)) := getCells_keep (getCells_at h3 (hlo j (getCells_lt h3)))
    refine o_fill rfl (evF_ms (ys := [({ x with at' := at', to := i } : Tk).av]) rfl rfl rfl rfl rfl ?_ rfl (lets_nil (blt_no (by show b.w ≤ j; omega)) hes) h3' ?_) ?_
    · apply ble_of
      show (l.length + 1) * 120 ≤ 2 ^ 46
      omega
    · rw [flat_len]
      exact Nat.beq_refl _
    have hg5 := getCells_put_ne (i := j) (o := .cells (flatAll (tavs l) ++ flatAll [({ x with at' := at', to := i } : Tk).av]) (g + 1)) (by omega) hg4
    refine sV ?_
    refine o_st rfl rfl rfl rfl hg5 rfl (lets_nil (blt_no hb) hes) (cs' := lx t u o mx at' i (.ms j (g + 1) 0 (l.length + 1) (l.length + 1) 12)) rfl ?_
    refine dV ?_
    have hfl : flatAll (tavs l) ++ flatAll [({ x with at' := at', to := i } : Tk).av] = flatAll (tavs (l ++ [{ x with at' := at', to := i }])) := by
      rw [tavs_app, flatAll_app]; rfl
    refine ⟨_, _, rfl, rfl, ⟨_, getCells_put hg5, .inr ⟨by simp, j, g + 1, ?_, h2, ?_⟩⟩, fun q hq => ?_⟩
    · rw [List.length_append]; rfl
    · rw [← hfl]
      exact getCells_put_ne (by omega) (getCells_put h3')
    · rw [Sg.put_get _ _ _ (by omega), Sg.put_get _ _ _ (by omega), keep_get (by omega)]
      exact hlow2 q hq

end Go.Vmm

namespace Go.Vmm
open Go Go.Am Go.Proofs

/-- a byte that is itself -/
def isIt (c : UInt8) : Prop := c.toNat ≠ 92 ∧ c.toNat ≠ 91 ∧ c.toNat ≠ 40 ∧ c.toNat ≠ 46 ∧ c.toNat ≠ 94 ∧ c.toNat ≠ 36 ∧ c.toNat ≠ 124 ∧ c.toNat ≠ 41 ∧ c.toNat ≠ 42 ∧ c.toNat ≠ 43 ∧ c.toNat ≠ 63 ∧ c.toNat ≠ 123

theorem one_spec (m : Nat) (b : Bar) (s0 : Sg) (t : List UInt8) (mx : Int) (at' i r : Nat) (l : List Tk) (c : UInt8) (s : Sg) (hb : b.w ≤ r) (hes : b.es = []) (ht : t.length < 2 ^ 40) (hl : l.length < 2 ^ 20) (hc : t[i]? = some c) (hi : isIt c) (h : LS s0 r t false 0 mx at' i l s) :
    OkF (callF T (m + 3) b 17 [.ptr r 0 0] s) fun out s' => out = .ret (.tup []) ∧ LS s0 r t false 0 mx at' (i + 1) (l ++ [⟨1, at', (i + 1 : Nat), c.toNat, 0, 0, 0⟩]) s' := by
  obtain ⟨⟨out, hg, ho⟩, hlow⟩ := h
  have hr := getCells_lt hg
  obtain ⟨h1, h2, h3, h4, h5, h6, h7, h8, h9, h10, h11, h12⟩ := hi
  (apply f_wp rfl rfl; (repeat (first | exact Shape.nil | (apply Shape.cons; conv => lhs; whnf))))
  refine qV ?_
  refine o_call rfl rfl (char_spec m _ t 0 mx at' i r out c s hb ht hc hg) ?_
  refine sV ?_
  refine eV ?_
  have hL : LS s0 r t false 0 mx at' (i + 1) l (s.put r (.cells (lx t false 0 mx at' (i + 1) out) 0)) := LS.put hg ho hlow
  have hg' := getCells_put (cs' := lx t false 0 mx at' (i + 1) out) (g' := 0) hg
  refine bV ?_
  refine qV ?_
  refine o_w (v := .int .i64 0) rfl rfl ?_
  refine sV ?_
  refine eV ?_
  refine lV ?_
  refine qV ?_
  refine o_w (v := .int .i64 0) rfl rfl ?_
  refine sV ?_
  refine eV ?_
  refine lV ?_
  refine qqV ?_
  refine lV ?_
  refine qqV ?_
  refine lV ?_
  refine qqV ?_
  refine lV ?_
  refine qqV ?_
  refine lV ?_
  refine qqV ?_
  refine lV ?_
  refine qqV ?_
  refine lV ?_
  refine qqV ?_
  refine lV ?_
  refine qqV ?_
  refine lV ?_
  refine qqV ?_
  refine lV ?_
  refine qqV ?_
  refine lV ?_
  refine qqV ?_
  refine lV ?_
  refine qqV ?_
  refine lV ?_
  refine qV ?_
  refine o_callw (l := [.ptr r 0 0, (⟨1, 0, 0, c.toNat, 0, 0, 0⟩ : Tk).av]) rfl rfl ((put_spec (m + 1) (b.into af17.mode s) s0 t false 0 mx at' (i + 1) r l ⟨1, 0, 0, c.toNat, 0, 0, 0⟩ _ hb hes hl hL).mono ?_)
  rintro _ s2 ⟨rfl, h2⟩
  refine eV ?_
  exact ⟨_, _, rfl, rfl, h2⟩

end Go.Vmm

namespace Go.Vmm
open Go Go.Am Go.Proofs

/-- the loop 0 of function 8 -/
def lp8_0 : ACode := .seq (.seq (.drawn [Mv 43 7, Nc 44 43, Fa 45 5 44, Ld 46 45, Mv 47 7, Nc 48 47, Fa 49 0 48, Ld 50 49, Vv 51 (.len 0 (.tmp 50)), Bn 52 .lss 46 51] [52] [] false 0) (.cond (.tmp 52) (.skip) (.exit 0))) (.block 1 (.seq (.region [Mv 53 7, Mv 54 7, Nc 55 54, Fa 56 5 55, Ld 57 56, Nc 58 53, Fa 59 4 58, St 1 59 57] []) (.region [Mv 60 7, Cl 61 17 [Tm 60]] [])))

/-- each character a token -/
def lits : Nat → List UInt8 → List Tk
  | _, [] => []
  | k, c :: r => ⟨1, k, (k + 1 : Nat), c.toNat, 0, 0, 0⟩ :: lits (k + 1) r

theorem lits_app : ∀ (k : Nat) (a b : List UInt8), lits k (a ++ b) = lits k a ++ lits (k + a.length) b
  | _, [], _ => rfl
  | k, c :: r, b => by
    simp only [List.cons_append, lits, List.length_cons, lits_app (k + 1) r b, Nat.add_assoc, Nat.add_comm 1]
theorem lits_len : ∀ (k : Nat) (a : List UInt8), (lits k a).length = a.length
  | _, [] => rfl
  | k, c :: r => by simp [lits, lits_len (k + 1) r]

abbrev fr8 (t : List UInt8) (A B C R : Nat) (x52 : AV) : Fr :=
  ⟨[(0, .vec (Am.byteCells t) .shut), (1, .int .i64 0), (4, .ptr A 0 0), (5, .ptr B 0 0), (6, .ptr C 0 0), (15, .bool false), (18, .bool false), (7, .ptr R 0 0), (30, .bool false), (9, .undef), (40, .undef), (8, .undef), (52, x52)], [(16, [.ptr A 0 0, .ptr B 0 0, .ptr C 0 0])], .off⟩

theorem lex_loop (m : Nat) (b : Bar) (s0 : Sg) (A B C r : Nat) (t : List UInt8) (hb : b.w ≤ r) (hes : b.es = []) (ht : t.length ≤ 1000) (hp : ∀ c ∈ t, isIt c) {Q : Ex → Fr → Sg → Prop}
    (hq : ∀ x at' s', LS s0 r t false 0 255 at' t.length (lits 0 t) s' → Q (.exit 0) (fr8 t A B C r x) s') :
    ∀ (rest done : List UInt8) (L : Nat) (x : AV) (at' : Nat) (s : Sg), t = done ++ rest → rest.length + 1 ≤ L → LS s0 r t false 0 255 at' done.length (lits 0 done) s →
    OkL L (fun fr s => ACode.run (loopN (m + 3)) (callF T (m + 3)) b lp8_0 fr s) (fr8 t A B C r x) s Q := by
  intro rest
  induction rest with
  | nil =>
    intro done L x at' s hl hL h
    obtain ⟨L, rfl⟩ : ∃ L', L = L' + 1 := ⟨L - 1, by omega⟩
    rw [List.append_nil] at hl
    subst hl
    have h' := h
    obtain ⟨⟨out, hg, ho⟩, hlow⟩ := h'
    apply l_round
    refine dqqV ?_
    refine lV ?_
    exact c_exit (hq _ _ _ h)
  | cons c rest ih =>
    intro done L x at' s hl hL h
    obtain ⟨L, rfl⟩ : ∃ L', L = L' + 1 := ⟨L - 1, by omega⟩
    have hkl : done.length < t.length := by rw [hl]; simp
    have hget : t[done.length]? = some c := by rw [hl]; simp
    have h' := h
    obtain ⟨⟨out, hg, ho⟩, hlow⟩ := h'
    apply l_round
    refine dqqV ?_
    refine iV ?_
    refine c_skip ?_
    refine bV ?_
    refine qV ?_
    refine o_st rfl rfl rfl rfl hg rfl (lets_nil (blt_no hb) hes) (cs' := lx t false 0 255 done.length done.length out) rfl ?_
    refine eV ?_
    have hL' : LS s0 r t false 0 255 done.length done.length (lits 0 done) (s.put r (.cells (lx t false 0 255 done.length done.length out) 0)) := LS.put hg ho hlow
    refine qV ?_
    refine o_callw (l := [.ptr r 0 0]) rfl rfl ((one_spec m b s0 t 255 done.length done.length r (lits 0 done) c _ hb hes (by omega) (by rw [lits_len]; omega) hget (hp c (by rw [hl]; simp)) hL').mono ?_)
    rintro _ s2 ⟨rfl, h2⟩
    refine eV ?_
    refine ih (done ++ [c]) L _ done.length s2 (by rw [hl]; simp) (by simp at hL; omega) ?_
    rw [lits_app]
    simpa [lits] using h2

end Go.Vmm

namespace Go.Vmm
open Go Go.Am Go.Proofs

theorem bytesOf_cells : ∀ l : List UInt8, bytesOf (Am.byteCells l) = some l
  | [] => rfl
  | c :: r => by
    have ih := bytesOf_cells r
    simp only [Am.byteCells, List.map_cons, bytesOf] at ih ⊢
    rw [ih]
    simp

theorem tavs_old (b : Nat) : ∀ l : List Tk, AV.oldAll b (tavs l) = true
  | [] => rfl
  | x :: r => by
    have ih := tavs_old b r
    simp only [tavs, List.map_cons, AV.oldAll] at ih ⊢
    rw [ih]
    rfl

theorem tavs_chunk : ∀ l : List Tk, chunk l.length (some 12) (flatAll (tavs l)) = some (tavs l)
  | [] => rfl
  | x :: r => by
    have ih := tavs_chunk r
    have hf : flatAll (tavs (x :: r)) = x.cs ++ flatAll (tavs r) := rfl
    rw [hf]
    have hd : (x.cs ++ flatAll (tavs r)).drop 12 = flatAll (tavs r) := rfl
    have ht : (x.cs ++ flatAll (tavs r)).take 12 = x.cs := rfl
    simp only [List.length_cons, chunk, List.length_append]
    rw [show Nat.ble 12 (x.cs.length + (flatAll (tavs r)).length) = true from ble_of (Nat.le_add_right _ _), hd, ht, ih]
    rfl

theorem lay_ck {h : List AObj} {b : Nat} {v u : AV} {a : ARes} {vs l : List AV} {ks : List ARes} (hv : layOne h b a.el v = some u) (hl : lay h b vs ks = some l) (hz : v.isNilsl = false := by rfl) : lay h b (v :: vs) (a :: ks) = some (u :: l) := by
  simp only [lay, layRes, hz, Bool.and_false, Bool.false_eq_true, if_false, hv, Option.bind_some, hl]

/-- Lex, of a text of characters that are themselves -/
theorem lex_plain (t : List UInt8) (hne : t ≠ []) (ht : t.length ≤ 1000) (hp : ∀ c ∈ t, isIt c) (m : Nat) (hm : t.length + 1 ≤ m) (b : Bar) (s : Sg) :
    callF T (m + 4) b 8 [.vec (Am.byteCells t) .shut, .int .i64 0] s = some (.ret (.tup [.vec (tavs (lits 0 t)) .shut, .int .i64 0, .int .i64 0]), s) := by
  have hbl := Am.byteCells_length t
  suffices h : OkF (callF T (m + 4) b 8 [.vec (Am.byteCells t) .shut, .int .i64 0] s) (fun o s' => o = .ret (.tup [.vec (tavs (lits 0 t)) .shut, .int .i64 0, .int .i64 0]) ∧ s' = s) by
    obtain ⟨o, s', h1, rfl, rfl⟩ := h.ok
    exact h1
  (apply f_wp rfl rfl; (repeat (first | exact Shape.nil | (apply Shape.cons; conv => lhs; whnf))))
  refine qV ?_
  refine o_alloc rfl ?_
  refine o_alloc rfl ?_
  refine o_alloc rfl ?_
  refine eV ?_
  refine qqV ?_
  refine lV ?_
  refine c_skip ?_
  refine qqV ?_
  refine lV ?_
  refine c_skip ?_
  refine qV ?_
  refine o_bs rfl rfl (bytesOf_cells t) ?_
  refine sV ?_
  refine o_w (v := .int .i64 0) rfl rfl ?_
  refine sV ?_
  refine o_box (v := .agg (lx t false 0 255 0 0 .nilsl)) (l := lx t false 0 255 0 0 .nilsl) rfl rfl rfl ?_
  refine sV ?_
  refine eV ?_
  have hA := getCells_push (.cells (lx t false 0 255 0 0 .nilsl) 0) (getCells_push (.cells [.int .i64 0] 0) (getCells_push (.cells [.int .i64 0] 0) (getCells_new s [.nilsl] 0)))
  have hB := getCells_push (.cells (lx t false 0 255 0 0 .nilsl) 0) (getCells_push (.cells [.int .i64 0] 0) (getCells_new (s.push (.cells [.nilsl] 0)) [.int .i64 0] 0))
  have hC := getCells_push (.cells (lx t false 0 255 0 0 .nilsl) 0) (getCells_new ((s.push (.cells [.nilsl] 0)).push (.cells [.int .i64 0] 0)) [.int .i64 0] 0)
  have hR := getCells_new (((s.push (.cells [.nilsl] 0)).push (.cells [.int .i64 0] 0)).push (.cells [.int .i64 0] 0)) (lx t false 0 255 0 0 .nilsl) 0
  have lA : s.heap.length < (s.push (.cells [.nilsl] 0)).heap.length := by rw [Sg.push_len]; omega
  have lB : (s.push (.cells [.nilsl] 0)).heap.length < ((s.push (.cells [.nilsl] 0)).push (.cells [.int .i64 0] 0)).heap.length := by rw [Sg.push_len (s.push _)]; omega
  have lC : ((s.push (.cells [.nilsl] 0)).push (.cells [.int .i64 0] 0)).heap.length < (((s.push (.cells [.nilsl] 0)).push (.cells [.int .i64 0] 0)).push (.cells [.int .i64 0] 0)).heap.length := by rw [Sg.push_len ((s.push _).push _)]; omega
  generalize ((((s.push (.cells [.nilsl] 0)).push (.cells [.int .i64 0] 0)).push (.cells [.int .i64 0] 0)).push (.cells (lx t false 0 255 0 0 .nilsl) 0)) = s1 at hA hB hC hR ⊢
  generalize (((s.push (.cells [.nilsl] 0)).push (.cells [.int .i64 0] 0)).push (.cells [.int .i64 0] 0)).heap.length = R at hR lC ⊢
  generalize ((s.push (.cells [.nilsl] 0)).push (.cells [.int .i64 0] 0)).heap.length = C at hC lB lC ⊢
  generalize (s.push (.cells [.nilsl] 0)).heap.length = B at hB lA lB ⊢
  refine qqV ?_
  refine lV ?_
  refine c_skip ?_
  refine qV ?_
  refine o_defer (c := (16, [.ptr s.heap.length 0 0, .ptr B 0 0, .ptr C 0 0])) rfl rfl rfl rfl rfl ?_
  refine eV ?_
  refine c_seq ?_
  refine bV ?_
  refine c_loop (x := lp8_0) ?_
  have h0 : LS s1 R t false 0 255 0 0 (lits 0 []) s1 := ⟨⟨_, hR, .inl ⟨rfl, rfl⟩⟩, fun _ _ => rfl⟩
  refine lex_loop m (b.into .pure s) s1 s.heap.length B C R t (by show s.heap.length ≤ R; omega) rfl ht hp ?_ t [] (m + 3) _ 0 s1 rfl (by omega) h0
  intro x at' s2 h2
  obtain ⟨⟨out, hg, ho⟩, hlow⟩ := h2
  have hA1 := getCells_at hA (hlow _ (by omega))
  have hB1 := getCells_at hB (hlow _ (by omega))
  have hC1 := getCells_at hC (hlow _ (by omega))
  rcases ho with ⟨hz, rfl⟩ | ⟨hne2, j, g, rfl, hj, h3⟩
  · exfalso
    have := lits_len 0 t
    rw [hz] at this
    simp at this
    exact hne (List.length_eq_zero_iff.1 (by omega))
  · have hlay : layOne (((s2.put s.heap.length (.cells [.ms j g 0 (lits 0 t).length (lits 0 t).length 12] 0)).put B (.cells [.int .i64 0] 0)).put C (.cells [.int .i64 0] 0)).heap s.heap.length (some (some 12)) (.ms j g 0 (lits 0 t).length (lits 0 t).length 12) = some (.vec (tavs (lits 0 t)) .shut) := by
      refine layOne_ms (by omega) (getCells_put_ne (by omega) (getCells_put_ne (by omega) (getCells_put_ne (by omega) h3))) (tavs_chunk _) (tavs_old _ _)
    show OkC _ _ _ _ _ _ _
    refine qV ?_
    refine o_st rfl rfl rfl rfl hA1 rfl (lets_nil (blt_no (by show s.heap.length ≤ s.heap.length; omega)) rfl) (cs' := [.ms j g 0 (lits 0 t).length (lits 0 t).length 12]) rfl ?_
    have hA2 := getCells_put (cs' := [.ms j g 0 (lits 0 t).length (lits 0 t).length 12]) (g' := 0) hA1
    have hB2 := getCells_put_ne (i := s.heap.length) (o := .cells [.ms j g 0 (lits 0 t).length (lits 0 t).length 12] 0) (by omega) hB1
    have hC2 := getCells_put_ne (i := s.heap.length) (o := .cells [.ms j g 0 (lits 0 t).length (lits 0 t).length 12] 0) (by omega) hC1
    refine o_st rfl rfl rfl rfl hB2 rfl (lets_of (blt_no (by show s.heap.length ≤ B; omega)) (fun e => rfl)) (cs' := [.int .i64 0]) rfl ?_
    have hA3 := getCells_put_ne (i := B) (o := .cells [.int .i64 0] 0) (by omega) hA2
    have hB3 := getCells_put (cs' := [.int .i64 0]) (g' := 0) hB2
    have hC3 := getCells_put_ne (i := B) (o := .cells [.int .i64 0] 0) (by omega) hC2
    refine o_st rfl rfl rfl rfl hC3 rfl (lets_of (blt_no (by show s.heap.length ≤ C; omega)) (fun e => rfl)) (cs' := [.int .i64 0]) rfl ?_
    have hA4 := getCells_put_ne (i := C) (o := .cells [.int .i64 0] 0) (by omega) hA3
    have hB4 := getCells_put_ne (i := C) (o := .cells [.int .i64 0] 0) (by omega) hB3
    have hC4 := getCells_put (cs' := [.int .i64 0]) (g' := 0) hC3
    generalize ((s2.put s.heap.length (.cells [.ms j g 0 (lits 0 t).length (lits 0 t).length 12] 0)).put B (.cells [.int .i64 0] 0)).put C (.cells [.int .i64 0] 0) = s3 at hA4 hB4 hC4 hlay ⊢
    refine eV ?_
    refine c_ret (fin_def (.inl ⟨rfl, rfl⟩) ?_)
    apply d_wp rfl rfl
    · repeat (first | exact Shape.nil | (apply Shape.cons; (conv => lhs; whnf)))
    refine c_seq (c_region ?_)
    refine o_recq rfl ?_
    refine eV ?_
    refine bV ?_
    refine qqV ?_
    refine iV ?_
    refine qqV ?_
    refine ⟨.inl rfl, rfl, rfl, ?_⟩
    exact end_ret (read_cell rfl hA4 rfl (read_cell rfl hB4 rfl (read_cell rfl hC4 rfl read_nil))) (leave_pure (lay_ck hlay (lay_ck rfl (lay_ck rfl lay_nil))) (by simp only [AV.oldAll, AV.old, tavs_old, Bool.and_true]; rfl)) ⟨rfl, rfl⟩

end Go.Vmm

namespace Go.Vmm
open Go Go.Am Go.Proofs

/-- a node of a character -/
def litN (x : Int × Int) : List AV := [.int .i64 1, .int .i64 x.1, .int .i64 x.2, .nilsl, .bool false, .int .i64 0, .int .i64 0, .int .i64 0, .str [], .int .i64 0, .int .i64 0, .nilsl]
/-- a node with kids -/
def kidsN (k : Int) (l : AV) : List AV := [.int .i64 k, .int .i64 0, .int .i64 0, .nilsl, .bool false, .int .i64 0, .int .i64 0, .int .i64 0, .str [], .int .i64 0, .int .i64 0, l]
/-- a level, as it lies -/
def lvl (alts items : AV) : List AV := [.int .i64 0, .int .i64 0, .int .i64 0, .int .i64 0, .nilsl, .bool false, .int .i64 0, .int .i64 0, .int .i64 0, .str [], .int .i64 0, .int .i64 0, .nilsl, alts, items, .bool false]

def navs (l : List (Int × Int)) : List AV := l.map fun x => .agg (litN x)

theorem navs_app (l k : List (Int × Int)) : navs (l ++ k) = navs l ++ navs k := List.map_append
theorem navs_len : ∀ l : List (Int × Int), (flatAll (navs l)).length = l.length * 12
  | [] => rfl
  | x :: r => by
    show (litN x ++ flatAll (navs r)).length = _
    rw [List.length_append, navs_len r, List.length_cons]
    show 12 + _ = _
    omega

/-- where a level's items lie -/
def ItemsAt (r : Nat) (h : List AObj) (l : List (Int × Int)) (out : AV) : Prop :=
  (l = [] ∧ out = .nilsl) ∨ (l ≠ [] ∧ ∃ j g, out = .ms j g 0 l.length l.length 12 ∧ r < j ∧ getCells h j g = some (flatAll (navs l)))

/-- a level with its items; what lies ahead of it is as it was -/
structure PS (s0 : Sg) (r : Nat) (l : List (Int × Int)) (s : Sg) : Prop where
  at' : ∃ out, getCells s.heap r 0 = some (lvl .nilsl out) ∧ ItemsAt r s.heap l out
  low : ∀ q, q < r → s.heap[q]? = s0.heap[q]?

theorem write_all : ∀ {b c : List AV}, c.length = b.length → writeAt c 0 b = some b
  | [], [], _ => rfl
  | [], _ :: _, h => by cases h
  | _ :: _, [], h => by cases h
  | x :: b, y :: c, h => by
    show (writeAt c 0 b).bind _ = _
    rw [write_all (by simpa using h)]
    rfl

theorem writeAt_end : ∀ (a b : List AV) {c : List AV} {k : Nat} (_ : c.length = k := by rfl) (_ : b.length = k := by rfl), writeAt (a ++ c) a.length b = some (a ++ b)
  | [], b, c, k, hc, hb => by
    subst hb
    exact write_all hc
  | x :: a, b, c, k, hc, hb => by
    show (writeAt (a ++ c) a.length b).bind _ = _
    rw [writeAt_end a b hc hb]
    rfl

/-- (*level).add, of a character -/
theorem add_spec (m : Nat) (b : Bar) (s0 : Sg) (r : Nat) (l : List (Int × Int)) (x : Int × Int) (s : Sg) (hb : b.w ≤ r) (hes : b.es = []) (hl : l.length < 2 ^ 20) (h : PS s0 r l s) :
    OkF (callF T (m + 1) b 23 [.ptr r 0 0, .agg (litN x)] s) fun out s' => out = .ret (.tup []) ∧ PS s0 r (l ++ [x]) s' := by
  obtain ⟨⟨out, hg, ho⟩, hlow⟩ := h
  have hr := getCells_lt hg
  (apply f_wp rfl rfl; (repeat (first | exact Shape.nil | (apply Shape.cons; conv => lhs; whnf))))
  refine qV ?_
  refine o_box (v := .agg (litN x)) (l := litN x) rfl rfl rfl ?_
  refine eV ?_
  have hg1 := getCells_push (.cells (litN x) 0) hg
  have hn1 := getCells_new s (litN x) 0
  have hle : (s.push (.cells (litN x) 0)).heap.length = s.heap.length + 1 := by simp [Sg.push]
  have hlo : ∀ q, q < s.heap.length → (s.push (.cells (litN x) 0)).heap[q]? = s.heap[q]? := fun q hq => Sg.push_get _ _ hq
  generalize s.push (.cells (litN x) 0) = s2 at hg1 hn1 hle hlo ⊢
  refine qqV ?_
  refine lV ?_
  refine c_skip ?_
  have hlow2 : ∀ q, q < r → s2.heap[q]? = s0.heap[q]? := fun q hq => by rw [hlo q (by omega)]; exact hlow q hq
  rcases ho with ⟨rfl, rfl⟩ | ⟨hne, j, g, rfl, h2, h3⟩
  · have hg4 := getCells_keep (k := 1) hg1
    have hn4 := getCells_keep (k := 1) hn1
    refine c_seq ?_
    refine c_drawnk ?_
    refine sV ?_
    refine o_fill rfl (evF_nil (ys := [.agg (kidsN 0 .nilsl)]) rfl rfl rfl rfl rfl (by simp) rfl (keep_last) rfl (by show b.w ≤ s2.heap.length; omega) (by show allGe _ b.es = true; rw [hes]; rfl)) ?_
    show OkO _ _ _ _ _ ((s2.keep 1).put s2.heap.length _) _
    rw [keep_put]
    have hg5 := getCells_push (.cells (flatAll [.agg (kidsN 0 .nilsl)]) 0) hg1
    have hm5 := getCells_new s2 (flatAll [.agg (kidsN 0 .nilsl)]) 0
    refine o_ixms (j := 0) rfl rfl rfl rfl (by show 0 < 1; omega) hm5 rfl ?_
    refine sV ?_
    refine o_st rfl rfl rfl rfl hm5 rfl (lets_nil (blt_no (by show b.w ≤ s2.heap.length; omega)) hes) (cs' := litN x) rfl ?_
    have hg6 := getCells_put_ne (i := s2.heap.length) (o := .cells (litN x) 0) (by omega) hg5
    have hm6 := getCells_put (cs' := litN x) (g' := 0) hm5
    refine sV ?_
    refine o_st rfl rfl rfl rfl hg6 rfl (lets_nil (blt_no hb) hes) (cs' := lvl .nilsl (.ms s2.heap.length 0 0 1 1 12)) rfl ?_
    refine d_end ?_ (by (repeat (first | exact OutS.nil | exact GetS.hit | exact PutS.hit | apply GetS.miss rfl | apply PutS.miss rfl | apply OutS.cons | apply OutS.skip rfl))) ?_
    · show (!(Nat.beq s2.heap.length r) && (!(Nat.beq s2.heap.length r) && true)) = true
      rw [beq_no (by omega)]
      rfl
    have hg7 := getCells_put (cs' := lvl .nilsl (.ms s2.heap.length 0 0 1 1 12)) (g' := 0) hg6
    have hm7 := getCells_put_ne (i := r) (o := .cells (lvl .nilsl (.ms s2.heap.length 0 0 1 1 12)) 0) (by omega) hm6
    have hn7 := getCells_put_ne (i := r) (o := .cells (lvl .nilsl (.ms s2.heap.length 0 0 1 1 12)) 0) (by omega) (getCells_put_ne (i := s2.heap.length) (o := .cells (litN x) 0) (by have := getCells_lt hn1; omega) (getCells_push (.cells (flatAll [.agg (kidsN 0 .nilsl)]) 0) hn1))
    refine qV ?_
    refine o_st rfl rfl rfl rfl hg7 rfl (lets_nil (blt_no hb) hes) (cs' := lvl .nilsl (.ms s2.heap.length 0 0 1 1 12)) rfl ?_
    refine eV ?_
    refine ⟨_, _, rfl, rfl, ⟨_, getCells_put hg7, .inr ⟨by simp, s2.heap.length, 0, rfl, by omega, ?_⟩⟩, fun q hq => ?_⟩
    · exact getCells_put_ne (by omega) hm7
    · rw [Sg.put_get _ _ _ (by omega), Sg.put_get _ _ _ (by omega), Sg.put_get _ _ _ (show q ≠ ((b.into af23.mode s).drawn false s2).n0 + 0 from (by show q ≠ s2.heap.length; omega)), Sg.push_get _ _ (by omega)]
      exact hlow2 q hq
  · have h3' : getCells s2.heap j g = some (flatAll (navs l)) := getCells_at h3 (hlo j (getCells_lt h3))
    have hg4 := getCells_keep (k := 1) hg1
    have hn4 := getCells_keep (k := 1) hn1
    have h34 := getCells_keep (k := 1) h3'
    have hj := getCells_lt h3
    refine c_seq ?_
    refine c_drawnk ?_
    refine sV ?_
    refine o_fill rfl (evF_ms (ys := [.agg (kidsN 0 .nilsl)]) rfl rfl rfl rfl rfl ?_ rfl (lets_nil (blt_no (by show b.w ≤ j; omega)) hes) h34 ?_) ?_
    · apply ble_of
      show (l.length + 1) * 136 ≤ 2 ^ 46
      omega
    · rw [navs_len]
      exact Nat.beq_refl _
    have hm5 := getCells_put (cs' := flatAll (navs l) ++ flatAll [.agg (kidsN 0 .nilsl)]) (g' := g + 1) h34
    have hg5 := getCells_put_ne (i := j) (o := .cells (flatAll (navs l) ++ flatAll [.agg (kidsN 0 .nilsl)]) (g + 1)) (by omega) hg4
    have hn5 := getCells_put_ne (i := j) (o := .cells (flatAll (navs l) ++ flatAll [.agg (kidsN 0 .nilsl)]) (g + 1)) (by omega) hn4
    refine o_ixms (j := l.length) rfl rfl rfl rfl (by show l.length < l.length + 1; omega) hm5 rfl ?_
    have hfl : flatAll (navs l) ++ litN x = flatAll (navs (l ++ [x])) := by
      rw [navs_app, flatAll_app]
      show _ = _ ++ (litN x ++ [])
      rw [List.append_nil]
    have hw : writeAt (flatAll (navs l) ++ flatAll [.agg (kidsN 0 .nilsl)]) (0 + l.length * 12) (litN x) = some (flatAll (navs l) ++ litN x) := by
      rw [Nat.zero_add, ← navs_len]
      exact writeAt_end _ _
    refine sV ?_
    refine o_st rfl rfl rfl rfl hm5 rfl (lets_nil (blt_no (by show b.w ≤ j; omega)) hes) (cs' := flatAll (navs l) ++ litN x) hw ?_
    have hg6 := getCells_put_ne (i := j) (o := .cells (flatAll (navs l) ++ litN x) (g + 1)) (by omega) hg5
    have hn6 := getCells_put_ne (i := j) (o := .cells (flatAll (navs l) ++ litN x) (g + 1)) (by omega) hn5
    have hm6 := getCells_put (cs' := flatAll (navs l) ++ litN x) (g' := g + 1) hm5
    refine sV ?_
    refine o_st rfl rfl rfl rfl hg6 rfl (lets_nil (blt_no hb) hes) (cs' := lvl .nilsl (.ms j (g + 1) 0 (l.length + 1) (l.length + 1) 12)) rfl ?_
    refine d_end ?_ (by (repeat (first | exact OutS.nil | exact GetS.hit | exact PutS.hit | apply GetS.miss rfl | apply PutS.miss rfl | apply OutS.cons | apply OutS.skip rfl))) ?_
    · show (!(Nat.beq j r) && (!(Nat.beq j r) && true)) = true
      rw [beq_no (by omega)]
      rfl
    have hg7 := getCells_put (cs' := lvl .nilsl (.ms j (g + 1) 0 (l.length + 1) (l.length + 1) 12)) (g' := 0) hg6
    have hm7 := getCells_put_ne (i := r) (o := .cells (lvl .nilsl (.ms j (g + 1) 0 (l.length + 1) (l.length + 1) 12)) 0) (by omega) hm6
    have hn7 := getCells_put_ne (i := r) (o := .cells (lvl .nilsl (.ms j (g + 1) 0 (l.length + 1) (l.length + 1) 12)) 0) (by omega) hn6
    refine qV ?_
    refine o_st rfl rfl rfl rfl hg7 rfl (lets_nil (blt_no hb) hes) (cs' := lvl .nilsl (.ms j (g + 1) 0 (l.length + 1) (l.length + 1) 12)) rfl ?_
    refine eV ?_
    refine ⟨_, _, rfl, rfl, ⟨_, getCells_put hg7, .inr ⟨by simp, j, g + 1, ?_, h2, ?_⟩⟩, fun q hq => ?_⟩
    · rw [List.length_append]; rfl
    · rw [← hfl]
      exact getCells_put_ne (by omega) hm7
    · rw [Sg.put_get _ _ _ (by omega), Sg.put_get _ _ _ (by omega), Sg.put_get _ _ _ (by omega), Sg.put_get _ _ _ (by omega), keep_get (by omega)]
      exact hlow2 q hq

end Go.Vmm

namespace Go.Vmm
open Go Go.Am Go.Proofs

theorem fin_eq {callD : DeferFn} {b : Bar} {fn : AFunc} {s s' s1 : Sg} {e : Ex} {pers : Env} {pn : Pan} {vs l : List AV} (he : e = .ret ∨ e = .normal) (hr : readRes pers s' fn.results = some vs) (hl : leave fn.mode s vs fn.results s' = some (l, s1)) : finish callD b fn s e ⟨pers, [], pn⟩ s' = some (.ret (oneRes l), s1) := by
  rcases he with rfl | rfl <;> simp only [finish, runDefers, Option.bind_some, endRet, hr, hl, Option.map_some]

/-- the loop 0 of function 9 -/
def lp9_0 : ACode := .seq (.region [Bn 22 .lss 21 20] [22]) (.seq (.cond (.tmp 22) (.skip) (.exit 0)) (.seq (.block 1 (.seq (.region [Vv 23 (.indexAddrS (some 12) (.tmp 19) (.tmp 21)), La 24 12 23, ⟨some 11, .e (.alloc [(.int .i64 0), (.int .i64 0), (.int .i64 0), (.int .i64 0), .nilsl, (.bool false), (.int .i64 0), (.int .i64 0), (.int .i64 0), (.str []), (.int .i64 0), (.int .i64 0)]), none⟩, St 12 11 24] [11]) (.seq (.region [Mv 25 8, Mv 26 8, Vv 27 (.len 1 (.tmp 26)), Bc 28 .sub 27 1, Vv 29 (.indexAddrS none (.tmp 25) (.tmp 28)), Ld 30 29, Mv 12 30] [12]) (.seq (.region [Fa 31 0 11, Ld 32 31] [32]) (.block 2 (.seq (.region [Bc 81 .eql 32 7, Mv 80 81] [80]) (.cond (.tmp 80) (.region [Mv 82 12, Cl 83 20 [Tm 82]] []) (.seq (.region [Bc 85 .eql 32 9, Mv 84 85] [84]) (.cond (.tmp 84) (.seq (.region [Mv 86 12, La 87 12 11, Cl 88 21 [Tm 86, Tm 87], Vv 89 (.un .not (.tmp 88))] [89]) (.cond (.tmp 89) (.seq (.region [Mv 90 9, Fa 91 1 11, Ld 92 91, ⟨some 93, .callv (.tmp 90) [(Ci 30), Tm 92], none⟩, Vv 94 (.extract (.tmp 93) 0), Vv 95 (.extract (.tmp 93) 1), Vv 96 (.extract (.tmp 93) 2), St 12 4 94, Mv 5 95, Mv 6 96] [5, 6]) (.ret)) (.skip))) (.seq (.region [Bc 98 .eql 32 10, Mv 97 98] [97]) (.cond (.tmp 97) (.seq (.seq (.region [Mv 99 8, Vv 100 (.len 1 (.tmp 99)), Bc 101 .gtr 100 40] [101]) (.cond (.tmp 101) (.seq (.region [Mv 102 9, Fa 103 1 11, Ld 104 103, ⟨some 105, .callv (.tmp 102) [(Ci 11), Tm 104], none⟩, Vv 106 (.extract (.tmp 105) 0), Vv 107 (.extract (.tmp 105) 1), Vv 108 (.extract (.tmp 105) 2), St 12 4 106, Mv 5 107, Mv 6 108] [5, 6]) (.ret)) (.skip))) (.region [Mv 109 8, La 110 12 11, Vv 111 (.build [(.int .i64 0), (.int .i64 0), (.int .i64 0), (.int .i64 0), .nilsl, (.bool false), (.int .i64 0), (.int .i64 0), (.int .i64 0), (.str []), (.int .i64 0), (.int .i64 0), .nilsl, .nilsl, .nilsl, (.bool false)] [(0, 12, (.tmp 110))]), ⟨some 112, .e (.box (.tmp 111)), none⟩, Vv 113 (.buildSl 1 .nilptr 1 [(0, (.tmp 112))]), ⟨some 114, .e (.append true none 8 (.tmp 109) (.tmp 113)), none⟩, Mv 8 114] [8])) (.seq (.region [Bc 116 .eql 32 8, Mv 115 116] [115]) (.cond (.tmp 115) (.seq (.seq (.region [Mv 117 8, Vv 118 (.len 1 (.tmp 117)), Bc 119 .eql 118 1] [119]) (.cond (.tmp 119) (.seq (.region [Mv 120 9, Fa 121 1 11, Ld 122 121, ⟨some 123, .callv (.tmp 120) [(Ci 31), Tm 122], none⟩, Vv 124 (.extract (.tmp 123) 0), Vv 125 (.extract (.tmp 123) 1), Vv 126 (.extract (.tmp 123) 2), St 12 4 124, Mv 5 125, Mv 6 126] [5, 6]) (.ret)) (.skip))) (.seq (.region [Mv 127 12, Cl 128 20 [Tm 127]] []) (.seq (.region [Mv 130 12, Cl 131 22 [Tm 130], Mv 129 131, Vv 132 (.extract (.tmp 129) 0), Vv 133 (.extract (.tmp 129) 1), ⟨some 13, .e (.alloc [(.int .i64 0), (.int .i64 0), (.int .i64 0), .nilsl, (.bool false), (.int .i64 0), (.int .i64 0), (.int .i64 0), (.str []), (.int .i64 0), (.int .i64 0), .nilsl]), none⟩, St 12 13 132, Mv 14 133] [13, 14]) (.seq (.seq (.region [Mv 134 14, Vv 135 (.un .not (.tmp 134))] [135]) (.cond (.tmp 135) (.seq (.region [Mv 136 9, Fa 137 1 13, Ld 138 137, ⟨some 139, .callv (.tmp 136) [(Ci 32), Tm 138], none⟩, Vv 140 (.extract (.tmp 139) 0), Vv 141 (.extract (.tmp 139) 1), Vv 142 (.extract (.tmp 139) 2), St 12 4 140, Mv 5 141, Mv 6 142] [5, 6]) (.ret)) (.skip))) (.seq (.region [Mv 143 8, Mv 144 8, Vv 145 (.len 1 (.tmp 144)), Bc 146 .sub 145 1, Vv 147 (.slice 1 (.tmp 143) none (some (.tmp 146)) none), Mv 8 147] [8]) (.drawn [Mv 148 8, Mv 149 8, Vv 150 (.len 1 (.tmp 149)), Bc 151 .sub 150 1, Vv 152 (.indexAddrS none (.tmp 148) (.tmp 151)), Ld 153 152, La 154 12 13, Cl 155 23 [Tm 153, Tm 154]] [] [] false 0)))))) (.seq (.seq (.region [Fa 33 0 11, Ld 34 33, Bc 35 .lss 34 0, Mv 36 35, Gf 37 36 (.fieldAddr 0 none (.tmp 11)), Gf 38 36 (.load none (.tmp 37)), Gf 39 36 (.bin .geq (.tmp 38) (Ci 16)), Vv 40 (.pick (.tmp 36) (.const (.bool true)) (.tmp 39)), Mv 41 40, Gf 42 41 (.fieldAddr 0 none (.tmp 11)), Gf 43 41 (.load none (.tmp 42)), Gf 44 41 (.indexAddrA 16 none (.tmp 7) (.tmp 43)), Gf 45 41 (.load none (.tmp 44)), Gf 46 41 (.bin .eql (.tmp 45) (Ci 0)), Vv 47 (.pick (.tmp 41) (.const (.bool true)) (.tmp 46))] [47]) (.cond (.tmp 47) (.seq (.region [Mv 48 9, Fa 49 1 11, Ld 50 49, ⟨some 51, .callv (.tmp 48) [(Ci 1), Tm 50], none⟩, Vv 52 (.extract (.tmp 51) 0), Vv 53 (.extract (.tmp 51) 1), Vv 54 (.extract (.tmp 51) 2), St 12 4 52, Mv 5 53, Mv 6 54] [5, 6]) (.ret)) (.skip))) (.drawn [Mv 55 12, Fa 56 0 11, Ld 57 56, Vv 58 (.indexAddrA 16 none (.tmp 7) (.tmp 57)), Ld 59 58, Fa 60 1 11, Ld 61 60, Fa 62 3 11, Ld 63 62, Fa 64 4 11, Ld 65 64, Fa 66 5 11, Ld 67 66, Fa 68 6 11, Ld 69 68, Fa 70 7 11, Ld 71 70, Fa 72 9 11, Ld 73 72, Fa 74 10 11, Ld 75 74, Fa 76 11 11, Ld 77 76, Vv 78 (.build [(.int .i64 0), (.int .i64 0), (.int .i64 0), .nilsl, (.bool false), (.int .i64 0), (.int .i64 0), (.int .i64 0), (.str []), (.int .i64 0), (.int .i64 0), .nilsl] [(0, 1, (.tmp 59)), (1, 1, (.tmp 61)), (2, 1, (.tmp 63)), (3, 1, (.tmp 65)), (4, 1, (.tmp 67)), (5, 1, (.tmp 69)), (6, 1, (.tmp 71)), (8, 1, (.tmp 73)), (9, 1, (.tmp 75)), (10, 1, (.tmp 77))]), Cl 79 23 [Tm 55, Tm 78]] [] [] false 0))))))))))))))) (.region [Bc 156 .add 21 1, Mv 21 156] [21])))

/-- which node a token is -/
def kindsC : List AV := [.int .i64 0, .int .i64 1, .int .i64 2, .int .i64 3, .int .i64 4, .int .i64 5, .int .i64 6, .int .i64 0, .int .i64 0, .int .i64 0, .int .i64 0, .int .i64 7, .int .i64 8, .int .i64 9, .int .i64 10, .int .i64 11]

theorem simple_spec (m : Nat) (b : Bar) (s : Sg) : callF T (m + 1) b 18 [] s = some (.ret (.agg kindsC), s) := by
  (apply f_of rfl rfl; (repeat (first | exact Shape.nil | (apply Shape.cons; conv => lhs; whnf))))
  refine qV ?_
  refine o_alloc rfl ?_
  refine eV ?_
  have hn := getCells_new s (List.replicate 16 (.int .i64 0)) 0
  refine qV ?_
  refine o_st rfl rfl rfl rfl hn rfl (lets_of (blt_no (by show s.heap.length ≤ s.heap.length; omega)) (fun e => rfl)) (cs' := kindsC) rfl ?_
  have hn2 := getCells_put (cs' := kindsC) (g' := 0) hn
  refine eV ?_
  refine c_ret ?_
  exact fin_eq (fn := af18) (.inl rfl) (read_cell (v := .agg kindsC) rfl hn2 rfl read_nil) (leave_pure (s := s) (ks := af18.results) (lay_ck (v := .agg kindsC) (u := .agg kindsC) rfl lay_nil) rfl)

/-- the nodes of a text -/
def nodesOf : Nat → List UInt8 → List (Int × Int)
  | _, [] => []
  | k, c :: r => (((k : Nat) : Int), ((c.toNat : Nat) : Int)) :: nodesOf (k + 1) r

theorem nodesOf_app : ∀ (k : Nat) (a b : List UInt8), nodesOf k (a ++ b) = nodesOf k a ++ nodesOf (k + a.length) b
  | k, [], b => by simp [nodesOf]
  | k, c :: r, b => by simp only [List.cons_append, nodesOf, nodesOf_app (k + 1) r b, List.length_cons]; rw [show k + 1 + r.length = k + (r.length + 1) by omega]

theorem nodesOf_len : ∀ (k : Nat) (a : List UInt8), (nodesOf k a).length = a.length
  | _, [] => rfl
  | k, c :: r => by simp [nodesOf, nodesOf_len (k + 1) r]

theorem lits_get : ∀ (k : Nat) (t : List UInt8) (j : Nat) (c : UInt8), t[j]? = some c → (lits k t)[j]? = some ⟨1, (k + j : Nat), (k + j + 1 : Nat), c.toNat, 0, 0, 0⟩
  | k, [], j, c, h => by simp at h
  | k, d :: r, 0, c, h => by
    simp at h
    subst h
    rfl
  | k, d :: r, j + 1, c, h => by
    have := lits_get (k + 1) r j c (by simpa using h)
    simp only [lits, List.getElem?_cons_succ, this]
    rw [show k + 1 + j = k + (j + 1) by omega]

abbrev fr9 (t : List UInt8) (n : Int) (A K L : Nat) (i : Nat) (x22 x11 x32 x80 x12 x84 x97 x115 x47 : AV) : Fr :=
  ⟨[(0, .vec (tavs (lits 0 t)) .shut), (1, .int .i64 n), (4, .ptr A 0 0), (5, .int .i64 0), (6, .int .i64 0), (21, .int .i64 i), (20, .int .i64 t.length), (22, x22), (19, .vec (tavs (lits 0 t)) .shut), (8, .vec [.ptr L 0 0] (.exact true)), (11, x11), (32, x32), (80, x80), (12, x12), (84, x84), (89, .undef), (9, .func 19 [] []), (97, x97), (101, .undef), (115, x115), (119, .undef), (14, .undef), (135, .undef), (13, .undef), (7, .ptr K 0 0), (47, x47), (159, .undef)], [], .off⟩

theorem parse_loop (m : Nat) (b : Bar) (s0 : Sg) (t : List UInt8) (n : Int) (A K L : Nat) (hK : K < L) (hb : b.w ≤ L) (hes : b.es = []) (ht : t.length ≤ 1000) (h0 : getCells s0.heap K 0 = some kindsC) {Q : Ex → Fr → Sg → Prop}
    (hq : ∀ x22 x11 x32 x80 x12 x84 x97 x115 x47 s', PS s0 L (nodesOf 0 t) s' → Q (.exit 0) (fr9 t n A K L t.length x22 x11 x32 x80 x12 x84 x97 x115 x47) s') :
    ∀ (rest done : List UInt8) (M : Nat) (x22 x11 x32 x80 x12 x84 x97 x115 x47 : AV) (s : Sg), t = done ++ rest → rest.length + 1 ≤ M → PS s0 L (nodesOf 0 done) s →
    OkL M (fun fr s => ACode.run (loopN (m + 3)) (callF T (m + 3)) b lp9_0 fr s) (fr9 t n A K L done.length x22 x11 x32 x80 x12 x84 x97 x115 x47) s Q := by
  intro rest
  induction rest with
  | nil =>
    intro done M x22 x11 x32 x80 x12 x84 x97 x115 x47 s hl hM h
    obtain ⟨M, rfl⟩ : ∃ M', M = M' + 1 := ⟨M - 1, by omega⟩
    rw [List.append_nil] at hl
    subst hl
    apply l_round
    refine qqV ?_
    refine lV ?_
    exact c_exit (hq _ _ _ _ _ _ _ _ _ _ h)
  | cons c rest ih =>
    intro done M x22 x11 x32 x80 x12 x84 x97 x115 x47 s hl hM h
    obtain ⟨M, rfl⟩ : ∃ M', M = M' + 1 := ⟨M - 1, by omega⟩
    have hkl : done.length < t.length := by rw [hl]; simp
    have hget : t[done.length]? = some c := by rw [hl]; simp
    have htk := lits_get 0 t done.length c hget
    rw [Nat.zero_add] at htk
    have htk2 : (tavs (lits 0 t))[done.length]? = some (Tk.av ⟨1, (done.length : Nat), (done.length + 1 : Nat), c.toNat, 0, 0, 0⟩) := by
      unfold tavs
      rw [List.getElem?_map, htk]
      rfl
    have htl : (tavs (lits 0 t)).length = t.length := by unfold tavs; rw [List.length_map, lits_len]
    have hK0 : getCells s.heap K 0 = some kindsC := getCells_at h0 (h.low K hK)
    have hKl := getCells_lt hK0
    apply l_round
    refine qqV ?_
    refine iV ?_
    refine c_skip ?_
    refine bV ?_
    refine qV ?_
    refine o_ixvec (j := done.length) rfl rfl rfl rfl htk2 rfl ?_
    refine sV ?_
    refine o_alloc (z := (Tk.cs ⟨0, 0, 0, 0, 0, 0, 0⟩)) rfl ?_
    have hT := getCells_new s (Tk.cs ⟨0, 0, 0, 0, 0, 0, 0⟩) 0
    obtain ⟨⟨out, hg, ho⟩, hlow⟩ := h
    have hLl := getCells_lt hg
    refine o_st rfl rfl rfl rfl hT rfl (lets_nil (blt_no (by omega)) hes) (cs' := Tk.cs ⟨1, (done.length : Nat), (done.length + 1 : Nat), c.toNat, 0, 0, 0⟩) rfl ?_
    have hT2 := getCells_put (cs' := Tk.cs ⟨1, (done.length : Nat), (done.length + 1 : Nat), c.toNat, 0, 0, 0⟩) (g' := 0) hT
    have hK2 := getCells_put_ne (i := s.heap.length) (o := .cells (Tk.cs ⟨1, (done.length : Nat), (done.length + 1 : Nat), c.toNat, 0, 0, 0⟩) 0) (by omega) (getCells_push (.cells (Tk.cs ⟨0, 0, 0, 0, 0, 0, 0⟩) 0) hK0)
    have h2 : PS s0 L (nodesOf 0 done) ((s.push (.cells (Tk.cs ⟨0, 0, 0, 0, 0, 0, 0⟩) 0)).put s.heap.length (.cells (Tk.cs ⟨1, (done.length : Nat), (done.length + 1 : Nat), c.toNat, 0, 0, 0⟩) 0)) := by
      refine ⟨⟨out, getCells_put_ne (by omega) (getCells_push _ hg), ?_⟩, fun q hq => ?_⟩
      · rcases ho with ho | ⟨hne, j, g, h1, h2, h3⟩
        · exact .inl ho
        · exact .inr ⟨hne, j, g, h1, h2, getCells_put_ne (by have := getCells_lt h3; omega) (getCells_push _ h3)⟩
      · rw [Sg.put_get _ _ _ (by omega), Sg.push_get _ _ (by omega)]
        exact hlow q hq
    refine eV ?_
    revert hT2 hK2 h2
    generalize (s.push (.cells (Tk.cs ⟨0, 0, 0, 0, 0, 0, 0⟩) 0)).put s.heap.length (.cells (Tk.cs ⟨1, (done.length : Nat), (done.length + 1 : Nat), c.toNat, 0, 0, 0⟩) 0) = s2
    intro hT2 hK2 h2
    refine qV ?_
    refine o_w (v := .int .i64 0) rfl rfl ?_
    refine o_ixvec (j := 0) (v := .ptr L 0 0) rfl rfl rfl rfl rfl rfl ?_
    refine sV ?_
    refine eV ?_
    refine qV ?_
    refine eV ?_
    refine bV ?_
    refine qqV ?_
    refine lV ?_
    refine qqV ?_
    refine lV ?_
    refine qqV ?_
    refine lV ?_
    refine qqV ?_
    refine lV ?_
    refine qqV ?_
    refine lV ?_
    refine c_skip ?_
    refine dqV ?_
    have hnl := nodesOf_len 0 done
    refine o_callw (l := [.ptr L 0 0, .agg (litN ((done.length : Nat), (c.toNat : Nat)))]) rfl rfl ((add_spec (m + 2) (b.drawn false s2) s0 L (nodesOf 0 done) _ s2 hb hes (by omega) h2).mono ?_)
    rintro _ s3 ⟨rfl, h3⟩
    refine dV ?_
    refine qqV ?_
    have hc1 : ((done.length : Nat) : Int) + 1 = ((done ++ [c]).length : Nat) := by simp
    rw [hc1]
    refine ih (done ++ [c]) M _ _ _ _ _ _ _ _ _ s3 (by rw [hl]; simp) (by simp at hM; omega) ?_
    rw [nodesOf_app]
    simpa [nodesOf] using h3

end Go.Vmm

namespace Go.Vmm
open Go Go.Am Go.Proofs

theorem lay_ck1 {h : List AObj} {b : Nat} {v u : AV} {a : ARes} {ks : List ARes} (hv : layOne h b a.el v = some u) (hz : v.isNilsl = false) : lay h b [v] (a :: ks) = some [u] := lay_ck hv lay_nil hz

theorem layAll_old {h : List AObj} {b n : Nat} : ∀ {cs : List AV}, AV.oldAll b cs = true → layAllBy (layV (n + 1) h b) cs = some cs
  | [], _ => rfl
  | v :: r, ho => by
    simp only [AV.oldAll, Bool.and_eq_true] at ho
    show (layV (n + 1) h b v).bind _ = _
    rw [layV_old ho.1, Option.bind_some, layAll_old ho.2]
    rfl

theorem layOne_agg {h : List AObj} {b : Nat} {k : Option (Option Nat)} {cs : List AV} (ho : AV.oldAll b cs = true) : layOne h b k (.agg cs) = some (.agg cs) := by
  show (layAllBy (layV 16 h b) cs).map AV.agg = _
  rw [layAll_old ho]
  rfl

/-- joined, of more than one -/
theorem joined_many (m : Nat) (b : Bar) (s : Sg) (k : Int) (j g n : Nat) (cs : List AV) (hn : n ≠ 1) (hn2 : n < 2 ^ 40) (hc : getCells s.heap j g = some cs) :
    callF T (m + 1) b 24 [.int .i64 k, .ms j g 0 n n 12] s = some (.ret (.agg (kidsN k (.ms j g 0 n n 12))), s) := by
  have hj := getCells_lt hc
  (apply f_of rfl rfl; (repeat (first | exact Shape.nil | (apply Shape.cons; conv => lhs; whnf))))
  refine qV ?_
  refine o_alloc (z := kidsN 0 .nilsl) rfl ?_
  refine eV ?_
  have hA := getCells_new s (kidsN 0 .nilsl) 0
  refine qqV ?_
  refine lV ?_
  refine c_skip ?_
  refine qV ?_
  refine o_st rfl rfl rfl rfl hA rfl (lets_nil (blt_no (by show s.heap.length ≤ s.heap.length; omega)) rfl) (cs' := kidsN k (.ms j g 0 n n 12)) rfl ?_
  have hA2 := getCells_put (cs' := kidsN k (.ms j g 0 n n 12)) (g' := 0) hA
  refine eV ?_
  have ho : AV.oldAll s.heap.length (kidsN k (.ms j g 0 n n 12)) = true := by
    simp only [kidsN, AV.oldAll, AV.old, Bool.true_and, Bool.and_true]
    rw [Nat.blt_eq]; exact hj
  exact c_ret (fin_eq (fn := af24) (.inl rfl) (read_cell (v := .agg (kidsN k (.ms j g 0 n n 12))) rfl hA2 rfl read_nil) (leave_pure (s := s) (ks := af24.results) (lay_ck1 (layOne_agg ho) rfl) (by simp only [AV.oldAll, AV.old, ho, Bool.and_true])))

/-- joined, of one -/
theorem joined_one (m : Nat) (b : Bar) (s : Sg) (k : Int) (j g : Nat) (cs : List AV) (h12 : cs.length = 12) (ho : AV.oldAll s.heap.length cs = true) (hw : writeAt (kidsN 0 .nilsl) 0 cs = some cs) (hst : (AV.agg cs).stored = some cs) (hc : getCells s.heap j g = some cs) :
    callF T (m + 1) b 24 [.int .i64 k, .ms j g 0 1 1 12] s = some (.ret (.agg cs), s) := by
  have hj := getCells_lt hc
  have hp : partOf cs 0 (some 12) = some (.agg cs) := by
    unfold partOf
    rw [h12]
    show some (AV.agg (List.take 12 (List.drop 0 cs))) = _
    rw [List.drop_zero, ← h12, List.take_length]
  (apply f_of rfl rfl; (repeat (first | exact Shape.nil | (apply Shape.cons; conv => lhs; whnf))))
  refine qV ?_
  refine o_alloc (z := kidsN 0 .nilsl) rfl ?_
  refine eV ?_
  have hA := getCells_new s (kidsN 0 .nilsl) 0
  have hc1 := getCells_push (.cells (kidsN 0 .nilsl) 0) hc
  refine qqV ?_
  refine iV ?_
  refine qV ?_
  refine o_ixms (j := 0) rfl rfl rfl rfl (by omega) hc1 rfl ?_
  refine o_ld rfl rfl hc1 hp rfl ?_
  refine o_st rfl rfl rfl hst hA (by rw [h12]; rfl) (lets_nil (blt_no (by show s.heap.length ≤ s.heap.length; omega)) rfl) (cs' := cs) hw ?_
  have hA2 := getCells_put (cs' := cs) (g' := 0) hA
  refine eV ?_
  have hp2 : partOf cs 0 (some 12) = some (.agg cs) := hp
  exact c_ret (fin_eq (fn := af24) (.inl rfl) (read_cell (v := .agg cs) rfl hA2 hp2 read_nil) (leave_pure (s := s) (ks := af24.results) (lay_ck1 (layOne_agg ho) rfl) (by simp only [AV.oldAll, AV.old, ho, Bool.and_true])))

end Go.Vmm

namespace Go.Vmm
open Go Go.Am Go.Proofs

/-- (*level).end, of a level whose items are one node -/
theorem end_spec (m : Nat) (b : Bar) (s0 : Sg) (r j g n : Nat) (cs N : List AV) (s : Sg) (hb : b.w ≤ r) (hes : b.es = []) (hg : getCells s.heap r 0 = some (lvl .nilsl (.ms j g 0 n n 12))) (hj : r < j) (hc : getCells s.heap j g = some cs)
    (hlow : ∀ q, q < r → s.heap[q]? = s0.heap[q]?) (hst : (AV.agg N).stored = some N) (h12 : N.length = 12) (hold : AV.oldAll (j + 1) N = true)
    (hN : ∀ (b : Bar) (s : Sg), getCells s.heap j g = some cs → callF T (m + 1) b 24 [.int .i64 12, .ms j g 0 n n 12] s = some (.ret (.agg N), s)) :
    OkF (callF T (m + 2) b 20 [.ptr r 0 0] s) fun out s' => out = .ret (.tup []) ∧ ∃ J, j < J ∧ getCells s'.heap r 0 = some (lvl (.ms J 0 0 1 1 12) .nilsl) ∧ getCells s'.heap J 0 = some N ∧ getCells s'.heap j g = some cs ∧ ∀ q, q < r → s'.heap[q]? = s0.heap[q]? := by
  have hr := getCells_lt hg
  have hjl := getCells_lt hc
  (apply f_wp rfl rfl; (repeat (first | exact Shape.nil | (apply Shape.cons; conv => lhs; whnf))))
  have hg4 := getCells_keep (k := 1) hg
  have hc4 := getCells_keep (k := 1) hc
  refine c_seq ?_
  refine c_drawnk ?_
  refine sV ?_
  refine o_call rfl rfl (hN _ _ hc4) ?_
  refine sV ?_
  refine o_fill rfl (evF_nil (ys := [.agg (kidsN 0 .nilsl)]) rfl rfl rfl rfl rfl (by simp) rfl (keep_last) rfl (by show b.w ≤ s.heap.length; omega) (by show allGe _ b.es = true; rw [hes]; rfl)) ?_
  show OkO _ _ _ _ _ ((s.keep 1).put s.heap.length _) _
  rw [keep_put]
  have hg5 := getCells_push (.cells (flatAll [.agg (kidsN 0 .nilsl)]) 0) hg
  have hc5 := getCells_push (.cells (flatAll [.agg (kidsN 0 .nilsl)]) 0) hc
  have hm5 := getCells_new s (flatAll [.agg (kidsN 0 .nilsl)]) 0
  refine sV ?_
  refine o_ixms (j := 0) rfl rfl rfl rfl (by show 0 < 1; omega) hm5 rfl ?_
  refine sV ?_
  refine o_st rfl rfl rfl hst hm5 (by rw [h12]; rfl) (lets_nil (blt_no (by show b.w ≤ s.heap.length; omega)) hes) (cs' := N) (write_all (by rw [h12]; rfl)) ?_
  have hg6 := getCells_put_ne (i := s.heap.length) (o := .cells N 0) (by omega) hg5
  have hc6 := getCells_put_ne (i := s.heap.length) (o := .cells N 0) (by omega) hc5
  have hm6 := getCells_put (cs' := N) (g' := 0) hm5
  refine sV ?_
  refine o_st rfl rfl rfl rfl hg6 rfl (lets_nil (blt_no hb) hes) (cs' := lvl (.ms s.heap.length 0 0 1 1 12) (.ms j g 0 n n 12)) rfl ?_
  refine d_end ?_ (by (repeat (first | exact OutS.nil | exact GetS.hit | exact PutS.hit | apply GetS.miss rfl | apply PutS.miss rfl | apply OutS.cons | apply OutS.skip rfl))) ?_
  · show (!(Nat.beq s.heap.length r) && (!(Nat.beq s.heap.length r) && true)) = true
    rw [beq_no (by omega)]
    rfl
  have hg7 := getCells_put (cs' := lvl (.ms s.heap.length 0 0 1 1 12) (.ms j g 0 n n 12)) (g' := 0) hg6
  have hc7 := getCells_put_ne (i := r) (o := .cells (lvl (.ms s.heap.length 0 0 1 1 12) (.ms j g 0 n n 12)) 0) (by omega) hc6
  have hm7 := getCells_put_ne (i := r) (o := .cells (lvl (.ms s.heap.length 0 0 1 1 12) (.ms j g 0 n n 12)) 0) (by omega) hm6
  refine qV ?_
  refine o_st rfl rfl rfl rfl hg7 rfl (lets_nil (blt_no hb) hes) (cs' := lvl (.ms s.heap.length 0 0 1 1 12) .nilsl) rfl ?_
  have hg8 := getCells_put (cs' := lvl (.ms s.heap.length 0 0 1 1 12) .nilsl) (g' := 0) hg7
  have hc8 := getCells_put_ne (i := r) (o := .cells (lvl (.ms s.heap.length 0 0 1 1 12) .nilsl) 0) (by omega) hc7
  have hm8 := getCells_put_ne (i := r) (o := .cells (lvl (.ms s.heap.length 0 0 1 1 12) .nilsl) 0) (by omega) hm7
  refine sV ?_
  refine o_st rfl rfl rfl rfl hg8 rfl (lets_nil (blt_no hb) hes) (cs' := lvl (.ms s.heap.length 0 0 1 1 12) .nilsl) rfl ?_
  refine eV ?_
  refine ⟨_, _, rfl, rfl, s.heap.length, hjl, getCells_put hg8, getCells_put_ne (by omega) hm8, getCells_put_ne (by omega) hc8, fun q hq => ?_⟩
  rw [Sg.put_get _ _ _ (by omega), Sg.put_get _ _ _ (by omega), Sg.put_get _ _ _ (by omega), Sg.put_get _ _ _ (show q ≠ ((b.into af20.mode s).drawn false s).n0 + 0 from (by show q ≠ s.heap.length; omega)), Sg.push_get _ _ (by omega)]
  exact hlow q hq

theorem lay_kids {h : List AObj} {b : Nat} {k : Option (Option Nat)} {q : Int} {j g n : Nat} {cs es : List AV} (hi : b ≤ j) (hc : getCells h j g = some cs) (hk : chunk n (some 12) cs = some es) (ho : AV.oldAll b es = true) :
    layOne h b k (.agg (kidsN q (.ms j g 0 n n 12))) = some (.agg (kidsN q (.vec es .shut))) := by
  have hb : Nat.blt j b = false := blt_no hi
  show (layAllBy (layV 16 h b) (kidsN q (.ms j g 0 n n 12))).map AV.agg = _
  have hl : layV 16 h b (.ms j g 0 n n 12) = some (.vec es .shut) := by
    have he : layAllBy (layEl (layV (14 + 1) h b)) es = some es := layEls_old ho
    unfold layV
    simp only [AV.old, hb, Bool.false_eq_true, if_false, hc, Option.bind_some, List.drop_zero]
    rw [if_neg (by decide), hk, Option.bind_some]
    exact congrArg (Option.map fun es => AV.vec es .shut) he
  simp only [kidsN, layAllBy, hl, Option.bind_some]
  rfl

end Go.Vmm

namespace Go.Vmm
open Go Go.Am Go.Proofs

/-- the raw tree of a text -/
def rawN : List (Int × Int) → List AV
  | [x] => litN x
  | l => kidsN 12 (.vec (navs l) .shut)

theorem navs_old (b : Nat) : ∀ l : List (Int × Int), AV.oldAll b (navs l) = true
  | [] => rfl
  | x :: r => by
    show (_ && AV.oldAll b (navs r)) = true
    rw [navs_old b r]
    rfl

theorem navs_chunk : ∀ l : List (Int × Int), chunk l.length (some 12) (flatAll (navs l)) = some (navs l)
  | [] => rfl
  | x :: r => by
    show (if Nat.ble 12 (litN x ++ flatAll (navs r)).length = true then (chunk r.length (some 12) ((litN x ++ flatAll (navs r)).drop 12)).bind _ else none) = _
    have h1 : (litN x ++ flatAll (navs r)).drop 12 = flatAll (navs r) := rfl
    rw [if_pos (ble_of (by rw [List.length_append]; show 12 ≤ 12 + _; omega)), h1, navs_chunk r]
    rfl

theorem parse_spec (t : List UInt8) (hne : t ≠ []) (ht : t.length ≤ 1000) (n : Int) (m : Nat) (hm : t.length + 1 ≤ m) (b : Bar) (s : Sg) :
    callF T (m + 4) b 9 [.vec (tavs (lits 0 t)) .shut, .int .i64 n] s = some (.ret (.tup [.agg (rawN (nodesOf 0 t)), .int .i64 0, .int .i64 0]), s) := by
  have htl : (tavs (lits 0 t)).length = t.length := by unfold tavs; rw [List.length_map, lits_len]
  suffices h : OkF (callF T (m + 4) b 9 [.vec (tavs (lits 0 t)) .shut, .int .i64 n] s) (fun o s' => o = .ret (.tup [.agg (rawN (nodesOf 0 t)), .int .i64 0, .int .i64 0]) ∧ s' = s) by
    obtain ⟨o, s', h1, rfl, rfl⟩ := h.ok
    exact h1
  (apply f_wp rfl rfl; (repeat (first | exact Shape.nil | (apply Shape.cons; conv => lhs; whnf))))
  refine qV ?_
  refine o_alloc (z := kidsN 0 .nilsl) rfl ?_
  refine sV ?_
  refine eV ?_
  have hA := getCells_new s (kidsN 0 .nilsl) 0
  have hl1 : (s.push (.cells (kidsN 0 .nilsl) 0)).heap.length = s.heap.length + 1 := by simp [Sg.push]
  generalize s.push (.cells (kidsN 0 .nilsl) 0) = s1 at hA hl1 ⊢
  refine qV ?_
  refine o_call rfl rfl (simple_spec _ _ s1) ?_
  refine o_alloc (z := List.replicate 16 (.int .i64 0)) rfl ?_
  have hK := getCells_new s1 (List.replicate 16 (.int .i64 0)) 0
  have hA1 := getCells_push (.cells (List.replicate 16 (.int .i64 0)) 0) hA
  refine o_st rfl rfl rfl rfl hK rfl (lets_nil (blt_no (by show s.heap.length ≤ s1.heap.length; omega)) rfl) (cs' := kindsC) rfl ?_
  refine eV ?_
  have hK2 := getCells_put (cs' := kindsC) (g' := 0) hK
  have hA2 := getCells_put_ne (i := s1.heap.length) (o := .cells kindsC 0) (by omega) hA1
  have hl2 : ((s1.push (.cells (List.replicate 16 (.int .i64 0)) 0)).put s1.heap.length (.cells kindsC 0)).heap.length = s1.heap.length + 1 := by rw [Sg.put_len]; simp [Sg.push]
  generalize (s1.push (.cells (List.replicate 16 (.int .i64 0)) 0)).put s1.heap.length (.cells kindsC 0) = s2 at hK2 hA2 hl2 ⊢
  refine qV ?_
  refine o_box (v := .agg (lvl .nilsl .nilsl)) (l := lvl .nilsl .nilsl) rfl rfl rfl ?_
  refine sV ?_
  refine eV ?_
  have hL := getCells_new s2 (lvl .nilsl .nilsl) 0
  have hK3 := getCells_push (.cells (lvl .nilsl .nilsl) 0) hK2
  have hA3 := getCells_push (.cells (lvl .nilsl .nilsl) 0) hA2
  have hl3 : (s2.push (.cells (lvl .nilsl .nilsl) 0)).heap.length = s2.heap.length + 1 := by simp [Sg.push]
  generalize s2.push (.cells (lvl .nilsl .nilsl) 0) = s3 at hL hK3 hA3 hl3 ⊢
  generalize hLe : s2.heap.length = L at *
  generalize hKe : s1.heap.length = K at *
  generalize hAe : s.heap.length = A at *
  refine qqV ?_
  refine qqV ?_
  refine bV ?_
  refine c_loop (x := lp9_0) ?_
  have h0 : PS s3 L (nodesOf 0 []) s3 := ⟨⟨_, hL, .inl ⟨rfl, rfl⟩⟩, fun _ _ => rfl⟩
  have hn : ((tavs (lits 0 t)).length : Int) = (t.length : Int) := by rw [htl]
  rw [hn]
  refine parse_loop m (b.into .pure s) s3 t n A K L (by omega) (by show s.heap.length ≤ L; omega) rfl ht hK3 ?_ t [] (m + 3) _ _ _ _ _ _ _ _ _ s3 rfl (by omega) h0
  intro x22 x11 x32 x80 x12 x84 x97 x115 x47 s4 h4
  obtain ⟨⟨out, hg, ho⟩, hlow⟩ := h4
  have hA4 := getCells_at hA3 (hlow _ (by omega))
  rcases ho with ⟨hz, rfl⟩ | ⟨hne2, j, g, rfl, hj, h3⟩
  · exfalso
    have := nodesOf_len 0 t
    rw [hz] at this
    simp at this
    exact hne (List.length_eq_zero_iff.1 (by omega))
  show OkC _ _ _ _ _ _ _
  refine qV ?_
  refine eV ?_
  refine lV ?_
  refine c_skip ?_
  have hnl := nodesOf_len 0 t
  have hN : ∃ N, (AV.agg N).stored = some N ∧ N.length = 12 ∧ AV.oldAll (j + 1) N = true ∧ (∀ (b : Bar) (s : Sg), getCells s.heap j g = some (flatAll (navs (nodesOf 0 t))) → callF T (m + 1 + 1) b 24 [.int .i64 12, .ms j g 0 (nodesOf 0 t).length (nodesOf 0 t).length 12] s = some (.ret (.agg N), s)) ∧
      (∀ (h : List AObj) (k : Option (Option Nat)), getCells h j g = some (flatAll (navs (nodesOf 0 t))) → layOne h A k (.agg N) = some (.agg (rawN (nodesOf 0 t)))) ∧ AV.oldAll A (rawN (nodesOf 0 t)) = true := by
    generalize nodesOf 0 t = l at h3 hnl hne2
    match l, hne2 with
    | [x], _ =>
      refine ⟨litN x, rfl, rfl, rfl, fun b s hc => joined_one _ b s 12 j g _ rfl rfl rfl rfl hc, fun h k _ => layOne_agg rfl, rfl⟩
    | x :: y :: r, _ =>
      refine ⟨kidsN 12 (.ms j g 0 (x :: y :: r).length (x :: y :: r).length 12), rfl, rfl, ?_, fun b s hc => joined_many _ b s 12 j g _ _ (by simp) (by omega) hc, fun h k hc => lay_kids (by omega) hc (navs_chunk _) (navs_old _ _), ?_⟩
      · simp only [kidsN, AV.oldAll, AV.old, Bool.true_and, Bool.and_true]
        rw [Nat.blt_eq]
        omega
      · show AV.oldAll A (kidsN 12 (.vec (navs (x :: y :: r)) .shut)) = true
        simp only [kidsN, AV.oldAll, AV.old, Bool.true_and, Bool.and_true, navs_old]
  obtain ⟨N, hst, h12, hold, hjn, hlay, holdN⟩ := hN
  refine qV ?_
  refine o_ixvec (j := 0) (v := .ptr L 0 0) rfl rfl rfl rfl rfl rfl ?_
  refine sV ?_
  refine o_callw (l := [.ptr L 0 0]) rfl rfl ((end_spec (m + 1) (b.into .pure s) s3 L j g _ _ N s4 (by show s.heap.length ≤ L; omega) rfl hg hj h3 hlow hst h12 hold hjn).mono ?_)
  rintro _ s5 ⟨rfl, J, hJ, hg5, hN5, hc5, hlow5⟩
  have hA5 := getCells_at hA3 (hlow5 _ (by omega))
  have hJl := getCells_lt hN5
  refine eV ?_
  refine qV ?_
  refine o_ixvec (j := 0) (v := .ptr L 0 0) rfl rfl rfl rfl rfl rfl ?_
  refine sV ?_
  refine o_call rfl rfl (joined_one (m + 2) _ s5 13 J 0 N h12 (oldAll_le (by omega) _ hold) (write_all (by rw [h12]; rfl)) hst hN5) ?_
  refine sV ?_
  refine o_st rfl rfl rfl hst hA5 (by rw [h12]; rfl) (lets_nil (blt_no (by show s.heap.length ≤ A; omega)) rfl) (cs' := N) (write_all (by rw [h12]; rfl)) ?_
  have hA6 := getCells_put (cs' := N) (g' := 0) hA5
  have hc6 := getCells_put_ne (i := A) (o := .cells N 0) (by omega) hc5
  refine sV ?_
  refine eV ?_
  have hp : partOf N 0 (some 12) = some (.agg N) := by
    unfold partOf
    rw [h12]
    show some (AV.agg (List.take 12 (List.drop 0 N))) = _
    rw [List.drop_zero, ← h12, List.take_length]
  refine c_ret (fin_ret (.inl rfl) (read_cell (v := .agg N) rfl hA6 hp (read_tmp rfl (read_tmp rfl read_nil))) (leave_pure (s := s) (ks := af9.results) (lay_ck (u := .agg (rawN (nodesOf 0 t))) (by rw [hAe]; exact hlay _ _ hc6) (lay_ck (v := .int .i64 0) (u := .int .i64 0) rfl (lay_ck (v := .int .i64 0) (u := .int .i64 0) rfl lay_nil rfl) rfl) rfl) ?_) ⟨rfl, rfl⟩)
  show AV.oldAll s.heap.length [_, _, _] = true
  simp only [AV.oldAll, AV.old, hAe, holdN, Bool.and_true]

end Go.Vmm

namespace Go.Vmm
open Go Go.Am Go.Proofs

theorem eq_of_okF {c : Option (Out × Sg)} {o : Out} {s : Sg} (h : OkF c fun o' s' => o' = o ∧ s' = s) : c = some (o, s) := by
  obtain ⟨o', s', h1, rfl, rfl⟩ := h.ok
  exact h1

theorem tsimple_1 (m : Nat) (b : Bar) (s : Sg) : callF T (m + 1) b 43 [.int .i64 1] s = some (.ret (.bool true), s) := by
  (apply f_of rfl rfl; (repeat (first | exact Shape.nil | (apply Shape.cons; conv => lhs; whnf))))
  refine qqV ?_
  refine qqV ?_
  exact c_ret rfl

theorem tsimple_12 (m : Nat) (b : Bar) (s : Sg) : callF T (m + 1) b 43 [.int .i64 12] s = some (.ret (.bool false), s) := by
  (apply f_of rfl rfl; (repeat (first | exact Shape.nil | (apply Shape.cons; conv => lhs; whnf))))
  refine qqV ?_
  refine qqV ?_
  exact c_ret rfl

theorem between_in (m : Nat) (b : Bar) (s : Sg) (n lo hi : Int) (h1 : lo ≤ n) (h2 : n ≤ hi) : callF T (m + 1) b 44 [.int .i64 n, .int .i64 lo, .int .i64 hi] s = some (.ret (.bool true), s) := by
  (apply f_of rfl rfl; (repeat (first | exact Shape.nil | (apply Shape.cons; conv => lhs; whnf))))
  refine qqV ?_
  refine qqV ?_
  exact c_ret rfl

/-- a character may be -/
theorem may_lit (m : Nat) (b : Bar) (s : Sg) (x : Int × Int) (h1 : 0 ≤ x.2) (h2 : x.2 ≤ 1114111) : callF T (m + 2) b 27 [.agg (litN x)] s = some (.ret (.bool true), s) := by
  refine eq_of_okF ?_
  (apply f_wp rfl rfl; (repeat (first | exact Shape.nil | (apply Shape.cons; conv => lhs; whnf))))
  refine qV ?_
  refine o_box (v := .agg (litN x)) (l := litN x) rfl rfl rfl ?_
  refine sV ?_
  refine eV ?_
  have hn := getCells_new s (litN x) 0
  refine qqV ?_
  refine qV ?_
  refine o_call rfl rfl (tsimple_1 m _ _) ?_
  refine sV ?_
  refine eV ?_
  refine lV ?_
  refine c_skip ?_
  refine qqV ?_
  refine bV ?_
  refine qqV ?_
  refine iV ?_
  refine qV ?_
  refine o_call rfl rfl (between_in m _ _ x.2 0 1114111 h1 h2) ?_
  refine sV ?_
  refine eV ?_
  exact c_ret (fin_ret (.inl rfl) (read_tmp rfl read_nil) (leave_pure (s := s) (ks := af27.results) (lay_ck (v := .bool true) (u := .bool true) rfl lay_nil rfl) rfl) ⟨rfl, rfl⟩)

/-- a sequence may be -/
theorem may_seq (m : Nat) (b : Bar) (s : Sg) (es : List AV) (hl : es.length < 2 ^ 40) (h1 : es.length ≠ 1) : callF T (m + 2) b 27 [.agg (kidsN 12 (.vec es .shut))] s = some (.ret (.bool true), s) := by
  refine eq_of_okF ?_
  (apply f_wp rfl rfl; (repeat (first | exact Shape.nil | (apply Shape.cons; conv => lhs; whnf))))
  refine qV ?_
  refine o_box (v := .agg (kidsN 12 (.vec es .shut))) (l := kidsN 12 (.vec es .shut)) rfl rfl rfl ?_
  refine sV ?_
  refine eV ?_
  have hn := getCells_new s (kidsN 12 (.vec es .shut)) 0
  refine qqV ?_
  refine qV ?_
  refine o_call rfl rfl (tsimple_12 m _ _) ?_
  refine sV ?_
  refine eV ?_
  (repeat (first | refine lV ?_ | refine iV ?_ | refine c_skip ?_ | refine bV ?_ | refine qqV ?_ | refine dqqV ?_))
  exact c_ret (fin_ret (.inl rfl) (read_tmp rfl read_nil) (leave_pure (s := s) (ks := af27.results) (lay_ck (v := .bool true) (u := .bool true) rfl lay_nil rfl) rfl) ⟨rfl, rfl⟩)

/-- Check's own question, of a node -/
theorem check1_spec (m : Nat) (b : Bar) (s : Sg) (cs : List AV) (d : Int) (hd : d ≤ 300) (hst : (AV.agg cs).stored = some cs) (h12 : cs.length = 12) (hm : ∀ (b : Bar) (s : Sg), callF T (m + 1) b 27 [.agg cs] s = some (.ret (.bool true), s)) :
    callF T (m + 2) b 26 [.agg cs, .int .i64 d] s = some (.ret (.bool true), s) := by
  have hp : partOf cs 0 (some 12) = some (.agg cs) := by
    unfold partOf
    rw [h12]
    show some (AV.agg (List.take 12 (List.drop 0 cs))) = _
    rw [List.drop_zero, ← h12, List.take_length]
  refine eq_of_okF ?_
  (apply f_wp rfl rfl; (repeat (first | exact Shape.nil | (apply Shape.cons; conv => lhs; whnf))))
  refine qV ?_
  refine o_box (v := .agg cs) (l := cs) rfl rfl hst ?_
  refine sV ?_
  refine eV ?_
  have hn := getCells_new s cs 0
  refine qV ?_
  refine o_call rfl rfl (hm _ _) ?_
  refine sV ?_
  refine eV ?_
  exact c_ret (fin_ret (.inl rfl) (read_tmp rfl read_nil) (leave_pure (s := s) (ks := af26.results) (lay_ck (v := .bool true) (u := .bool true) rfl lay_nil rfl) rfl) ⟨rfl, rfl⟩)

/-- what a walk leaves: one number is less -/
structure WS (s0 : Sg) (l : Nat) (k : Int) (s : Sg) : Prop where
  len : s0.heap.length ≤ s.heap.length
  at' : getCells s.heap l 0 = some [.int .i64 k]
  low : ∀ q, q < s0.heap.length → q ≠ l → s.heap[q]? = s0.heap[q]?

theorem WS.take {s0 : Sg} {l : Nat} {k : Int} {s : Sg} (h : WS s0 l k s) (hl : l < s0.heap.length) : s.heap.take s0.heap.length = (s0.put l (.cells [.int .i64 k] 0)).heap := by
  apply List.ext_getElem?
  intro q
  have hlen := h.len
  by_cases hq : q < s0.heap.length
  · rw [List.getElem?_take_of_lt hq]
    by_cases e : q = l
    · subst e
      rw [getCells_some h.at']; simp only [Sg.put, getElem?_setAt, if_true, hl]
    · rw [h.low q hq e, Sg.put_get _ _ _ e]
  · rw [List.getElem?_eq_none (by rw [List.length_take]; omega), List.getElem?_eq_none (by rw [Sg.put_len]; omega)]

end Go.Vmm

namespace Go.Vmm
open Go Go.Am Go.Proofs

/-- the loop 0 of function 25 -/
def lp25_0 : ACode := .seq (.region [Bn 31 .lss 30 29] [31]) (.seq (.cond (.tmp 31) (.skip) (.exit 0)) (.seq (.block 1 (.seq (.region [Vv 32 (.indexAddrS (some 12) (.tmp 28) (.tmp 30)), La 33 12 32, ⟨some 10, .e (.alloc [(.int .i64 0), (.int .i64 0), (.int .i64 0), .nilsl, (.bool false), (.int .i64 0), (.int .i64 0), (.int .i64 0), (.str []), (.int .i64 0), (.int .i64 0), .nilsl]), none⟩, St 12 10 33] [10]) (.seq (.region [La 34 12 10, Mv 35 1, Bc 36 .add 35 1, Mv 37 2, Mv 38 3, Cl 39 25 [Tm 34, Tm 36, Tm 37, Tm 38], Vv 40 (.un .not (.tmp 39))] [40]) (.cond (.tmp 40) (.seq (.region [Vv 8 (.move (.const (.bool false)))] [8]) (.ret)) (.skip))))) (.region [Bc 41 .add 30 1, Mv 30 41] [30])))

/-- a part of function 25 -/
def w25t : ACode := .seq (.seq (.region [Fa 27 11 4, Ld 28 27, Vv 29 (.len 1 (.tmp 28)), Mc 30 0] [28, 29, 30]) (.block 0 (.loop (.seq (.region [Bn 31 .lss 30 29] [31]) (.seq (.cond (.tmp 31) (.skip) (.exit 0)) (.seq (.block 1 (.seq (.region [Vv 32 (.indexAddrS (some 12) (.tmp 28) (.tmp 30)), La 33 12 32, ⟨some 10, .e (.alloc [(.int .i64 0), (.int .i64 0), (.int .i64 0), .nilsl, (.bool false), (.int .i64 0), (.int .i64 0), (.int .i64 0), (.str []), (.int .i64 0), (.int .i64 0), .nilsl]), none⟩, St 12 10 33] [10]) (.seq (.region [La 34 12 10, Mv 35 1, Bc 36 .add 35 1, Mv 37 2, Mv 38 3, Cl 39 25 [Tm 34, Tm 36, Tm 37, Tm 38], Vv 40 (.un .not (.tmp 39))] [40]) (.cond (.tmp 40) (.seq (.region [Vv 8 (.move (.const (.bool false)))] [8]) (.ret)) (.skip))))) (.region [Bc 41 .add 30 1, Mv 30 41] [30]))))))) (.seq (.region [Vv 8 (.move (.const (.bool true)))] [8]) (.ret))

theorem part_all {cs : List AV} (h12 : cs.length = 12) : partOf cs 0 (some 12) = some (.agg cs) := by
  unfold partOf
  rw [h12]
  show some (AV.agg (List.take 12 (List.drop 0 cs))) = _
  rw [List.drop_zero, ← h12, List.take_length]

/-- what comes ahead of the kids -/
theorem walk_head (m : Nat) (b : Bar) (l : Nat) (k : Int) (d : Int) (cs : List AV) (s : Sg) (hb : b.w ≤ l) (hd : d ≤ 300) (hk : 1 ≤ k) (hk2 : k ≤ 4000) (hst : (AV.agg cs).stored = some cs) (h12 : cs.length = 12)
    (hm : ∀ (b : Bar) (s : Sg), callF T (m + 1) b 27 [.agg cs] s = some (.ret (.bool true), s)) (hg : getCells s.heap l 0 = some [.int .i64 k]) {Q : Out → Sg → Prop}
    (hq : ∀ s2 : Sg, WS s l (k - 1) s2 → getCells s2.heap s.heap.length 0 = some cs → s2.heap.length = s.heap.length + 1 → 
      OkC (loopN (m + 2)) (callF T (m + 2)) (b.into .eff s) w25t ⟨[(0, .agg cs), (1, .int .i64 d), (2, .ptr l 0 0), (3, .func 26 [] []), (8, .bool false), (4, .ptr s.heap.length 0 0), (26, .bool false), (30, .undef), (29, .undef), (31, .undef), (28, .undef), (10, .undef), (40, .undef)], [], .off⟩ s2
        fun e fr' s' => OkF (finish (deferStep T (loopN (m + 2)) (callF T (m + 2))) (b.into af25.mode s) af25 s e fr' s') Q) :
    OkF (callF T (m + 3) b 25 [.agg cs, .int .i64 d, .ptr l 0 0, .func 26 [] []] s) Q := by
  have hl := getCells_lt hg
  have hp := part_all h12
  (apply f_wp rfl rfl; (repeat (first | exact Shape.nil | (apply Shape.cons; conv => lhs; whnf))))
  refine qV ?_
  refine o_box (v := .agg cs) (l := cs) rfl rfl hst ?_
  refine sV ?_
  refine eV ?_
  have hn := getCells_new s cs 0
  have hg1 := getCells_push (.cells cs 0) hg
  refine qV ?_
  refine o_st rfl rfl rfl rfl hg1 rfl (lets_of (blt_no hb) (fun e => rfl)) (cs' := [.int .i64 (k - 1)]) rfl ?_
  refine eV ?_
  have hn2 := getCells_put_ne (i := l) (o := .cells [.int .i64 (k - 1)] 0) (by omega) hn
  have hg2 := getCells_put (cs' := [.int .i64 (k - 1)]) (g' := 0) hg1
  have hW : WS s l (k - 1) ((s.push (.cells cs 0)).put l (.cells [.int .i64 (k - 1)] 0)) := by
    refine ⟨by rw [Sg.put_len]; simp [Sg.push], hg2, fun q hq hne => ?_⟩
    rw [Sg.put_get _ _ _ hne, Sg.push_get _ _ hq]
  have hlen : ((s.push (.cells cs 0)).put l (.cells [.int .i64 (k - 1)] 0)).heap.length = s.heap.length + 1 := by rw [Sg.put_len]; simp [Sg.push]
  generalize (s.push (.cells cs 0)).put l (.cells [.int .i64 (k - 1)] 0) = s2 at hn2 hg2 hW hlen ⊢
  refine qV ?_
  refine o_callv rfl rfl rfl rfl (check1_spec m _ _ cs d hd hst h12 hm) ?_
  refine sV ?_
  refine eV ?_
  (repeat (first | refine lV ?_ | refine iV ?_ | refine c_skip ?_ | refine bV ?_ | refine qqV ?_ | refine dqqV ?_))
  exact hq s2 hW hn2 hlen

/-- a walk through a leaf -/
theorem walk_lit (m : Nat) (b : Bar) (l : Nat) (k : Int) (d : Int) (x : Int × Int) (s : Sg) (hb : b.w ≤ l) (hd : d ≤ 300) (hk : 1 ≤ k) (hk2 : k ≤ 4000) (h1 : 0 ≤ x.2) (h2 : x.2 ≤ 1114111) (hg : getCells s.heap l 0 = some [.int .i64 k]) :
    callF T (m + 4) b 25 [.agg (litN x), .int .i64 d, .ptr l 0 0, .func 26 [] []] s = some (.ret (.bool true), s.put l (.cells [.int .i64 (k - 1)] 0)) := by
  refine eq_of_okF (walk_head (m + 1) b l k d _ s hb hd hk hk2 rfl rfl (fun b s => may_lit m b s x h1 h2) hg fun s2 hW hn2 hlen => ?_)
  refine qqV ?_
  refine bV ?_
  refine c_loop (x := lp25_0) ?_
  apply l_round
  refine qqV ?_
  refine lV ?_
  refine c_exit ?_
  show OkC _ _ _ _ _ _ _
  refine qqV ?_
  refine c_ret (fin_ret (fn := af25) (.inl rfl) (read_tmp rfl read_nil) (leave_eff (l := [.bool true]) (lay_ck (v := .bool true) (u := .bool true) rfl lay_nil rfl) rfl) ⟨rfl, ?_⟩)
  rw [hW.take (getCells_lt hg)]
  rfl

abbrev fr25 (cs es : List AV) (d : Int) (l A i : Nat) (x31 x10 x40 : AV) : Fr :=
  ⟨[(0, .agg cs), (1, .int .i64 d), (2, .ptr l 0 0), (3, .func 26 [] []), (8, .bool false), (4, .ptr A 0 0), (26, .bool false), (30, .int .i64 i), (29, .int .i64 es.length), (31, x31), (28, .vec es .shut), (10, x10), (40, x40)], [], .off⟩

theorem walk_loop (m : Nat) (b : Bar) (s0 : Sg) (cs : List AV) (d : Int) (l A : Nat) (hb : b.w ≤ l) (hbs : b.w ≤ s0.heap.length) (hd0 : 0 ≤ d) (hd : d < 300) (hl : l < s0.heap.length) (xs : List (Int × Int)) (hn : xs.length ≤ 1000) (hx : ∀ x ∈ xs, 0 ≤ x.2 ∧ x.2 ≤ 1114111) {Q : Ex → Fr → Sg → Prop}
    (hq : ∀ x31 x10 x40 s', WS s0 l (3999 - xs.length) s' → Q (.exit 0) (fr25 cs (navs xs) d l A xs.length x31 x10 x40) s') :
    ∀ (rest done : List (Int × Int)) (M : Nat) (x31 x10 x40 : AV) (s : Sg), xs = done ++ rest → rest.length + 1 ≤ M → WS s0 l (3999 - done.length) s →
    OkL M (fun fr s => ACode.run (loopN (m + 5)) (callF T (m + 5)) b lp25_0 fr s) (fr25 cs (navs xs) d l A done.length x31 x10 x40) s Q := by
  intro rest
  induction rest with
  | nil =>
    intro done M x31 x10 x40 s hl2 hM h
    obtain ⟨M, rfl⟩ : ∃ M', M = M' + 1 := ⟨M - 1, by omega⟩
    rw [List.append_nil] at hl2
    subst hl2
    have hnl : (navs xs).length = xs.length := by unfold navs; rw [List.length_map]
    apply l_round
    refine qqV ?_
    refine lV ?_
    exact c_exit (hq _ _ _ _ h)
  | cons x rest ih =>
    intro done M x31 x10 x40 s hl2 hM h
    obtain ⟨M, rfl⟩ : ∃ M', M = M' + 1 := ⟨M - 1, by omega⟩
    have hnl : (navs xs).length = xs.length := by unfold navs; rw [List.length_map]
    have hkl : done.length < xs.length := by rw [hl2]; simp
    have hget : xs[done.length]? = some x := by rw [hl2]; simp
    have hg2 : (navs xs)[done.length]? = some (.agg (litN x)) := by unfold navs; rw [List.getElem?_map, hget]; rfl
    obtain ⟨hx1, hx2⟩ := hx x (by rw [hl2]; simp)
    have hlen := h.len
    apply l_round
    refine qqV ?_
    refine iV ?_
    refine c_skip ?_
    refine bV ?_
    refine qV ?_
    refine o_ixvec (j := done.length) rfl rfl rfl rfl hg2 rfl ?_
    refine sV ?_
    refine o_alloc (z := kidsN 0 .nilsl) rfl ?_
    have hT := getCells_new s (kidsN 0 .nilsl) 0
    refine o_st rfl rfl rfl rfl hT rfl (lets_of (blt_no (by omega)) (fun e => rfl)) (cs' := litN x) rfl ?_
    have hT2 := getCells_put (cs' := litN x) (g' := 0) hT
    have hW : WS s0 l (3999 - done.length) ((s.push (.cells (kidsN 0 .nilsl) 0)).put s.heap.length (.cells (litN x) 0)) := by
      refine ⟨by rw [Sg.put_len]; simp [Sg.push]; omega, getCells_put_ne (by omega) (getCells_push _ h.at'), fun q hq hne => ?_⟩
      rw [Sg.put_get _ _ _ (by omega), Sg.push_get _ _ (by omega)]
      exact h.low q hq hne
    refine eV ?_
    revert hT2 hW
    generalize (s.push (.cells (kidsN 0 .nilsl) 0)).put s.heap.length (.cells (litN x) 0) = s2
    intro hT2 hW
    refine qV ?_
    refine o_call rfl rfl (walk_lit (m + 1) b l (3999 - done.length) (d + 1) x s2 hb (by omega) (by omega) (by omega) hx1 hx2 hW.at') ?_
    refine sV ?_
    refine eV ?_
    refine lV ?_
    refine c_skip ?_
    have hW2 : WS s0 l (3999 - (done ++ [x]).length) (s2.put l (.cells [.int .i64 (3999 - done.length - 1)] 0)) := by
      refine ⟨by rw [Sg.put_len]; exact hW.len, ?_, fun q hq hne => by rw [Sg.put_get _ _ _ hne]; exact hW.low q hq hne⟩
      rw [show ((3999 : Int) - ((done ++ [x]).length : Nat)) = 3999 - (done.length : Nat) - 1 by simp; omega]
      exact getCells_put hW.at'
    refine qqV ?_
    have hc1 : ((done.length : Nat) : Int) + 1 = ((done ++ [x]).length : Nat) := by simp
    rw [hc1]
    exact ih (done ++ [x]) M _ _ _ _ (by rw [hl2]; simp) (by simp at hM; omega) hW2

/-- a walk through a sequence -/
theorem walk_seq (m : Nat) (b : Bar) (l : Nat) (xs : List (Int × Int)) (s : Sg) (hb : b.w ≤ l) (hbs : b.w ≤ s.heap.length) (hn1 : xs.length ≠ 1) (hn : xs.length ≤ 1000) (hm : xs.length ≤ m) (hx : ∀ x ∈ xs, 0 ≤ x.2 ∧ x.2 ≤ 1114111) (hg : getCells s.heap l 0 = some [.int .i64 4000]) :
    callF T (m + 6) b 25 [.agg (kidsN 12 (.vec (navs xs) .shut)), .int .i64 1, .ptr l 0 0, .func 26 [] []] s = some (.ret (.bool true), s.put l (.cells [.int .i64 (3999 - xs.length)] 0)) := by
  have hnl : (navs xs).length = xs.length := by unfold navs; rw [List.length_map]
  refine eq_of_okF (walk_head (m + 3) b l 4000 1 _ s hb (by omega) (by omega) (by omega) rfl rfl (fun b s => may_seq (m + 2) b s _ (by omega) (by omega)) hg fun s2 hW hn2 hlen => ?_)
  refine qqV ?_
  refine bV ?_
  refine c_loop (x := lp25_0) ?_
  refine walk_loop m (b.into .eff s) s _ 1 l s.heap.length hb hbs (by omega) (by omega) (getCells_lt hg) xs hn hx ?_ xs [] (m + 5) _ _ _ s2 rfl (by omega) ⟨hW.len, hW.at', hW.low⟩
  intro x31 x10 x40 s' hW'
  show OkC _ _ _ _ _ _ _
  refine qqV ?_
  refine c_ret (fin_ret (fn := af25) (.inl rfl) (read_tmp rfl read_nil) (leave_eff (l := [.bool true]) (lay_ck (v := .bool true) (u := .bool true) rfl lay_nil rfl) rfl) ⟨rfl, ?_⟩)
  rw [hW'.take (getCells_lt hg)]
  rfl

end Go.Vmm

namespace Go.Vmm
open Go Go.Am Go.Proofs

/-- a raw tree of characters -/
structure RawOk (xs : List (Int × Int)) : Prop where
  ne : xs ≠ []
  len : xs.length ≤ 1000
  ch : ∀ x ∈ xs, 0 ≤ x.2 ∧ x.2 ≤ 127

theorem raw_cases (xs : List (Int × Int)) (h : xs ≠ []) : (∃ x, xs = [x]) ∨ (xs.length ≠ 1 ∧ rawN xs = kidsN 12 (.vec (navs xs) .shut)) := by
  match xs, h with
  | [x], _ => exact .inl ⟨x, rfl⟩
  | x :: y :: r, _ => exact .inr ⟨by simp, rfl⟩

theorem raw_stored (xs : List (Int × Int)) (h : xs ≠ []) : (AV.agg (rawN xs)).stored = some (rawN xs) ∧ (rawN xs).length = 12 := by
  rcases raw_cases xs h with ⟨x, rfl⟩ | ⟨_, e⟩
  · exact ⟨rfl, rfl⟩
  · rw [e]; exact ⟨rfl, rfl⟩

/-- Check, of a raw tree of characters -/
theorem check_spec (m : Nat) (b : Bar) (s : Sg) (xs : List (Int × Int)) (h : RawOk xs) (hm : xs.length ≤ m) : callF T (m + 7) b 10 [.agg (rawN xs)] s = some (.ret (.bool true), s) := by
  obtain ⟨hst, h12⟩ := raw_stored xs h.ne
  have hp := part_all h12
  refine eq_of_okF ?_
  (apply f_wp rfl rfl; (repeat (first | exact Shape.nil | (apply Shape.cons; conv => lhs; whnf))))
  refine qV ?_
  refine o_box (v := .agg (rawN xs)) (l := rawN xs) rfl rfl hst ?_
  refine sV ?_
  refine eV ?_
  have hA := getCells_new s (rawN xs) 0
  have hle : (s.push (.cells (rawN xs) 0)).heap.length = s.heap.length + 1 := by simp [Sg.push]
  generalize s.push (.cells (rawN xs) 0) = s1 at hA hle ⊢
  refine qV ?_
  refine o_alloc (z := [.int .i64 0]) rfl ?_
  have hB := getCells_new s1 [.int .i64 0] 0
  have hA1 := getCells_push (.cells [.int .i64 0] 0) hA
  refine o_st rfl rfl rfl rfl hB rfl (lets_nil (blt_no (by show s.heap.length ≤ s1.heap.length; omega)) rfl) (cs' := [.int .i64 4000]) rfl ?_
  have hB2 := getCells_put (cs' := [.int .i64 4000]) (g' := 0) hB
  have hA2 := getCells_put_ne (i := s1.heap.length) (o := .cells [.int .i64 4000] 0) (by omega) hA1
  have hl2 : ((s1.push (.cells [.int .i64 0] 0)).put s1.heap.length (.cells [.int .i64 4000] 0)).heap.length = s1.heap.length + 1 := by rw [Sg.put_len]; simp [Sg.push]
  refine eV ?_
  generalize (s1.push (.cells [.int .i64 0] 0)).put s1.heap.length (.cells [.int .i64 4000] 0) = s2 at hB2 hA2 hl2 ⊢
  have hw : callF T (m + 6) (b.into .pure s) 25 [.agg (rawN xs), .int .i64 1, .ptr s1.heap.length 0 0, .func 26 [] []] s2 = some (.ret (.bool true), s2.put s1.heap.length (.cells [.int .i64 (if xs.length = 1 then 3999 else 3999 - xs.length)] 0)) := by
    rcases raw_cases xs h.ne with ⟨x, rfl⟩ | ⟨hn1, e⟩
    · have hx := h.ch x (by simp)
      exact walk_lit (m + 2) _ _ 4000 1 x s2 (by show s.heap.length ≤ _; omega) (by omega) (by omega) (by omega) hx.1 (by omega) hB2
    · rw [e, if_neg hn1]
      exact walk_seq m _ _ xs s2 (by show s.heap.length ≤ _; omega) (by show s.heap.length ≤ _; omega) hn1 h.len hm (fun x hx => ⟨(h.ch x hx).1, by have := (h.ch x hx).2; omega⟩) hB2
  refine qV ?_
  refine o_call rfl rfl hw ?_
  refine sV ?_
  refine eV ?_
  exact c_ret (fin_ret (fn := af10) (.inl rfl) (read_tmp rfl read_nil) (leave_pure (lay_ck (v := .bool true) (u := .bool true) rfl lay_nil rfl) rfl) ⟨rfl, rfl⟩)

end Go.Vmm
