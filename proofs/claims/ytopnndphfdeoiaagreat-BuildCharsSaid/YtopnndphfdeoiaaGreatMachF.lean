/-
  The abstract machine: arguments of any make.
-/
import Derived.Test.YtopnndphfdeoiaaGreatMachD

/-
  The abstract machine, forty-first part: rows of two numbers among the arguments.
-/
namespace Go.Am
open Go.ChangeShapes Go.WideShapes Go.RowKit

/-- rows of two numbers -/
def pairAV (k : IntKind) (l : List (Int × Int)) : List AV := l.map fun x => .agg [.int k x.1, .int k x.2]

theorem pairAV_len (k : IntKind) (l : List (Int × Int)) : (pairAV k l).length = l.length := by simp [pairAV]
theorem pairAV_size (k : IntKind) : ∀ l : List (Int × Int), allSize 2 (pairAV k l) = true
  | [] => rfl
  | _ :: r => by
    have := pairAV_size k r
    simp only [pairAV, List.map_cons, allSize, AV.flat] at this ⊢
    simp [this]
theorem pairAV_one (k : IntKind) : ∀ l : List (Int × Int), allOneAll (pairAV k l) = true
  | [] => rfl
  | _ :: r => by
    have := pairAV_one k r
    simp only [pairAV, List.map_cons, allOneAll, AV.flat] at this ⊢
    simp [this, allOne, AV.one]
theorem pairAV_get (k : IntKind) : ∀ (l : List (Int × Int)) (j : Nat), (flatAll (pairAV k l))[j]? = (l[j / 2]?).map fun x => .int k (if j % 2 = 0 then x.1 else x.2)
  | [], j => by simp [pairAV, flatAll]
  | x :: r, 0 => by simp [pairAV, flatAll, AV.flat]
  | x :: r, 1 => by simp [pairAV, flatAll, AV.flat]
  | x :: r, j + 2 => by
    have ih := pairAV_get k r j
    have e1 : (j + 2) / 2 = j / 2 + 1 := by omega
    have e2 : (j + 2) % 2 = j % 2 := by omega
    simp only [pairAV, List.map_cons, flatAll, AV.flat] at ih ⊢
    rw [e1, e2]
    simpa using ih

section
variable {H : Type} {enc : TypeId × Value → H} {P : Program} {W : World}

theorem rows_of {α β : Type} (len : Nat) (A : Nat → α → β → Prop) (each : ∀ i, i < len → ∃ x y, A i x y) : ∃ l : List (α × β), l.length = len ∧ ∀ i x, l[i]? = some x → A i x.1 x.2 := by
  induction len with
  | zero => exact ⟨[], rfl, fun i x h => by simp at h⟩
  | succ m ih =>
    obtain ⟨l, e1, e2⟩ := ih (fun i hi => each i (by omega))
    obtain ⟨x, y, hx⟩ := each m (by omega)
    refine ⟨l ++ [(x, y)], by simp [e1], ?_⟩
    intro i z hz
    by_cases hi : i < l.length
    · rw [List.getElem?_append_left hi] at hz; exact e2 i z hz
    · have : i = l.length := by have := lt_of_getElem? hz; simp at this; omega
      subst this
      simp at hz
      subst hz
      rw [e1]; exact hx

theorem lay_pairs {r : Reach} {base : Nat} {t e : TypeId} {f0 f1 : Field} {k : IntKind} {v : Value} {d : DataW H} {ps : List MemPlace} (ht : P.underlying t = some (.slice e)) (he : P.underlying e = some (.struct #[f0, f1])) (hc : P.cellsOf e = 2)
    (h0 : P.underlying f0.type = some (.int k)) (h1 : P.underlying f1.type = some (.int k)) (c0 : P.cellsOf f0.type = 1) (c1 : P.cellsOf f1.type = 1) (o0 : f0.offset = 0) (o1 : f1.offset = 1)
    (hval : Value.okWide P W r base t v) (hd : DataW.Trod enc P W 0 (fun _ => true) true t v d ps) : ∃ l : List (Int × Int), VR (Gh.start W) W (.vec (pairAV k l) .shut) v ∧ l.length ≤ 2 ^ 63 - 1 := by
  obtain ⟨a0, len, cap, rfl⟩ := okWide_slice ht hval
  obtain ⟨fuel, hf⟩ := hd
  rcases DataW.trod_slice ht hf with ⟨hcs, _⟩ | ⟨a, len', cap', elems, rest, n, _, hcs, _, _, hl, hmx, hlen, hel, _, _⟩
  · simp only [Value.cells, List.cons.injEq, Value.slice.injEq, and_true] at hcs
    obtain ⟨rfl, rfl, rfl⟩ := hcs
    exact ⟨[], .vecNil _ trivial, Nat.zero_le _⟩
  · simp only [Value.cells, List.cons.injEq, Value.slice.injEq, and_true] at hcs
    obtain ⟨rfl, rfl, rfl⟩ := hcs
    have hspot : a.spot = none := by
      simp only [Value.okWide, ht, Cell.okWide, Cell.ok] at hval
      exact hval.2.2.2.1
    obtain ⟨b, o, sp⟩ := a
    cases hspot
    -- each element's two cells
    have each : ∀ i, i < len → ∃ x y : Int, W.cell? ⟨b, o + i * 2, none⟩ = some (.int k x) ∧ W.cell? ⟨b, o + (i * 2 + 1), none⟩ = some (.int k y) := by
      intro i hi
      have hx : elems[i]? = some (elems[i]'(by omega)) := List.getElem?_eq_getElem (by omega)
      have h2 := (hel i hi).trans hx
      rw [hc, Option.bind_eq_some_iff] at h2
      obtain ⟨cs, hcs, htr⟩ := h2
      obtain ⟨_, hcl, hcc⟩ := World.cells?_some hcs
      obtain ⟨y0, y1, n', _, _, t0, t1⟩ := trod_struct2 he htr
      rw [o0, c0] at t0
      rw [o1, c1] at t1
      obtain ⟨x, ex, _⟩ := DataW.trod_int h0 t0
      obtain ⟨y, ey, _⟩ := DataW.trod_int h1 t1
      have g0 := hcc 0 (by omega)
      have g1 := hcc 1 (by omega)
      match cs, hcl with
      | [u, w], _ =>
        simp at ex ey
        subst ex ey
        rw [add_plain, add_plain] at g0 g1
        exact ⟨x, y, by simpa using g0, by simpa [Nat.add_assoc] using g1⟩
    obtain ⟨l, hll, hl12⟩ := rows_of len (fun i x y => W.cell? ⟨b, o + i * 2, none⟩ = some (.int k x) ∧ W.cell? ⟨b, o + (i * 2 + 1), none⟩ = some (.int k y)) each
    have hl1 := fun i x h => (hl12 i x h).1
    have hl2 := fun i x h => (hl12 i x h).2
    have hpl := pairAV_len k l
    have hfl : (flatAll (pairAV k l)).length = len * 2 := by rw [flatAll_length (pairAV_size k l), hpl, hll]
    refine ⟨l, ?_, by simp only [maxLen] at hmx; omega⟩
    have hcell : ∀ j, j < len * 2 → ∃ x, l[j / 2]? = some x ∧ W.cell? ⟨b, o + j, none⟩ = some (.int k (if j % 2 = 0 then x.1 else x.2)) := by
      intro j hj
      have hx : l[j / 2]? = some (l[j / 2]'(by omega)) := List.getElem?_eq_getElem (by omega)
      refine ⟨_, hx, ?_⟩
      by_cases hm : j % 2 = 0
      · rw [if_pos hm]
        have := hl1 _ _ hx
        rw [show o + j / 2 * 2 = o + j by omega] at this
        exact this
      · rw [if_neg hm]
        have := hl2 _ _ hx
        rw [show o + (j / 2 * 2 + 1) = o + j by omega] at this
        exact this
    have hv := VR.vec (γ := Gh.start W) (w := W) (pairAV k l) .shut b o cap 2 (fun j => (W.cell? ⟨b, o + j, none⟩).getD default) (by omega) (pairAV_size k l) (pairAV_one k l)
      (by
        intro j hj
        rw [hfl] at hj
        obtain ⟨x, _, h⟩ := hcell j hj
        refine ⟨cell_lt h, ?_⟩
        show _ = some ((W.cell? ⟨b, o + j, none⟩).getD default)
        rw [h]
        rfl)
      (by
        intro j u hu
        have hj : j < len * 2 := by have := lt_of_getElem? hu; omega
        obtain ⟨x, hx, h⟩ := hcell j hj
        rw [pairAV_get, hx] at hu
        cases hu
        show VR _ W _ ((W.cell? ⟨b, o + j, none⟩).getD default)
        rw [h]
        exact .int _ _)
      trivial
    rw [hpl, hll] at hv
    exact hv
end

end Go.Am

/-
  The abstract machine: arguments of any make of numbers, texts, bools, slices and structs of them.
-/
namespace Go.Am
open Go.ChangeShapes Go.WideShapes Go.RowKit

/-- a type's make; a struct's fields are of one cell each -/
inductive Sh where
  | int (k : IntKind)
  | str
  | bool
  | sl (e : Sh)
  | st (fs : List Sh)

/-- how many cells -/
def Sh.size : Sh → Nat
  | .st fs => fs.length
  | _ => 1

/-- of one cell -/
def Sh.flat1 : Sh → Bool
  | .st _ => false
  | _ => true

mutual
/-- is a type of a make? -/
def Sh.is (P : Program) : Sh → TypeId → Bool
  | .int k, t => (match P.underlying t with | some (.int k') => k == k' | _ => false) && Nat.beq (P.cellsOf t) 1
  | .str, t => (match P.underlying t with | some .string => true | _ => false) && Nat.beq (P.cellsOf t) 1
  | .bool, t => (match P.underlying t with | some .bool => true | _ => false) && Nat.beq (P.cellsOf t) 1
  | .sl e, t => (match P.underlying t with | some (.slice et) => Sh.is P e et && Nat.blt 0 e.size | _ => false) && Nat.beq (P.cellsOf t) 1
  | .st fs, t => (match P.underlying t with | some (.struct fl) => Sh.areAll P 0 fs fl.toList | _ => false) && Nat.beq (P.cellsOf t) fs.length
def Sh.areAll (P : Program) : Nat → List Sh → List Field → Bool
  | _, [], [] => true
  | n, s :: ss, f :: fl => s.flat1 && (Sh.is P s f.type && (Nat.beq f.offset n && Sh.areAll P (n + 1) ss fl))
  | _, _, _ => false
end

mutual
/-- is a value of a make? -/
inductive Sh.Has : Sh → AV → Prop
  | int (k n) : (Lit.int k n).wf = true → Sh.Has (.int k) (.int k n)
  | str (s : List UInt8) : Sh.Has .str (.str s)
  | bool (b) : Sh.Has .bool (.bool b)
  | sl (e es) : (∀ x ∈ es, Sh.Has e x) → es.length ≤ 2 ^ 63 - 1 → Sh.Has (.sl e) (.vec es .shut)
  | st (fs cs) : fs.length = cs.length → (∀ (j : Nat) s c, fs[j]? = some s → cs[j]? = some c → Sh.Has s c) → Sh.Has (.st fs) (.agg cs)
end

theorem Sh.is_size {P : Program} : ∀ {s : Sh} {t : TypeId}, s.is P t = true → P.cellsOf t = s.size
  | .int _, t, h => by simp only [Sh.is, Bool.and_eq_true] at h; exact Nat.eq_of_beq_eq_true h.2
  | .str, t, h => by simp only [Sh.is, Bool.and_eq_true] at h; exact Nat.eq_of_beq_eq_true h.2
  | .bool, t, h => by simp only [Sh.is, Bool.and_eq_true] at h; exact Nat.eq_of_beq_eq_true h.2
  | .sl _, t, h => by simp only [Sh.is, Bool.and_eq_true] at h; exact Nat.eq_of_beq_eq_true h.2
  | .st _, t, h => by simp only [Sh.is, Bool.and_eq_true] at h; exact Nat.eq_of_beq_eq_true h.2

theorem Sh.areAll_get {P : Program} : ∀ {fs : List Sh} {fl : List Field} {n : Nat}, Sh.areAll P n fs fl = true → fs.length = fl.length ∧ ∀ (j : Nat) s f, fs[j]? = some s → fl[j]? = some f → s.flat1 = true ∧ s.is P f.type = true ∧ f.offset = n + j
  | [], [], n, _ => ⟨rfl, fun j s f h => by simp at h⟩
  | [], _ :: _, _, h => by cases h
  | _ :: _, [], _, h => by cases h
  | s :: ss, f :: fl, n, h => by
    simp only [Sh.areAll, Bool.and_eq_true] at h
    obtain ⟨h1, h2, h3, h4⟩ := h
    obtain ⟨g1, g2⟩ := Sh.areAll_get h4
    refine ⟨by simp [g1], fun j s' f' hs hf => ?_⟩
    cases j with
    | zero =>
      simp at hs hf
      subst hs; subst hf
      exact ⟨h1, h2, Nat.eq_of_beq_eq_true h3⟩
    | succ j =>
      obtain ⟨a, b, c⟩ := g2 j s' f' (by simpa using hs) (by simpa using hf)
      exact ⟨a, b, by omega⟩

theorem Sh.Has.flat {s : Sh} {v : AV} (h : s.Has v) (h1 : s.flat1 = true) : v.flat = [v] ∧ v.one = true := by
  cases h with
  | st => cases h1
  | _ => exact ⟨rfl, rfl⟩

theorem Sh.Has.size {s : Sh} {v : AV} (h : s.Has v) : v.flat.length = s.size := by
  cases h with
  | st fs cs h1 h2 => exact h1.symm
  | _ => rfl

/-- what is chosen of each number below a bound -/
theorem each_list {α : Type} (len : Nat) (A : Nat → α → Prop) (each : ∀ i, i < len → ∃ x, A i x) : ∃ l : List α, l.length = len ∧ ∀ (i : Nat) x, l[i]? = some x → A i x := by
  induction len with
  | zero => exact ⟨[], rfl, fun i x h => by simp at h⟩
  | succ m ih =>
    obtain ⟨l, e1, e2⟩ := ih (fun i hi => each i (by omega))
    obtain ⟨x, hx⟩ := each m (by omega)
    refine ⟨l ++ [x], by simp [e1], ?_⟩
    intro i z hz
    by_cases hi : i < l.length
    · rw [List.getElem?_append_left hi] at hz; exact e2 i z hz
    · have : i = l.length := by have := lt_of_getElem? hz; simp at this; omega
      subst this
      simp at hz
      subst hz
      rw [e1]; exact hx

section
variable {H : Type} {enc : TypeId × Value → H} {P : Program} {W : World}

theorem cell_spot {a : Addr} {v : Value} (h : W.cell? a = some v) : a.spot = none := by
  unfold World.cell? at h
  split at h
  · split at h
    · cases h
    · rename_i hs
      cases hs' : a.spot with
      | none => rfl
      | some x => rw [hs'] at hs; simp at hs
  · cases h

/-- values of a make, as they lie in a world at the beginning -/
theorem lay_trod : ∀ (fuel : Nat) {s : Sh} {t : TypeId} {cs : List Value} {x : DataW H × List MemPlace}, s.is P t = true → DataW.trod enc P W 0 (fun _ => true) true fuel t cs = some x →
    cs.length = s.size ∧ ∃ v, s.Has v ∧ allOne v.flat = true ∧ ∀ (j : Nat) u c, v.flat[j]? = some u → cs[j]? = some c → VR (Gh.start W) W u c
  | 0, s, t, cs, x, _, h => by simp [DataW.trod] at h
  | n + 1, s, t, cs, x, hs, h => by
    have one : ∀ {v : AV} {c : Value}, cs = [c] → v.flat = [v] → v.one = true → s.Has v → VR (Gh.start W) W v c → s.size = 1 → cs.length = s.size ∧ ∃ v, s.Has v ∧ allOne v.flat = true ∧ ∀ (j : Nat) u c, v.flat[j]? = some u → cs[j]? = some c → VR (Gh.start W) W u c := fun {v c} hc hf h1 hh hv hz => by
      subst hc
      refine ⟨hz.symm, v, hh, by rw [hf]; simp [allOne, h1], fun j u c' hu hc' => ?_⟩
      rw [hf] at hu
      cases j with
      | zero => simp at hu hc'; subst hu; subst hc'; exact hv
      | succ j => simp at hu
    cases s with
    | int k =>
      simp only [Sh.is, Bool.and_eq_true] at hs
      have ht : P.underlying t = some (.int k) := by
        have := hs.1
        split at this
        · rename_i k' e; rw [e]; simp at this; rw [this]
        · cases this
      obtain ⟨m, rfl, _, hw⟩ := DataW.trod_int ht h
      exact one rfl rfl rfl (.int k m hw) (.int k m) rfl
    | str =>
      simp only [Sh.is, Bool.and_eq_true] at hs
      have ht : P.underlying t = some .string := by
        have := hs.1
        split at this
        · assumption
        · cases this
      obtain ⟨b, rfl, _, _⟩ := DataW.trod_string ht h
      exact one rfl rfl rfl (.str _) (.str b) rfl
    | bool =>
      simp only [Sh.is, Bool.and_eq_true] at hs
      have ht : P.underlying t = some .bool := by
        have := hs.1
        split at this
        · assumption
        · cases this
      obtain ⟨b, rfl, _⟩ := DataW.trod_bool ht h
      exact one rfl rfl rfl (.bool b) (.bool b) rfl
    | st fs =>
      have hsz := Sh.is_size hs
      simp only [Sh.is, Bool.and_eq_true] at hs
      obtain ⟨fl, ht, hall⟩ : ∃ fl, P.underlying t = some (.struct fl) ∧ Sh.areAll P 0 fs fl.toList = true := by
        have := hs.1
        split at this
        · rename_i fl e; exact ⟨fl, e, this⟩
        · cases this
      obtain ⟨xs, n', hn, _, hcl, hxl, hf⟩ := DataW.trod_struct ht h
      obtain rfl : n = n' := by omega
      obtain ⟨g1, g2⟩ := Sh.areAll_get hall
      have hfl : fs.length = fl.size := by rw [g1]; simp
      have hcl' : cs.length = fs.length := by rw [hcl, hsz]; rfl
      have each : ∀ i, i < fs.length → ∃ v, ∃ s', fs[i]? = some s' ∧ s'.Has v ∧ v.flat = [v] ∧ v.one = true ∧ ∀ c, cs[i]? = some c → VR (Gh.start W) W v c := fun i hi => by
        have hif : i < fl.size := by omega
        have e1 : fs[i]? = some fs[i] := List.getElem?_eq_getElem hi
        have e2 : fl.toList[i]? = some fl[i] := by rw [Array.getElem?_toList]; exact Array.getElem?_eq_getElem hif
        obtain ⟨q1, q2, q3⟩ := g2 i _ _ e1 e2
        have h1 := hf i fl[i] (Array.getElem?_eq_getElem hif)
        have e3 : xs[i]? = some (xs[i]'(by omega)) := List.getElem?_eq_getElem (by omega)
        rw [e3] at h1
        obtain ⟨r1, v, r2, r3, r4⟩ := lay_trod n q2 h1
        obtain ⟨r5, r6⟩ := r2.flat q1
        refine ⟨v, _, e1, r2, r5, r6, fun c hc => r4 0 v c (by rw [r5]; rfl) ?_⟩
        have hz : P.cellsOf fl[i].type = 1 := by
          rw [Sh.is_size q2, ← r2.size, r5]; rfl
        rw [hz, q3, Nat.zero_add, List.getElem?_take, if_pos (by omega), List.getElem?_drop]
        simpa using hc
      obtain ⟨l, hl1, hl2⟩ := each_list fs.length _ each
      have hone : allOne l = true := allOne_of fun j u hu => by obtain ⟨_, _, _, _, h1, _⟩ := hl2 j u hu; exact h1
      refine ⟨hcl', .agg l, .st fs l hl1.symm (fun j s' c hs' hc' => ?_), hone, fun j u c hu hc => ?_⟩
      · obtain ⟨s2, q1, q2, _⟩ := hl2 j c hc'
        rw [hs'] at q1
        cases q1
        exact q2
      · obtain ⟨_, _, _, _, _, q⟩ := hl2 j u hu
        exact q c hc
    | sl e =>
      simp only [Sh.is, Bool.and_eq_true] at hs
      obtain ⟨et, ht, hall, hpos⟩ : ∃ et, P.underlying t = some (.slice et) ∧ e.is P et = true ∧ 0 < e.size := by
        have := hs.1
        split at this
        · rename_i et e'
          simp only [Bool.and_eq_true, Nat.blt_eq] at this
          exact ⟨et, e', this.1, this.2⟩
        · cases this
      have hcz := Sh.is_size hall
      rcases DataW.trod_slice ht h with ⟨rfl, _⟩ | ⟨a, len, cap, elems, rest, n', hn, rfl, _, _, hlc, hmx, hel, hget, hsp, _⟩
      · exact one rfl rfl rfl (.sl e [] (fun x hx => by cases hx) (Nat.zero_le _)) (.vecNil .shut trivial) rfl
      · obtain rfl : n = n' := by omega
        by_cases hc0 : cap = 0
        · subst hc0
          obtain rfl : len = 0 := by omega
          exact one rfl rfl rfl (.sl e [] (fun x hx => by cases hx) (Nat.zero_le _)) (.vecE a) rfl
        -- the address is a plain one
        have hspot : a.spot = none := by
          have add0 : ∀ x : Addr, x.add 0 = x := fun x => by simp [Addr.add]
          have first : ∀ {cs' : List Value}, W.cells? 0 (a.add (0 * P.cellsOf et)) (P.cellsOf et) = some cs' → a.spot = none := fun {cs'} hcs => by
            rw [Nat.zero_mul, add0] at hcs
            obtain ⟨_, hcl, hcc⟩ := World.cells?_some hcs
            have h0 := hcc 0 (by omega)
            rw [add0] at h0
            have : cs'[0]? = some (cs'[0]'(by omega)) := List.getElem?_eq_getElem (by omega)
            rw [this] at h0
            exact cell_spot h0
          by_cases hl0 : len = 0
          · obtain ⟨r1, r2⟩ := hsp rfl
            have h0 := r2 0 (by omega)
            have e0 : rest[0]? = some (rest[0]'(by omega)) := List.getElem?_eq_getElem (by omega)
            rw [e0, Option.bind_eq_some_iff] at h0
            obtain ⟨cs', hcs, _⟩ := h0
            rw [hl0] at hcs
            exact first hcs
          · have h0 := hget 0 (by omega)
            have e0 : elems[0]? = some (elems[0]'(by omega)) := List.getElem?_eq_getElem (by omega)
            rw [e0, Option.bind_eq_some_iff] at h0
            obtain ⟨cs', hcs, _⟩ := h0
            exact first hcs
        obtain ⟨b, o, sp⟩ := a
        cases hspot
        have each : ∀ i, i < len → ∃ v, e.Has v ∧ allOne v.flat = true ∧ ∀ k, k < e.size → ∃ c, W.cell? ⟨b, o + (i * e.size + k), none⟩ = some c ∧ ∀ u, v.flat[k]? = some u → VR (Gh.start W) W u c := fun i hi => by
          have h0 := hget i hi
          have e0 : elems[i]? = some (elems[i]'(by omega)) := List.getElem?_eq_getElem (by omega)
          rw [e0, Option.bind_eq_some_iff] at h0
          obtain ⟨cs', hcs, htr⟩ := h0
          obtain ⟨r1, v, r2, r3, r4⟩ := lay_trod n hall htr
          obtain ⟨_, hcl, hcc⟩ := World.cells?_some hcs
          refine ⟨v, r2, r3, fun k hk => ?_⟩
          have h1 := hcc k (by omega)
          have e1 : cs'[k]? = some (cs'[k]'(by omega)) := List.getElem?_eq_getElem (by omega)
          rw [e1, add_plain, add_plain] at h1
          refine ⟨_, by rw [hcz] at h1; simpa [Nat.add_assoc] using h1, fun u hu => r4 k u _ hu e1⟩
        obtain ⟨es, hl1, hl2⟩ := each_list len _ each
        have hsize : allSize e.size es = true := by
          have : ∀ (l : List AV), (∀ (i : Nat) x, l[i]? = some x → x.flat.length = e.size) → allSize e.size l = true := fun l => by
            induction l with
            | nil => intro _; rfl
            | cons y r ih =>
              intro hh
              simp only [allSize, Bool.and_eq_true]
              exact ⟨by rw [hh 0 y rfl]; exact Nat.beq_refl _, ih fun i x hx => hh (i + 1) x (by simpa using hx)⟩
          exact this es fun i x hx => (hl2 i x hx).1.size
        have hone : allOneAll es = true := by
          have : ∀ (l : List AV), (∀ (i : Nat) x, l[i]? = some x → allOne x.flat = true) → allOneAll l = true := fun l => by
            induction l with
            | nil => intro _; rfl
            | cons y r ih =>
              intro hh
              simp only [allOneAll, Bool.and_eq_true]
              exact ⟨hh 0 y rfl, ih fun i x hx => hh (i + 1) x (by simpa using hx)⟩
          exact this es fun i x hx => (hl2 i x hx).2.1
        have hfl := flatAll_length hsize
        have hcell : ∀ j, j < (flatAll es).length → ∃ c, W.cell? ⟨b, o + j, none⟩ = some c ∧ ∀ u, (flatAll es)[j]? = some u → VR (Gh.start W) W u c := fun j hj => by
          have hd : j / e.size < es.length := by rw [hfl] at hj; exact Nat.div_lt_of_lt_mul (by rw [Nat.mul_comm]; exact hj)
          have hm : j % e.size < e.size := Nat.mod_lt _ hpos
          have e1 : es[j / e.size]? = some es[j / e.size] := List.getElem?_eq_getElem hd
          obtain ⟨_, _, r⟩ := hl2 _ _ e1
          obtain ⟨c, r1, r2⟩ := r (j % e.size) hm
          have ej : j / e.size * e.size + j % e.size = j := by rw [Nat.mul_comm]; exact Nat.div_add_mod j e.size
          rw [ej] at r1
          refine ⟨c, r1, fun u hu => r2 u ?_⟩
          rw [← flatAll_get hsize e1 hm, ej]
          exact hu
        have hv := VR.vec (γ := Gh.start W) (w := W) es .shut b o cap e.size (fun j => (W.cell? ⟨b, o + j, none⟩).getD default) (by omega) hsize hone
          (by
            intro j hj
            obtain ⟨c, hc, _⟩ := hcell j hj
            refine ⟨cell_lt hc, ?_⟩
            show _ = some ((W.cell? ⟨b, o + j, none⟩).getD default)
            rw [hc]
            rfl)
          (by
            intro j u hu
            obtain ⟨c, hc, hr⟩ := hcell j (lt_of_getElem? hu)
            show VR _ W _ ((W.cell? ⟨b, o + j, none⟩).getD default)
            rw [hc]
            exact hr u hu)
          trivial
        rw [hl1] at hv
        refine one rfl rfl rfl (.sl e es (fun x hx => ?_) (by simp only [maxLen] at hmx; omega)) hv rfl
        obtain ⟨i, hi, rfl⟩ := List.mem_iff_getElem.1 hx
        exact (hl2 i _ (List.getElem?_eq_getElem hi)).1

/-- an argument of one cell -/
theorem lay_sh {s : Sh} {r : Reach} {base : Nat} {t : TypeId} {v : Value} {d : DataW H} {ps : List MemPlace} (hs : s.is P t = true) (h1 : s.flat1 = true) (hval : Value.okWide P W r base t v) (hd : DataW.Trod enc P W 0 (fun _ => true) true t v d ps) :
    ∃ u, VR (Gh.start W) W u v ∧ s.Has u := by
  obtain ⟨fuel, hf⟩ := hd
  obtain ⟨g1, u, g2, g3, g4⟩ := lay_trod fuel hs hf
  obtain ⟨g5, g6⟩ := g2.flat h1
  have hsz : s.size = 1 := by rw [← g2.size, g5]; rfl
  refine ⟨u, g4 0 u v (by rw [g5]; rfl) ?_, g2⟩
  rw [hsz] at g1
  cases v with
  | agg cs =>
    cases s with
    | st => cases h1
    | int k =>
      simp only [Sh.is, Bool.and_eq_true] at hs
      have ht : P.underlying t = some (.int k) := by
        have := hs.1
        split at this
        · rename_i k' e; rw [e]; simp at this; rw [this]
        · cases this
      simp [Value.okWide, ht, Cell.okWide, Cell.ok] at hval
    | str =>
      simp only [Sh.is, Bool.and_eq_true] at hs
      have ht : P.underlying t = some .string := by
        have := hs.1
        split at this
        · assumption
        · cases this
      simp [Value.okWide, ht, Cell.okWide, Cell.ok] at hval
    | bool =>
      simp only [Sh.is, Bool.and_eq_true] at hs
      have ht : P.underlying t = some .bool := by
        have := hs.1
        split at this
        · assumption
        · cases this
      simp [Value.okWide, ht, Cell.okWide, Cell.ok] at hval
    | sl e =>
      simp only [Sh.is, Bool.and_eq_true] at hs
      obtain ⟨et, ht⟩ : ∃ et, P.underlying t = some (.slice et) := by
        have := hs.1
        split at this
        · rename_i et e'; exact ⟨et, e'⟩
        · cases this
      simp [Value.okWide, ht, Cell.okWide, Cell.ok] at hval
  | _ => rfl

/-- how long a slice among the arguments is -/
theorem slice_len {e et : TypeId} {t : TypeId} {v : Value} {d : DataW H} {ps : List MemPlace} {es : List AV} {tl : Tail} (ht : P.underlying t = some (.slice et)) (hv : VR (Gh.start W) W (.vec es tl) v) (hd : DataW.Trod enc P W 0 (fun _ => true) true t v d ps) :
    es = [] ∨ ∃ elems spare, d = .slice elems spare ∧ elems.length = es.length := by
  obtain ⟨fuel, hf⟩ := hd
  rcases DataW.trod_slice ht hf with ⟨hcs, _⟩ | ⟨a, len, cap, elems, rest, n', hn, hcs, hx, _, _, _, hel, _, _⟩
  · left
    cases hv with
    | vecNil _ _ => rfl
    | vecE a => rfl
    | vec _ _ b o cap sz cs h1 h2 h3 hl hr h6 => simp [Value.cells] at hcs
  · right
    refine ⟨_, _, congrArg Prod.fst hx, ?_⟩
    cases hv with
    | vecNil _ _ => simp [Value.cells] at hcs
    | vecE a =>
      simp only [Value.cells, List.cons.injEq, Value.slice.injEq, and_true] at hcs
      simp only [List.length_map, List.length_nil]
      omega
    | vec _ _ b o cap sz cs h1 h2 h3 hl hr h6 =>
      simp only [Value.cells, List.cons.injEq, Value.slice.injEq, and_true] at hcs
      simp only [List.length_map]
      omega
end

end Go.Am
