/-
  The abstract machine: appends, slices, effects, calls; that one operation is the model's.
-/
import Derived.Test.YtdbjemmoaldelaaMachA
import Derived.Deep.AppendSrc
import Derived.Laws.AppendOwn
import Derived.Room.Entries
import Derived.Deep.Upon
import Derived.Recover

/-
  The abstract machine, twelfth part: operations that change the abstract heap, or the tokens.
-/
namespace Go.Am
open Go.RowKit (Below)

variable {P : Program} {γ : Gh} {w : World} {s : Sg}

-- ---------------------------------------------------------------- stores

theorem frozen_no {b o : Nat} {c : Array Value} {e : TypeId} {fr : Nat × Nat} (h : w.heap[b]? = some (.cells c e fr)) (hf : FrOk fr c.size) (ho : o < c.size) : w.frozen? ⟨b, o, none⟩ = false := by
  obtain ⟨lo, hi⟩ := fr
  simp only [World.frozen?, h, Bool.and_eq_false_iff, decide_eq_false_iff_not]
  rcases hf with hf | hf
  · simp only at hf; omega
  · simp only at hf; omega

theorem run_storeCells_fr (P : Program) (b o : Nat) (e : TypeId) (fr : Nat × Nat) : ∀ (vs : List Value) (i : Nat) (c : Array Value) (w : World), w.heap[b]? = some (.cells c e fr) → FrOk fr c.size → o + i + vs.length ≤ c.size → (∀ v ∈ vs, v.oneCell' = true) →
    (storeCells ⟨b, o, none⟩ vs i).run P w = .ok () (w.setRow b (splice c (o + i) vs))
  | [], i, c, w, hg, _, _, _ => by
    have : splice c (o + i) [] = c := by simp [splice]
    rw [this, setRow_self w b c e fr hg]
    rfl
  | v :: rest, i, c, w, hg, hf, hl, h1 => by
    have hi : o + i < c.size := by simp at hl; omega
    have hcell : w.cell? ⟨b, o + i, none⟩ = some c[o + i] := by simp [World.cell?, hg, hi]
    have hst : (store ((⟨b, o, none⟩ : Addr).add i) v).run P w = .ok () (w.setRow b (c.setIfInBounds (o + i) v)) := by
      rw [add_mk, run_store P w _ v _ (h1 v (by simp)), hcell]
      simp [frozen_no hg hf hi, setCell_eq_setRow w b (o + i) c e fr v hg]
    have ih := run_storeCells_fr P b o e fr rest (i + 1) (c.setIfInBounds (o + i) v) (w.setRow b (c.setIfInBounds (o + i) v)) (setRow_heap w b c _ e fr hg) (by simpa using hf) (by simp at hl ⊢; omega) (fun x hx => h1 x (by simp [hx]))
    simp only [storeCells, Sem.run_bind, hst, Result.andThen_ok, ih, setRow_setRow]
    congr 2
    have e' := list_seg_step c.toList (o + i) v rest (by simp at hl ⊢; omega)
    simp only [splice, Array.toList_setIfInBounds]
    rw [show o + (i + 1) = o + i + 1 from by omega]
    congr 1

theorem store_ok (hI : Inv γ s w) {t : TypeId} {n : Nat} (hs : sizeOfT P t = some n) {i g off : Nat} {c d : Value} {v : AV} {l cs cs' : List AV} (ha : VR γ w (.ptr i g off) c) (hv : VR γ w v d) (hl : v.stored = some l) (hg : getCells s.heap i g = some cs)
    (hn : l.length = n) (hw : writeAt cs off l = some cs') : ∃ w', (Instr.storeAt t c d).run P w = .ok () w' ∧ Le γ w γ w' ∧ Inv γ { s with heap := setAt s.heap i (.cells cs' g) } w' := by
  obtain ⟨rfl, h1, r, e, fr, k3, k4, k5, k6⟩ := ptr_cur hI ha hg
  obtain ⟨hxr, hx1⟩ := stored_ok hv hl
  obtain ⟨q1, q2, q3⟩ := writeAt_spec hw
  have hdl : d.cells.size = n := by rw [← hxr.1]; exact hn
  have hlen : d.cells.toList.length = l.length := by rw [Array.length_toList, hdl, hn]
  have hfit : off + d.cells.toList.length ≤ r.size := by omega
  have hrun := run_storeCells_fr P (γ.ob i) off e fr d.cells.toList 0 r w k3 k5 (by omega) (hxr.oneCells hx1)
  have hset := hI.setObj (c' := splice r off d.cells.toList) (getCells_some hg) (allOne_writeAt hw h1 hx1) (by rw [size_splice _ _ _ hfit]; omega) (fun c0 e0 fr0 h0 => by
    rw [k3] at h0; cases h0; exact size_splice _ _ _ hfit) (fun j u x hu hx => by
    rw [q3 j] at hu
    by_cases hj : off ≤ j ∧ j < off + l.length
    · rw [if_pos hj] at hu
      have : j = off + (j - off) := by omega
      rw [this, splice_in _ _ _ hfit (by omega)] at hx
      exact hxr.2 _ u x hu (by simpa using hx)
    · rw [if_neg hj] at hu
      rw [splice_out _ _ _ hfit (by omega)] at hx
      have hjl := lt_of_getElem? hu
      refine k6.2 j u x hu ?_
      rw [Array.getElem?_extract, if_pos (by omega)]
      simpa using hx)
  refine ⟨_, ?_, hset.2, hset.1⟩
  rw [Nat.add_zero] at hrun
  simp only [Instr.storeAt, Instr.sureAddr, storeVar, Sem.run_bind, Sem.run_pure, Result.andThen_ok, run_sizeOf' hs, hdl, ne_eq, not_true_eq_false, if_false, hrun]

-- ---------------------------------------------------------------- what is appended

theorem chunk_ok : ∀ {n : Nat} {ag : Option Nat} {cs es : List AV}, chunk n ag cs = some es → allOne cs = true → es.length = n ∧ allSize (ag.getD 1) es = true ∧ flatAll es = cs.take (n * ag.getD 1) ∧ n * ag.getD 1 ≤ cs.length
  | 0, ag, cs, es, h, _ => by
    have : es = [] := by cases ag <;> simp [chunk] at h <;> first | exact h | exact h.symm
    subst this
    simp [allSize, flatAll]
  | n + 1, none, [], es, h, _ => by simp [chunk] at h
  | n + 1, none, c :: r, es, h, h1 => by
    simp only [chunk, Option.bind_eq_some_iff, Option.some.injEq] at h
    obtain ⟨l, hl, rfl⟩ := h
    simp only [allOne, Bool.and_eq_true] at h1
    obtain ⟨a, b, d, e⟩ := chunk_ok hl h1.2
    have hf : c.flat = [c] := by have := h1.1; cases c <;> first | rfl | simp [AV.one] at this
    simp only [Option.getD_none, Nat.mul_one] at *
    refine ⟨by simp [a], by simp [allSize, hf, b], by simp [flatAll, hf, d], by simp; omega⟩
  | n + 1, some sz, cs, es, h, h1 => by
    simp only [chunk] at h
    split at h
    · rename_i hle
      have hle' : sz ≤ cs.length := by simpa using hle
      simp only [Option.bind_eq_some_iff, Option.some.injEq] at h
      obtain ⟨l, hl, rfl⟩ := h
      have h1' : allOne (cs.drop sz) = true := allOne_of fun j u hu => by
        rw [List.getElem?_drop] at hu
        exact allOne_get h1 hu
      obtain ⟨a, b, d, e⟩ := chunk_ok hl h1'
      simp only [Option.getD_some, List.length_drop] at *
      refine ⟨by simp [a], by simp [allSize, AV.flat, b]; omega, ?_, by rw [Nat.add_mul]; omega⟩
      simp only [flatAll, AV.flat, d]
      have : (n + 1) * sz = sz + n * sz := by rw [Nat.add_mul]; omega
      rw [this, List.take_add]
    · cases h

/-- an appended slice's, or text's, elements -/
theorem elems_ok (hI : Inv γ s w) {ag : Option Nat} {u : AV} {c : Value} {ys : List AV} (hu : VR γ w u c) (h : elemsOf s.heap ag u = some ys) (hs : allSize (ag.getD 1) ys = true) :
    ∃ news : List Value, (∀ w', (Builtin.lenOf c).run P w' = .ok ys.length w') ∧ (Builtin.firstCells (ag.getD 1) ys.length c).run P w = .ok news.toArray w ∧ (Builtin.firstCells (ag.getD 1) ys.length c).run P w.drew = .ok news.toArray w.drew ∧ VRs γ w (flatAll ys) news.toArray := by
  cases hu <;> try (simp [elemsOf] at h; done)
  case str a =>
    simp [elemsOf] at h
    subst h
    have hsame : (a.data.map fun b => Value.int .u8 b.toNat) = ((a.data.map fun b => Value.int .u8 b.toNat).toList).toArray := by simp only [Array.toArray_toList]
    have hext : (a.extract 0 a.data.size).data = a.data := by simp
    refine ⟨(a.data.map fun b => Value.int .u8 b.toNat).toList, fun w' => ?_, ?_, ?_, ?_⟩
    · simp only [Builtin.lenOf, byteCells_length, Array.length_toList]; rfl
    · rw [← hsame]
      simp only [Builtin.firstCells, byteCells_length, Array.length_toList]
      rw [hext]; rfl
    · rw [← hsame]
      simp only [Builtin.firstCells, byteCells_length, Array.length_toList]
      rw [hext]; rfl
    · rw [byteCells_flat]
      refine ⟨by simp [byteCells], fun j u x hu hx => ?_⟩
      rw [byteCells_get] at hu
      simp only [Array.toArray_toList, Array.getElem?_map] at hx
      cases hj : a.data[j]? with
      | none => rw [hj] at hx; simp at hx
      | some b =>
        rw [hj] at hx
        rw [Array.getElem?_toList, hj] at hu
        simp at hx hu
        subst hx; subst hu
        exact .int _ _
  case nilsl =>
    simp [elemsOf] at h
    subst h
    exact ⟨[], fun w' => rfl, rfl, rfl, rfl, fun j u x hu => by simp [flatAll] at hu⟩
  case vecNil tl ht =>
    simp [elemsOf] at h
    subst h
    exact ⟨[], fun w' => rfl, rfl, rfl, rfl, fun j u x hu => by simp [flatAll] at hu⟩
  case vec es tl b o cap sz cs h1 h2 h3 hl hr h6 =>
    simp [elemsOf] at h
    subst h
    have hlen := flatAll_length hs
    have hcell : ∀ (j : Nat) v, ((List.range (flatAll es).length).map cs)[j]? = some v → w.cell? ((⟨b, o, none⟩ : Addr).add j) = some v := fun j v hj => by
      have hjl : j < (flatAll es).length := by have := lt_of_getElem? hj; simpa using this
      simp only [List.getElem?_map, List.getElem?_range hjl, Option.map_some, Option.some.injEq] at hj
      subst hj
      rw [add_mk]
      exact (hl j hjl).2
    refine ⟨(List.range (flatAll es).length).map cs, fun w' => rfl, ?_, ?_, by simp, fun j u x hu hx => ?_⟩
    · exact run_firstCells_some (P := P) w (ag.getD 1) es.length ⟨b, o, none⟩ _ cap _ (by simp [hlen]) hcell
    · exact run_firstCells_some (P := P) w.drew (ag.getD 1) es.length ⟨b, o, none⟩ _ cap _ (by simp [hlen]) hcell
    · have hjl := lt_of_getElem? hu
      simp only [List.getElem?_toArray, List.getElem?_map, List.getElem?_range hjl, Option.map_some, Option.some.injEq] at hx
      subst hx
      exact hr j u hu
  case ms i g off len sz a cap h1 h2 h3 h4 =>
    simp only [elemsOf] at h
    split at h
    · rename_i hsz
      simp only [Option.bind_eq_some_iff] at h
      obtain ⟨cs, hg, hch⟩ := h
      obtain ⟨k1, k2, r, e, fr, k3, k4, k5, k6⟩ := hI.obj i _ (getCells_some hg)
      obtain ⟨e1, _⟩ := h4 k1
      have hd1 : allOne (cs.drop off) = true := allOne_of fun j u hu => by rw [List.getElem?_drop] at hu; exact allOne_get k2 hu
      obtain ⟨c1, c2, c3, c4⟩ := chunk_ok hch hd1
      have hlen := flatAll_length hs
      rw [List.length_drop] at c4
      have hx : ∀ j, j < len * ag.getD 1 → off + j < r.size := fun j hj => by omega
      have hcell : ∀ (j : Nat) v, ((r.extract off (off + len * ag.getD 1)).toList)[j]? = some v → w.cell? (a.add j) = some v := fun j v hj => by
        rw [e1, add_mk, cell?_row k3]
        rw [Array.getElem?_toList, Array.getElem?_extract] at hj
        split at hj
        · exact hj
        · cases hj
      have hl' : (r.extract off (off + len * ag.getD 1)).toList.length = len * ag.getD 1 := by
        rw [Array.length_toList, Array.size_extract]; omega
      subst c1
      refine ⟨(r.extract off (off + ys.length * ag.getD 1)).toList, fun w' => rfl, ?_, ?_, ?_⟩
      · exact run_firstCells_some (P := P) w (ag.getD 1) ys.length a _ cap _ hl' hcell
      · exact run_firstCells_some (P := P) w.drew (ag.getD 1) ys.length a _ cap _ hl' hcell
      · refine ⟨by rw [hlen]; simpa using hl'.symm, fun j u x hu hx' => ?_⟩
        have hjl := lt_of_getElem? hu
        rw [hlen] at hjl
        rw [c3, List.getElem?_take, if_pos hjl, List.getElem?_drop] at hu
        simp only [Array.toArray_toList, Array.getElem?_extract] at hx'
        split at hx'
        · exact k6 _ u x hu hx'
        · cases hx'
    · cases h

end Go.Am

/-
  The abstract machine, thirteenth part: appends.
-/
namespace Go.Am
open Go.RowKit (Below)

variable {P : Program} {γ : Gh} {w : World} {s : Sg}

theorem flatAll_append : ∀ a b : List AV, flatAll (a ++ b) = flatAll a ++ flatAll b
  | [], b => rfl
  | x :: r, b => by simp [flatAll, flatAll_append r b]

theorem allSize_append {sz : Nat} : ∀ {a b : List AV}, allSize sz a = true → allSize sz b = true → allSize sz (a ++ b) = true
  | [], b, _, h => h
  | x :: r, b, ha, hb => by
    simp only [allSize, Bool.and_eq_true, List.cons_append] at ha ⊢
    exact ⟨ha.1, allSize_append ha.2 hb⟩

theorem allOneAll_append : ∀ {a b : List AV}, allOneAll a = true → allOneAll b = true → allOneAll (a ++ b) = true
  | [], b, _, h => h
  | x :: r, b, ha, hb => by
    simp only [allOneAll, Bool.and_eq_true, List.cons_append] at ha ⊢
    exact ⟨ha.1, allOneAll_append ha.2 hb⟩

/-- what is appended, as the kit's laws have it -/
theorem src_ok (hI : Inv γ s w) {k : Option Nat} {tx : TypeId} (hx : (∃ e', P.underlying tx = some (.slice e')) ∨ P.underlying tx = some .string) {u : AV} {d : Value} {ys : List AV} (hu : VR γ w u d) (h : elemsOf s.heap k u = some ys)
    (hs : allSize (k.getD 1) ys = true) (h1 : allOneAll ys = true) : ∃ news : List Value, Src P (k.getD 1) tx d ys.length news w ∧ VRs γ w (flatAll ys) news.toArray := by
  obtain ⟨news, a, b, c, v⟩ := elems_ok (P := P) hI hu h hs
  refine ⟨news, ⟨hx, a, b, c, ?_, ?_⟩, v⟩
  · have := v.1
    rw [flatAll_length hs] at this
    simpa using this.symm
  · have := v.oneCells (allOne_flatAll h1)
    simpa using this

theorem room_run {t tx ty e : TypeId} {i : TypeInfo} (ht : P.underlying t = some (.slice e)) (hi : P.info? e = some i) {b off len cap n : Nat} {x : Value} {news : List Value} (hs : Src P i.size tx x n news w) (hroom : len + n ≤ cap)
    {c : Array Value} {e' : TypeId} {fr : Nat × Nat} (hc : w.heap[b]? = some (.cells c e' fr)) (hfr : FrOk fr c.size) (hfit : off + cap * i.size ≤ c.size) :
    (Builtin.append_ #[t, tx] ty #[.slice (some ⟨b, off, none⟩) len cap, x]).run P w = .ok (.slice (some ⟨b, off, none⟩) (len + n) cap) (w.setRow b (splice c (off + len * i.size) news)) := by
  have hm : (len + n) * i.size ≤ cap * i.size := Nat.mul_le_mul_right _ hroom
  rw [Nat.add_mul] at hm
  have hst := run_storeCells_fr P b (off + len * i.size) e' fr news 0 c w hc hfr (by rw [hs.newsLen]; omega) hs.one
  simp only [Nat.add_zero] at hst
  rcases hs.kind with ⟨e', hk⟩ | hk <;> simp [Builtin.append_, run_underlying ht, run_underlying hk, sizeOf, typeInfo, hi, hs.len, hroom, hs.cells, Addr.add_lit, hst]

theorem grow_run {t tx ty e : TypeId} (ht : P.underlying t = some (.slice e)) {k : Option Nat} {bytes : Nat} (hk : elSize P e = some (k, bytes)) {base : Option Addr} {len cap n : Nat} {x : Value} {es ys : List AV} {olds news : List Value}
    (hold : (Builtin.firstCells (k.getD 1) len (.slice base len cap)).run P w.drew = .ok olds.toArray w.drew) (hs : Src P (k.getD 1) tx x n news w) (ho : VRs γ w (flatAll es) olds.toArray) (hn : VRs γ w (flatAll ys) news.toArray)
    (hes : allSize (k.getD 1) es = true) (hys : allSize (k.getD 1) ys = true) (hle : es.length = len) (hly : ys.length = n) (hg : cap < len + n) (hb : (len + n) * bytes ≤ limit) :
    ∃ (row : Array Value) (cap' : Nat), (Builtin.append_ #[t, tx] ty #[.slice base len cap, x]).run P w = .ok (.slice (some ⟨w.heap.size, 0, none⟩) (len + n) cap') (w.drew.alloc (.cells row e)) ∧ len + n ≤ cap' ∧ row.size = cap' * k.getD 1 ∧
      VRs γ w (flatAll (es ++ ys)) (row.extract 0 (flatAll (es ++ ys)).length) ∧ (flatAll (es ++ ys)).length = (len + n) * k.getD 1 := by
  obtain ⟨i, hi, hsz, hpos, rfl, hbp, _, v, hiz, hvc⟩ := elSize_ok hk
  have hlim : limit = 1099511627776 := rfl
  have hnb : len + n ≤ (len + n) * i.bytes := Nat.le_mul_of_pos_right _ hbp
  have hcap := Go.Room.nextslicecap_le' hg
  have hfit : Builtin.nextslicecap (len + n) cap * i.bytes ≤ 281474976710656 := by
    have := Nat.mul_le_mul_right i.bytes hcap
    rw [Nat.mul_assoc] at this
    omega
  have hfl : (flatAll (es ++ ys)).length = (len + n) * k.getD 1 := by rw [flatAll_length (allSize_append hes hys)]; simp [hle, hly]
  have hgc := grownCap_ge w (len + n) cap e
  have hol : olds.length = len * k.getD 1 := by have := ho.1; rw [flatAll_length hes, hle] at this; simpa using this.symm
  have hnl : news.length = n * k.getD 1 := hs.newsLen
  refine ⟨_, _, run_append_grow_src w t tx ty e i v ht hi hiz base len cap olds (by rw [hsz]; exact hold) x n news (by rw [hsz]; exact hs) hg (by omega) hfit, hgc, ?_, ?_, hfl⟩
  · rw [Array.size_append, size_zeroCells, hvc, List.size_toArray, List.length_append, hol, hnl, ← Nat.add_mul, ← Nat.add_mul]
    congr 1
    omega
  · rw [hfl]
    have hex : ((olds ++ news).toArray ++ Builtin.zeroCells v.cells (grownCap w (len + n) cap e - (len + n))).extract 0 ((len + n) * k.getD 1) = (olds ++ news).toArray := by
      have : (len + n) * k.getD 1 = (olds ++ news).toArray.size := by rw [List.size_toArray, List.length_append, hol, hnl, Nat.add_mul]
      rw [this, Array.extract_append_left, Array.extract_size]
    rw [hex]
    refine ⟨by simp only [flatAll_append, List.length_append, List.size_toArray]; have := ho.1; have := hn.1; simp at *; omega, fun j u x hu hx => ?_⟩
    rw [flatAll_append] at hu
    have hoe := ho.1
    simp only [List.size_toArray] at hoe
    simp only [List.getElem?_toArray, List.getElem?_append, hoe] at hu hx
    split at hu
    · rename_i hlt
      rw [if_pos hlt] at hx
      exact ho.2 j u x hu (by simpa using hx)
    · rename_i hlt
      rw [if_neg hlt] at hx
      exact hn.2 _ u x hu (by simpa using hx)

/-- cells of a new block that are frozen -/
theorem lie_new {γ' : Gh} {w' : World} {row : Array Value} {e : TypeId} {k : Nat} (hF : ∀ j, j < k → γ'.F w'.heap.size (0 + j)) (hk : k ≤ row.size) : Lie γ' (w'.alloc (.cells row e)) w'.heap.size 0 k (fun j => row.getD j undef) := by
  intro j hj
  refine ⟨hF j hj, ?_⟩
  have hh : (w'.alloc (.cells row e)).heap[w'.heap.size]? = some (.cells row e (0, 0)) := by
    show (w'.heap.push _)[w'.heap.size]? = _
    simp
  rw [cell?_row hh, Nat.zero_add, Array.getElem?_eq_getElem (by omega)]
  simp [Array.getD, show j < row.size by omega]

theorem row_VR {l : List AV} {row : Array Value} (h : VRs γ w l (row.extract 0 l.length)) (hle : l.length ≤ row.size) : (∀ (j : Nat) u x, l[j]? = some u → row[j]? = some x → VR γ w u x) ∧ ∀ (j : Nat) u, l[j]? = some u → VR γ w u (row.getD j undef) := by
  have h1 : ∀ (j : Nat) u x, l[j]? = some u → row[j]? = some x → VR γ w u x := fun j u x hu hx => by
    have hj := lt_of_getElem? hu
    refine h.2 j u x hu ?_
    rw [Array.getElem?_extract, if_pos (by omega)]
    simpa using hx
  refine ⟨h1, fun j u hu => ?_⟩
  have hj := lt_of_getElem? hu
  refine h1 j u _ hu ?_
  rw [Array.getElem?_eq_getElem (by omega)]
  simp [Array.getD, show j < row.size by omega]

/-- what an append comes to -/
def AppR (P : Program) (γ : Gh) (w : World) (m : Sem Value) (v : AV) (s' : Sg) : Prop :=
  ∃ γ' w' c, m.run P w = .ok c w' ∧ Le γ w γ' w' ∧ Inv γ' s' w' ∧ VR γ' w' v c

/-- a new token's slice -/
theorem app_new (hI : Inv γ s w) {m : Sem Value} {row : Array Value} {e : TypeId} {l : List AV} {n cap sz : Nat} (hr : m.run P w = .ok (.slice (some ⟨w.heap.size, 0, none⟩) n cap) (w.drew.alloc (.cells row e))) (hn : l.length = n) (hc : n ≤ cap) (hsz : row.size = cap * sz)
    (hv : VRs γ w (flatAll l) (row.extract 0 (flatAll l).length)) (hf : (flatAll l).length = n * sz) (hs : allSize sz l = true) (h1 : allOneAll l = true) (hp : 0 < sz) (h0 : 0 < n) :
    AppR P γ w m (.vec l (.tok s.toks.length 0)) { s with toks := s.toks ++ [0] } := by
  subst hn
  have hle : (flatAll l).length ≤ row.size := by rw [hf, hsz]; exact Nat.mul_le_mul_right _ hc
  have hl0 := (Le.drew γ w).trans (Le.newTok hI.drew row e (flatAll l).length)
  refine ⟨_, _, _, hr, hl0, hI.drew.newTok row e (flatAll l).length, ?_⟩
  refine .vec l _ _ 0 cap sz (fun j => row.getD j undef) hc hs h1 ?_ (fun j u hu => ((row_VR hv hle).2 j u hu).mono hl0) ?_
  · exact lie_new (w' := w.drew) (fun j hj => .inr ⟨rfl, by omega, by omega⟩) hle
  · have htn : s.toks.length = γ.tn := hI.tn
    refine ⟨by show _ < γ.tn + 1; omega, Nat.zero_le _, fun _ => ⟨_, rfl, ?_, ?_, ?_, hp, h0⟩⟩
    · show w.heap.size = upd γ.tb γ.tn _ _
      rw [htn, upd_same]; rfl
    · show 0 + l.length * sz = upd γ.te γ.tn _ _
      rw [htn, upd_same]; omega
    · show 0 + cap * sz ≤ upd γ.ts γ.tn _ _
      rw [htn, upd_same]; omega

/-- a token's slice, moved -/
theorem app_move (hI : Inv γ s w) {m : Sem Value} {row : Array Value} {e : TypeId} {l : List AV} {n cap sz t : Nat} (ht : t < γ.tn) (hr : m.run P w = .ok (.slice (some ⟨w.heap.size, 0, none⟩) n cap) (w.drew.alloc (.cells row e))) (hn : l.length = n) (hc : n ≤ cap) (hsz : row.size = cap * sz)
    (hv : VRs γ w (flatAll l) (row.extract 0 (flatAll l).length)) (hf : (flatAll l).length = n * sz) (hs : allSize sz l = true) (h1 : allOneAll l = true) (hp : 0 < sz) (h0 : 0 < n) :
    AppR P γ w m (.vec l (.tok t (γ.tv t + 1))) { s with toks := setAt s.toks t (γ.tv t + 1) } := by
  subst hn
  have hle : (flatAll l).length ≤ row.size := by rw [hf, hsz]; exact Nat.mul_le_mul_right _ hc
  have hl0 := (Le.drew γ w).trans (Le.moveTok hI.drew t row e (flatAll l).length)
  refine ⟨_, _, _, hr, hl0, hI.drew.moveTok ht row e (flatAll l).length, ?_⟩
  refine .vec l _ _ 0 cap sz (fun j => row.getD j undef) hc hs h1 ?_ (fun j u hu => ((row_VR hv hle).2 j u hu).mono hl0) ?_
  · exact lie_new (w' := w.drew) (fun j hj => .inr ⟨rfl, by omega, by omega⟩) hle
  · refine ⟨ht, ?_, fun _ => ⟨_, rfl, ?_, ?_, ?_, hp, h0⟩⟩
    · show _ ≤ upd γ.tv t _ _
      rw [upd_same]; exact Nat.le_refl _
    · show w.heap.size = upd γ.tb t _ _
      rw [upd_same]; rfl
    · show 0 + l.length * sz = upd γ.te t _ _
      rw [upd_same]; omega
    · show 0 + cap * sz ≤ upd γ.ts t _ _
      rw [upd_same]; omega

/-- an object's slice: new -/
theorem app_push (hI : Inv γ s w) {m : Sem Value} {row : Array Value} {e : TypeId} {l : List AV} {n cap sz : Nat} (hr : m.run P w = .ok (.slice (some ⟨w.heap.size, 0, none⟩) n cap) (w.drew.alloc (.cells row e))) (hc : n ≤ cap) (hsz : row.size = cap * sz)
    (hv : VRs γ w (flatAll l) (row.extract 0 (flatAll l).length)) (hf : (flatAll l).length = n * sz) (h1 : allOneAll l = true) :
    AppR P γ w m (.ms s.heap.length 0 0 n sz) (s.push (.cells (flatAll l) 0)) := by
  have hle : (flatAll l).length ≤ row.size := by rw [hf, hsz]; exact Nat.mul_le_mul_right _ hc
  have hl0 := (Le.drew γ w).trans (Le.push hI.drew (.cells row e))
  have hh : (w.drew.alloc (.cells row e)).heap[w.drew.heap.size]? = some (.cells row e (0, 0)) := by
    show (w.heap.push _)[w.heap.size]? = _
    simp
  have hI' := hI.drew.push_gen (.cells row e) (fun _ _ _ e' => by cases e'; exact .none _) (.cells (flatAll l) 0) ⟨upd_same _ _ _, allOne_flatAll h1, row, e, (0, 0), by
    show (w.drew.alloc (.cells row e)).heap[upd γ.ob γ.n w.drew.heap.size γ.n]? = _
    rw [upd_same]; exact hh, hle, .none _, fun j u x hu hx => ((row_VR hv hle).1 j u x hu hx).mono hl0⟩
  have hn : s.heap.length = γ.n := hI.n
  refine ⟨_, _, _, hr, hl0, hI', ?_⟩
  rw [hn]
  refine .ms γ.n 0 0 n sz _ cap (Nat.lt_succ_self _) (Nat.zero_le _) hc fun _ => ⟨?_, row, e, (0, 0), ?_, by omega⟩
  · show _ = (⟨upd γ.ob γ.n w.drew.heap.size γ.n, 0, none⟩ : Addr)
    rw [upd_same]; rfl
  · show (w.drew.alloc (.cells row e)).heap[upd γ.ob γ.n w.drew.heap.size γ.n]? = _
    rw [upd_same]; exact hh

/-- an object's slice, moved -/
theorem app_grown (hI : Inv γ s w) {m : Sem Value} {row : Array Value} {e : TypeId} {l old : List AV} {i g n cap sz : Nat} (ho : s.heap[i]? = some (.cells old g)) (hr : m.run P w = .ok (.slice (some ⟨w.heap.size, 0, none⟩) n cap) (w.drew.alloc (.cells row e))) (hc : n ≤ cap) (hsz : row.size = cap * sz)
    (hv : VRs γ w l (row.extract 0 l.length)) (hf : l.length = n * sz) (h1 : allOne l = true) :
    AppR P γ w m (.ms i (g + 1) 0 n sz) { s with heap := setAt s.heap i (.cells l (g + 1)) } := by
  have hle : l.length ≤ row.size := by rw [hf, hsz]; exact Nat.mul_le_mul_right _ hc
  have hi := hI.ilt ho
  have hh : (w.drew.alloc (.cells row e)).heap[w.drew.heap.size]? = some (.cells row e (0, 0)) := by
    show (w.heap.push _)[w.heap.size]? = _
    simp
  have hl1 : Le γ w γ (w.drew.alloc (.cells row e)) := (Le.drew γ w).trans (Le.alloc _ hI.drew.base hI.drew.Flt rfl (Nat.le_refl _) (fun _ _ => ⟨rfl, rfl⟩) (Nat.le_refl _) (fun _ _ => ⟨Nat.le_refl _, fun _ => ⟨rfl, rfl, rfl⟩⟩) fun _ _ h => h)
  have hI' := hI.growObj (b := w.heap.size) (l := l) ho hl1 (fun k hk _ => Below.heap_alloc w.drew _ _ hk) (.inr (Nat.le_refl _)) ⟨hI.base, by simp⟩ (fun o hf => by have := hI.Flt _ _ hf; omega) (by simp) h1 hh hle (.none _)
    (fro_alloc hI.drew _ fun _ _ _ e' => by cases e'; exact .none _) (row_VR hv hle).1
  refine ⟨_, _, _, hr, hl1.growObj i w.heap.size, by
    have hgi : γ.ge i = g := (hI.obj i _ ho).1
    exact hI', ?_⟩
  have hgi : γ.ge i = g := (hI.obj i _ ho).1
  refine .ms i (g + 1) 0 n sz _ cap hi (by show upd γ.ge i _ i ≥ _; rw [upd_same, hgi]; exact Nat.le_refl _) hc fun _ => ⟨?_, row, e, (0, 0), ?_, by omega⟩
  · show _ = (⟨upd γ.ob i w.heap.size i, 0, none⟩ : Addr)
    rw [upd_same]
  · show (w.drew.alloc (.cells row e)).heap[upd γ.ob i w.heap.size i]? = _
    rw [upd_same]; exact hh

theorem nothing_ok (hI : Inv γ s w) {m : Sem Value} {v : AV} {c : Value} (hr : m.run P w = .ok c w) (hv : VR γ w v c) : AppR P γ w m v s := ⟨γ, w, c, hr, Le.refl _ _, hI, hv⟩

end Go.Am

/-
  The abstract machine, fourteenth part: the append, joined; new objects.
-/
namespace Go.Am
open Go.RowKit (Below)

variable {P : Program} {γ : Gh} {w : World} {s : Sg}

theorem flatAll_nil_of {sz : Nat} {es : List AV} (h : es = []) : flatAll es = [] := by subst h; rfl

theorem append_ok (hI : Inv γ s w) {t tx ty e : TypeId} (ht : P.underlying t = some (.slice e)) (hx : (∃ e', P.underlying tx = some (.slice e')) ∨ P.underlying tx = some .string) {k : Option Nat} {bytes : Nat} (hk : elSize P e = some (k, bytes))
    {v u r : AV} {c d : Value} {ys : List AV} (hv : VR γ w v c) (hu : VR γ w u d) (hel : elemsOf s.heap k u = some ys) (hsz : allSize (k.getD 1) ys = true) (h1 : allOneAll ys = true) {b : Bar} {mu : Bool} {s' : Sg} (h : evAppend b s mu k bytes v ys = some (r, s')) :
    AppR P γ w (Builtin.append_ #[t, tx] ty #[c, d]) r s' := by
  obtain ⟨i, hi, hisz, hpos, hib, hbp, _, z, hiz, hzc⟩ := elSize_ok hk
  obtain ⟨news, hs, hn⟩ := src_ok (P := P) hI hx hu hel hsz h1
  have hs0 : ys = [] → Src P i.size tx d 0 [] w := fun e0 => by
    subst e0
    have : news = [] := by have := hn.1; simp [flatAll] at this; exact List.length_eq_zero_iff.1 (by simpa using this.symm)
    subst this
    rw [hisz]; exact hs
  cases v <;> try (simp [evAppend] at h; done)
  case nilsl =>
    have hc : c = .slice none 0 0 := by cases hv; rfl
    subst hc
    cases ys with
    | nil =>
      simp only [evAppend, Option.some.injEq, Prod.mk.injEq] at h
      obtain ⟨rfl, rfl⟩ := h
      exact nothing_ok hI (run_append_nothing w t tx ty e i ht hi none 0 0 (Nat.le_refl _) d (hs0 rfl)) .nilsl
    | cons y yr =>
      simp only [evAppend] at h
      split at h
      · rename_i hlim
        have hlim := Nat.le_of_ble_eq_true hlim
        have hold : (Builtin.firstCells (k.getD 1) 0 (.slice none 0 0)).run P w.drew = .ok ([] : List Value).toArray w.drew := rfl
        obtain ⟨row, cap', g1, g2, g3, g4, g5⟩ := grow_run (n := (y :: yr).length) (ty := ty) ht hk (es := []) (ys := y :: yr) hold hs ⟨rfl, fun j u x hu => by simp [flatAll] at hu⟩ hn rfl hsz rfl rfl (by simp) (by simpa using hlim)
        simp only [List.nil_append] at g4 g5
        have hl0 : 0 + (y :: yr).length = (y :: yr).length := Nat.zero_add _
        rw [hl0] at g1 g2 g5
        cases mu with
        | true =>
          simp only [if_true, Option.some.injEq, Prod.mk.injEq] at h
          obtain ⟨rfl, rfl⟩ := h
          exact app_push hI g1 g2 g3 g4 g5 h1
        | false =>
          simp only [Bool.false_eq_true, if_false, Option.some.injEq, Prod.mk.injEq] at h
          obtain ⟨rfl, rfl⟩ := h
          exact app_new hI g1 rfl g2 g3 g4 g5 hsz h1 hpos (by simp)
      · cases h
  case vec es tl =>
    obtain ⟨base, cap, rfl, hcl, he1, hall⟩ : ∃ base cap, c = .slice base es.length cap ∧ es.length ≤ cap ∧ allOneAll es = true ∧ ∃ sz, allSize sz es = true ∧ TailOk γ base es.length cap sz tl ∧ (∃ b' o', base = some ⟨b', o', none⟩ ∨ base = none) := by
      cases hv with
      | vecNil tl ht => exact ⟨none, 0, rfl, Nat.le_refl _, rfl, 0, rfl, ht, 0, 0, .inr rfl⟩
      | vec es tl b o cap sz cs h1 h2 h3 hl hr h6 => exact ⟨_, cap, rfl, h1, h3, sz, h2, h6, b, o, .inl rfl⟩
    obtain ⟨sz, he2, htl, hbase⟩ := hall
    cases ys with
    | nil =>
      simp only [evAppend, Option.some.injEq, Prod.mk.injEq] at h
      obtain ⟨rfl, rfl⟩ := h
      exact nothing_ok hI (run_append_nothing w t tx ty e i ht hi base es.length cap hcl d (hs0 rfl)) hv
    | cons y yr =>
      simp only [evAppend] at h
      split at h
      · rename_i hcond
        simp only [Bool.and_eq_true] at hcond
        have hlim := Nat.le_of_ble_eq_true hcond.1
        have hes := hcond.2
        obtain ⟨olds, o1, o2, o3, o4⟩ := elems_ok (P := P) hI hv (ag := k) rfl hes
        have hall := allSize_append hes hsz
        have hone := allOneAll_append he1 h1
        have hln : (es ++ y :: yr).length = es.length + (y :: yr).length := List.length_append
        have h0 : 0 < es.length + (y :: yr).length := by simp only [List.length_cons]; omega
        cases tl with
        | exact own =>
          simp only [Option.some.injEq, Prod.mk.injEq] at h
          obtain ⟨rfl, rfl⟩ := h
          have hcap : cap = es.length := htl.1
          obtain ⟨row, cap', g1, g2, g3, g4, g5⟩ := grow_run (n := (y :: yr).length) (ty := ty) ht hk (es := es) (ys := y :: yr) o3 hs o4 hn hes hsz rfl rfl (by simp; omega) hlim
          exact app_new hI g1 hln g2 g3 g4 g5 hall hone hpos h0
        | tok t0 n0 =>
          simp only at h
          split at h
          · simp only [Option.bind_eq_some_iff] at h
            obtain ⟨n', hn', h⟩ := h
            split at h
            · rename_i hnn
              have hnn := Nat.eq_of_beq_eq_true hnn
              subst hnn
              simp only [Option.some.injEq, Prod.mk.injEq] at h
              obtain ⟨rfl, rfl⟩ := h
              obtain ⟨q1, q2, q3⟩ := htl
              obtain ⟨t1, t2, t3, c0, e0, fr0, t4, t5, t6⟩ := hI.tok t0 q1
              have hvn : γ.tv t0 = n0 := by rw [t1] at hn'; cases hn'; rfl
              obtain ⟨a, rfl, hab, hao, hac, hsp, hlp⟩ := q3 hvn
              obtain ⟨b', o', hb'⟩ := hbase
              obtain ⟨rfl⟩ : a = ⟨b', o', none⟩ := by
                rcases hb' with e' | e'
                · cases e'; rfl
                · cases e'
              have hsz2 : sz = k.getD 1 := by
                cases es with
                | nil => simp at hlp
                | cons x xr =>
                  simp only [allSize, Bool.and_eq_true] at he2 hes
                  rw [← Nat.eq_of_beq_eq_true he2.1, Nat.eq_of_beq_eq_true hes.1]
              subst hsz2
              simp only at hab hao hac
              subst hab
              rcases Nat.lt_or_ge cap (es.length + (y :: yr).length) with hg | hroom
              · obtain ⟨row, cap', g1, g2, g3, g4, g5⟩ := grow_run (n := (y :: yr).length) (ty := ty) ht hk (es := es) (ys := y :: yr) o3 hs o4 hn hes hsz rfl rfl hg hlim
                have := app_move hI q1 g1 hln g2 g3 g4 g5 hall hone hpos h0
                rw [hvn] at this
                exact this
              · have hr := room_run (ty := ty) ht hi (by rw [hisz]; exact hs) hroom t4 t6 (by rw [hisz, t5]; exact hac)
                rw [hisz, hao] at hr
                have hnl : news.length = (y :: yr).length * k.getD 1 := hs.newsLen
                have hmul : (es.length + (y :: yr).length) * k.getD 1 ≤ cap * k.getD 1 := Nat.mul_le_mul_right _ hroom
                rw [Nat.add_mul] at hmul
                obtain ⟨p1, p2, p3⟩ := tok_in_place hI q1 news c0 e0 fr0 t4 (by omega)
                rw [hvn] at p1
                refine ⟨_, _, _, hr, p2, p1, ?_⟩
                cases hv with
                | vec _ _ _ _ _ sz' cs w1 w2 w3 hl hr' h6 =>
                have hfe : (flatAll es).length = es.length * k.getD 1 := flatAll_length hes
                have hfy : (flatAll (y :: yr)).length = (y :: yr).length * k.getD 1 := flatAll_length hsz
                rw [← hln]
                refine .vec _ _ _ o' cap (k.getD 1) (fun j => if j < (flatAll es).length then cs j else news.getD (j - (flatAll es).length) undef) (by rw [hln]; exact hroom) hall hone ?_ ?_ ?_
                · intro j hj
                  rw [flatAll_append, List.length_append] at hj
                  dsimp only
                  by_cases hjl : j < (flatAll es).length
                  · rw [if_pos hjl]
                    exact (hl.mono p2) j hjl
                  · rw [if_neg hjl]
                    have := p3 (j - (flatAll es).length) (by omega)
                    have e1 : γ.te t0 + (j - (flatAll es).length) = o' + j := by omega
                    rw [e1] at this
                    exact this
                · intro j u hu
                  rw [flatAll_append, List.getElem?_append] at hu
                  split at hu
                  · rename_i hjl
                    rw [if_pos hjl]
                    exact (hr' j u hu).mono p2
                  · rename_i hjl
                    rw [if_neg hjl]
                    obtain ⟨x, hx1, hx2⟩ := hn.get hu
                    simp only [List.getElem?_toArray] at hx1
                    have : news.getD (j - (flatAll es).length) undef = x := by simp [List.getD, hx1]
                    rw [this]
                    exact hx2.mono p2
                · refine ⟨q1, ?_, fun _ => ⟨_, rfl, rfl, ?_, ?_, hpos, by rw [hln]; exact h0⟩⟩
                  · show _ ≤ upd γ.tv t0 _ t0
                    rw [upd_same, hvn]; exact Nat.le_refl _
                  · show o' + _ = upd γ.te t0 _ t0
                    rw [upd_same, hln, Nat.add_mul]; omega
                  · exact hac
            · cases h
          · cases h
        | shut => cases h
      · cases h
  case ms i0 g off len sz =>
    simp only [evAppend] at h
    split at h
    · rename_i hcond
      simp only [Bool.and_eq_true] at hcond
      have hlim := Nat.le_of_ble_eq_true hcond.1.1
      have hsze := Nat.eq_of_beq_eq_true hcond.1.2
      subst hsze
      simp only [Option.bind_eq_some_iff] at h
      obtain ⟨cs, hg, h⟩ := h
      split at h
      · rename_i hc2
        simp only [Bool.and_eq_true] at hc2
        have ho0 := Nat.eq_of_beq_eq_true hc2.1
        subst ho0
        have hlc := Nat.eq_of_beq_eq_true hc2.2
        simp only [Option.some.injEq, Prod.mk.injEq] at h
        obtain ⟨rfl, rfl⟩ := h
        have ho := getCells_some hg
        obtain ⟨k1, k2, row, e1, fr, k3, k4, k5, k6⟩ := hI.obj i0 _ ho
        cases hv with
        | ms _ _ _ _ _ a cap w1 w2 w3 w4 =>
        obtain ⟨rfl, row', e2, fr', w5, w6⟩ := w4 k1
        rw [k3] at w5
        cases w5
        have hfy : (flatAll ys).length = ys.length * k.getD 1 := flatAll_length hsz
        have hfl : (cs ++ flatAll ys).length = (len + ys.length) * k.getD 1 := by rw [List.length_append, hfy, Nat.add_mul]; omega
        have hone : allOne (cs ++ flatAll ys) = true := by rw [allOne_append, k2, allOne_flatAll h1]; rfl
        rcases Nat.lt_or_ge cap (len + ys.length) with hgr | hroom
        · -- a new row
          have hle2 : len * k.getD 1 ≤ row.size := by omega
          have hold : (Builtin.firstCells (k.getD 1) len (.slice (some ⟨γ.ob i0, 0, none⟩) len cap)).run P w.drew = .ok (row.extract 0 (len * k.getD 1)).toList.toArray w.drew :=
            run_firstCells_some w.drew (k.getD 1) len ⟨γ.ob i0, 0, none⟩ len cap _ (by rw [Array.length_toList, Array.size_extract]; omega) (fun j v hj => by
              rw [add_mk]
              show w.cell? _ = _
              rw [cell?_row k3]
              rw [Array.getElem?_toList, Array.getElem?_extract] at hj
              split at hj
              · rw [Nat.zero_add] at hj ⊢; exact hj
              · cases hj)
          have hcap := Go.Room.nextslicecap_le' hgr
          have hlm : limit = 1099511627776 := rfl
          have hnb : len + ys.length ≤ (len + ys.length) * bytes := Nat.le_mul_of_pos_right _ hbp
          have hfit : Builtin.nextslicecap (len + ys.length) cap * i.bytes ≤ 281474976710656 := by
            have := Nat.mul_le_mul_right bytes hcap
            rw [Nat.mul_assoc] at this
            rw [hib]
            omega
          have hrun := run_append_grow_src w t tx ty e i z ht hi hiz (some ⟨γ.ob i0, 0, none⟩) len cap _ (by rw [hisz]; exact hold) d ys.length news (by rw [hisz]; exact hs) hgr (by omega) hfit
          have hgc := grownCap_ge w (len + ys.length) cap e
          have hnl : news.length = ys.length * k.getD 1 := hs.newsLen
          have hol : (row.extract 0 (len * k.getD 1)).toList.length = len * k.getD 1 := by rw [Array.length_toList, Array.size_extract]; omega
          refine app_grown hI ho hrun hgc ?_ ?_ hfl hone
          · rw [Array.size_append, size_zeroCells, hzc, List.size_toArray, List.length_append, hol, hnl, ← Nat.add_mul, ← Nat.add_mul]
            congr 1
            omega
          · rw [hfl]
            have hx : (len + ys.length) * k.getD 1 = ((row.extract 0 (len * k.getD 1)).toList ++ news).toArray.size := by rw [List.size_toArray, List.length_append, hol, hnl, Nat.add_mul]
            rw [hx, Array.extract_append_left, Array.extract_size]
            refine ⟨by rw [hfl, ← hx], fun j u x hu hx => ?_⟩
            simp only [List.getElem?_toArray, List.getElem?_append, hol] at hu hx
            rw [← hlc] at hu
            split at hu
            · rename_i hlt
              rw [if_pos hlt, Array.getElem?_toList, Array.getElem?_extract, if_pos (by omega), Nat.zero_add] at hx
              exact k6 j u x hu hx
            · rename_i hlt
              rw [if_neg hlt] at hx
              exact hn.2 _ u x hu (by simpa using hx)
        · -- there is room
          have hr := room_run (ty := ty) ht hi (by rw [hisz]; exact hs) hroom k3 k5 (by rw [hisz]; exact w6)
          rw [hisz, Nat.zero_add] at hr
          have hnl : news.length = ys.length * k.getD 1 := hs.newsLen
          have hmul : (len + ys.length) * k.getD 1 ≤ cap * k.getD 1 := Nat.mul_le_mul_right _ hroom
          rw [Nat.add_mul] at hmul
          have hx : len * k.getD 1 + news.length ≤ row.size := by omega
          have hsz' := size_splice row (len * k.getD 1) news hx
          obtain ⟨l1, l2, l3⟩ := hI.lt i0 w1
          have hl1 : Le γ w γ (w.setRow (γ.ob i0) (splice row (len * k.getD 1) news)) := Le.setRow k3 hsz' (fun o hf => absurd hf (l3 o)) l1
          have hh := setRow_heap w (γ.ob i0) row (splice row (len * k.getD 1) news) e1 fr k3
          have hI' := hI.growObj (b := γ.ob i0) (l := cs ++ flatAll ys) ho hl1 (fun q _ hq => heap_setRow_other w _ _ hq) (.inl rfl) ⟨l1, by rw [size_setRow]; exact l2⟩ l3 (by rw [size_setRow]; exact Nat.le_refl _) hone hh (by rw [hsz', hfl]; rw [Nat.add_mul]; omega) (by rw [hsz']; exact k5)
            (fro_setRow hI k3 hsz') (fun j u x hu hx' => by
              rw [List.getElem?_append, ← hlc] at hu
              split at hu
              · rename_i hlt
                rw [splice_out row _ _ hx (.inl hlt)] at hx'
                exact k6 j u x hu hx'
              · rename_i hlt
                have hjl := lt_of_getElem? hu
                have : j = len * k.getD 1 + (j - len * k.getD 1) := by omega
                rw [this, splice_in row _ _ hx (by omega)] at hx'
                exact hn.2 _ u x hu (by simpa using hx'))
          refine ⟨_, _, _, hr, hl1.growObj i0 (γ.ob i0), hI', ?_⟩
          refine .ms i0 (g + 1) 0 _ _ _ cap w1 (by show upd γ.ge i0 _ i0 ≥ _; rw [upd_same, k1]; exact Nat.le_refl _) hroom fun _ => ⟨?_, _, e1, fr, ?_, by rw [hsz']; exact w6⟩
          · show _ = (⟨upd γ.ob i0 (γ.ob i0) i0, 0, none⟩ : Addr)
            rw [upd_same]
          · show (w.setRow (γ.ob i0) _).heap[upd γ.ob i0 (γ.ob i0) i0]? = _
            rw [upd_same]; exact hh
      · cases h
    · cases h

-- ---------------------------------------------------------------- new objects

theorem push_ok (hI : Inv γ s w) {m : Sem Value} {l : List AV} {c : Array Value} {e : TypeId} (hr : m.run P w = .ok (.pointer (some ⟨w.heap.size, 0, none⟩)) (w.alloc (.cells c e))) (hl : VRs γ w l c) (h1 : allOne l = true) :
    AppR P γ w m (.ptr s.heap.length 0 0) (s.push (.cells l 0)) := by
  refine ⟨_, _, _, hr, Le.push hI _, hI.push e hl h1, ?_⟩
  have hn : s.heap.length = γ.n := hI.n
  rw [hn]
  refine .ptr γ.n 0 0 _ (Nat.lt_succ_self _) (Nat.zero_le _) fun _ => ?_
  show _ = (⟨upd γ.ob γ.n w.heap.size γ.n, 0, none⟩ : Addr)
  rw [upd_same]

theorem alloc_ok (hI : Inv γ s w) {e : TypeId} {z : List AV} (hz : zeroOf P e = some z) : AppR P γ w (Instr.alloc e true (.tuple #[])) (.ptr s.heap.length 0 0) (s.push (.cells z 0)) := by
  obtain ⟨v, h1, h2, h3, _⟩ := zeroOf_ok (γ := γ) (w := w) hz
  refine push_ok (e := e) hI ?_ h2 h3
  simp [Instr.alloc, h1, newVar, newRow]

theorem box_ok (hI : Inv γ s w) {e : TypeId} {v : AV} {c : Value} {l : List AV} (hv : VR γ w v c) (hl : v.stored = some l) : AppR P γ w (Instr.box e c) (.ptr s.heap.length 0 0) (s.push (.cells l 0)) := by
  obtain ⟨h1, h2⟩ := stored_ok hv hl
  refine push_ok (e := e) hI ?_ h1 h2
  simp [Instr.box, newVar, newRow]

theorem buildMs_ok (hI : Inv γ s w) {m : Sem Value} {es : List AV} {c : Array Value} {e : TypeId} {len sz : Nat} (hr : m.run P w = .ok (.slice (some ⟨w.heap.size, 0, none⟩) len len) (w.alloc (.cells c e))) (hl : VRs γ w (flatAll es) c) (h1 : allOne (flatAll es) = true)
    (hs : allSize sz es = true) (hn : es.length = len) : AppR P γ w m (.ms s.heap.length 0 0 len sz) (s.push (.cells (flatAll es) 0)) := by
  refine ⟨_, _, _, hr, Le.push hI _, hI.push e hl h1, ?_⟩
  have hn' : s.heap.length = γ.n := hI.n
  rw [hn']
  have hsz : c.size = len * sz := by rw [← hl.1, flatAll_length hs, hn]
  refine .ms γ.n 0 0 _ _ _ len (Nat.lt_succ_self _) (Nat.zero_le _) (Nat.le_refl _) fun _ => ⟨?_, c, e, (0, 0), ?_, by omega⟩
  · show _ = (⟨upd γ.ob γ.n w.heap.size γ.n, 0, none⟩ : Addr)
    rw [upd_same]
  · show (w.heap.push _)[upd γ.ob γ.n w.heap.size γ.n]? = _
    rw [upd_same]
    simp

theorem buildSl_ok (hI : Inv γ s w) {m : Sem Value} {es : List AV} {c : Array Value} {e : TypeId} {len sz : Nat} (hr : m.run P w = .ok (.slice (some ⟨w.heap.size, 0, none⟩) len len) (w.alloc (.cells c e))) (hl : VRs γ w (flatAll es) c) (h1 : allOneAll es = true)
    (hs : allSize sz es = true) (hn : es.length = len) : AppR P γ w m (.vec es (.exact true)) s := by
  have hle := Le.fresh hI (.cells c e) c.size
  refine ⟨_, _, _, hr, hle, hI.fresh (.cells c e) (fun _ _ _ e' => by cases e'; exact .none _) c.size, ?_⟩
  subst hn
  have hlc := hl.1
  have hrow : VRs γ w (flatAll es) (c.extract 0 (flatAll es).length) := by rw [hlc, Array.extract_size]; exact hl
  refine .vec es _ _ 0 _ sz (fun j => c.getD j undef) (Nat.le_refl _) hs h1 (lie_new (fun j hj => .inr ⟨rfl, by omega, by omega⟩) (by omega)) (fun j u hu => ((row_VR hrow (by omega)).2 j u hu).mono hle) ⟨rfl, fun _ => ⟨_, rfl, hI.base⟩⟩

end Go.Am

/-
  The abstract machine, fifteenth part: slices of slices; interfaces, functions, tuples.
-/
namespace Go.Am
open Go.RowKit (Below)

variable {P : Program} {γ : Gh} {w : World} {s : Sg}

-- ---------------------------------------------------------------- texts

theorem sliceS_ok {t : TypeId} (ht : P.underlying t = some .string) {u : AV} {c : Value} {l : List UInt8} {a b : Option AV} {ca cb : Option Value} {h k : Nat} (hu : VR γ w u c) (hl : u.str? = some l) (ha : OptR γ w a ca) (hb : OptR γ w b cb)
    (hh : bnd b l.length l.length = some h) (hk : bnd a 0 h = some k) : ∃ d, (Instr.sliceAt t c ca cb none).run P w = .ok d w ∧ VR γ w (.str ((l.drop k).take (h - k))) d := by
  obtain rfl := str?_some hl
  obtain ⟨x, rfl, rfl⟩ := hu.str_inv
  have hlen : x.data.toList.length = x.size := Array.length_toList
  rw [hlen] at hh
  obtain ⟨h1, h2, h3⟩ := sliceBounds_ok (P := P) ha hb (isSlice := false) (Nat.le_refl _) hh hk
  refine ⟨.string (x.extract k h), ?_, ?_⟩
  · simp [Instr.sliceAt, Instr.slice, run_underlying ht, h1]
  · have e : (x.data.toList.drop k).take (h - k) = (x.extract k h).data.toList := by
      rw [ByteArray.data_extract]
      apply List.ext_getElem?
      intro j
      simp only [List.getElem?_take, List.getElem?_drop, Array.getElem?_toList, Array.getElem?_extract]
      have : x.data.size = x.size := rfl
      by_cases hj : j < h - k
      · rw [if_pos hj, if_pos (by omega)]
      · rw [if_neg hj, if_neg (by omega)]
    rw [e]
    exact .str _

-- ---------------------------------------------------------------- slices

theorem allSize_drop {sz : Nat} : ∀ {es : List AV} (k : Nat), allSize sz es = true → allSize sz (es.drop k) = true
  | _, 0, h => h
  | [], k + 1, h => by simp [allSize]
  | e :: r, k + 1, h => by
    simp only [allSize, Bool.and_eq_true] at h
    exact allSize_drop (es := r) k h.2

theorem allSize_take {sz : Nat} : ∀ {es : List AV} (k : Nat), allSize sz es = true → allSize sz (es.take k) = true
  | _, 0, h => by simp [allSize]
  | [], k + 1, h => by simp [allSize]
  | e :: r, k + 1, h => by
    simp only [allSize, Bool.and_eq_true, List.take_succ_cons] at h ⊢
    exact ⟨h.1, allSize_take (es := r) k h.2⟩

theorem allOneAll_drop : ∀ {es : List AV} (k : Nat), allOneAll es = true → allOneAll (es.drop k) = true
  | _, 0, h => h
  | [], k + 1, h => by simp [allOneAll]
  | e :: r, k + 1, h => by
    simp only [allOneAll, Bool.and_eq_true] at h
    exact allOneAll_drop (es := r) k h.2

theorem allOneAll_take : ∀ {es : List AV} (k : Nat), allOneAll es = true → allOneAll (es.take k) = true
  | _, 0, h => by simp [allOneAll]
  | [], k + 1, h => by simp [allOneAll]
  | e :: r, k + 1, h => by
    simp only [allOneAll, Bool.and_eq_true, List.take_succ_cons] at h ⊢
    exact ⟨h.1, allOneAll_take (es := r) k h.2⟩

theorem flatAll_drop {sz : Nat} : ∀ {es : List AV} (k : Nat), allSize sz es = true → flatAll (es.drop k) = (flatAll es).drop (k * sz)
  | es, 0, h => by simp
  | [], k + 1, h => by simp [flatAll]
  | e :: r, k + 1, h => by
    simp only [allSize, Bool.and_eq_true] at h
    have h1 := Nat.eq_of_beq_eq_true h.1
    simp only [List.drop_succ_cons, flatAll]
    rw [flatAll_drop k h.2, show (k + 1) * sz = e.flat.length + k * sz from by rw [h1, Nat.add_mul]; omega, List.drop_append]
    simp

theorem flatAll_take {sz : Nat} : ∀ {es : List AV} (k : Nat), allSize sz es = true → flatAll (es.take k) = (flatAll es).take (k * sz)
  | es, 0, h => by simp [flatAll]
  | [], k + 1, h => by simp [flatAll]
  | e :: r, k + 1, h => by
    simp only [allSize, Bool.and_eq_true] at h
    have h1 := Nat.eq_of_beq_eq_true h.1
    simp only [List.take_succ_cons, flatAll]
    rw [flatAll_take k h.2, show (k + 1) * sz = e.flat.length + k * sz from by rw [h1, Nat.add_mul]; omega, List.take_append, List.take_of_length_le (show e.flat.length ≤ e.flat.length + k * sz from Nat.le_add_right _ _), Nat.add_sub_cancel_left]

/-- a part of a slice that is never written any more -/
theorem vec_part {es : List AV} {sz b o : Nat} {cs : Nat → Value} (h2 : allSize sz es = true) (hl : Lie γ w b o (flatAll es).length cs) (hr : ∀ (j : Nat) u, (flatAll es)[j]? = some u → VR γ w u (cs j)) {k h : Nat} (hkh : k ≤ h) (hhn : h ≤ es.length) :
    Lie γ w b (o + k * sz) (flatAll ((es.drop k).take (h - k))).length (fun j => cs (k * sz + j)) ∧ ∀ (j : Nat) u, (flatAll ((es.drop k).take (h - k)))[j]? = some u → VR γ w u (cs (k * sz + j)) := by
  have hfl := flatAll_length h2
  have hs1 := allSize_drop k h2
  have e : flatAll ((es.drop k).take (h - k)) = ((flatAll es).drop (k * sz)).take ((h - k) * sz) := by
    rw [flatAll_take _ hs1, flatAll_drop k h2]
  rw [e]
  constructor
  · intro j hj
    rw [List.length_take, List.length_drop] at hj
    have := hl (k * sz + j) (by omega)
    rw [← Nat.add_assoc] at this
    exact this
  · intro j u hu
    rw [List.getElem?_take] at hu
    split at hu
    · rw [List.getElem?_drop] at hu
      exact hr _ u hu
    · cases hu

/-- three bounds, the third one as the second -/
theorem sliceBounds3_ok {a b m : Option AV} {ca cb cm : Option Value} (ha : OptR γ w a ca) (hb : OptR γ w b cb) (hm : OptR γ w m cm) {len cap h k q : Nat} (hlc : len ≤ cap) (hms : m.isSome = true) (hbs : b.isSome = true) (hh : bnd b len len = some h) (hk : bnd a 0 h = some k) (hq : bnd m h h = some q) (hqh : q = h) :
    (Instr.sliceBounds true len cap ca cb cm).run P w = .ok (k, h, h) w ∧ k ≤ h ∧ h ≤ len := by
  subst hqh
  have hhl : q ≤ len := by
    rcases bnd_some hh with ⟨_, rfl⟩ | ⟨_, m, _, _, _, rfl⟩ <;> omega
  have hkh : k ≤ q := by
    rcases bnd_some hk with ⟨_, rfl⟩ | ⟨_, m, _, _, _, rfl⟩ <;> omega
  refine ⟨?_, hkh, hhl⟩
  rcases hm with ⟨rfl, _⟩ | ⟨um, dm, rfl, rfl, hvm⟩
  · cases hms
  rcases hb with ⟨rfl, _⟩ | ⟨ub, db, rfl, rfl, hvb⟩
  · cases hbs
  rcases bnd_some hq with ⟨e, _⟩ | ⟨q1, m1, e1, a1, a2, a3⟩
  · cases e
  cases e1
  rcases bnd_some hh with ⟨e, _⟩ | ⟨q2, m2, e2, b1, b2, b3⟩
  · cases e
  cases e2
  have s1 : (Instr.sliceBound dm cap .slice3Acap).run P w = .ok q w := by rw [a3]; exact sliceBound_ok hvm rfl a1 (by omega) _
  have s2 : (Instr.sliceBound db q .slice3B).run P w = .ok q w := by
    have := sliceBound_ok (P := P) hvb rfl b1 (y := q) (by omega) .slice3B
    rw [this, ← b3]
  have e2 : (match ca with
      | some v => Instr.sliceBound v q .slice3C
      | none => pure 0 : Sem Nat).run P w = .ok k w := by
    rcases ha with ⟨rfl, rfl⟩ | ⟨u, d, rfl, rfl, hv⟩
    · simp [bnd] at hk; subst hk; rfl
    · rcases bnd_some hk with ⟨e, _⟩ | ⟨q, m, e, h0, h1, rfl⟩
      · cases e
      · cases e
        exact sliceBound_ok hv rfl h0 h1 _
  unfold Instr.sliceBounds
  cases ca <;> simp_all

/-- the bounds of a slice of a slice -/
theorem bounds_ok {a b m : Option AV} {ca cb cm : Option Value} (ha : OptR γ w a ca) (hb : OptR γ w b cb) (hm : OptR γ w m cm) (hbs : m.isSome = true → b.isSome = true) {len cap h k q : Nat} (hlc : len ≤ cap) (hh : bnd b len len = some h) (hk : bnd a 0 h = some k) (hq : bnd m h h = some q) (hqh : q = h) :
    (Instr.sliceBounds true len cap ca cb cm).run P w = .ok (k, h, if m.isSome then h else cap) w ∧ k ≤ h ∧ h ≤ len := by
  cases m with
  | none =>
    rcases hm with ⟨_, rfl⟩ | ⟨u, d, e, _⟩
    · exact sliceBounds_ok ha hb hlc hh hk
    · cases e
  | some m => exact sliceBounds3_ok ha hb hm hlc rfl (hbs rfl) hh hk hq hqh

theorem add_zero_mk (b o : Nat) : (⟨b, o, none⟩ : Addr).add 0 = ⟨b, o, none⟩ := by rw [add_mk, Nat.add_zero]

theorem slice_vec_ok {t e : TypeId} (ht : P.underlying t = some (.slice e)) {n : Nat} (hs : sizeOfT P e = some n) {es : List AV} {tl : Tail} {c : Value} {a b m : Option AV} {ca cb cm : Option Value} {h k q : Nat} (hu : VR γ w (.vec es tl) c) (ha : OptR γ w a ca) (hb : OptR γ w b cb) (hm : OptR γ w m cm)
    (hbs : m.isSome = true → b.isSome = true) (hh : bnd b es.length es.length = some h) (hk : bnd a 0 h = some k) (hq : bnd m h h = some q) (hqh : q = h) (hsz : k = 0 ∨ allSize n (es.take 1) = true) :
    ∃ d, (Instr.sliceAt t c ca cb cm).run P w = .ok d w ∧ VR γ w (.vec ((es.drop k).take (h - k)) (cutTail es.length k h m.isSome tl)) d := by
  have hrun : ∀ base cap, es.length ≤ cap → (Instr.sliceAt t (.slice base es.length cap) ca cb cm).run P w = .ok (.slice (if (if m.isSome then h else cap) = k then base else base.map (·.add (k * n))) (h - k) ((if m.isSome then h else cap) - k)) w := fun base cap hlc => by
    obtain ⟨h1, h2, h3⟩ := bounds_ok (P := P) ha hb hm hbs hlc hh hk hq hqh
    simp [Instr.sliceAt, Instr.slice, run_underlying ht, h1, run_sizeOf' hs]
  cases hu with
  | vecNil tl htl =>
    obtain ⟨h1, h2, h3⟩ := bounds_ok (P := P) ha hb hm hbs (cap := 0) (Nat.le_refl _) hh hk hq hqh
    simp only [List.length_nil, Nat.le_zero] at h3
    subst h3
    have : k = 0 := by omega
    subst this
    refine ⟨_, hrun none 0 (Nat.le_refl _), ?_⟩
    simp only [ite_self, List.drop_nil, List.take_nil, Nat.sub_self, if_true, cutTail, List.length_nil]
    refine .vecNil _ ?_
    cases tl with
    | exact own => exact ⟨rfl, fun e => by cases e⟩
    | tok t n => trivial
    | shut => trivial
  | vec es tl b' o cap sz cs h1 h2 h3 hl hr h6 =>
    obtain ⟨hb1, hkh, hhn⟩ := bounds_ok (P := P) ha hb hm hbs h1 hh hk hq hqh
    refine ⟨_, hrun (some ⟨b', o, none⟩) cap h1, ?_⟩
    have hsh : k = 0 ∨ sz = n := by
      rcases hsz with h0 | hsz
      · exact .inl h0
      · cases es with
        | nil =>
          simp only [List.length_nil] at hhn
          exact .inl (by omega)
        | cons x xr =>
          simp only [List.take_succ_cons, List.take_zero, allSize, Bool.and_eq_true] at hsz h2
          exact .inr (by rw [← Nat.eq_of_beq_eq_true h2.1, Nat.eq_of_beq_eq_true hsz.1])
    have hkn : k * n = k * sz := by
      rcases hsh with rfl | rfl
      · simp
      · rfl
    rw [hkn]
    obtain ⟨p1, p2⟩ := vec_part h2 hl hr hkh hhn
    have hlen : ((es.drop k).take (h - k)).length = h - k := by rw [List.length_take, List.length_drop]; omega
    have ho1 := allOneAll_take (h - k) (allOneAll_drop k h3)
    have hs1 := allSize_take (h - k) (allSize_drop k h2)
    by_cases hkh2 : k = h
    · -- nothing is left
      subst hkh2
      have hnil : (es.drop k).take (k - k) = [] := by simp
      rw [hnil, Nat.sub_self] at *
      have hcut : TailOk γ (if (if m.isSome then k else cap) = k then some ⟨b', o, none⟩ else (some ⟨b', o, none⟩ : Option Addr).map (·.add (k * sz))) 0 ((if m.isSome then k else cap) - k) sz (cutTail es.length k k m.isSome tl) := by
        have hbe : Nat.beq k k = true := Nat.beq_refl k
        simp only [cutTail, hbe, if_true]
        cases tl with
        | exact own =>
          by_cases hkn' : Nat.beq k es.length = true
          · rw [if_pos hkn']
            have := Nat.eq_of_beq_eq_true hkn'
            obtain ⟨hc, _⟩ := h6
            refine ⟨?_, fun e => by cases e⟩
            cases m <;> simp <;> omega
          · rw [if_neg hkn']
            trivial
        | tok t n => trivial
        | shut => trivial
      by_cases hmk : (if m.isSome then k else cap) = k
      · rw [if_pos hmk] at hcut ⊢
        refine .vec [] _ b' o _ sz cs (Nat.zero_le _) rfl rfl (fun j hj => by simp [flatAll] at hj) (fun j u hu => by simp [flatAll] at hu) hcut
      · rw [if_neg hmk] at hcut ⊢
        simp only [Option.map_some, add_mk] at hcut ⊢
        refine .vec [] _ b' (o + k * sz) _ sz cs (Nat.zero_le _) rfl rfl (fun j hj => by simp [flatAll] at hj) (fun j u hu => by simp [flatAll] at hu) hcut
    · have hne : (if m.isSome then h else cap) ≠ k := by
        cases m <;> simp <;> omega
      rw [if_neg hne]
      simp only [Option.map_some, add_mk]
      suffices hT : TailOk γ (some ⟨b', o + k * sz, none⟩) ((es.drop k).take (h - k)).length ((if m.isSome then h else cap) - k) sz (cutTail es.length k h m.isSome tl) by
        have := VR.vec ((es.drop k).take (h - k)) (cutTail es.length k h m.isSome tl) b' (o + k * sz) ((if m.isSome then h else cap) - k) sz (fun j => cs (k * sz + j)) (by rw [hlen]; cases m <;> simp <;> omega) hs1 ho1 p1 p2 hT
        rw [hlen] at this
        exact this
      rw [hlen]
      have hbf : Nat.beq k h = false := by cases hb0 : Nat.beq k h with | false => rfl | true => exact absurd (Nat.eq_of_beq_eq_true hb0) hkh2
      simp only [cutTail, hbf, Bool.false_eq_true, if_false]
      cases m with
      | some m => exact ⟨by simp, fun e => by cases e⟩
      | none =>
        simp only [Option.isSome_none, Bool.false_eq_true, if_false]
        split
        · rename_i hhe
          have hhe := Nat.eq_of_beq_eq_true hhe
          cases tl with
          | exact own =>
            obtain ⟨hc, _⟩ := h6
            exact ⟨by omega, fun e => by cases e⟩
          | shut => trivial
          | tok t n0 =>
            obtain ⟨q1, q2, q3⟩ := h6
            refine ⟨q1, q2, fun e => ?_⟩
            obtain ⟨a0, ha0, e1, e2, e3, e4, e5⟩ := q3 e
            cases ha0
            simp only at e1 e2 e3
            refine ⟨_, rfl, e1, ?_, ?_, e4, by omega⟩
            · show o + k * sz + (h - k) * sz = _
              rw [← e2, Nat.sub_mul, hhe]
              have := Nat.mul_le_mul_right sz hkh
              rw [hhe] at this
              omega
            · show o + k * sz + (cap - k) * sz ≤ _
              rw [Nat.sub_mul]
              have := Nat.mul_le_mul_right sz (show k ≤ cap by omega)
              omega
        · trivial

theorem slice_nil_ok {t e : TypeId} (ht : P.underlying t = some (.slice e)) {n : Nat} (hs : sizeOfT P e = some n) {c : Value} {a b m : Option AV} {ca cb cm : Option Value} {h k : Nat} (hu : VR γ w .nilsl c) (ha : OptR γ w a ca) (hb : OptR γ w b cb) (hm : OptR γ w m cm)
    (hms : m = none) (hh : bnd b 0 0 = some h) (hk : bnd a 0 0 = some k) : ∃ d, (Instr.sliceAt t c ca cb cm).run P w = .ok d w ∧ VR γ w .nilsl d := by
  cases hu
  subst hms
  rcases hm with ⟨_, rfl⟩ | ⟨u, d, e, _⟩
  · have hh0 : h = 0 := by rcases bnd_some hh with ⟨_, rfl⟩ | ⟨_, m, _, _, _, rfl⟩ <;> omega
    subst hh0
    have hk0 : k = 0 := by rcases bnd_some hk with ⟨_, rfl⟩ | ⟨_, m, _, _, _, rfl⟩ <;> omega
    subst hk0
    obtain ⟨h1, h2, h3⟩ := sliceBounds_ok (P := P) ha hb (isSlice := true) (Nat.le_refl 0) hh hk
    refine ⟨.slice none 0 0, ?_, .nilsl⟩
    simp [Instr.sliceAt, Instr.slice, run_underlying ht, h1, run_sizeOf' hs]
  · cases e

theorem slice_ms_ok {t e : TypeId} (ht : P.underlying t = some (.slice e)) {sz : Nat} (hs : sizeOfT P e = some sz) {i g off len : Nat} {c : Value} {a b : Option AV} {ca cb : Option Value} {h k : Nat} (hu : VR γ w (.ms i g off len sz) c) (ha : OptR γ w a ca) (hb : OptR γ w b cb)
    (hh : bnd b len len = some h) (hk : bnd a 0 h = some k) (hne : k ≠ h) : ∃ d, (Instr.sliceAt t c ca cb none).run P w = .ok d w ∧ VR γ w (.ms i g (off + k * sz) (h - k) sz) d := by
  cases hu with
  | ms _ _ _ _ _ ad cap h1 h2 h3 h4 =>
    obtain ⟨b1, b2, b3⟩ := sliceBounds_ok (P := P) ha hb (isSlice := true) h3 hh hk
    have hck : cap ≠ k := by omega
    refine ⟨.slice (some (ad.add (k * sz))) (h - k) (cap - k), ?_, ?_⟩
    · simp [Instr.sliceAt, Instr.slice, run_underlying ht, b1, run_sizeOf' hs, hck]
    · refine .ms i g _ _ sz _ _ h1 h2 (by omega) fun e => ?_
      obtain ⟨rfl, r, e1, fr, h5, h6⟩ := h4 e
      refine ⟨by rw [add_mk], r, e1, fr, h5, ?_⟩
      rw [Nat.sub_mul]
      have := Nat.mul_le_mul_right sz (show k ≤ cap by omega)
      omega

theorem sliceA_ok (hI : Inv γ s w) {t e : TypeId} {len : Nat} (ht : P.underlying t = some (.array len e)) {sz : Nat} (hs : sizeOfT P e = some sz) {i g off : Nat} {c : Value} {cs : List AV} {a b : Option AV} {ca cb : Option Value} {h k : Nat} (hu : VR γ w (.ptr i g off) c) (hg : getCells s.heap i g = some cs) (ha : OptR γ w a ca) (hb : OptR γ w b cb)
    (hh : bnd b len len = some h) (hk : bnd a 0 h = some k) (hne : k ≠ h) (hfit : off + len * sz ≤ cs.length) : ∃ d, (Instr.sliceAt t c ca cb none).run P w = .ok d w ∧ VR γ w (.ms i g (off + k * sz) (h - k) sz) d := by
  obtain ⟨rfl, h1, r, e1, fr, k3, k4, k5, k6⟩ := ptr_cur hI hu hg
  obtain ⟨b1, b2, b3⟩ := sliceBounds_ok (P := P) ha hb (isSlice := false) (Nat.le_refl len) hh hk
  have hck : len ≠ k := by omega
  refine ⟨.slice (some ⟨γ.ob i, off + k * sz, none⟩) (h - k) (len - k), ?_, ?_⟩
  · simp [Instr.sliceAt, Instr.sureAddr, run_underlying ht, b1, run_sizeOf' hs, hck, add_mk]
  · cases hu with
    | ptr _ _ _ _ w1 w2 w3 =>
    refine .ms i g _ _ sz _ _ w1 w2 (by omega) fun e => ⟨rfl, r, e1, fr, k3, ?_⟩
    rw [Nat.sub_mul]
    have := Nat.mul_le_mul_right sz (show k ≤ len by omega)
    omega

-- ---------------------------------------------------------------- interfaces, functions, tuples

theorem mkIface_ok {t : TypeId} {d : TypeDesc} (ht : P.underlying t = some d) (hd : ∀ ms, d ≠ .interface ms) {v u : AV} {c : Value} (hv : VR γ w v c) (h : v.storedEl = some u) : ∃ d, (Instr.makeInterface t c).run P w = .ok d w ∧ VR γ w (.iface t u) d := by
  obtain ⟨h1, h2, _⟩ := storedEl_ok h hv
  refine ⟨.iface t c, ?_, .iface t u c h2 h1⟩
  simp only [Instr.makeInterface, Sem.run_bind, run_underlying ht, Result.andThen_ok]
  cases d <;> first | rfl | exact absurd rfl (hd _)

theorem tup2 {a b : AV} {x y : Value} (ha : VR γ w a x) (hb : VR γ w b y) : VR γ w (.tup [a, b]) (.tuple #[x, y]) :=
  .tup _ _ rfl fun j u v hu hv => by
    match j, hu, hv with
    | 0, hu, hv => simp at hu hv; subst hu; subst hv; exact ha
    | 1, hu, hv => simp at hu hv; subst hu; subst hv; exact hb

theorem tassert_ok {t xt : TypeId} {d : TypeDesc} (ht : P.underlying t = some d) (hd : ∀ ms, d ≠ .interface ms) {z u r : AV} {ok : Bool} {c : Value} (hz : zeroVal P t = some z) (hu : VR γ w u c)
    (h : (match (generalizing := false) u with
      | .nilif => if ok then some (AV.tup [z, .bool false]) else none
      | .iface t' v => if Nat.beq t' t then some (if ok then .tup [v, .bool true] else v) else if ok then some (.tup [z, .bool false]) else none
      | _ => none) = some r) : ∃ d, (Instr.typeAssert c xt t ok).run P w = .ok d w ∧ VR γ w r d := by
  obtain ⟨zv, z1, z2, _⟩ := zeroVal_ok (γ := γ) (w := w) hz
  have hun := run_underlying (P := P) (w := w) ht
  cases u <;> try (simp at h; done)
  case nilif =>
    cases hu
    cases ok with
    | false => simp at h
    | true =>
      simp at h
      subst h
      refine ⟨.tuple #[zv, .bool false], ?_, tup2 z2 (.bool _)⟩
      unfold Instr.typeAssert
      simp only [Sem.run_bind, hun, Result.andThen_ok]
      cases d <;> first | exact absurd rfl (hd _) | simp [z1]
  case iface t' v =>
    cases hu with
    | iface _ _ v' h1 h2 =>
    dsimp only at h
    split at h
    · rename_i e
      have e := Nat.eq_of_beq_eq_true e
      subst e
      cases h
      refine ⟨if ok then .tuple #[v', .bool true] else v', ?_, ?_⟩
      · unfold Instr.typeAssert
        simp only [Sem.run_bind, hun, Result.andThen_ok]
        cases d <;> first | exact absurd rfl (hd _) | simp
      · cases ok
        · exact h2
        · exact tup2 h2 (.bool _)
    · rename_i e
      have hne : t' ≠ t := fun e' => by subst e'; exact e (Nat.beq_refl _)
      cases ok with
      | false => simp at h
      | true =>
        simp at h
        subst h
        refine ⟨.tuple #[zv, .bool false], ?_, tup2 z2 (.bool _)⟩
        unfold Instr.typeAssert
        simp only [Sem.run_bind, hun, Result.andThen_ok]
        cases d <;> first | exact absurd rfl (hd _) | simp [z1, hne]

theorem mkFunc_ok {f : FuncId} {a c : List AV} {a' c' : Array Value} (ha : VRs γ w a a') (hc : VRs γ w c c') (h1 : allOne (keptAll a) = true) (h2 : allOne (keptAll c) = true) : VR γ w (.func f (keptAll a) (keptAll c)) (.func (.func f) a' c') :=
  .func _ _ _ _ _ ha.kept.1 hc.kept.1 h1 h2 ha.kept.2 hc.kept.2

theorem extract_ok {u v : AV} {c : Value} {vs : List AV} {i : Nat} (hu : VR γ w u c) (h1 : u.tup? = some vs) (h2 : vs[i]? = some v) : ∃ d, (Instr.extract c i).run P w = .ok d w ∧ VR γ w v d := by
  obtain rfl := tup?_some h1
  obtain ⟨cs, rfl, hc⟩ := hu.tup_inv
  obtain ⟨x, hx1, hx2⟩ := hc.get h2
  exact ⟨x, by simp [Instr.extract, hx1], hx2⟩

theorem len_ok {t ty : TypeId} {d : TypeDesc} (ht : P.underlying t = some d) {k : Nat} (hd : (k = 0 ∧ d = .string) ∨ (k = 1 ∧ ∃ e, d = .slice e) ∨ (k = 2 ∧ ∃ a e, d = .map a e)) {u v : AV} {c : Value} (hu : VR γ w u c)
    (h : (match (generalizing := false) k, u with
      | 1, .nilsl | 2, .nilmap => some (goInt 0)
      | 1, .vec es _ => some (goInt es.length)
      | 1, .ms _ _ _ n _ => some (goInt n)
      | 0, .str l => some (goInt l.length)
      | _, _ => none) = some v) :
    ∃ d, (Builtin.len_ #[t] ty #[c]).run P w = .ok d w ∧ VR γ w v d := by
  rcases hd with ⟨rfl, rfl⟩ | ⟨rfl, e, rfl⟩ | ⟨rfl, a, e, rfl⟩
  · cases u <;> try (simp at h; done)
    case str l =>
      cases h
      obtain ⟨x, rfl, rfl⟩ := hu.str_inv
      exact ⟨.int .i64 x.size, by simp [Builtin.len_, run_underlying ht]; rfl, by
        have : x.data.toList.length = x.size := Array.length_toList
        rw [this]; exact .int _ _⟩
  · cases u <;> try (simp at h; done)
    case nilsl =>
      cases hu
      cases h
      exact ⟨_, by simp [Builtin.len_, run_underlying ht]; rfl, .int _ _⟩
    case vec es tl =>
      cases h
      cases hu <;> exact ⟨_, by simp [Builtin.len_, run_underlying ht]; rfl, .int _ _⟩
    case ms i g o n z =>
      cases h
      cases hu
      exact ⟨_, by simp [Builtin.len_, run_underlying ht]; rfl, .int _ _⟩
  · cases u <;> try (simp at h; done)
    case nilmap =>
      cases hu
      cases h
      exact ⟨_, by simp [Builtin.len_, run_underlying ht]; rfl, .int _ _⟩

end Go.Am

/-
  The abstract machine, sixteenth part: every operation that comes to a value, beside the model's.
-/
namespace Go.Am
open Go.RowKit (Below)

variable {P : Program} {γ : Gh} {w : World} {s : Sg}


theorem simV (hI : Inv γ s w) {m : Sem Value} {v : AV} (h : ∃ d, m.run P w = .ok d w ∧ VR γ w v d) : SimR γ w ((do pure (Next.value (← m)) : Sem Next).run P w) v s := by
  obtain ⟨d, h1, h2⟩ := h
  exact SimR.val hI (run_value h1) h2

theorem simA {m : Sem Value} {v : AV} {s' : Sg} (h : AppR P γ w m v s') : SimR γ w ((do pure (Next.value (← m)) : Sem Next).run P w) v s' := by
  obtain ⟨γ', w', d, h1, h2, h3, h4⟩ := h
  exact SimR.val' (run_value h1) h2 h3 h4

theorem optR_ok {loc pers : Env} {a : Act} (hE : EvR γ w loc pers a) {o : Option Operand} {x : Option AOpd} {v : Option AV} (ho : tOptOpd o = some x) (hx : evOpt loc pers x = some v) : OptR γ w v (o.map a.eval) := optOpd_ok hE ho hx

theorem loadPin {k : Option Nat} {x v : AV} (h : (match k with | none => if x.one then some x else none | some n => x.agg?.bind fun cs => if Nat.beq cs.length n then some x else none : Option AV) = some v) : v = x := by
  cases k with
  | none =>
    dsimp only at h
    split at h
    · cases h; rfl
    · cases h
  | some n =>
    simp only [Option.bind_eq_some_iff] at h
    obtain ⟨cs, _, h⟩ := h
    split at h
    · cases h; rfl
    · cases h

theorem evV_eqBool {loc pers : Env} {neg : Bool} {x y : AOpd} {v : AV} (h : evV loc pers s (.eqBool neg x y) = some v) : ∃ a b, x.ev loc pers = some (.bool a) ∧ y.ev loc pers = some (.bool b) ∧ v = .bool (negIf neg (a == b)) := by
  simp only [evV, Option.bind_eq_some_iff, Option.map_eq_some_iff] at h
  obtain ⟨u, hu, b1, hb1, u', hu', b2, hb2, rfl⟩ := h
  obtain rfl := bool?_some hb1
  obtain rfl := bool?_some hb2
  exact ⟨_, _, hu, hu', rfl⟩

theorem evV_eqAgg {loc pers : Env} {neg : Bool} {ks : List Nat} {x y : AOpd} {v : AV} (h : evV loc pers s (.eqAgg neg ks x y) = some v) :
    ∃ u u' cs ds e, x.ev loc pers = some u ∧ y.ev loc pers = some u' ∧ u.agg? = some cs ∧ u'.agg? = some ds ∧ eqCells ks cs ds = some e ∧ v = .bool (negIf neg e) := by
  simp only [evV, Option.bind_eq_some_iff, Option.map_eq_some_iff] at h
  obtain ⟨u, hu, cs, hcs, u', hu', ds, hds, e, he, rfl⟩ := h
  exact ⟨u, u', cs, ds, e, hu, hu', hcs, hds, he, rfl⟩

theorem evV_eqNil {loc pers : Env} {neg : Bool} {k : Nat} {x : AOpd} {v : AV} (h : evV loc pers s (.eqNil neg k x) = some v) : ∃ u e, x.ev loc pers = some u ∧ isNil k u = some e ∧ v = .bool (negIf neg e) := by
  simp only [evV, Option.bind_eq_some_iff, Option.map_eq_some_iff] at h
  obtain ⟨u, hu, e, he, rfl⟩ := h
  exact ⟨u, e, hu, he, rfl⟩

/-- operators on two values -/
theorem sim_bin (hI : Inv γ s w) {loc pers : Env} {a : Act} (hE : EvR γ w loc pers a) {op : BinOp} {t : TypeId} {x y : Operand} {p : VOp} (ht : tBin P op t x y = some p) {v : AV} (hv : evV loc pers s p = some v) :
    SimR γ w ((do pure (Next.value (← (do eqGuard op t x y (a.eval x) (a.eval y); binOp op t (a.eval x) (a.eval y) : Sem Value))) : Sem Next).run P w) v s := by
  unfold tBin at ht
  cases hx : tOpd x with
  | none => simp [hx] at ht
  | some ax =>
  cases hy : tOpd y with
  | none => simp [hx, hy] at ht
  | some ay =>
  simp only [hx, hy] at ht
  have plain : ∀ {op' : BinOp}, op' = op → evV loc pers s (.bin op' ax ay) = some v → SimR γ w ((do pure (Next.value (← (do eqGuard op t x y (a.eval x) (a.eval y); binOp op t (a.eval x) (a.eval y) : Sem Value))) : Sem Next).run P w) v s := fun {op'} e hv => by
    subst e
    simp only [evV, Option.bind_eq_some_iff] at hv
    obtain ⟨u, hu, u', hu', hr⟩ := hv
    exact simV hI (evBin_ok hr (opd_ok hE hx hu) (opd_ok hE hy hu') t x y)
  have eqs : (op = .eql ∨ op = .neq) → (match (generalizing := false) P.underlying t with
       | some (.int _) | some .string | some (.float _) | some (.complex _) => some (.bin op ax ay)
       | some .bool => some (.eqBool (match (generalizing := false) op with | .neq => true | _ => false) ax ay)
       | some (.struct fs) =>
         if P.stoodInHeld t then none else (plainKinds P 0 fs.toList).map fun ks => .eqAgg (match (generalizing := false) op with | .neq => true | _ => false) ks ax ay
       | some d => (nilKind d).bind fun k =>
         if isNilConst k y then some (.eqNil (match (generalizing := false) op with | .neq => true | _ => false) k ax)
         else if isNilConst k x then some (.eqNil (match (generalizing := false) op with | .neq => true | _ => false) k ay) else none
       | _ => none : Option VOp) = some p → SimR γ w ((do pure (Next.value (← (do eqGuard op t x y (a.eval x) (a.eval y); binOp op t (a.eval x) (a.eval y) : Sem Value))) : Sem Next).run P w) v s := fun hop ht => by
    split at ht
    · cases ht; exact plain rfl hv
    · cases ht; exact plain rfl hv
    · cases ht; exact plain rfl hv
    · cases ht; exact plain rfl hv
    · rename_i hb
      obtain rfl := Option.some.inj ht
      obtain ⟨b1, b2, hu, hu', rfl⟩ := evV_eqBool hv
      have e1 := (opd_ok hE hx hu).bool_inv
      have e2 := (opd_ok hE hy hu').bool_inv
      rw [e1, e2]
      have := eqBool_ok (P := P) (w := w) b1 b2 hop t hb x y
      rcases hop with rfl | rfl <;> exact simV hI ⟨_, this, .bool _⟩
    · rename_i fs hb
      split at ht
      · cases ht
      · rename_i hsh
        simp only [Option.map_eq_some_iff] at ht
        obtain ⟨ks, hks, rfl⟩ := ht
        obtain ⟨u, u', cs, ds, e, hu, hu', hcs, hds, he, rfl⟩ := evV_eqAgg hv
        have := eqAgg_ok (P := P) hop hb (by simpa using hsh) hks (opd_ok hE hx hu) (opd_ok hE hy hu') hcs hds he x y
        rcases hop with rfl | rfl <;> exact simV hI ⟨_, this, .bool _⟩
    · rename_i d _ _ _ _ _ _ hb
      simp only [Option.bind_eq_some_iff] at ht
      obtain ⟨k, hk, ht⟩ := ht
      split at ht
      · rename_i hc
        obtain rfl := Option.some.inj ht
        obtain ⟨u, e, hu, he, rfl⟩ := evV_eqNil hv
        have hyc := isNilConst_eq hc
        subst hyc
        have := (eqNil_ok (P := P) hop hk he (opd_ok hE hx hu) t hb x).1
        rcases hop with rfl | rfl <;> exact simV hI ⟨_, this, .bool _⟩
      · split at ht
        · rename_i hc
          obtain rfl := Option.some.inj ht
          obtain ⟨u, e, hu, he, rfl⟩ := evV_eqNil hv
          have hxc := isNilConst_eq hc
          subst hxc
          have := (eqNil_ok (P := P) hop hk he (opd_ok hE hy hu) t hb y).2
          rcases hop with rfl | rfl <;> exact simV hI ⟨_, this, .bool _⟩
        · cases ht
    · cases ht
  cases op <;> first | exact eqs (.inl rfl) ht | exact eqs (.inr rfl) ht | (cases ht; exact plain rfl hv)

theorem sim_conv (hI : Inv γ s w) {src dst : TypeId} {k : ConvK} (ht : tConv P src dst = some k) {u v : AV} {c : Value} (hu : VR γ w u c) (hv : evConv k u = some v) : AppR P γ w (convert src dst c) v s := by
  unfold tConv at ht
  cases hs : P.underlying src with
  | none => simp [hs] at ht
  | some ds =>
  cases hd : P.underlying dst with
  | none => cases ds <;> simp [hs, hd] at ht
  | some dd =>
  have r1 := run_underlying (P := P) (w := w) hs
  have r2 := run_underlying (P := P) (w := w) hd
  simp only [hs, hd] at ht
  split at ht
  · cases ht
    rename_i e1 e2
    cases e1; cases e2
    cases u <;> try (simp [evConv] at hv; done)
    simp [evConv] at hv
    subst hv
    obtain rfl := hu.int_inv
    exact nothing_ok hI (by simp [convert, r1, r2, Conv.intToInt]) (.int _ _)
  · cases ht
    rename_i e1 e2
    cases e1; cases e2
    cases u <;> try (simp [evConv] at hv; done)
    simp [evConv] at hv
    subst hv
    obtain rfl := hu.int_inv
    exact nothing_ok hI (by simp [convert, r1, r2, Conv.intToFloat]) (.flt _ _)
  · cases ht
    rename_i e1 e2
    cases e1; cases e2
    cases u <;> try (simp [evConv] at hv; done)
    simp only [evConv, Option.bind_eq_some_iff] at hv
    obtain ⟨n, hn, hv⟩ := hv
    split at hv
    · rename_i hc
      cases hv
      obtain rfl := hu.flt_inv
      exact nothing_ok hI (by simp [convert, r1, r2, Conv.floatToInt, hn, hc]) (.int _ _)
    · cases hv
  · cases ht
    rename_i e1 e2
    cases e1; cases e2
    cases u <;> try (simp [evConv] at hv; done)
    simp [evConv] at hv
    subst hv
    obtain rfl := hu.int_inv
    exact nothing_ok hI (by simp [convert, r1, r2, Conv.intToString]) (.str _)
  · cases ht
    rename_i e1 e2
    cases e1; cases e2
    cases u <;> try (simp [evConv] at hv; done)
    simp [evConv] at hv
    subst hv
    obtain ⟨x, rfl, rfl⟩ := hu.str_inv
    exact nothing_ok hI (by simp [convert, r1, r2]) (.str _)
  · rename_i e e1 e2
    cases e1; cases e2
    split at ht
    · rename_i he
      cases ht
      cases u <;> try (simp [evConv] at hv; done)
      simp [evConv] at hv
      subst hv
      obtain ⟨x, rfl, rfl⟩ := hu.str_inv
      obtain ⟨γ', w', d, h1, h2, h3, h4⟩ := strBytes_ok (P := P) hI hs hd he x
      exact ⟨γ', w', d, h1, h2, h3, h4⟩
    · cases ht
  · rename_i e e1 e2
    cases e1; cases e2
    split at ht
    · rename_i he
      cases ht
      obtain ⟨d, h1, h2⟩ := bytesStr_ok (P := P) hs he hd hu hv
      exact nothing_ok hI h1 h2
    · cases ht
  · rename_i e' e e1 e2
    cases e1; cases e2
    split at ht
    · rename_i hsd
      have hsd : src = dst := by simpa using hsd
      subst hsd
      split at ht
      · rename_i he
        cases ht
        obtain ⟨w', d, h1, h2, h3, h4⟩ := ownBytes_ok (P := P) hI hd he hu hv
        exact ⟨γ, w', d, h1, h2, h3, h4⟩
      · cases ht
    · cases ht
  · cases ht

theorem sim_builtin (hI : Inv γ s w) {loc pers : Env} {a : Act} (hE : EvR γ w loc pers a) {c : Call} {b : Builtin} (hc : c.callee = .builtin b) {mu : Bool} {type : TypeId} {p : VOp} (ht : tCall P c mu = some (.v p)) {v : AV} (hv : evV loc pers s p = some v) :
    SimR γ w ((do let d ← resolve a.eval c type; invoke d.target d.args : Sem Next).run P w) v s := by
  have hres : (do let d ← resolve a.eval c type; invoke d.target d.args : Sem Next) = builtin b c.argTypes type (c.args.map fun | .const _ => true | _ => false) (c.args.map a.eval) := by
    simp only [resolve, hc]
    rfl
  rw [hres]
  simp only [tCall, hc] at ht
  have hmap : c.args.map a.eval = (c.args.toList.map a.eval).toArray := by rw [← Array.toList_map, Array.toArray_toList]
  have hall : ∀ {xs : List AOpd} {us : List AV}, tOpds c.args.toList = some xs → evAll loc pers xs = some us → VRs γ w us (c.args.map a.eval) := fun h1 h2 => by rw [hmap]; exact opds_ok hE h1 h2
  have one : ∀ {x : AOpd} {u : AV}, tOpds c.args.toList = some [x] → x.ev loc pers = some u → ∃ d, c.args.map a.eval = #[d] ∧ VR γ w u d := fun {x u} h1 h2 => by
    have hv := hall h1 (us := [u]) (by simp [evAll, h2])
    obtain ⟨d, g1, g2⟩ := hv.get (j := 0) rfl
    have hsz := hv.1
    refine ⟨d, ?_, g2⟩
    apply Array.ext_getElem?
    intro i
    match i with
    | 0 => rw [g1]; rfl
    | i + 1 => rw [Array.getElem?_eq_none (by simp at hsz ⊢; omega)]; rfl
  have two : ∀ {x y : AOpd} {u v : AV}, tOpds c.args.toList = some [x, y] → x.ev loc pers = some u → y.ev loc pers = some v → ∃ d e, c.args.map a.eval = #[d, e] ∧ VR γ w u d ∧ VR γ w v e := fun {x y u v} h1 h2 h3 => by
    have hv := hall h1 (us := [u, v]) (by simp [evAll, h2, h3])
    obtain ⟨d, g1, g2⟩ := hv.get (j := 0) rfl
    obtain ⟨e, g3, g4⟩ := hv.get (j := 1) rfl
    have hsz := hv.1
    refine ⟨d, e, ?_, g2, g4⟩
    apply Array.ext_getElem?
    intro i
    match i with
    | 0 => rw [g1]; rfl
    | 1 => rw [g3]; rfl
    | i + 2 => rw [Array.getElem?_eq_none (by simp at hsz ⊢; omega)]; rfl
  split at ht
  · -- len
    rename_i x hl
    have hat : ∀ {d}, (c.argTypes[0]?).bind P.underlying = some d → ∃ t, c.argTypes[0]? = some t ∧ P.underlying t = some d := fun {d} h => by
      simpa [Option.bind_eq_some_iff] using h
    have hlen : ∀ t (u : Value), c.argTypes[0]? = some t → Builtin.len_ c.argTypes type #[u] = Builtin.len_ #[t] type #[u] := fun t u h => by
      unfold Builtin.len_
      simp [h]
    split at ht
    · rename_i hd
      cases ht
      obtain ⟨t, h1, h2⟩ := hat hd
      simp only [evV, Option.bind_eq_some_iff] at hv
      obtain ⟨u, hu, hv⟩ := hv
      obtain ⟨d, g1, g2⟩ := one hl hu
      rw [g1]
      refine simV hI ?_
      rw [hlen t d h1]
      exact len_ok h2 (k := 0) (.inl ⟨rfl, rfl⟩) g2 hv
    · rename_i e hd
      cases ht
      obtain ⟨t, h1, h2⟩ := hat hd
      simp only [evV, Option.bind_eq_some_iff] at hv
      obtain ⟨u, hu, hv⟩ := hv
      obtain ⟨d, g1, g2⟩ := one hl hu
      rw [g1]
      refine simV hI ?_
      rw [hlen t d h1]
      exact len_ok h2 (k := 1) (.inr (.inl ⟨rfl, e, rfl⟩)) g2 hv
    · rename_i e1 e2 hd
      cases ht
      obtain ⟨t, h1, h2⟩ := hat hd
      simp only [evV, Option.bind_eq_some_iff] at hv
      obtain ⟨u, hu, hv⟩ := hv
      obtain ⟨d, g1, g2⟩ := one hl hu
      rw [g1]
      refine simV hI ?_
      rw [hlen t d h1]
      exact len_ok h2 (k := 2) (.inr (.inr ⟨rfl, e1, e2, rfl⟩)) g2 hv
    · rename_i n e hd
      cases ht
      obtain ⟨t, h1, h2⟩ := hat hd
      simp only [evV, Option.some.injEq] at hv
      subst hv
      have hsz : (c.args.map a.eval)[0]? ≠ none := by
        intro h0
        cases hcl : c.args.toList with
        | nil => rw [hcl] at hl; simp [tOpds] at hl
        | cons y r =>
          rw [hmap, hcl] at h0
          simp at h0
      cases h0 : (c.args.map a.eval)[0]? with
      | none => exact absurd h0 hsz
      | some u =>
        refine simV hI ⟨.int .i64 n, ?_, .int _ _⟩
        simp [Builtin.len_, h1, h0, run_underlying h2]
        rfl
    · cases ht
  · split at ht
    · simp at ht
    · simp at ht
    · cases ht
  · split at ht
    · simp at ht
    · cases ht
  · rename_i l hl
    cases ht
    simp only [evV, Option.bind_eq_some_iff] at hv
    obtain ⟨us, hu, hv⟩ := hv
    obtain ⟨d, g1, g2⟩ := minmax_ok (P := P) hv (hall hl hu)
    exact simV hI ⟨d, g1, g2⟩
  · rename_i l hl
    cases ht
    simp only [evV, Option.bind_eq_some_iff] at hv
    obtain ⟨us, hu, hv⟩ := hv
    obtain ⟨d, g1, g2⟩ := minmax_ok (P := P) hv (hall hl hu)
    exact simV hI ⟨d, g1, g2⟩
  · rename_i x hl
    cases ht
    simp only [evV, Option.bind_eq_some_iff] at hv
    obtain ⟨u, hu, hv⟩ := hv
    obtain ⟨d, g1, g2⟩ := one hl hu
    rw [g1]
    cases u <;> simp at hv
    subst hv
    obtain rfl := g2.cplx_inv
    exact simV hI ⟨_, rfl, .flt _ _⟩
  · rename_i x hl
    cases ht
    simp only [evV, Option.bind_eq_some_iff] at hv
    obtain ⟨u, hu, hv⟩ := hv
    obtain ⟨d, g1, g2⟩ := one hl hu
    rw [g1]
    cases u <;> simp at hv
    subst hv
    obtain rfl := g2.cplx_inv
    exact simV hI ⟨_, rfl, .flt _ _⟩
  · rename_i x y hl
    cases ht
    simp only [evV, Option.bind_eq_some_iff] at hv
    obtain ⟨u, hu, u', hu', hv⟩ := hv
    obtain ⟨d, e, g1, g2, g3⟩ := two hl hu hu'
    rw [g1]
    cases u <;> try (simp at hv; done)
    cases u' <;> try (simp at hv; done)
    dsimp only at hv
    split at hv
    · rename_i hk
      subst hk
      cases hv
      obtain rfl := g2.flt_inv
      obtain rfl := g3.flt_inv
      refine simV hI ⟨.complex _ _ _, ?_, .cplx _ _ _⟩
      show Sem.run P (if _ = _ then pure (Value.complex _ _ _) else _) w = _
      rw [if_pos rfl]
      rfl
    · cases hv
  · cases ht
  · cases ht

end Go.Am

/-
  The abstract machine, seventeenth part: every operation, beside the model's.
-/
namespace Go.Am
open Go.RowKit (Below)

variable {P : Program} {γ : Gh} {w : World} {s : Sg}

theorem allOneAll_of : ∀ {es : List AV}, allOne (flatAll es) = true → allOneAll es = true
  | [], _ => rfl
  | e :: r, h => by
    simp only [flatAll, allOne_append, Bool.and_eq_true] at h
    simp only [allOneAll, Bool.and_eq_true]
    exact ⟨h.1, allOneAll_of h.2⟩

theorem sim_v (hI : Inv γ s w) {loc pers : Env} {a : Act} (hE : EvR γ w loc pers a) {mu : Bool} {o : Oper} {p : VOp} (ht : tOp P mu o.op = some (.v p)) {v : AV} (hv : evV loc pers s p = some v) : SimR γ w ((execOp a.eval o).run P w) v s := by
  obtain ⟨dst, op, type, pos, after, guard⟩ := o
  cases op with
  | move x =>
    simp only [tOp, Option.map_eq_some_iff, AOp.v.injEq] at ht
    obtain ⟨y, hy, rfl⟩ := ht
    exact SimR.val hI rfl (opd_ok hE hy hv)
  | assign x =>
    simp only [tOp, Option.map_eq_some_iff, AOp.v.injEq] at ht
    obtain ⟨y, hy, rfl⟩ := ht
    exact SimR.val hI rfl (opd_ok hE hy hv)
  | pick c x y =>
    simp only [tOp] at ht
    split at ht
    · rename_i c' x' y' h1 h2 h3
      cases ht
      simp only [evV, Option.bind_eq_some_iff] at hv
      obtain ⟨u, hu, b, hb, hv⟩ := hv
      obtain rfl := bool?_some hb
      have e := (opd_ok hE h1 hu).bool_inv
      cases b
      · exact SimR.val hI (by simp [execOp, e]; rfl) (opd_ok hE h3 hv)
      · exact SimR.val hI (by simp [execOp, e]; rfl) (opd_ok hE h2 hv)
    · cases ht
  | alloc e => simp [tOp] at ht
  | box e x => simp [tOp] at ht
  | build t ps =>
    simp only [tOp] at ht
    split at ht
    · rename_i fs z h1 h2
      split at ht
      · rename_i hall
        simp only [Option.map_eq_some_iff, AOp.v.injEq] at ht
        obtain ⟨l, hl, rfl⟩ := ht
        simp only [evV, Option.map_eq_some_iff] at hv
        obtain ⟨cs, hcs, rfl⟩ := hv
        exact simV hI (build_struct_ok hE h1 h2 hall hl hcs)
      · cases ht
    · rename_i n e z h1 h2
      split at ht
      · rename_i sz hs
        simp only [Option.map_eq_some_iff, AOp.v.injEq] at ht
        obtain ⟨l, hl, rfl⟩ := ht
        simp only [evV, Option.map_eq_some_iff] at hv
        obtain ⟨cs, hcs, rfl⟩ := hv
        exact simV hI (build_array_ok hE h1 h2 hs hl hcs)
      · cases ht
    · cases ht
  | buildSlice t len ps =>
    simp only [tOp] at ht
    split at ht
    · rename_i e h1
      split at ht
      · rename_i k z l h2 h3 h4
        split at ht
        · rename_i hc
          simp only [Bool.and_eq_true] at hc
          obtain ⟨hc1, hc2⟩ := hc
          cases mu with
          | true => simp at ht
          | false =>
            simp only [Bool.false_eq_true, if_false, Option.some.injEq, AOp.v.injEq] at ht
            subst ht
            simp only [evV, Option.map_eq_some_iff] at hv
            obtain ⟨es, hes, rfl⟩ := hv
            obtain ⟨c, g1, g2, g3, g4, g5, g6⟩ := slice_cells_ok hE h1 h2 h3 (Nat.le_of_ble_eq_true hc1) (Nat.eq_of_beq_eq_true hc2) h4 hes
            exact simA (buildSl_ok hI g1 g2 (allOneAll_of g4) g3 g5)
        · cases ht
      · cases ht
    · cases ht
  | load t x =>
    simp only [tOp] at ht
    split at ht
    · rename_i k y hk hy
      cases ht
      simp only [evV, Option.bind_eq_some_iff] at hv
      obtain ⟨u, hu, hv⟩ := hv
      have hr := opd_ok hE hy hu
      cases u <;> try (simp at hv; done)
      case ptr i g off =>
        simp only [Option.bind_eq_some_iff] at hv
        obtain ⟨cs, hg, hv⟩ := hv
        exact simV hI (load_ptr_ok hk hI hr hg hv)
      case pin x =>
        dsimp only at hv
        have e := loadPin hv
        subst e
        exact simV hI (load_pin_ok hk hr hv)
    · cases ht
  | store t x y =>
    simp only [tOp] at ht
    split at ht <;> simp at ht
  | nilCheck x =>
    simp only [tOp, Option.map_eq_some_iff, AOp.v.injEq] at ht
    obtain ⟨y, hy, rfl⟩ := ht
    simp only [evV, Option.bind_eq_some_iff] at hv
    obtain ⟨u, hu, hv⟩ := hv
    have hr := opd_ok hE hy hu
    have key : v = u ∧ ((execOp a.eval ⟨dst, .nilCheck x, type, pos, after, guard⟩).run P w = .ok (.value (a.eval x)) w) := by
      simp only [execOp]
      cases u <;> try (simp at hv; done)
      all_goals (refine ⟨by simpa using hv.symm, ?_⟩; generalize a.eval x = c at hr; cases hr <;> rfl)
    rw [key.1]
    exact SimR.val hI key.2 hr
  | binOp op t x y n =>
    simp only [tOp, Option.map_eq_some_iff, AOp.v.injEq] at ht
    obtain ⟨q, hq, rfl⟩ := ht
    exact sim_bin hI hE hq hv
  | unOp op t x =>
    simp only [tOp, Option.map_eq_some_iff, AOp.v.injEq] at ht
    obtain ⟨y, hy, rfl⟩ := ht
    simp only [evV, Option.bind_eq_some_iff] at hv
    obtain ⟨u, hu, hv⟩ := hv
    exact simV hI (evUn_ok hv (opd_ok hE hy hu))
  | convert src dst x =>
    simp only [tOp] at ht
    split at ht
    · rename_i k y hk hy
      cases ht
      simp only [evV, Option.bind_eq_some_iff] at hv
      obtain ⟨u, hu, hv⟩ := hv
      exact simA (sim_conv hI hk (opd_ok hE hy hu) hv)
    · cases ht
  | makeInterface t x =>
    simp only [tOp] at ht
    split at ht
    · cases ht
    · rename_i d y hne h1 h2
      cases ht
      simp only [evV, Option.bind_eq_some_iff, Option.map_eq_some_iff] at hv
      obtain ⟨u, hu, u', hu', rfl⟩ := hv
      exact simV hI (mkIface_ok h1 (fun ms e => hne ms e) (opd_ok hE h2 hu) hu')
    · cases ht
  | makeFunc f first cap =>
    cases f <;> try (simp [tOp] at ht; done)
    rename_i f
    simp only [tOp, Option.bind_eq_some_iff, Option.map_eq_some_iff, AOp.v.injEq] at ht
    obtain ⟨l1, h1, l2, h2, rfl⟩ := ht
    simp only [evV, Option.bind_eq_some_iff] at hv
    obtain ⟨u, hu, c, hc, hv⟩ := hv
    split at hv
    · rename_i hcond
      simp only [Bool.and_eq_true] at hcond
      cases hv
      have e1 := opds_ok hE h1 hu
      have e2 := opds_ok hE h2 hc
      refine SimR.val hI (c := .func (.func f) (first.map a.eval) (cap.map a.eval)) rfl ?_
      have m1 : (first.toList.map a.eval).toArray = first.map a.eval := by rw [← Array.toList_map, Array.toArray_toList]
      have m2 : (cap.toList.map a.eval).toArray = cap.map a.eval := by rw [← Array.toList_map, Array.toArray_toList]
      rw [m1] at e1
      rw [m2] at e2
      exact mkFunc_ok e1 e2 hcond.1 hcond.2
    · cases hv
  | makeSlice t l c =>
    simp only [tOp] at ht
    split at ht
    · simp only [Option.bind_eq_some_iff] at ht
      obtain ⟨_, _, _, _, _, _, _, _, ht⟩ := ht
      split at ht <;> simp at ht
    · cases ht
  | slice t x lo hi mx =>
    simp only [tOp] at ht
    split at ht
    · rename_i ax al ah am h1 h2 h3 h4
      split at ht
      · rename_i hs
        split at ht
        · cases ht
          have hm0 : mx = none := by cases mx with | none => rfl | some m => simp [tOptOpd] at h4
          subst hm0
          simp only [evV, Option.bind_eq_some_iff, Option.map_eq_some_iff] at hv
          obtain ⟨u, hu, l, hl, q1, hq1, q2, hq2, h, hh, k, hk, rfl⟩ := hv
          exact simV hI (sliceS_ok hs (opd_ok hE h1 hu) hl (optR_ok hE h2 hq1) (optR_ok hE h3 hq2) hh hk)
        · cases ht
      · rename_i e hs
        split at ht
        · cases ht
        · rename_i hmh
          simp only [Option.map_eq_some_iff, AOp.v.injEq] at ht
          obtain ⟨n, hn, rfl⟩ := ht
          simp only [evV, Option.bind_eq_some_iff] at hv
          obtain ⟨u, hu, q1, hq1, q2, hq2, q3, hq3, hv⟩ := hv
          have ha := optR_ok hE h2 hq1
          have hb := optR_ok hE h3 hq2
          have hm := optR_ok hE h4 hq3
          have hbs : q3.isSome = true → q2.isSome = true := fun e => by
            cases am with
            | none => simp [evOpt] at hq3; subst hq3; cases e
            | some m =>
              cases ah with
              | none => exact absurd rfl (hmh m rfl)
              | some h' =>
                simp only [evOpt, Option.map_eq_some_iff] at hq2
                obtain ⟨z, _, rfl⟩ := hq2
                rfl
          have hr := opd_ok hE h1 hu
          cases u <;> try (simp at hv; done)
          case vec es tl =>
            simp only [Option.bind_eq_some_iff] at hv
            obtain ⟨h, hh, k, hk, q, hq, hv⟩ := hv
            split at hv
            · rename_i hc
              simp only [Bool.and_eq_true, Bool.or_eq_true] at hc
              cases hv
              exact simV hI (slice_vec_ok hs hn hr ha hb hm hbs hh hk hq (Nat.eq_of_beq_eq_true hc.1) (hc.2.imp Nat.eq_of_beq_eq_true id))
            · cases hv
          case nilsl =>
            cases q3 with
            | none =>
              simp only [Option.isSome_none, Bool.false_eq_true, if_false, Option.bind_eq_some_iff, Option.map_eq_some_iff] at hv
              obtain ⟨h, hh, k, hk, rfl⟩ := hv
              exact simV hI (slice_nil_ok hs hn hr ha hb hm rfl hh hk)
            | some m => simp at hv
          case ms i g off len z =>
            dsimp only at hv
            split at hv
            · cases hv
            · rename_i hc
              simp only [Bool.or_eq_true, not_or, Bool.not_eq_true', Bool.not_eq_true, Bool.not_eq_false] at hc
              obtain ⟨hc1, hc2⟩ := hc
              have hz := Nat.eq_of_beq_eq_true hc2
              subst hz
              simp only [Option.bind_eq_some_iff] at hv
              obtain ⟨h, hh, k, hk, hv⟩ := hv
              split at hv
              · cases hv
              · rename_i hne
                cases hv
                cases q3 with
                | some m => simp at hc1
                | none =>
                  rcases hm with ⟨_, hm⟩ | ⟨_, _, e, _⟩
                  · have := slice_ms_ok (P := P) hs hn hr ha hb hh hk (fun e => hne (by rw [e]; exact Nat.beq_refl _))
                    rw [← hm] at this
                    exact simV hI this
                  · cases e
      · rename_i n e hs
        split at ht
        · simp only [Option.map_eq_some_iff, AOp.v.injEq] at ht
          obtain ⟨sz, hsz, rfl⟩ := ht
          have hm0 : mx = none := by cases mx with | none => rfl | some m => simp [tOptOpd] at h4
          subst hm0
          simp only [evV, Option.bind_eq_some_iff] at hv
          obtain ⟨u, hu, q1, hq1, q2, hq2, hv⟩ := hv
          have hr := opd_ok hE h1 hu
          cases u <;> try (simp at hv; done)
          simp only [Option.bind_eq_some_iff] at hv
          obtain ⟨cs, hcs, h, hh, k, hk, hv⟩ := hv
          split at hv
          · cases hv
          · rename_i hc
            simp only [Bool.or_eq_true, not_or, Bool.not_eq_true', Bool.not_eq_true, Bool.not_eq_false] at hc
            cases hv
            exact simV hI (sliceA_ok hI hs hsz hr hcs (optR_ok hE h2 hq1) (optR_ok hE h3 hq2) hh hk (fun e => by rw [e, Nat.beq_refl] at hc; cases hc.1) (Nat.le_of_ble_eq_true hc.2))
        · cases ht
      · cases ht
    · cases ht
  | fieldAddr t x f =>
    simp only [tOp] at ht
    split at ht
    · rename_i fs ax h1 h2
      split at ht
      · rename_i fd h3
        split at ht
        · rename_i k n h4 h5
          split at ht
          · cases ht
          · rename_i hn
            cases ht
            simp only [evV, Option.bind_eq_some_iff] at hv
            obtain ⟨u, hu, hv⟩ := hv
            exact simV hI (fieldAddr_ok h1 h3 h4 h5 (fun e => by subst e; exact hn rfl) (opd_ok hE h2 hu) hv)
        · cases ht
      · cases ht
    · cases ht
  | field t x f =>
    simp only [tOp] at ht
    split at ht
    · rename_i fs ax h1 h2
      split at ht
      · rename_i fd h3
        simp only [Option.map_eq_some_iff, AOp.v.injEq] at ht
        obtain ⟨k, hk, rfl⟩ := ht
        simp only [evV, Option.bind_eq_some_iff] at hv
        obtain ⟨u, hu, cs, hcs, hv⟩ := hv
        exact simV hI (field_ok h1 h3 hk (opd_ok hE h2 hu) hcs hv)
      · cases ht
    · cases ht
  | indexAddr t x i =>
    simp only [tOp] at ht
    split at ht
    · rename_i ax ai h1 h2
      split at ht
      · rename_i e hs
        split at ht
        · rename_i k n hk hn
          split at ht
          · rename_i hb
            cases ht
            have hb := Nat.eq_of_beq_eq_true hb
            subst hb
            simp only [evV, Option.bind_eq_some_iff] at hv
            obtain ⟨u, hu, j, hj, hv⟩ := hv
            exact simV hI (indexAddrS_ok hs hn hI (opd_ok hE h1 hu) (opd_ok hE h2 hj) hv)
          · cases ht
        · cases ht
      · rename_i len e hs
        split at ht
        · rename_i k n hk hn
          split at ht
          · rename_i hb
            cases ht
            have hb := Nat.eq_of_beq_eq_true hb
            subst hb
            simp only [evV, Option.bind_eq_some_iff] at hv
            obtain ⟨u, hu, j, hj, q, hq, hv⟩ := hv
            exact simV hI (indexAddrA_ok hs hn (opd_ok hE h1 hu) (opd_ok hE h2 hj) hq hv)
          · cases ht
        · cases ht
      · cases ht
    · cases ht
  | index t x i =>
    simp only [tOp] at ht
    split at ht
    · rename_i ax ai h1 h2
      split at ht
      · rename_i hs
        cases ht
        simp only [evV, Option.bind_eq_some_iff, Option.map_eq_some_iff] at hv
        obtain ⟨u, hu, l, hl, k, hk, j, hj, b, hb, rfl⟩ := hv
        exact simV hI ⟨_, indexS_ok hs (opd_ok hE h1 hu) (opd_ok hE h2 hk) hl hj hb, .int _ _⟩
      · rename_i len e hs
        split at ht
        · rename_i k n hk hn
          split at ht
          · rename_i hb
            cases ht
            have hb := Nat.eq_of_beq_eq_true hb
            subst hb
            simp only [evV, Option.bind_eq_some_iff] at hv
            obtain ⟨u, hu, cs, hcs, j, hj, q, hq, hv⟩ := hv
            exact simV hI (indexA_ok hs hk hn (opd_ok hE h1 hu) (opd_ok hE h2 hj) hcs hq hv)
          · cases ht
        · cases ht
      · cases ht
    · cases ht
  | lookup t x k ok =>
    simp only [tOp] at ht
    split at ht
    · split at ht
      · simp only [Option.map_eq_some_iff, AOp.v.injEq] at ht
        obtain ⟨z, hz, rfl⟩ := ht
        simp [evV] at hv
      · simp only [Option.map_eq_some_iff, AOp.v.injEq] at ht
        obtain ⟨z, hz, rfl⟩ := ht
        simp [evV] at hv
      · cases ht
    · cases ht
  | typeAssert x xt t ok =>
    simp only [tOp] at ht
    split at ht
    · cases ht
    · rename_i d y hne h1 h2
      simp only [Option.map_eq_some_iff, AOp.v.injEq] at ht
      obtain ⟨z, hz, rfl⟩ := ht
      simp only [evV, Option.bind_eq_some_iff] at hv
      obtain ⟨u, hu, hv⟩ := hv
      exact simV hI (tassert_ok h1 (fun ms e => hne ms e) hz (opd_ok hE h2 hu) hv)
    · cases ht
  | extract x i =>
    simp only [tOp, Option.map_eq_some_iff, AOp.v.injEq] at ht
    obtain ⟨y, hy, rfl⟩ := ht
    simp only [evV, Option.bind_eq_some_iff] at hv
    obtain ⟨u, hu, vs, hvs, hv⟩ := hv
    exact simV hI (extract_ok (opd_ok hE hy hu) hvs hv)
  | call c =>
    simp only [tOp] at ht
    cases hc : c.callee with
    | builtin b => exact sim_builtin hI hE hc ht hv
    | value f =>
      simp only [tCall, hc] at ht
      split at ht
      · simp at ht
      · simp only [Option.bind_eq_some_iff, Option.map_eq_some_iff] at ht
        obtain ⟨_, _, _, _, ht⟩ := ht
        cases ht
      · rename_i h; cases h
      · rename_i h; cases h
    | invoke _ _ => simp [tCall, hc] at ht
  | insert t m k x =>
    simp only [tOp] at ht
    split at ht
    · split at ht <;> cases ht
    · cases ht
  | mapUpdate t m k x =>
    simp only [tOp] at ht
    split at ht
    · split at ht <;> cases ht
    · cases ht
  | makeMap t r =>
    cases r with
    | none =>
      simp only [tOp] at ht
      split at ht <;> cases ht
    | some r => cases ht
  | defer c =>
    simp only [tOp] at ht
    split at ht
    · split at ht <;> cases ht
    · cases ht
  | panic x => simp [tOp] at ht
  | _ => cases ht

end Go.Am

/-
  The abstract machine, eighteenth part: every operation that changes the abstract heap, or the tokens.
-/
namespace Go.Am
open Go.RowKit (Below)

variable {P : Program} {γ : Gh} {w : World} {s : Sg}

theorem sim_append (hI : Inv γ s w) {loc pers : Env} {a : Act} (hE : EvR γ w loc pers a) {c : Call} {b : Builtin} (hc : c.callee = .builtin b) {mu : Bool} {type : TypeId} {p : EOp} (ht : tCall P c mu = some (.e p)) {bar : Bar} {v : AV} {s' : Sg} (hv : evE bar loc pers s p = some (v, s')) :
    SimR γ w ((do let d ← resolve a.eval c type; invoke d.target d.args : Sem Next).run P w) v s' := by
  have hres : (do let d ← resolve a.eval c type; invoke d.target d.args : Sem Next) = builtin b c.argTypes type (c.args.map fun | .const _ => true | _ => false) (c.args.map a.eval) := by
    simp only [resolve, hc]
    rfl
  rw [hres]
  simp only [tCall, hc] at ht
  have hmap : c.args.map a.eval = (c.args.toList.map a.eval).toArray := by rw [← Array.toList_map, Array.toArray_toList]
  have hall : ∀ {xs : List AOpd} {us : List AV}, tOpds c.args.toList = some xs → evAll loc pers xs = some us → VRs γ w us (c.args.map a.eval) := fun h1 h2 => by rw [hmap]; exact opds_ok hE h1 h2
  have two : ∀ {x y : AOpd} {u v : AV}, tOpds c.args.toList = some [x, y] → x.ev loc pers = some u → y.ev loc pers = some v → ∃ d e, c.args.map a.eval = #[d, e] ∧ VR γ w u d ∧ VR γ w v e := fun {x y u v} h1 h2 h3 => by
    have hv := hall h1 (us := [u, v]) (by simp [evAll, h2, h3])
    obtain ⟨d, g1, g2⟩ := hv.get (j := 0) rfl
    obtain ⟨e, g3, g4⟩ := hv.get (j := 1) rfl
    have hsz := hv.1
    refine ⟨d, e, ?_, g2, g4⟩
    apply Array.ext_getElem?
    intro i
    match i with
    | 0 => rw [g1]; rfl
    | 1 => rw [g3]; rfl
    | i + 2 => rw [Array.getElem?_eq_none (by simp at hsz ⊢; omega)]; rfl
  have hat : ∀ {i : Nat} {d}, (c.argTypes[i]?).bind P.underlying = some d → ∃ t, c.argTypes[i]? = some t ∧ P.underlying t = some d := fun {i d} h => by
    simpa [Option.bind_eq_some_iff] using h
  have happ : ∀ t tx (u v : Value), c.argTypes[0]? = some t → c.argTypes[1]? = some tx → Builtin.append_ c.argTypes type #[u, v] = Builtin.append_ #[t, tx] type #[u, v] := fun t tx u v h1 h2 => by
    unfold Builtin.append_
    simp [h1, h2]
  have go : ∀ {x y : AOpd} {e : TypeId} {k : Option Nat × Nat} {t tx : TypeId}, tOpds c.args.toList = some [x, y] → c.argTypes[0]? = some t → c.argTypes[1]? = some tx → P.underlying t = some (.slice e) → ((∃ e', P.underlying tx = some (.slice e')) ∨ P.underlying tx = some .string) → elSize P e = some k →
      evE bar loc pers s (.append mu k.1 k.2 x y) = some (v, s') → SimR γ w ((builtin .append c.argTypes type (c.args.map fun | .const _ => true | _ => false) (c.args.map a.eval)).run P w) v s' := fun {x y e k t tx} hl h1 h2 h3 h4 h5 hv => by
    simp only [evE, Option.bind_eq_some_iff] at hv
    obtain ⟨u, hu, u', hu', ys, hys, hv⟩ := hv
    split at hv
    · rename_i hcond
      simp only [Bool.and_eq_true] at hcond
      obtain ⟨d, d', g1, g2, g3⟩ := two hl hu hu'
      rw [g1]
      show SimR γ w ((do pure (Next.value (← Builtin.append_ c.argTypes type #[d, d'])) : Sem Next).run P w) v s'
      rw [happ t tx d d' h1 h2]
      exact simA (append_ok hI h3 h4 h5 g2 g3 hys hcond.1 hcond.2 hv)
    · cases hv
  split at ht
  · rename_i x hl
    split at ht <;> cases ht
  · rename_i x y hl
    split at ht
    · rename_i e e' h1 h2
      simp only [Option.map_eq_some_iff, AOp.e.injEq] at ht
      obtain ⟨k, hk, rfl⟩ := ht
      obtain ⟨t, t1, t2⟩ := hat h1
      obtain ⟨tx, t3, t4⟩ := hat h2
      exact go hl t1 t3 t2 (.inl ⟨e', t4⟩) hk hv
    · rename_i e h1 h2
      simp only [Option.map_eq_some_iff, AOp.e.injEq] at ht
      obtain ⟨k, hk, rfl⟩ := ht
      obtain ⟨t, t1, t2⟩ := hat h1
      obtain ⟨tx, t3, t4⟩ := hat h2
      exact go hl t1 t3 t2 (.inr t4) hk hv
    · cases ht
  · split at ht
    · simp only [Option.map_eq_some_iff, AOp.e.injEq] at ht
      obtain ⟨k, hk, rfl⟩ := ht
      simp [evE] at hv
    · cases ht
  all_goals cases ht

theorem sim_e (hI : Inv γ s w) {loc pers : Env} {a : Act} (hE : EvR γ w loc pers a) {mu : Bool} {o : Oper} {p : EOp} (ht : tOp P mu o.op = some (.e p)) {bar : Bar} {v : AV} {s' : Sg} (hv : evE bar loc pers s p = some (v, s')) : SimR γ w ((execOp a.eval o).run P w) v s' := by
  obtain ⟨dst, op, type, pos, after, guard⟩ := o
  cases op with
  | alloc e =>
    simp only [tOp, Option.map_eq_some_iff, AOp.e.injEq] at ht
    obtain ⟨z, hz, rfl⟩ := ht
    simp only [evE, Option.some.injEq, Prod.mk.injEq] at hv
    obtain ⟨rfl, rfl⟩ := hv
    exact simA (alloc_ok hI hz)
  | box e x =>
    simp only [tOp, Option.map_eq_some_iff, AOp.e.injEq] at ht
    obtain ⟨y, hy, rfl⟩ := ht
    simp only [evE, Option.bind_eq_some_iff, Option.map_eq_some_iff, Prod.mk.injEq] at hv
    obtain ⟨u, hu, l, hl, rfl, rfl⟩ := hv
    exact simA (box_ok hI (opd_ok hE hy hu) hl)
  | buildSlice t len ps =>
    simp only [tOp] at ht
    split at ht
    · rename_i e h1
      split at ht
      · rename_i k z l h2 h3 h4
        split at ht
        · rename_i hc
          simp only [Bool.and_eq_true] at hc
          obtain ⟨hc1, hc2⟩ := hc
          cases mu with
          | false => simp at ht
          | true =>
            simp only [if_true, Option.some.injEq, AOp.e.injEq] at ht
            subst ht
            simp only [evE, Option.map_eq_some_iff, Prod.mk.injEq] at hv
            obtain ⟨es, hes, rfl, rfl⟩ := hv
            obtain ⟨c, g1, g2, g3, g4, g5, g6⟩ := slice_cells_ok hE h1 h2 h3 (Nat.le_of_ble_eq_true hc1) (Nat.eq_of_beq_eq_true hc2) h4 hes
            exact simA (buildMs_ok hI g1 g2 g4 g3 g5)
        · cases ht
      · cases ht
    · cases ht
  | store t x y =>
    simp only [tOp] at ht
    split at ht
    · rename_i n ax ay h1 h2 h3
      cases ht
      simp only [evE, Option.bind_eq_some_iff] at hv
      obtain ⟨u, hu, d, hd, hv⟩ := hv
      have hr := opd_ok hE h2 hu
      cases u <;> try (simp at hv; done)
      simp only [Option.bind_eq_some_iff] at hv
      obtain ⟨l, hl, cs, hcs, hv⟩ := hv
      split at hv
      · rename_i hcond
        simp only [Bool.and_eq_true] at hcond
        simp only [Option.map_eq_some_iff, Prod.mk.injEq] at hv
        obtain ⟨cs', hcs', rfl, rfl⟩ := hv
        obtain ⟨w', g1, g2, g3⟩ := store_ok (P := P) hI h1 hr (opd_ok hE h3 hd) hl hcs (Nat.eq_of_beq_eq_true hcond.1) hcs'
        exact SimR.skip (by simp [execOp, g1]) g2 g3
      · cases hv
    · cases ht
  | call c =>
    simp only [tOp] at ht
    cases hc : c.callee with
    | builtin b => exact sim_append hI hE hc ht hv
    | value f =>
      simp only [tCall, hc] at ht
      split at ht
      · simp at ht
      · simp only [Option.bind_eq_some_iff, Option.map_eq_some_iff] at ht
        obtain ⟨_, _, _, _, ht⟩ := ht
        cases ht
      · rename_i h; cases h
      · rename_i h; cases h
    | invoke _ _ => simp [tCall, hc] at ht
  | insert t m k x =>
    simp only [tOp] at ht
    split at ht
    · split at ht
      · cases ht; simp [evE] at hv
      · cases ht; simp [evE] at hv
      · cases ht
    · cases ht
  | mapUpdate t m k x =>
    simp only [tOp] at ht
    split at ht
    · split at ht
      · cases ht; simp [evE] at hv
      · cases ht; simp [evE] at hv
      · cases ht
    · cases ht
  | makeMap t r =>
    cases r with
    | none =>
      simp only [tOp] at ht
      split at ht
      · cases ht; simp [evE] at hv
      · cases ht
    | some r => cases ht
  | makeSlice t l c =>
    simp only [tOp] at ht
    split at ht
    · simp only [Option.bind_eq_some_iff] at ht
      obtain ⟨_, _, _, _, _, _, _, _, ht⟩ := ht
      split at ht
      · cases ht; simp [evE] at hv
      · cases ht
    · cases ht
  | defer c =>
    simp only [tOp] at ht
    split at ht
    · split at ht <;> cases ht
    · cases ht
  | makeFunc f first cap =>
    cases f <;> try (simp [tOp] at ht; done)
    simp only [tOp, Option.bind_eq_some_iff, Option.map_eq_some_iff] at ht
    obtain ⟨_, _, _, _, ht⟩ := ht
    cases ht
  | _ =>
    simp only [tOp] at ht
    first
      | (cases ht; done)
      | (simp [Option.map_eq_some_iff] at ht; done)
      | (repeat' (split at ht)
         all_goals first | (cases ht; done) | (simp [Option.map_eq_some_iff] at ht; done))

end Go.Am

/-
  The abstract machine, nineteenth part: what a run leaves as it is.
-/
namespace Go.Am
open Go.RowKit (Below)

variable {P : Program} {γ : Gh} {w : World} {s : Sg}

theorem oldAll_get {n : Nat} : ∀ {l : List AV}, AV.oldAll n l = true → ∀ {j : Nat} {u : AV}, l[j]? = some u → u.old n = true
  | [], _, _, _, h => by simp at h
  | x :: r, h, 0, u, hu => by simp only [AV.oldAll, Bool.and_eq_true] at h; simp at hu; subst hu; exact h.1
  | x :: r, h, j + 1, u, hu => by simp only [AV.oldAll, Bool.and_eq_true] at h; simp at hu; exact oldAll_get h.2 hu

theorem oldAll_of {n : Nat} : ∀ {l : List AV}, (∀ (j : Nat) u, l[j]? = some u → u.old n = true) → AV.oldAll n l = true
  | [], _ => by simp [AV.oldAll]
  | x :: r, h => by
    simp only [AV.oldAll, Bool.and_eq_true]
    exact ⟨h 0 x rfl, oldAll_of fun j u hu => h (j + 1) u (by simpa using hu)⟩

theorem oldAll_append {n : Nat} {a b : List AV} (ha : AV.oldAll n a = true) (hb : AV.oldAll n b = true) : AV.oldAll n (a ++ b) = true :=
  oldAll_of fun j u hu => by
    rw [List.getElem?_append] at hu
    split at hu
    · exact oldAll_get ha hu
    · exact oldAll_get hb hu

theorem old_flat {n : Nat} {v : AV} (h : ∀ (j : Nat) u, v.flat[j]? = some u → u.old n = true) : v.old n = true := by
  cases v <;> try (exact h 0 _ rfl)
  simp only [AV.old]
  exact oldAll_of h

theorem flatAll_mem {es : List AV} {e : AV} : ∀ {k : Nat}, es[k]? = some e → ∀ {j : Nat} {u : AV}, e.flat[j]? = some u → ∃ i : Nat, (flatAll es)[i]? = some u := by
  induction es with
  | nil => intro k h; simp at h
  | cons x r ih =>
    intro k h j u hu
    cases k with
    | zero =>
      simp at h
      subst h
      refine ⟨j, ?_⟩
      simp only [flatAll, List.getElem?_append]
      rw [if_pos (lt_of_getElem? hu)]
      exact hu
    | succ k =>
      simp at h
      obtain ⟨i, hi⟩ := ih h hu
      refine ⟨x.flat.length + i, ?_⟩
      simp only [flatAll, List.getElem?_append]
      rw [if_neg (by omega)]
      simpa using hi

theorem one_flat {u : AV} (h : u.one = true) : u.flat = [u] := by cases u <;> first | rfl | simp [AV.one] at h

theorem VR.old' {v : AV} {c : Value} (hv : VR γ w v c) : ∀ (j : Nat) u, v.flat[j]? = some u → u.one = true → u.old γ.n = true := by
  have sgl : ∀ {x : AV}, x.flat = [x] → (x.one = true → x.old γ.n = true) → ∀ (j : Nat) u, x.flat[j]? = some u → u.one = true → u.old γ.n = true := fun {x} hx h j u hu h1 => by
    rw [hx] at hu
    cases j with
    | zero => simp at hu; subst hu; exact h h1
    | succ j => simp at hu
  have self : ∀ {u : AV}, u.one = true → (∀ (j : Nat) u', u.flat[j]? = some u' → u'.one = true → u'.old γ.n = true) → u.old γ.n = true := fun {u} h1 h => h 0 u (by rw [one_flat h1]; rfl) h1
  induction hv with
  | ptr i g off a hi => exact sgl rfl fun _ => by simp only [AV.old, Nat.blt_eq]; exact hi
  | ms i g off len sz a cap hi => exact sgl rfl fun _ => by simp only [AV.old, Nat.blt_eq]; exact hi
  | map i r hi => exact sgl rfl fun _ => by simp only [AV.old, Nat.blt_eq]; exact hi
  | pin v b o cs hl h1 _ ih =>
    refine sgl rfl fun _ => ?_
    simp only [AV.old]
    exact old_flat fun j u hu => self (allOne_get h1 hu) (ih j u hu)
  | vecNil tl ht =>
    exact sgl rfl fun h => by
      cases tl with
      | exact own => simp [AV.old, AV.oldAll]
      | tok t n => simp [AV.one] at h
      | shut => simp [AV.old, AV.oldAll]
  | vec es tl b o cap sz cs h1 h2 h3 hl _ ht ih =>
    refine sgl rfl fun h => ?_
    have he : AV.oldAll γ.n es = true := oldAll_of fun k e he => old_flat fun j u hu => by
      obtain ⟨i, hi⟩ := flatAll_mem he hu
      exact self (allOne_get (allOne_flatAll h3) hi) (ih i u hi)
    cases tl with
    | exact own => simp only [AV.old, he, Bool.and_true]
    | tok t n => simp [AV.one] at h
    | shut => simp only [AV.old, he, Bool.and_true]
  | func f a c a' c' h1 h2 h3 h4 _ _ ih1 ih2 =>
    refine sgl rfl fun _ => ?_
    simp only [AV.old, Bool.and_eq_true]
    refine ⟨oldAll_of fun j u hu => ?_, oldAll_of fun j u hu => ?_⟩
    · have hj := lt_of_getElem? hu
      exact self (allOne_get h3 hu) (ih1 j u a'[j] hu (Array.getElem?_eq_getElem (by omega)))
    · have hj := lt_of_getElem? hu
      exact self (allOne_get h4 hu) (ih2 j u c'[j] hu (Array.getElem?_eq_getElem (by omega)))
  | iface t v v' h1 _ ih =>
    refine sgl rfl fun _ => ?_
    simp only [AV.old]
    exact old_flat fun j u hu => ih j u hu (allOne_get h1 hu)
  | agg cs cs' h1 h2 _ ih =>
    intro j u hu h1'
    have hj := lt_of_getElem? hu
    simp only [AV.flat] at hu hj
    exact self h1' (ih j u cs'[j] hu (Array.getElem?_eq_getElem (by omega)))
  | tup cs cs' h1 _ ih => exact sgl rfl fun h => by simp [AV.one] at h
  | _ => exact sgl rfl fun _ => by simp [AV.old]

theorem VR.old {v : AV} {c : Value} (hv : VR γ w v c) (h1 : v.one = true) : v.old γ.n = true := hv.old' 0 v (by rw [one_flat h1]; rfl) h1

-- ---------------------------------------------------------------- what stays

def AObj.old (e : Nat) : AObj → Bool
  | .cells cs _ => AV.oldAll e cs
  | .mapo es => es.all fun x => x.1.old e && x.2.old e

structure Keeps (b : Bar) (s s' : Sg) : Prop where
  len : s.heap.length ≤ s'.heap.length
  hp : ∀ i, i < b.w → i < s.heap.length → s'.heap[i]? = s.heap[i]?
  tlen : s.toks.length ≤ s'.toks.length
  tk : ∀ t, t < b.t → t < s.toks.length → s'.toks[t]? = s.toks[t]?
  es : ∀ e, e ∈ b.es → e ≤ s.heap.length → ∀ i, i < e → (∀ o, s.heap[i]? = some o → o.old e = true) → ∀ o, s'.heap[i]? = some o → o.old e = true

theorem Keeps.refl (b : Bar) (s : Sg) : Keeps b s s := ⟨Nat.le_refl _, fun _ _ _ => rfl, Nat.le_refl _, fun _ _ _ => rfl, fun _ _ _ _ _ h => h⟩

theorem Keeps.trans {b : Bar} {s s' s'' : Sg} (h : Keeps b s s') (k : Keeps b s' s'') : Keeps b s s'' :=
  ⟨Nat.le_trans h.len k.len, fun i hi hl => (k.hp i hi (Nat.lt_of_lt_of_le hl h.len)).trans (h.hp i hi hl), Nat.le_trans h.tlen k.tlen,
    fun t ht hl => (k.tk t ht (Nat.lt_of_lt_of_le hl h.tlen)).trans (h.tk t ht hl), fun e he hel i hi h0 => k.es e he (Nat.le_trans hel h.len) i hi (h.es e he hel i hi h0)⟩

theorem Keeps.push (b : Bar) (s : Sg) (o : AObj) : Keeps b s (s.push o) where
  len := by simp [Sg.push]
  hp i _ hl := by simp [Sg.push, List.getElem?_append, hl]
  tlen := Nat.le_refl _
  tk _ _ _ := rfl
  es e _ hel i hi h0 o' ho := by
    simp only [Sg.push, List.getElem?_append, show i < s.heap.length by omega, if_true] at ho
    exact h0 o' ho

theorem Keeps.tokNew (b : Bar) (s : Sg) : Keeps b s { s with toks := s.toks ++ [0] } where
  len := Nat.le_refl _
  hp _ _ _ := rfl
  tlen := by simp
  tk t _ hl := by simp [List.getElem?_append, hl]
  es _ _ _ _ _ h := h

theorem Keeps.tokSet {b : Bar} {s : Sg} {t n : Nat} (h : ¬ t < b.t) : Keeps b s { s with toks := setAt s.toks t n } where
  len := Nat.le_refl _
  hp _ _ _ := rfl
  tlen := by simp [length_setAt]
  tk u hu hl := by simp only [getElem?_setAt]; rw [if_neg (by omega)]
  es _ _ _ _ _ h := h

theorem letsAll_mem {i : Nat} {xs : List AV} : ∀ {l : List Nat}, letsAll i xs l = true → ∀ e ∈ l, i < e → AV.oldAll e xs = true
  | [], _, e, he, _ => by simp at he
  | x :: r, h, e, he, hi => by
    simp only [letsAll, Bool.and_eq_true, Bool.or_eq_true, Bool.not_eq_true'] at h
    rcases List.mem_cons.1 he with rfl | he
    · rcases h.1 with h1 | h1
      · rw [show Nat.blt i e = true from by rw [Nat.blt_eq]; exact hi] at h1; cases h1
      · exact h1
    · exact letsAll_mem h.2 e he hi

theorem Keeps.set {b : Bar} {s : Sg} {i g g' : Nat} {cs cs' xs : List AV} (hl : b.lets i xs = true) (ho : s.heap[i]? = some (.cells cs g)) (hcs : ∀ (j : Nat) u, cs'[j]? = some u → (∃ j' : Nat, cs[j']? = some u) ∨ ∃ j' : Nat, xs[j']? = some u) :
    Keeps b s { s with heap := setAt s.heap i (.cells cs' g') } := by
  simp only [Bar.lets, Bool.and_eq_true, Bool.not_eq_true'] at hl
  obtain ⟨h1, h2⟩ := hl
  have hw : ¬ i < b.w := fun h => by rw [← Nat.blt_eq] at h; rw [h] at h1; cases h1
  refine ⟨by simp [length_setAt], fun j hj _ => ?_, Nat.le_refl _, fun _ _ _ => rfl, fun e he hel j hj h0 o hoj => ?_⟩
  · simp only [getElem?_setAt]
    rw [if_neg (by omega)]
  · simp only [getElem?_setAt] at hoj
    split at hoj
    · rename_i e'
      subst e'
      rw [if_pos (lt_of_getElem? ho)] at hoj
      cases hoj
      have hold := h0 _ ho
      simp only [AObj.old] at hold ⊢
      exact oldAll_of fun k u hu => by
        rcases hcs k u hu with ⟨j', h⟩ | ⟨j', h⟩
        · exact oldAll_get hold h
        · exact oldAll_get (letsAll_mem h2 e he hj) h
    · exact h0 o hoj

theorem keeps_append {b : Bar} {s s' : Sg} {mu : Bool} {ag : Option Nat} {bytes : Nat} {v r : AV} {ys : List AV} (h : evAppend b s mu ag bytes v ys = some (r, s')) : Keeps b s s' := by
  unfold evAppend at h
  split at h
  · split at h
    · cases h; exact .refl _ _
    · split at h
      · split at h
        · cases h; exact .push _ _ _
        · cases h; exact .tokNew _ _
      · cases h
  · split at h
    · cases h; exact .refl _ _
    · split at h
      · split at h
        · cases h; exact .tokNew _ _
        · split at h
          · rename_i hb
            simp only [Option.bind_eq_some_iff] at h
            obtain ⟨n', _, h⟩ := h
            split at h
            · cases h
              refine .tokSet fun hlt => ?_
              rw [← Nat.blt_eq] at hlt
              rw [hlt] at hb
              cases hb
            · cases h
          · cases h
        · cases h
      · cases h
  · split at h
    · rename_i hc
      simp only [Bool.and_eq_true] at hc
      simp only [Option.bind_eq_some_iff] at h
      obtain ⟨cs, hcs, h⟩ := h
      split at h
      · cases h
        refine .set hc.2 (getCells_some hcs) fun j u hu => ?_
        rw [List.getElem?_append] at hu
        split at hu
        · exact .inl ⟨_, hu⟩
        · exact .inr ⟨_, hu⟩
      · cases h
    · cases h
  · cases h

theorem keeps_evE {b : Bar} {loc pers : Env} {s s' : Sg} {p : EOp} {v : AV} (h : evE b loc pers s p = some (v, s')) : Keeps b s s' := by
  cases p with
  | alloc z => cases h; exact .push _ _ _
  | box x =>
    simp only [evE, Option.bind_eq_some_iff, Option.map_eq_some_iff, Prod.mk.injEq] at h
    obtain ⟨_, _, _, _, _, rfl⟩ := h
    exact .push _ _ _
  | buildMs sz z len parts =>
    simp only [evE, Option.map_eq_some_iff, Prod.mk.injEq] at h
    obtain ⟨_, _, _, rfl⟩ := h
    exact .push _ _ _
  | store n a x =>
    simp only [evE, Option.bind_eq_some_iff] at h
    obtain ⟨u, hu, d, hd, h⟩ := h
    split at h
    · simp only [Option.bind_eq_some_iff] at h
      obtain ⟨l, hl, cs, hcs, h⟩ := h
      split at h
      · rename_i hc
        simp only [Bool.and_eq_true] at hc
        simp only [Option.map_eq_some_iff, Prod.mk.injEq] at h
        obtain ⟨cs', hw, _, rfl⟩ := h
        refine .set hc.2 (getCells_some hcs) fun j u hu => ?_
        rw [(writeAt_spec hw).2.2 j] at hu
        split at hu
        · exact .inr ⟨_, hu⟩
        · exact .inl ⟨_, hu⟩
      · cases h
    · cases h
  | append mu ag bytes x y =>
    simp only [evE, Option.bind_eq_some_iff] at h
    obtain ⟨u, hu, d, hd, ys, hys, h⟩ := h
    split at h
    · exact keeps_append h
    · cases h
  | makeSl _ _ _ _ _ => cases h
  | copy _ _ _ => cases h
  | makeMap => cases h
  | mapPut _ _ _ => cases h

def CallKeeps (call : CallFn) : Prop := ∀ b f l s out s', call b f l s = some (out, s') → Keeps b s s'
def DeferKeeps (callD : DeferFn) : Prop := ∀ b f l u s r s', callD b f l u s = some (r, s') → Keeps b s s'

theorem keeps_ops {call : CallFn} (hc : CallKeeps call) (b : Bar) : ∀ {ops : List AOper} {loc : Env} {fr : Fr} {s : Sg} {e : Ex} {loc' : Env} {fr' : Fr} {s' : Sg}, runOps call b ops loc fr s = some (e, loc', fr', s') → Keeps b s s'
  | [], loc, fr, s, e, loc', fr', s', h => by
    simp only [runOps, Option.some.injEq, Prod.mk.injEq] at h
    obtain ⟨_, _, _, rfl⟩ := h
    exact .refl _ _
  | o :: r, loc, fr, s, e, loc', fr', s', h => by
    simp only [runOps, Option.bind_eq_some_iff] at h
    obtain ⟨wd, hwd, h⟩ := h
    split at h
    · split at h
      · simp only [Option.bind_eq_some_iff] at h
        obtain ⟨v, _, h⟩ := h
        exact keeps_ops hc b h
      · simp only [Option.bind_eq_some_iff] at h
        obtain ⟨v, hv, h⟩ := h
        exact (keeps_evE hv).trans (keeps_ops hc b h)
      · simp only [Option.bind_eq_some_iff] at h
        obtain ⟨l, _, x, hx, h⟩ := h
        obtain ⟨out, s1⟩ := x
        have h1 := hc _ _ _ _ _ _ hx
        dsimp only at h
        split at h
        · exact h1.trans (keeps_ops hc b h)
        · simp only [Option.some.injEq, Prod.mk.injEq] at h
          obtain ⟨_, _, _, rfl⟩ := h
          exact h1
      · simp only [Option.bind_eq_some_iff] at h
        obtain ⟨y, _, l, _, c, _, x, hx, h⟩ := h
        obtain ⟨out, s1⟩ := x
        have h1 := hc _ _ _ _ _ _ hx
        dsimp only at h
        split at h
        · exact h1.trans (keeps_ops hc b h)
        · simp only [Option.some.injEq, Prod.mk.injEq] at h
          obtain ⟨_, _, _, rfl⟩ := h
          exact h1
      · simp only [Option.bind_eq_some_iff, Option.some.injEq, Prod.mk.injEq] at h
        obtain ⟨_, _, _, _, _, _, _, rfl⟩ := h
        exact .refl _ _
      · simp only [Option.bind_eq_some_iff] at h
        obtain ⟨_, _, _, _, _, _, h⟩ := h
        exact keeps_ops hc b h
      · simp only [Option.bind_eq_some_iff] at h
        obtain ⟨_, _, h⟩ := h
        exact keeps_ops hc b h
      · cases h
    · exact keeps_ops hc b h

def RanKeeps (b : Bar) (f : Fr → Sg → Ran) : Prop := ∀ fr s e fr' s', f fr s = some (e, fr', s') → Keeps b s s'
def LpKeeps (lp : (Fr → Sg → Ran) → Fr → Sg → Ran) : Prop := ∀ b f, RanKeeps b f → RanKeeps b (lp f)

theorem keeps_loopN : ∀ n, LpKeeps (loopN n)
  | 0, b, f, hf, fr, s, e, fr', s', h => by cases h
  | n + 1, b, f, hf, fr, s, e, fr', s', h => by
    simp only [loopN, Option.bind_eq_some_iff] at h
    obtain ⟨x, hx, h⟩ := h
    obtain ⟨e1, fr1, s1⟩ := x
    have h1 := hf _ _ _ _ _ hx
    dsimp only at h
    split at h
    · exact h1.trans (keeps_loopN n b f hf _ _ _ _ _ h)
    · simp only [Option.some.injEq, Prod.mk.injEq] at h
      obtain ⟨_, _, rfl⟩ := h
      exact h1

theorem keeps_code {call : CallFn} (hc : CallKeeps call) {lp : (Fr → Sg → Ran) → Fr → Sg → Ran} (hl : LpKeeps lp) (b : Bar) : ∀ c : ACode, RanKeeps b (ACode.run lp call b c)
  | .skip, fr, s, e, fr', s', h => by
    simp only [ACode.run, Option.some.injEq, Prod.mk.injEq] at h
    obtain ⟨_, _, rfl⟩ := h
    exact .refl _ _
  | .region ops outs, fr, s, e, fr', s', h => by
    simp only [ACode.run, runRegion, Option.map_eq_some_iff, Prod.mk.injEq] at h
    obtain ⟨⟨e1, loc1, fr1, s1⟩, hx, _, _, rfl⟩ := h
    exact keeps_ops hc b hx
  | .drawn ops outs pairs, fr, s, e, fr', s', h => by
    simp only [ACode.run, runDrawn, Option.bind_eq_some_iff] at h
    obtain ⟨⟨e1, loc1, fr1, s1⟩, hx, h⟩ := h
    have h1 := keeps_ops hc b hx
    split at h
    · split at h
      · simp only [Option.some.injEq, Prod.mk.injEq] at h
        obtain ⟨_, _, rfl⟩ := h
        exact h1
      · cases h
    · cases h
  | .seq x y, fr, s, e, fr', s', h => by
    simp only [ACode.run, Option.bind_eq_some_iff] at h
    obtain ⟨⟨e1, fr1, s1⟩, hx, h⟩ := h
    have h1 := keeps_code hc hl b x _ _ _ _ _ hx
    dsimp only at h
    split at h
    · exact h1.trans (keeps_code hc hl b y _ _ _ _ _ h)
    · simp only [Option.some.injEq, Prod.mk.injEq] at h
      obtain ⟨_, _, rfl⟩ := h
      exact h1
  | .cond c x y, fr, s, e, fr', s', h => by
    simp only [ACode.run, Option.bind_eq_some_iff] at h
    obtain ⟨v, _, t, _, h⟩ := h
    split at h
    · exact keeps_code hc hl b x _ _ _ _ _ h
    · exact keeps_code hc hl b y _ _ _ _ _ h
  | .block id x, fr, s, e, fr', s', h => by
    simp only [ACode.run, Option.bind_eq_some_iff] at h
    obtain ⟨⟨e1, fr1, s1⟩, hx, h⟩ := h
    have h1 := keeps_code hc hl b x _ _ _ _ _ hx
    dsimp only at h
    split at h <;>
    · simp only [Option.some.injEq, Prod.mk.injEq] at h
      obtain ⟨_, _, rfl⟩ := h
      exact h1
  | .loop x, fr, s, e, fr', s', h => hl b _ (keeps_code hc hl b x) _ _ _ _ _ h
  | .exit id, fr, s, e, fr', s', h => by
    simp only [ACode.run, Option.some.injEq, Prod.mk.injEq] at h
    obtain ⟨_, _, rfl⟩ := h
    exact .refl _ _
  | .ret, fr, s, e, fr', s', h => by
    simp only [ACode.run, Option.some.injEq, Prod.mk.injEq] at h
    obtain ⟨_, _, rfl⟩ := h
    exact .refl _ _
  | .bad, fr, s, e, fr', s', h => by cases h

theorem keeps_defers {callD : DeferFn} (hd : DeferKeeps callD) (b : Bar) : ∀ {l : List (FuncId × List AV)} {u : Option AV} {s : Sg} {r : Option AV} {s' : Sg}, runDefers callD b l u s = some (r, s') → Keeps b s s'
  | [], u, s, r, s', h => by
    simp only [runDefers, Option.some.injEq, Prod.mk.injEq] at h
    obtain ⟨_, rfl⟩ := h
    exact .refl _ _
  | c :: l, u, s, r, s', h => by
    simp only [runDefers, Option.bind_eq_some_iff] at h
    obtain ⟨⟨q, s1⟩, hx, h⟩ := h
    exact (hd _ _ _ _ _ _ _ hx).trans (keeps_defers hd b h)

/-- what a body and its deferred calls keep -/
theorem finish_inv {callD : DeferFn} {b : Bar} {fn : AFunc} {s : Sg} {e : Ex} {fr : Fr} {s1 : Sg} {out : Out} {s' : Sg} (h : finish callD b fn s e fr s1 = some (out, s')) :
    ∃ u r s2, runDefers callD b fr.defers u s1 = some (r, s2) ∧ ((r = none ∧ endRet fn s fr.pers s2 = some (out, s')) ∨ ∃ v, r = some v ∧ endPanic fn s v s2 = some (out, s')) ∧ (match e with | .panic v => u = some v | .exit _ => False | _ => u = none) := by
  cases e with
  | exit id => cases h
  | panic v =>
    simp only [finish, Option.bind_eq_some_iff] at h
    obtain ⟨⟨r, s2⟩, hx, h⟩ := h
    refine ⟨some v, r, s2, hx, ?_, rfl⟩
    dsimp only at h
    split at h
    · exact .inl ⟨rfl, h⟩
    · exact .inr ⟨_, rfl, h⟩
  | normal =>
    simp only [finish, Option.bind_eq_some_iff] at h
    obtain ⟨⟨r, s2⟩, hx, h⟩ := h
    refine ⟨none, r, s2, hx, ?_, rfl⟩
    dsimp only at h
    split at h
    · exact .inl ⟨rfl, h⟩
    · cases h
  | ret =>
    simp only [finish, Option.bind_eq_some_iff] at h
    obtain ⟨⟨r, s2⟩, hx, h⟩ := h
    refine ⟨none, r, s2, hx, ?_, rfl⟩
    dsimp only at h
    split at h
    · exact .inl ⟨rfl, h⟩
    · cases h

theorem keeps_leave {m : CallMode} {b : Bar} {s s2 : Sg} (hk : Keeps (b.into m s) s s2) {vs : List AV} {ks : List ARes} {l : List AV} {s' : Sg} (h : leave m s vs ks s2 = some (l, s')) : Keeps b s s' := by
  cases m with
  | raw =>
    simp only [leave, Option.some.injEq, Prod.mk.injEq] at h
    obtain ⟨_, rfl⟩ := h
    exact hk
  | pure =>
    simp only [leave, Option.bind_eq_some_iff] at h
    obtain ⟨l', _, h⟩ := h
    split at h
    · simp only [Option.some.injEq, Prod.mk.injEq] at h
      obtain ⟨_, rfl⟩ := h
      exact .refl _ _
    · cases h
  | eff =>
    simp only [leave, Option.bind_eq_some_iff] at h
    obtain ⟨l', _, h⟩ := h
    split at h
    · simp only [Option.some.injEq, Prod.mk.injEq] at h
      obtain ⟨_, rfl⟩ := h
      have hlen := hk.len
      refine ⟨by simp [hlen], fun i hi hl => ?_, Nat.le_refl _, fun _ _ _ => rfl, fun e he hel i hi h0 o ho => ?_⟩
      · rw [List.getElem?_take, if_pos hl]
        exact hk.hp i hi hl
      · rw [List.getElem?_take, if_pos (by omega)] at ho
        exact hk.es e (List.mem_cons_of_mem _ he) hel i hi h0 o ho
    · cases h

theorem keeps_step {T : Tab} {lp : (Fr → Sg → Ran) → Fr → Sg → Ran} {call : CallFn} {callD : DeferFn} (hl : LpKeeps lp) (hc : CallKeeps call) (hd : DeferKeeps callD) : CallKeeps (callStep T lp call callD) := by
  intro b f l s out s' h
  unfold callStep at h
  split at h
  · simp only [Option.map_eq_some_iff, Prod.mk.injEq] at h
    obtain ⟨_, _, _, rfl⟩ := h
    exact .refl _ _
  · simp only [Option.bind_eq_some_iff] at h
    obtain ⟨fn, _, ⟨e, fr, s1⟩, hx, h⟩ := h
    have h1 := keeps_code hc hl _ _ _ _ _ _ _ hx
    obtain ⟨u, r, s2, hr, hfin, _⟩ := finish_inv h
    have h2 := h1.trans (keeps_defers hd _ hr)
    rcases hfin with ⟨_, hf⟩ | ⟨v, _, hf⟩
    · simp only [endRet, Option.bind_eq_some_iff, Option.map_eq_some_iff, Prod.mk.injEq] at hf
      obtain ⟨vs, _, ⟨l', s3⟩, hlv, _, rfl⟩ := hf
      exact keeps_leave h2 hlv
    · simp only [endPanic, Option.map_eq_some_iff, Prod.mk.injEq] at hf
      obtain ⟨⟨l', s3⟩, hlv, _, rfl⟩ := hf
      exact keeps_leave h2 hlv

theorem keeps_deferStep {T : Tab} {lp : (Fr → Sg → Ran) → Fr → Sg → Ran} {call : CallFn} (hl : LpKeeps lp) (hc : CallKeeps call) : DeferKeeps (deferStep T lp call) := by
  intro b f l u s r s' h
  simp only [deferStep, Option.bind_eq_some_iff] at h
  obtain ⟨fn, _, h⟩ := h
  split at h
  · simp only [Option.bind_eq_some_iff] at h
    obtain ⟨⟨e, fr, s1⟩, hx, h⟩ := h
    have h1 := keeps_code hc hl _ _ _ _ _ _ _ hx
    dsimp only at h
    split at h
    · simp only [Option.some.injEq, Prod.mk.injEq] at h
      obtain ⟨_, rfl⟩ := h
      exact h1
    · simp only [Option.some.injEq, Prod.mk.injEq] at h
      obtain ⟨_, rfl⟩ := h
      exact h1
    · cases h
  · cases h

theorem keeps_callF (T : Tab) : ∀ n, CallKeeps (callF T n)
  | 0, b, f, l, s, out, s', h => by cases h
  | n + 1, b, f, l, s, out, s', h => keeps_step (keeps_loopN n) (keeps_callF T n) (keeps_deferStep (keeps_loopN n) (keeps_callF T n)) b f l s out s' h

end Go.Am

/-
  The abstract machine, twentieth part: what a call leaves behind.
-/
namespace Go.Am
open Go.RowKit (Below)

variable {P : Program} {γ γ' γ'' : Gh} {w w' : World} {s : Sg}

theorem old_one {n : Nat} {v : AV} (h : v.old n = true) : ∀ {j : Nat} {u : AV}, v.flat[j]? = some u → u.old n = true := by
  intro j u hu
  cases v <;> try (
    cases j with
    | zero => simp [AV.flat] at hu; subst hu; exact h
    | succ j => simp [AV.flat] at hu)
  simp only [AV.old] at h
  exact oldAll_get h hu

theorem old_flatAll {n : Nat} : ∀ {es : List AV}, AV.oldAll n es = true → ∀ {j : Nat} {u : AV}, (flatAll es)[j]? = some u → u.old n = true
  | [], _, j, u, hu => by simp [flatAll] at hu
  | e :: r, h, j, u, hu => by
    simp only [AV.oldAll, Bool.and_eq_true] at h
    simp only [flatAll, List.getElem?_append] at hu
    split at hu
    · exact old_one h.1 hu
    · exact old_flatAll h.2 hu

/-- objects and tokens are dropped; more cells are never written any more -/
structure Cut (γ' γ'' : Gh) : Prop where
  base : γ''.base = γ'.base
  ob : γ''.ob = γ'.ob
  ge : γ''.ge = γ'.ge
  F : ∀ b o, γ'.F b o → γ''.F b o

theorem VR.cut (h : Cut γ' γ'') {v : AV} {c : Value} (hv : VR γ' w v c) : v.old γ''.n = true → VR γ'' w v c := by
  have lie : ∀ {b o n : Nat} {cs : Nat → Value}, Lie γ' w b o n cs → Lie γ'' w b o n cs := fun hl j hj => ⟨h.F _ _ (hl j hj).1, (hl j hj).2⟩
  induction hv with
  | bool b => exact fun _ => .bool b
  | int k n => exact fun _ => .int k n
  | flt k b => exact fun _ => .flt k b
  | cplx k a b => exact fun _ => .cplx k a b
  | str s => exact fun _ => .str s
  | nilptr => exact fun _ => .nilptr
  | ptr i g off a hi hg ha =>
    intro ho
    simp only [AV.old, Nat.blt_eq] at ho
    exact .ptr i g off a ho (by rw [h.ge]; exact hg) (by rw [h.ge, h.ob]; exact ha)
  | pin v b o cs hl h1 _ ih =>
    intro ho
    simp only [AV.old] at ho
    exact .pin v b o cs (lie hl) h1 fun j u hu => ih j u hu (old_one ho hu)
  | nilsl => exact fun _ => .nilsl
  | vecNil tl ht =>
    intro ho
    refine .vecNil tl ?_
    cases tl with
    | exact own => exact ⟨ht.1, fun e => let ⟨a, ha, hb⟩ := ht.2 e; ⟨a, ha, h.base ▸ hb⟩⟩
    | tok t n => simp [AV.old] at ho
    | shut => trivial
  | vec es tl b o cap sz cs h1 h2 h3 hl _ ht ih =>
    intro ho
    simp only [AV.old, Bool.and_eq_true] at ho
    refine .vec es tl b o cap sz cs h1 h2 h3 (lie hl) (fun j u hu => ih j u hu (old_flatAll ho.2 hu)) ?_
    cases tl with
    | exact own => exact ⟨ht.1, fun e => let ⟨a, ha, hb⟩ := ht.2 e; ⟨a, ha, h.base ▸ hb⟩⟩
    | tok t n => simp at ho
    | shut => trivial
  | ms i g off len sz a cap hi hg hc ha =>
    intro ho
    simp only [AV.old, Nat.blt_eq] at ho
    exact .ms i g off len sz a cap ho (by rw [h.ge]; exact hg) hc (by rw [h.ge, h.ob]; exact ha)
  | nilmap => exact fun _ => .nilmap
  | map i r hi hr =>
    intro ho
    simp only [AV.old, Nat.blt_eq] at ho
    exact .map i r ho (by rw [h.ge, h.ob]; exact hr)
  | func f a c a' c' h1 h2 h3 h4 _ _ ih1 ih2 =>
    intro ho
    simp only [AV.old, Bool.and_eq_true] at ho
    exact .func f a c a' c' h1 h2 h3 h4 (fun j u x hu hx => ih1 j u x hu hx (oldAll_get ho.1 hu)) (fun j u x hu hx => ih2 j u x hu hx (oldAll_get ho.2 hu))
  | nilfunc => exact fun _ => .nilfunc
  | iface t v v' h1 _ ih =>
    intro ho
    simp only [AV.old] at ho
    exact .iface t v v' h1 (ih ho)
  | nilif => exact fun _ => .nilif
  | agg cs cs' h1 h2 _ ih =>
    intro ho
    simp only [AV.old] at ho
    exact .agg cs cs' h1 h2 fun j u x hu hx => ih j u x hu hx (oldAll_get ho hu)
  | tup cs cs' h1 _ ih =>
    intro ho
    simp only [AV.old] at ho
    exact .tup cs cs' h1 fun j u x hu hx => ih j u x hu hx (oldAll_get ho hu)

/-- of what there is now, only what there was is still known; blocks of the other objects are never written any more -/
def Gh.back (γ γ' : Gh) : Gh := { γ' with n := γ.n, tn := γ.tn, F := fun b o => γ'.F b o ∨ ∃ i, γ.n ≤ i ∧ i < γ'.n ∧ b = γ'.ob i }

theorem cut_back (γ γ' : Gh) : Cut γ' (γ.back γ') := ⟨rfl, rfl, rfl, fun _ _ h => .inl h⟩

theorem Le.back (h : Le γ w γ' w') : Le γ w (γ.back γ') w' where
  base := h.base
  n := Nat.le_refl _
  ge := h.ge
  ob := h.ob
  tn := Nat.le_refl _
  tv := h.tv
  tb := h.tb
  F b o hf := ⟨.inl (h.F b o hf).1, (h.F b o hf).2⟩
  sz := h.sz
  below := h.below

theorem old_start (hI : Inv γ s w) {i : Nat} {o : AObj} (ho : s.heap[i]? = some o) : o.old γ.n = true := by
  have h := hI.obj i o ho
  cases o with
  | cells cs g =>
    obtain ⟨_, h1, c, e, fr, _, h4, _, h6⟩ := h
    simp only [AObj.old]
    exact oldAll_of fun j u hu => by
      have hj := lt_of_getElem? hu
      exact (h6 j u c[j] hu (Array.getElem?_eq_getElem (by omega))).old (allOne_get h1 hu)
  | mapo es =>
    obtain ⟨_, en, clk, _, h4, h6⟩ := h
    simp only [AObj.old, List.all_eq_true, Bool.and_eq_true]
    intro x hx
    obtain ⟨j, hj, rfl⟩ := List.mem_iff_getElem.1 hx
    obtain ⟨a, b, c, d⟩ := h6 j es[j] en[j] (List.getElem?_eq_getElem hj) (Array.getElem?_eq_getElem (by omega))
    exact ⟨a.old d, old_flat fun k u hu => b.old' k u hu (allOne_get c hu)⟩

theorem objOk_cut (h : Cut γ' γ'') {i : Nat} {o : AObj} (ho : ObjOk γ' w i o) (hold : o.old γ''.n = true) : ObjOk γ'' w i o := by
  cases o with
  | cells cs g =>
    obtain ⟨h1, h2, c, e, fr, h3, h4, h5, h6⟩ := ho
    simp only [AObj.old] at hold
    exact ⟨by rw [h.ge]; exact h1, h2, c, e, fr, by rw [h.ob]; exact h3, h4, h5, fun j u x hu hx => (h6 j u x hu hx).cut h (oldAll_get hold hu)⟩
  | mapo es =>
    obtain ⟨h1, en, clk, h3, h4, h6⟩ := ho
    simp only [AObj.old, List.all_eq_true, Bool.and_eq_true] at hold
    exact ⟨by rw [h.ge]; exact h1, en, clk, by rw [h.ob]; exact h3, h4, fun j u x hu hx => by
      obtain ⟨a, b, c, d⟩ := h6 j u x hu hx
      have := hold u (List.mem_of_getElem? hu)
      exact ⟨a.cut h this.1, b.cut h this.2, c, d⟩⟩

theorem Inv.back {s2 s' : Sg} (hI : Inv γ s w) (hle : Le γ w γ' w') (hI' : Inv γ' s2 w') (hn : s'.heap.length = γ.n) (htoks : s'.toks = s.toks) (hobj : ∀ (i : Nat) o, s'.heap[i]? = some o → s2.heap[i]? = some o ∧ o.old γ.n = true)
    (htk : ∀ t, t < s.toks.length → s2.toks[t]? = s.toks[t]?) : Inv (γ.back γ') s' w' where
  n := hn
  tn := by rw [htoks]; exact hI.tn
  obj i o ho := by
    obtain ⟨h1, h2⟩ := hobj i o ho
    exact objOk_cut (cut_back γ γ') (hI'.obj i o h1) h2
  inj i j hi hj e := hI'.inj i j (Nat.lt_of_lt_of_le hi hle.n) (Nat.lt_of_lt_of_le hj hle.n) e
  lt i hi := by
    have hi' := Nat.lt_of_lt_of_le hi hle.n
    obtain ⟨a, b, c⟩ := hI'.lt i hi'
    refine ⟨a, b, fun o hf => ?_⟩
    rcases hf with hf | ⟨j, hj1, hj2, e⟩
    · exact c o hf
    · have hi0 : i < γ.n := hi
      have := hI'.inj i j hi' hj2 e
      omega
  tok t ht := by
    have ht' := Nat.lt_of_lt_of_le ht hle.tn
    obtain ⟨a, b, c, d⟩ := hI'.tok t ht'
    refine ⟨?_, b, fun o ho hf => ?_, d⟩
    · rw [htoks, ← htk t (by rw [hI.tn]; exact ht)]
      exact a
    · rcases hf with hf | ⟨j, hj1, hj2, e⟩
      · exact c o ho hf
      · exact hI'.tob t j ht' hj2 e
  tinj t u ht hu e := hI'.tinj t u (Nat.lt_of_lt_of_le ht hle.tn) (Nat.lt_of_lt_of_le hu hle.tn) e
  tob t i ht hi := hI'.tob t i (Nat.lt_of_lt_of_le ht hle.tn) (Nat.lt_of_lt_of_le hi hle.n)
  Flt b o hf := by
    rcases hf with hf | ⟨j, hj1, hj2, rfl⟩
    · exact hI'.Flt b o hf
    · exact (hI'.lt j hj2).2.1
  base := hI'.base
  fro := hI'.fro

/-- a result that leaves -/
theorem layOne_ok {s2 : Sg} (hI' : Inv γ' s2 w') {k : Option (Option Nat)} {v u : AV} {c : Value} (hv : VR γ' w' v c) (h : layOne s2.heap γ.n k v = some u) (hold : u.old γ.n = true) : VR (γ.back γ') w' u c := by
  have other : u = v.weak → VR (γ.back γ') w' u c := fun e => by subst e; exact hv.weak.cut (cut_back γ γ') hold
  cases v <;> try (exact other (by simpa [layOne] using h.symm))
  rename_i i g off len sz
  simp only [layOne] at h
  split at h
  · cases h
    exact hv.cut (cut_back γ γ') hold
  · rename_i hib
    simp only [Option.bind_eq_some_iff] at h
    obtain ⟨ag, hag, h⟩ := h
    split at h
    · rename_i hsz
      have hsz := Nat.eq_of_beq_eq_true hsz
      subst hsz
      simp only [Option.bind_eq_some_iff, Option.map_eq_some_iff] at h
      obtain ⟨cs, hcs, es, hes, rfl⟩ := h
      have ho := getCells_some hcs
      obtain ⟨k1, k2, row, e1, fr, k3, k4, k5, k6⟩ := hI'.obj i _ ho
      have hin := hI'.ilt ho
      have hd1 : allOne (cs.drop off) = true := allOne_of fun j u hu => by rw [List.getElem?_drop] at hu; exact allOne_get k2 hu
      obtain ⟨c1, c2, c3, c4⟩ := chunk_ok hes hd1
      rw [List.length_drop] at c4
      have hfl := flatAll_length c2
      cases hv with
      | ms _ _ _ _ _ a cap w1 w2 w3 w4 =>
      obtain ⟨rfl, _⟩ := w4 k1
      subst c1
      simp only [AV.old, Bool.true_and] at hold
      have hget : ∀ {j : Nat} {u : AV}, (flatAll es)[j]? = some u → cs[off + j]? = some u ∧ off + j < row.size := fun {j u} hu => by
        have hj := lt_of_getElem? hu
        rw [c3, List.getElem?_take] at hu
        split at hu
        · rw [List.getElem?_drop] at hu
          exact ⟨hu, by have := lt_of_getElem? hu; omega⟩
        · cases hu
      have hones : allOneAll es = true := by
        refine allOneAll_of ?_
        rw [c3]
        refine allOne_of fun j u hu => ?_
        rw [List.getElem?_take] at hu
        split at hu
        · exact allOne_get hd1 hu
        · cases hu
      refine .vec es .shut _ off cap (ag.getD 1) (fun j => row.getD (off + j) undef) w3 c2 hones ?_ ?_ trivial
      · intro j hj
        refine ⟨.inr ⟨i, by simpa [Nat.blt_eq] using hib, hin, rfl⟩, ?_⟩
        have hu : (flatAll es)[j]? = some (flatAll es)[j] := List.getElem?_eq_getElem hj
        obtain ⟨_, hlt⟩ := hget hu
        rw [cell?_row k3, Array.getElem?_eq_getElem hlt]
        simp [Array.getD, hlt]
      · intro j u hu
        obtain ⟨h1, hlt⟩ := hget hu
        have : row.getD (off + j) undef = row[off + j] := by simp [Array.getD, hlt]
        rw [this]
        exact (k6 _ u _ h1 (Array.getElem?_eq_getElem hlt)).cut (cut_back γ γ') (old_flatAll hold hu)
    · cases h

theorem lay_ok {s2 : Sg} (hI' : Inv γ' s2 w') : ∀ {vs : List AV} {ks : List ARes} {l : List AV} {cs : List Value}, VRs γ' w' vs cs.toArray → lay s2.heap γ.n vs ks = some l → AV.oldAll γ.n l = true → VRs (γ.back γ') w' l cs.toArray
  | [], ks, l, cs, hv, h, ho => by
    have : l = [] := by cases ks <;> simp [lay] at h <;> exact h
    subst this
    exact ⟨hv.1, fun j u x hu => by simp at hu⟩
  | v :: r, [], l, cs, hv, h, ho => by cases h
  | v :: r, a :: ks, l, [], hv, h, ho => by have := hv.1; simp at this
  | v :: r, a :: ks, l, c :: cs, hv, h, ho => by
    simp only [lay, Option.bind_eq_some_iff, Option.some.injEq] at h
    obtain ⟨u, hu, l', hl', rfl⟩ := h
    simp only [AV.oldAll, Bool.and_eq_true] at ho
    have h0 := layOne_ok hI' (hv.2 0 v c rfl rfl) hu ho.1
    have hr : VRs γ' w' r cs.toArray := ⟨by have := hv.1; simpa using this, fun j u x hu hx => hv.2 (j + 1) u x (by simpa using hu) (by simpa using hx)⟩
    have ih := lay_ok hI' hr hl' ho.2
    refine ⟨by have := ih.1; simpa using this, fun j u x hu hx => ?_⟩
    cases j with
    | zero => simp at hu hx; subst hu; subst hx; exact h0
    | succ j => exact ih.2 j u x (by simpa using hu) (by simpa using hx)

theorem leave_ok {m : CallMode} {b : Bar} {s2 s' : Sg} {vs l : List AV} {ks : List ARes} {cs : List Value} (hI : Inv γ s w) (hle : Le γ w γ' w') (hI' : Inv γ' s2 w') (hk : Keeps (b.into m s) s s2) (hv : VRs γ' w' vs cs.toArray) (h : leave m s vs ks s2 = some (l, s')) :
    ∃ γ'', Le γ w γ'' w' ∧ Inv γ'' s' w' ∧ VRs γ'' w' l cs.toArray := by
  have hn : s.heap.length = γ.n := hI.n
  cases m with
  | raw =>
    simp only [leave, Option.some.injEq, Prod.mk.injEq] at h
    obtain ⟨rfl, rfl⟩ := h
    exact ⟨γ', hle, hI', hv⟩
  | pure =>
    simp only [leave, Option.bind_eq_some_iff] at h
    obtain ⟨l', hl', h⟩ := h
    split at h
    · rename_i hold
      simp only [Option.some.injEq, Prod.mk.injEq] at h
      obtain ⟨rfl, rfl⟩ := h
      rw [hn] at hl' hold
      refine ⟨γ.back γ', hle.back, hI.back hle hI' hn rfl (fun i o ho => ⟨?_, old_start hI ho⟩) (fun t ht => hk.tk t ht ht), lay_ok hI' hv hl' hold⟩
      have hi := lt_of_getElem? ho
      rw [hk.hp i hi hi]
      exact ho
    · cases h
  | eff =>
    simp only [leave, Option.bind_eq_some_iff] at h
    obtain ⟨l', hl', h⟩ := h
    split at h
    · rename_i hold
      simp only [Option.some.injEq, Prod.mk.injEq] at h
      obtain ⟨rfl, rfl⟩ := h
      rw [hn] at hl' hold
      have hlen := hk.len
      refine ⟨γ.back γ', hle.back, hI.back hle hI' (by simp; omega) rfl (fun i o ho => ?_) (fun t ht => hk.tk t ht ht), lay_ok hI' hv hl' hold⟩
      rw [List.getElem?_take] at ho
      split at ho
      · rename_i hi
        refine ⟨ho, ?_⟩
        have := hk.es s.heap.length List.mem_cons_self (Nat.le_refl _) i hi (fun o' ho' => by rw [hn]; exact old_start hI ho') o ho
        rw [hn] at this
        exact this
      · cases ho
    · cases h

end Go.Am

/-
  The abstract machine, twenty-first part: one operation of a region.
-/
namespace Go.Am
open Go.RowKit (Below)

variable {P : Program} {γ : Gh} {w : World} {s : Sg}

-- ---------------------------------------------------------------- what is to be known of calls

def OutR (γ : Gh) (w : World) : Out → Ending → Prop
  | .ret v, .returned c => VR γ w v c
  | .panic v, .panicked chain => ∃ c, chain = [{ v := c, recovered := false }] ∧ VR γ w v c
  | _, _ => False

def CallsR (P : Program) (γ : Gh) (w : World) (f : FuncId) (args : Array Value) (out : Out) (s' : Sg) : Prop :=
  Calls P f args w fun e w' => ∃ γ', Le γ w γ' w' ∧ Inv γ' s' w' ∧ OutR γ' w' out e

/-- what a call's step comes to -/
def InvokeR (P : Program) (γ : Gh) (w : World) (f : FuncId) (args : Array Value) (out : Out) (s' : Sg) : Prop :=
  (∃ γ' w' c v, (callFunc f args).run P w = .ok (.value c) w' ∧ Le γ w γ' w' ∧ Inv γ' s' w' ∧ out = .ret v ∧ VR γ' w' v c) ∨
  ((callFunc f args).run P w = .ok (.enter f args) w ∧ CallsR P γ w f args out s')

structure CallOk (P : Program) (call : CallFn) : Prop where
  keeps : CallKeeps call
  ok : ∀ b f l s out s', call b f l s = some (out, s') → ∀ (γ : Gh) (w : World), Inv γ s w → ∀ args : Array Value, VRs γ w l args → InvokeR P γ w f args out s'

-- ---------------------------------------------------------------- frames

def DefR (γ : Gh) (w : World) (d : FuncId × List AV) (c : Deferred) : Prop := ∃ cap args : Array Value, c = { target := .fn (.func d.1) cap, args := args } ∧ VRs γ w d.2 (args ++ cap)

def DefsR (γ : Gh) (w : World) : List (FuncId × List AV) → List Deferred → Prop
  | [], [] => True
  | d :: ds, c :: cs => DefR γ w d c ∧ DefsR γ w ds cs
  | _, _ => False

theorem DefsR.mono {γ' : Gh} {w' : World} (h : Le γ w γ' w') : ∀ {ds : List (FuncId × List AV)} {cs : List Deferred}, DefsR γ w ds cs → DefsR γ' w' ds cs
  | [], [], _ => trivial
  | d :: ds, c :: cs, ⟨⟨cap, args, e, hv⟩, hr⟩ => ⟨⟨cap, args, e, hv.mono h⟩, DefsR.mono h hr⟩
  | [], _ :: _, h => h.elim
  | _ :: _, [], h => h.elim

structure RelR (γ : Gh) (w : World) (loc : Env) (fr : Fr) (s : Sg) (n : Nat) (a : Act) : Prop where
  inv : Inv γ s w
  ev : EvR γ w loc fr.pers a
  defs : DefsR γ w fr.defers a.defers
  size : n ≤ a.tmps.size

theorem look_cons (u : Nat) (v : AV) (loc pers : Env) (t : Nat) : Env.look ((u, v) :: loc) pers t = if u = t then v else Env.look loc pers t := by
  simp only [Env.look]
  by_cases h : u = t
  · subst h; simp
  · have : Nat.beq u t = false := by
      cases hb : Nat.beq u t with
      | false => rfl
      | true => exact absurd (Nat.eq_of_beq_eq_true hb) h
    rw [this, if_neg h]
    simp

/-- a value is put into its temporary -/
theorem RelR.put {γ' : Gh} {w' : World} {loc : Env} {fr fr' : Fr} {s' : Sg} {n : Nat} {a a' : Act} {dst : Option Nat} {v : AV} {c : Value} (h : RelR γ w loc fr s n a) (hle : Le γ w γ' w') (hI : Inv γ' s' w') (hv : VR γ' w' v c)
    (hd : ∀ t, dst = some t → t < n) (hp : fr'.pers = fr.pers) (ht : a'.tmps = a.tmps) (hdef : DefsR γ' w' fr'.defers a'.defers) : RelR γ' w' (setLoc loc dst v) fr' s' n (a'.put dst c) where
  inv := hI
  ev := by
    intro t hne
    rw [hp] at hne ⊢
    cases dst with
    | none =>
      simp only [setLoc, Act.put] at hne ⊢
      rw [ht]
      exact (h.ev.mono hle) t hne
    | some d =>
      simp only [setLoc, Act.put, look_cons] at hne ⊢
      rw [ht]
      have hdn := hd d rfl
      have hsz := h.size
      by_cases e : d = t
      · subst e
        rw [if_pos rfl]
        exact ⟨c, by simp [Array.getElem?_setIfInBounds, show d < a.tmps.size by omega], hv⟩
      · rw [if_neg e] at hne ⊢
        obtain ⟨x, hx, hvx⟩ := (h.ev.mono hle) t hne
        exact ⟨x, by rw [Array.getElem?_setIfInBounds_ne e]; exact hx, hvx⟩
  defs := by cases dst <;> exact hdef
  size := by
    have := h.size
    cases dst <;> simp [Act.put, ht, this]

theorem undef_VR : VR γ w (.tup []) undef := .tup [] #[] rfl (fun j u x hu => by simp at hu)

-- ---------------------------------------------------------------- guards

theorem wanted_ok {loc pers : Env} {a : Act} (hE : EvR γ w loc pers a) {ops : Array Oper} {o : Oper} (hg : o.guard.isSome = true → (guardTmp ops.toList o.guard).isSome = true) {wd : Bool} (h : wantedA loc pers (guardTmp ops.toList o.guard) = some wd) :
    Region.wanted o (yielded ops a.tmps) = wd := by
  unfold Region.wanted
  cases hgd : o.guard with
  | none =>
    rw [hgd] at h
    simp [guardTmp, wantedA] at h
    rw [← h]
  | some jw =>
    obtain ⟨j, want⟩ := jw
    rw [hgd] at h hg
    have hg := hg rfl
    simp only [guardTmp] at h hg
    cases hd : (ops.toList[j]?).bind (·.dst) with
    | none => rw [hd] at hg; cases hg
    | some t =>
      rw [hd] at h
      have hd' : (ops[j]?).bind (·.dst) = some t := by rw [← Array.getElem?_toList]; exact hd
      simp only [wantedA] at h
      have hy : yielded ops a.tmps j = (match a.tmps[t]? with | some (.bool b) => some b | _ => none) := by
        unfold yielded
        rw [hd']
        rfl
      dsimp only
      rw [hy]
      have hne : Env.look loc pers t ≠ .undef := fun e => by rw [e] at h; cases h
      obtain ⟨c, hc, hv⟩ := hE t hne
      rw [hc]
      generalize Env.look loc pers t = v at *
      cases hv <;> simp at h ⊢ <;> first | exact h | exact h.symm

-- ---------------------------------------------------------------- one operation

theorem run_call_func {f : FuncId} {cap : Array Value} {args : Array Value} : invoke (.fn (.func f) cap) args = callFunc f (args ++ cap) := rfl

theorem resolve_value {ρ : Operand → Value} {c : Call} {type : TypeId} {x : Operand} (hc : c.callee = .value x) {f : FuncId} {first cap : Array Value} (hx : ρ x = .func (.func f) first cap) :
    resolve ρ c type = pure { target := .fn (.func f) cap, args := first ++ c.args.map ρ } := by
  simp [resolve, hc, Deferred.ofValue, hx]

theorem if?_some {u v : AV} (h : u.if? = some v) : v = u ∧ ∃ t x, u = .iface t x := by
  cases u <;> simp [AV.if?] at h
  exact ⟨h.symm, _, _, rfl⟩

theorem VRs.append {a b : List AV} {x y : Array Value} (ha : VRs γ w a x) (hb : VRs γ w b y) : VRs γ w (a ++ b) (x ++ y) := by
  refine ⟨by simp [ha.1, hb.1], fun j u z hu hz => ?_⟩
  rw [List.getElem?_append] at hu
  rw [Array.getElem?_append] at hz
  have := ha.1
  split at hu
  · rw [if_pos (by omega)] at hz
    exact ha.2 j u z hu hz
  · rw [if_neg (by omega)] at hz
    rw [ha.1] at hu
    exact hb.2 _ u z hu hz

theorem fn?_some {u : AV} {l : List AV} {c : FuncId × List AV} (h : u.fn? l = some c) : ∃ f a b, u = .func f a b ∧ c = (f, a ++ l ++ b) := by
  cases u <;> simp [AV.fn?] at h
  exact ⟨_, _, _, rfl, by rw [List.append_assoc]; exact h.symm⟩

theorem tOp_kind {mu : Bool} {op : Op} {ao : AOp} (h : tOp P mu op = some ao) : (∃ p, ao = .v p) ∨ (∃ p, ao = .e p) ∨ (∃ c, op = .call c) ∨ (∃ c, op = .defer c) ∨ ∃ x, op = .panic x := by
  cases op
  case call c => exact .inr (.inr (.inl ⟨_, rfl⟩))
  case defer c => exact .inr (.inr (.inr (.inl ⟨_, rfl⟩)))
  case panic x => exact .inr (.inr (.inr (.inr ⟨_, rfl⟩)))
  case makeFunc f first cap =>
    cases f <;> try (simp [tOp] at h; done)
    simp only [tOp, Option.bind_eq_some_iff, Option.map_eq_some_iff] at h
    obtain ⟨_, _, _, _, rfl⟩ := h
    exact .inl ⟨_, rfl⟩
  case makeMap t r =>
    cases r with
    | none =>
      simp only [tOp] at h
      split at h
      · cases h; exact .inr (.inl ⟨_, rfl⟩)
      · cases h
    | some r => cases h
  case makeSlice t l c =>
    simp only [tOp] at h
    split at h
    · simp only [Option.bind_eq_some_iff] at h
      obtain ⟨_, _, _, _, _, _, _, _, h⟩ := h
      split at h
      · cases h; exact .inr (.inl ⟨_, rfl⟩)
      · cases h
    · cases h
  all_goals
    simp only [tOp] at h
    first
      | (cases h; done)
      | (obtain ⟨_, _, rfl⟩ := Option.map_eq_some_iff.1 h; first | exact .inl ⟨_, rfl⟩ | exact .inr (.inl ⟨_, rfl⟩))
      | (repeat' (split at h)
         all_goals first
           | (cases h; done)
           | (cases h; first | exact .inl ⟨_, rfl⟩ | exact .inr (.inl ⟨_, rfl⟩))
           | (obtain ⟨_, _, rfl⟩ := Option.map_eq_some_iff.1 h; first | exact .inl ⟨_, rfl⟩ | exact .inr (.inl ⟨_, rfl⟩)))

theorem tCall_kind {mu : Bool} {c : Call} {ao : AOp} (h : tCall P c mu = some ao) : (∃ p, ao = .v p) ∨ (∃ p, ao = .e p) ∨ (∃ f xs, ao = .call f xs ∧ c.callee = .value (.func f) ∧ tOpds c.args.toList = some xs) ∨ (∃ x y xs, ao = .callv y xs ∧ c.callee = .value x ∧ tOpd x = some y ∧ tOpds c.args.toList = some xs) ∨
    (ao = .recover ∧ c.callee = .builtin .recover) := by
  unfold tCall at h
  split at h
  · rename_i f hcl
    obtain ⟨xs, hxs, rfl⟩ := Option.map_eq_some_iff.1 h
    exact .inr (.inr (.inl ⟨_, _, rfl, hcl, hxs⟩))
  · rename_i x hne hcl
    simp only [Option.bind_eq_some_iff, Option.map_eq_some_iff] at h
    obtain ⟨y, hy, xs, hxs, rfl⟩ := h
    exact .inr (.inr (.inr (.inl ⟨_, _, _, rfl, hcl, hy, hxs⟩)))
  · cases h
  · rename_i b hcl
    split at h
    · split at h <;> first | (cases h; done) | (cases h; exact .inl ⟨_, rfl⟩)
    · split at h
      · obtain ⟨_, _, rfl⟩ := Option.map_eq_some_iff.1 h
        exact .inr (.inl ⟨_, rfl⟩)
      · obtain ⟨_, _, rfl⟩ := Option.map_eq_some_iff.1 h
        exact .inr (.inl ⟨_, rfl⟩)
      · cases h
    · split at h
      · obtain ⟨_, _, rfl⟩ := Option.map_eq_some_iff.1 h
        exact .inr (.inl ⟨_, rfl⟩)
      · cases h
    · cases h; exact .inl ⟨_, rfl⟩
    · cases h; exact .inl ⟨_, rfl⟩
    · cases h; exact .inl ⟨_, rfl⟩
    · cases h; exact .inl ⟨_, rfl⟩
    · cases h; exact .inl ⟨_, rfl⟩
    · cases h; exact .inr (.inr (.inr (.inr ⟨rfl, hcl⟩)))
    · cases h

theorem tDefer_kind {mu : Bool} {c : Call} {ao : AOp} (h : tOp P mu (.defer c) = some ao) : ∃ x y xs, ao = .defer y xs ∧ c.callee = .value x ∧ tOpd x = some y ∧ tOpds c.args.toList = some xs := by
  simp only [tOp] at h
  split at h
  · rename_i x hcl
    split at h
    · rename_i y xs h1 h2
      cases h
      exact ⟨_, _, _, rfl, hcl, h1, h2⟩
    · cases h
  · cases h

/-- what one operation that is wanted comes to: 'K' is what is to hold behind it, 'Q' of an end by a panic -/
theorem op_ok {call : CallFn} (hc : CallOk P call) {b : Bar} {mu : Bool} {o : Oper} {n : Nat} (hdst : ∀ t, o.dst = some t → t < n) {loc : Env} {fr : Fr} {a : Act} (hR : RelR γ w loc fr s n a) {ao : AOp} (hop : tOp P mu o.op = some ao) (hrec : ao ≠ .recover)
    {r : List AOper} {e : Ex} {loc' : Env} {fr' : Fr} {s' : Sg}
    (h : (match (generalizing := false) ao with
      | .v p => (evV loc fr.pers s p).bind fun v => runOps call b r (setLoc loc o.dst v) fr s
      | .e p => (evE b loc fr.pers s p).bind fun x => runOps call b r (setLoc loc o.dst x.1) fr x.2
      | .call f args => (evAll loc fr.pers args).bind fun l => (call b f l s).bind fun x => match x.1 with
        | .ret v => runOps call b r (setLoc loc o.dst v) fr x.2
        | .panic v => some (.panic v, loc, fr, x.2)
      | .callv y args => (y.ev loc fr.pers).bind fun u => (evAll loc fr.pers args).bind fun l => (u.fn? l).bind fun c => (call b c.1 c.2 s).bind fun x => match x.1 with
        | .ret v => runOps call b r (setLoc loc o.dst v) fr x.2
        | .panic v => some (.panic v, loc, fr, x.2)
      | .panic x => (x.ev loc fr.pers).bind fun u => u.if?.bind fun v => some (.panic v, loc, fr, s)
      | .defer y args => (y.ev loc fr.pers).bind fun u => (evAll loc fr.pers args).bind fun l => (u.fn? l).bind fun c =>
        runOps call b r (setLoc loc o.dst (.tup [])) { fr with defers := c :: fr.defers } s
      | .recover => (doRecover fr).bind fun x => runOps call b r (setLoc loc o.dst x.1) x.2 s
      | .bad => none : Option (Ex × Env × Fr × Sg)) = some (e, loc', fr', s'))
    {K : Act → World → Prop} {Q : Exit → Act → World → Prop}
    (hK : ∀ γ' w' v c fr1 s1 (a1 : Act), Le γ w γ' w' → RelR γ' w' (setLoc loc o.dst v) fr1 s1 n (a1.put o.dst c) → fr1.pan = fr.pan → runOps call b r (setLoc loc o.dst v) fr1 s1 = some (e, loc', fr', s') → K (a1.put o.dst c) w')
    (hQ : ∀ γ' w' v c s1, Le γ w γ' w' → RelR γ' w' loc fr s1 n a → VR γ' w' v c → e = .panic v → loc' = loc → fr' = fr → s' = s1 → Q (.panic [{ v := c, recovered := false }]) a w') :
    o.wp P a w K Q := by
  have keepDefs : ∀ {γ' w'}, Le γ w γ' w' → DefsR γ' w' fr.defers a.defers := fun hle => hR.defs.mono hle
  have putA : ∀ {γ' w' v c s1}, Le γ w γ' w' → Inv γ' s1 w' → VR γ' w' v c → RelR γ' w' (setLoc loc o.dst v) fr s1 n (a.put o.dst c) := fun hle hI hv => hR.put hle hI hv hdst rfl rfl (keepDefs hle)
  have stay : ∀ {γ' w' s1}, Le γ w γ' w' → Inv γ' s1 w' → RelR γ' w' loc fr s1 n a := fun hle hI => ⟨hI, hR.ev.mono hle, keepDefs hle, hR.size⟩
  -- a value that has come
  have simR : ∀ {v s1}, SimR γ w ((execOp a.eval o).run P w) v s1 → runOps call b r (setLoc loc o.dst v) fr s1 = some (e, loc', fr', s') → o.wp P a w K Q := fun {v s1} hs hr => by
    obtain ⟨γ', w', nx, c, h1, h2, h3, h4, h5⟩ := hs
    unfold Oper.wp
    rw [h1]
    rcases h2 with rfl | ⟨rfl, rfl⟩
    · exact hK γ' w' v c fr s1 a h3 (putA h3 h4 h5) rfl hr
    · exact hK γ' w' v undef fr s1 a h3 (putA h3 h4 h5) rfl hr
  -- a call
  have callR : ∀ {f : FuncId} {l : List AV} {x : Out × Sg} {args : Array Value}, call b f l s = some x → VRs γ w l args → (execOp a.eval o).run P w = (callFunc f args).run P w → (match x.1 with
        | .ret v => runOps call b r (setLoc loc o.dst v) fr x.2
        | .panic v => some (.panic v, loc, fr, x.2)) = some (e, loc', fr', s') → o.wp P a w K Q := fun {f l x args} hx hv hrun h => by
    obtain ⟨out, s1⟩ := x
    unfold Oper.wp
    rw [hrun]
    rcases hc.ok b f l s out s1 hx γ w hR.inv args hv with ⟨γ', w', c, v, g1, g2, g3, rfl, g5⟩ | ⟨g1, g2⟩
    · rw [g1]
      exact hK γ' w' v c fr s1 a g2 (putA g2 g3 g5) rfl h
    · rw [g1]
      refine Calls.mono g2 fun e1 w' he => ?_
      obtain ⟨γ', q1, q2, q3⟩ := he
      cases out with
      | ret v =>
        cases e1 with
        | returned c => exact hK γ' w' v c fr s1 a q1 (putA q1 q2 q3) rfl h
        | panicked chain => exact q3.elim
        | outgrown => exact q3.elim
      | panic v =>
        cases e1 with
        | returned c => exact q3.elim
        | panicked chain =>
          obtain ⟨c, rfl, hv'⟩ := q3
          simp only [Option.some.injEq, Prod.mk.injEq] at h
          obtain ⟨rfl, rfl, rfl, rfl⟩ := h
          exact hQ γ' w' v c s1 q1 (stay q1 q2) hv' rfl rfl rfl rfl
        | outgrown => exact q3.elim
  have argsR : ∀ {c : Call} {xs : List AOpd} {l : List AV}, tOpds c.args.toList = some xs → evAll loc fr.pers xs = some l → VRs γ w l (c.args.map a.eval) := fun {c xs l} h1 h2 => by
    have : c.args.map a.eval = (c.args.toList.map a.eval).toArray := by rw [← Array.toList_map, Array.toArray_toList]
    rw [this]
    exact opds_ok hR.ev h1 h2
  cases ao with
  | v p =>
    simp only [Option.bind_eq_some_iff] at h
    obtain ⟨v, hv, h⟩ := h
    exact simR (sim_v hR.inv hR.ev hop hv) h
  | e p =>
    simp only [Option.bind_eq_some_iff] at h
    obtain ⟨⟨v, s1⟩, hv, h⟩ := h
    exact simR (sim_e hR.inv hR.ev hop hv) h
  | call f args =>
    simp only [Option.bind_eq_some_iff] at h
    obtain ⟨l, hl, x, hx, h⟩ := h
    obtain ⟨dst, op, type, pos, after, guard⟩ := o
    have hcall : ∃ c, op = .call c ∧ c.callee = .value (.func f) ∧ tOpds c.args.toList = some args := by
      rcases tOp_kind hop with ⟨_, e⟩ | ⟨_, e⟩ | ⟨c, rfl⟩ | ⟨c, rfl⟩ | ⟨x, rfl⟩
      · cases e
      · cases e
      · simp only [tOp] at hop
        rcases tCall_kind hop with ⟨_, e⟩ | ⟨_, e⟩ | ⟨_, _, e, h1, h2⟩ | ⟨_, _, _, e, _⟩ | ⟨e, _⟩
        · cases e
        · cases e
        · cases e; exact ⟨c, rfl, h1, h2⟩
        · cases e
        · cases e
      · obtain ⟨_, _, _, e, _⟩ := tDefer_kind hop; cases e
      · simp [tOp] at hop
    obtain ⟨c, rfl, hcal, hxs⟩ := hcall
    refine callR (args := c.args.map a.eval) hx (argsR hxs hl) ?_ h
    have : resolve a.eval c type = pure { target := .fn (.func f) #[], args := #[] ++ c.args.map a.eval } := resolve_value hcal rfl
    simp [execOp, this, run_call_func]
  | callv y args =>
    simp only [Option.bind_eq_some_iff] at h
    obtain ⟨u, hu, l, hl, cc, hcc, x, hx, h⟩ := h
    obtain ⟨dst, op, type, pos, after, guard⟩ := o
    have hcall : ∃ c z, op = .call c ∧ c.callee = .value z ∧ tOpd z = some y ∧ tOpds c.args.toList = some args := by
      rcases tOp_kind hop with ⟨_, e⟩ | ⟨_, e⟩ | ⟨c, rfl⟩ | ⟨c, rfl⟩ | ⟨x, rfl⟩
      · cases e
      · cases e
      · simp only [tOp] at hop
        rcases tCall_kind hop with ⟨_, e⟩ | ⟨_, e⟩ | ⟨_, _, e, h1, h2⟩ | ⟨_, _, _, e, h1, h2, h3⟩ | ⟨e, _⟩
        · cases e
        · cases e
        · cases e
        · cases e; exact ⟨c, _, rfl, h1, h2, h3⟩
        · cases e
      · obtain ⟨_, _, _, e, _⟩ := tDefer_kind hop; cases e
      · simp [tOp] at hop
    obtain ⟨c, z, rfl, hcal, hz, hxs⟩ := hcall
    obtain ⟨f, fa, fb, rfl, rfl⟩ := fn?_some hcc
    have hr := opd_ok hR.ev hz hu
    generalize hz' : a.eval z = zc at hr
    cases hr with
    | func _ _ _ a' c' k1 k2 k3 k4 k5 k6 =>
    have hres := resolve_value (type := type) hcal hz'
    refine callR (args := (a' ++ c.args.map a.eval) ++ c') hx ((VRs.append ⟨k1, k5⟩ (argsR hxs hl)).append ⟨k2, k6⟩) ?_ h
    simp [execOp, hres, run_call_func]
  | panic x =>
    simp only [Option.bind_eq_some_iff] at h
    obtain ⟨u, hu, v, hv, h⟩ := h
    simp only [Option.some.injEq, Prod.mk.injEq] at h
    obtain ⟨rfl, rfl, rfl, rfl⟩ := h
    obtain ⟨rfl, t, y, rfl⟩ := if?_some hv
    obtain ⟨dst, op, type, pos, after, guard⟩ := o
    have hcall : ∃ z, op = .panic z ∧ tOpd z = some x := by
      rcases tOp_kind hop with ⟨_, e⟩ | ⟨_, e⟩ | ⟨c, rfl⟩ | ⟨c, rfl⟩ | ⟨z, rfl⟩
      · cases e
      · cases e
      · simp only [tOp] at hop
        rcases tCall_kind hop with ⟨_, e⟩ | ⟨_, e⟩ | ⟨_, _, e, h1, h2⟩ | ⟨_, _, _, e, h1, h2, h3⟩ | ⟨e, _⟩ <;> cases e
      · obtain ⟨_, _, _, e, _⟩ := tDefer_kind hop; cases e
      · simp only [tOp, Option.map_eq_some_iff, AOp.panic.injEq] at hop
        obtain ⟨y, hy, rfl⟩ := hop
        exact ⟨z, rfl, hy⟩
    obtain ⟨z, rfl, hz⟩ := hcall
    have hr := opd_ok hR.ev hz hu
    unfold Oper.wp
    generalize hz' : a.eval z = zc at hr
    have hrun : ((execOp a.eval ⟨dst, .panic z, type, pos, after, guard⟩).run P w) = .halt (.panic zc) w := by
      cases hr
      simp [execOp, hz', Instr.panic, goPanic]
    rw [hrun]
    exact hQ γ w _ zc s (Le.refl _ _) hR hr rfl rfl rfl rfl
  | defer y args =>
    simp only [Option.bind_eq_some_iff] at h
    obtain ⟨u, hu, l, hl, cc, hcc, h⟩ := h
    obtain ⟨dst, op, type, pos, after, guard⟩ := o
    have hcall : ∃ c z, op = .defer c ∧ c.callee = .value z ∧ tOpd z = some y ∧ tOpds c.args.toList = some args := by
      rcases tOp_kind hop with ⟨_, e⟩ | ⟨_, e⟩ | ⟨c, rfl⟩ | ⟨c, rfl⟩ | ⟨x, rfl⟩
      · cases e
      · cases e
      · simp only [tOp] at hop
        rcases tCall_kind hop with ⟨_, e⟩ | ⟨_, e⟩ | ⟨_, _, e, h1, h2⟩ | ⟨_, _, _, e, h1, h2, h3⟩ | ⟨e, _⟩ <;> cases e
      · obtain ⟨_, _, _, e, h1, h2, h3⟩ := tDefer_kind hop
        cases e
        exact ⟨c, _, rfl, h1, h2, h3⟩
      · simp [tOp] at hop
    obtain ⟨c, z, rfl, hcal, hz, hxs⟩ := hcall
    obtain ⟨f, fa, fb, rfl, rfl⟩ := fn?_some hcc
    have hr := opd_ok hR.ev hz hu
    generalize hz' : a.eval z = zc at hr
    cases hr with
    | func _ _ _ a' c' k1 k2 k3 k4 k5 k6 =>
    have hres := resolve_value (type := type) hcal hz'
    have hrun : ((execOp a.eval ⟨dst, .defer c, type, pos, after, guard⟩).run P w) = .ok (.defer { target := .fn (.func f) c', args := a' ++ c.args.map a.eval }) w := by
      simp [execOp, hres]
    unfold Oper.wp
    rw [hrun]
    have hd : DefsR γ w ((f, fa ++ l ++ fb) :: fr.defers) ({ target := .fn (.func f) c', args := a' ++ c.args.map a.eval } :: a.defers) :=
      ⟨⟨c', a' ++ c.args.map a.eval, rfl, (VRs.append ⟨k1, k5⟩ (argsR hxs hl)).append ⟨k2, k6⟩⟩, hR.defs⟩
    exact hK γ w (.tup []) undef { fr with defers := (f, fa ++ l ++ fb) :: fr.defers } s { a with defers := { target := .fn (.func f) c', args := a' ++ c.args.map a.eval } :: a.defers } (Le.refl _ _)
      (hR.put (Le.refl _ _) hR.inv undef_VR hdst rfl rfl hd) rfl h
  | recover => exact absurd rfl hrec
  | bad => cases h

end Go.Am

/-
  The abstract machine, twenty-second part: regions in the order of their text.
-/
namespace Go.Am
open Go.RowKit (Below)

variable {P : Program} {γ : Gh} {w : World} {s : Sg}

def ExR (γ : Gh) (w : World) : Ex → Exit → Prop
  | .normal, .normal => True
  | .exit i, .exit j => i = j
  | .ret, .ret => True
  | .panic v, .panic chain => ∃ c, chain = [{ v := c, recovered := false }] ∧ VR γ w v c
  | _, _ => False

theorem noRec_op {mu : Bool} {o : Oper} (hn : opNoRec o = true) {ao : AOp} (h : tOp P mu o.op = some ao) : ao ≠ .recover := by
  intro e
  subst e
  obtain ⟨dst, op, type, pos, after, guard⟩ := o
  rcases tOp_kind h with ⟨_, e⟩ | ⟨_, e⟩ | ⟨c, rfl⟩ | ⟨c, rfl⟩ | ⟨x, rfl⟩
  · cases e
  · cases e
  · simp only [tOp] at h
    rcases tCall_kind h with ⟨_, e⟩ | ⟨_, e⟩ | ⟨_, _, e, _⟩ | ⟨_, _, _, e, _⟩ | ⟨_, hc⟩
    · cases e
    · cases e
    · cases e
    · cases e
    · simp [opNoRec, hc] at hn
  · obtain ⟨_, _, _, e, _⟩ := tDefer_kind h; cases e
  · simp [tOp] at h

theorem tOper_op {mu : Nat → Bool} {ops : List Oper} {o : Oper} {ao : AOp} (h : (tOper P mu ops o).op = ao) (hb : ao ≠ .bad) : tOp P (mu (o.dst.getD 0)) o.op = some ao ∧ (o.guard.isSome = true → (guardTmp ops o.guard).isSome = true) := by
  simp only [tOper] at h
  split at h
  · exact absurd h.symm hb
  · rename_i hg
    refine ⟨?_, fun e => ?_⟩
    · cases ht : tOp P (mu (o.dst.getD 0)) o.op with
      | none => rw [ht] at h; exact absurd h.symm hb
      | some x => rw [ht] at h; simp at h; rw [h]
    · cases hgt : (guardTmp ops o.guard).isSome with
      | true => rfl
      | false => rw [e, Option.isNone_iff_eq_none.2 (by simpa using hgt)] at hg; simp at hg

/-- is an operation's guard one that can be told? else it is bad -/
theorem guard_bad {mu : Nat → Bool} {ops : List Oper} {o : Oper} (h : ¬ (o.guard.isSome = true → (guardTmp ops o.guard).isSome = true)) : (tOper P mu ops o).op = .bad := by
  simp only [tOper]
  rw [if_pos]
  simp only [not_imp] at h
  rw [h.1, Bool.true_and]
  cases hgt : guardTmp ops o.guard with
  | none => rfl
  | some x => rw [hgt] at h; simp at h

/-- the operations of a region in the order of their text, in a frame that recovers nothing -/
theorem ops_ok {call : CallFn} (hc : CallOk P call) {b : Bar} {mu : Nat → Bool} {ops : Array Oper} {n : Nat} (hdst : ∀ (i : Nat) o, ops[i]? = some o → ∀ t, o.dst = some t → t < n) {e : Ex} {loc' : Env} {fr' : Fr} {s' : Sg} {Q : Exit → Act → World → Prop} :
    ∀ (os : List Oper) (k : Nat), (∀ j, os[j]? = ops[k + j]?) → ∀ {γ : Gh} {w : World} {loc : Env} {fr : Fr} {s : Sg} {a : Act}, RelR γ w loc fr s n a → (fr.pan = .off ∨ ∀ o ∈ os, opNoRec o = true) →
      runOps call b (os.map (tOper P mu ops.toList)) loc fr s = some (e, loc', fr', s') → (∀ γ' w' a' x, Le γ w γ' w' → RelR γ' w' loc' fr' s' n a' → fr'.pan = fr.pan → ExR γ' w' e x → Q x a' w') → wpOps P ops Q (List.range' k os.length) a w
  | [], k, hos, γ, w, loc, fr, s, a, hR, hp, h, hQ => by
    simp only [List.map_nil, runOps, Option.some.injEq, Prod.mk.injEq] at h
    obtain ⟨rfl, rfl, rfl, rfl⟩ := h
    exact hQ γ w a .normal (Le.refl _ _) hR rfl trivial
  | o :: r, k, hos, γ, w, loc, fr, s, a, hR, hp, h, hQ => by
    have ho : ops[k]? = some o := by have := hos 0; simpa using this.symm
    have hos' : ∀ j, r[j]? = ops[k + 1 + j]? := fun j => by
      have := hos (j + 1)
      rw [show k + 1 + j = k + (j + 1) from by omega, ← this]
      simp
    have hp' : fr.pan = .off ∨ ∀ o ∈ r, opNoRec o = true := hp.imp id fun h o ho => h o (List.mem_cons_of_mem _ ho)
    simp only [List.length_cons, List.range'_succ, wpOps, ho]
    simp only [List.map_cons, runOps, Option.bind_eq_some_iff] at h
    obtain ⟨wd, hwd, h⟩ := h
    have rec_ok : ∀ γ' w' v c fr1 s1 (a1 : Act), Le γ w γ' w' → RelR γ' w' (setLoc loc o.dst v) fr1 s1 n (a1.put o.dst c) → fr1.pan = fr.pan → runOps call b (r.map (tOper P mu ops.toList)) (setLoc loc o.dst v) fr1 s1 = some (e, loc', fr', s') → wpOps P ops Q (List.range' (k + 1) r.length) (a1.put o.dst c) w' :=
      fun γ' w' v c fr1 s1 a1 hle hR1 hpan hr => ops_ok hc hdst r (k + 1) hos' hR1 (by rw [hpan]; exact hp') hr fun γ'' w'' a'' x hle' hR' hpan' hx => hQ γ'' w'' a'' x (hle.trans hle') hR' (hpan'.trans hpan) hx
    by_cases hg : (o.guard.isSome = true → (guardTmp ops.toList o.guard).isSome = true)
    · have hwt := wanted_ok hR.ev hg (wd := wd) hwd
      rw [hwt]
      cases wd with
      | false =>
        simp only [Bool.false_eq_true, if_false] at h ⊢
        exact rec_ok γ w (.tup []) undef fr s a (Le.refl _ _) (hR.put (Le.refl _ _) hR.inv undef_VR (hdst k o ho) rfl rfl hR.defs) rfl h
      | true =>
        simp only [if_true] at h ⊢
        refine .inl ?_
        have hb : (tOper P mu ops.toList o).op ≠ .bad := fun e => by rw [e] at h; cases h
        obtain ⟨hop, _⟩ := tOper_op rfl hb
        have hrec : (tOper P mu ops.toList o).op ≠ .recover := by
          rcases hp with hp | hp
          · intro e
            rw [e] at h
            simp [doRecover, hp] at h
          · exact noRec_op (hp o List.mem_cons_self) hop
        refine op_ok hc (hdst k o ho) hR hop hrec h rec_ok fun γ' w' v c s1 hle hR1 hv he hl hf hs => ?_
        subst he; subst hl; subst hf; subst hs
        exact hQ γ' w' a _ hle hR1 rfl ⟨c, rfl, hv⟩
    · have hb := guard_bad (P := P) (mu := mu) hg
      have : (guardTmp ops.toList o.guard) = none := by
        simp only [not_imp] at hg
        cases hgt : guardTmp ops.toList o.guard with
        | none => rfl
        | some x => rw [hgt] at hg; simp at hg
      have hwd2 : wd = true := by
        have e : (tOper P mu ops.toList o).guard = none := this
        rw [e] at hwd
        simp [wantedA] at hwd
        exact hwd
      subst hwd2
      rw [hb] at h
      cases h

-- ---------------------------------------------------------------- in a deferred call

def PanR (γ : Gh) (w : World) : Pan → FrameMode → Prop
  | .off, _ => False
  | .quiet, u => u = .returning
  | .on v r, u => ∃ c, u = .panicking [{ v := c, recovered := r }] ∧ VR γ w v c

theorem PanR.mono {γ' : Gh} {w' : World} (h : Le γ w γ' w') {p : Pan} {u : FrameMode} (hp : PanR γ w p u) : PanR γ' w' p u := by
  cases p with
  | off => exact hp
  | quiet => exact hp
  | on v r => obtain ⟨c, e, hv⟩ := hp; exact ⟨c, e, hv.mono h⟩

theorem opsS_ok {call : CallFn} (hc : CallOk P call) {b : Bar} {mu : Nat → Bool} {ops : Array Oper} {n : Nat} (hdst : ∀ (i : Nat) o, ops[i]? = some o → ∀ t, o.dst = some t → t < n) {e : Ex} {loc' : Env} {fr' : Fr} {s' : Sg} {c₀ : Frame} {cs : List Frame} {Q : Exit → Act → List Frame → World → Prop} :
    ∀ (os : List Oper) (k : Nat), (∀ j, os[j]? = ops[k + j]?) → ∀ {γ : Gh} {w : World} {loc : Env} {fr : Fr} {s : Sg} {a : Act} {u : FrameMode}, RelR γ w loc fr s n a → PanR γ w fr.pan u →
      runOps call b (os.map (tOper P mu ops.toList)) loc fr s = some (e, loc', fr', s') → (∀ γ' w' a' x u', Le γ w γ' w' → RelR γ' w' loc' fr' s' n a' → PanR γ' w' fr'.pan u' → ExR γ' w' e x → Q x a' ({ c₀ with mode := u' } :: cs) w') → wpOpsS P ops Q (List.range' k os.length) a ({ c₀ with mode := u } :: cs) w
  | [], k, hos, γ, w, loc, fr, s, a, u, hR, hp, h, hQ => by
    simp only [List.map_nil, runOps, Option.some.injEq, Prod.mk.injEq] at h
    obtain ⟨rfl, rfl, rfl, rfl⟩ := h
    exact hQ γ w a .normal u (Le.refl _ _) hR hp trivial
  | o :: r, k, hos, γ, w, loc, fr, s, a, u, hR, hp, h, hQ => by
    have ho : ops[k]? = some o := by have := hos 0; simpa using this.symm
    have hos' : ∀ j, r[j]? = ops[k + 1 + j]? := fun j => by
      have := hos (j + 1)
      rw [show k + 1 + j = k + (j + 1) from by omega, ← this]
      simp
    simp only [List.length_cons, List.range'_succ, wpOpsS, ho]
    simp only [List.map_cons, runOps, Option.bind_eq_some_iff] at h
    obtain ⟨wd, hwd, h⟩ := h
    have rec_ok : ∀ γ' w' v c fr1 s1 (a1 : Act) u1, Le γ w γ' w' → RelR γ' w' (setLoc loc o.dst v) fr1 s1 n (a1.put o.dst c) → PanR γ' w' fr1.pan u1 → runOps call b (r.map (tOper P mu ops.toList)) (setLoc loc o.dst v) fr1 s1 = some (e, loc', fr', s') → wpOpsS P ops Q (List.range' (k + 1) r.length) (a1.put o.dst c) ({ c₀ with mode := u1 } :: cs) w' :=
      fun γ' w' v c fr1 s1 a1 u1 hle hR1 hpan hr => opsS_ok hc hdst r (k + 1) hos' hR1 hpan hr fun γ'' w'' a'' x u' hle' hR' hpan' hx => hQ γ'' w'' a'' x u' (hle.trans hle') hR' hpan' hx
    by_cases hg : (o.guard.isSome = true → (guardTmp ops.toList o.guard).isSome = true)
    · have hwt := wanted_ok hR.ev hg (wd := wd) hwd
      rw [hwt]
      cases wd with
      | false =>
        simp only [Bool.false_eq_true, if_false] at h ⊢
        exact rec_ok γ w (.tup []) undef fr s a u (Le.refl _ _) (hR.put (Le.refl _ _) hR.inv undef_VR (hdst k o ho) rfl rfl hR.defs) hp h
      | true =>
        simp only [if_true] at h ⊢
        have hb : (tOper P mu ops.toList o).op ≠ .bad := fun e => by rw [e] at h; cases h
        obtain ⟨hop, _⟩ := tOper_op rfl hb
        by_cases hrec : (tOper P mu ops.toList o).op = .recover
        · -- a recover
          rw [hrec] at hop h
          have hcall : ∃ c, o.op = .call c ∧ c.callee = .builtin .recover := by
            rcases tOp_kind hop with ⟨_, e⟩ | ⟨_, e⟩ | ⟨c, hcc⟩ | ⟨c, hcc⟩ | ⟨x, hcc⟩
            · cases e
            · cases e
            · rw [hcc] at hop
              simp only [tOp] at hop
              rcases tCall_kind hop with ⟨_, e⟩ | ⟨_, e⟩ | ⟨_, _, e, _⟩ | ⟨_, _, _, e, _⟩ | ⟨_, hcl⟩
              · cases e
              · cases e
              · cases e
              · cases e
              · exact ⟨c, hcc, hcl⟩
            · rw [hcc] at hop
              obtain ⟨_, _, _, e, _⟩ := tDefer_kind hop; cases e
            · rw [hcc] at hop
              simp [tOp] at hop
          obtain ⟨c, hoc, hcl⟩ := hcall
          have hrun : (execOp a.eval o).run P w = .ok .recover w := by
            simp only [execOp, hoc, resolve, hcl]
            rfl
          rw [hrun]
          simp only [Option.bind_eq_some_iff] at h
          obtain ⟨⟨v, fr1⟩, hx, h⟩ := h
          unfold doRecover at hx
          split at hx
          · rename_i v0 hpan
            simp only [Option.some.injEq, Prod.mk.injEq] at hx
            obtain ⟨rfl, rfl⟩ := hx
            rw [hpan] at hp
            obtain ⟨cv, rfl, hv⟩ := hp
            exact rec_ok γ w v0 cv { fr with pan := .on v0 true } s a _ (Le.refl _ _) (hR.put (Le.refl _ _) hR.inv hv (hdst k o ho) rfl rfl hR.defs) ⟨cv, rfl, hv⟩ h
          · rename_i hpan
            simp only [Option.some.injEq, Prod.mk.injEq] at hx
            obtain ⟨rfl, rfl⟩ := hx
            have hpu : u = .returning := by rw [hpan] at hp; exact hp
            subst hpu
            exact rec_ok γ w .nilif .nilIface fr s a _ (Le.refl _ _) (hR.put (Le.refl _ _) hR.inv .nilif (hdst k o ho) rfl rfl hR.defs) hp h
          · cases hx
        · have key := op_ok hc (hdst k o ho) hR hop hrec h (K := fun a' w' => wpOpsS P ops Q (List.range' (k + 1) r.length) a' ({ c₀ with mode := u } :: cs) w') (Q := fun x a' w' => Q x a' ({ c₀ with mode := u } :: cs) w')
            (fun γ' w' v c fr1 s1 a1 hle hR1 hpan hr => rec_ok γ' w' v c fr1 s1 a1 u hle hR1 (by rw [hpan]; exact hp.mono hle) hr)
            (fun γ' w' v c s1 hle hR1 hv he hl hf hs => by
              subst he; subst hl; subst hf; subst hs
              exact hQ γ' w' a _ u hle hR1 (hp.mono hle) ⟨c, rfl, hv⟩)
          unfold Oper.wp at key
          split
          · rename_i hrn
            rw [hrn] at key
            exact key.elim
          · exact key
    · have hb := guard_bad (P := P) (mu := mu) hg
      have : (guardTmp ops.toList o.guard) = none := by
        simp only [not_imp] at hg
        cases hgt : guardTmp ops.toList o.guard with
        | none => rfl
        | some x => rw [hgt] at hg; simp at hg
      have hwd2 : wd = true := by
        have e : (tOper P mu ops.toList o).guard = none := this
        rw [e] at hwd
        simp [wantedA] at hwd
        exact hwd
      subst hwd2
      rw [hb] at h
      cases h

-- ---------------------------------------------------------------- what lives beyond a region

theorem get_put (pers : Env) (t : Nat) (x : AV) (u : Nat) : Env.get (Env.put pers t x) u = if t = u then x else Env.get pers u := by
  have nb : ∀ {a b : Nat}, a ≠ b → Nat.beq a b = false := fun {a b} h => by
    cases hb : Nat.beq a b with
    | false => rfl
    | true => exact absurd (Nat.eq_of_beq_eq_true hb) h
  induction pers with
  | nil =>
    simp only [Env.put, Env.get]
    by_cases h : t = u
    · subst h; simp
    · rw [nb h, if_neg h]; simp
  | cons p r ih =>
    obtain ⟨q, v⟩ := p
    simp only [Env.put]
    by_cases hq : q = t
    · subst hq
      simp only [Nat.beq_refl, if_true, Env.get]
      by_cases h : q = u
      · subst h; simp
      · rw [nb h, if_neg h]; simp
    · rw [nb hq]
      simp only [Bool.false_eq_true, if_false, Env.get, ih]
      by_cases h : q = u
      · subst h
        simp [Ne.symm hq]
      · rw [nb h]; simp

theorem get_putOuts (loc : Env) : ∀ (outs : List Nat) (pers : Env) (t : Nat), Env.get (putOuts loc outs pers) t = if t ∈ outs ∧ Env.has loc t = true then Env.get loc t else Env.get pers t
  | [], pers, t => by simp [putOuts]
  | u :: r, pers, t => by
    simp only [putOuts]
    rw [get_putOuts loc r]
    by_cases h1 : t ∈ r ∧ Env.has loc t = true
    · rw [if_pos h1, if_pos ⟨List.mem_cons_of_mem _ h1.1, h1.2⟩]
    · rw [if_neg h1]
      by_cases hu : Env.has loc u = true
      · rw [if_pos hu, get_put]
        by_cases e : u = t
        · subst e
          rw [if_pos rfl, if_pos ⟨List.mem_cons_self, hu⟩]
        · rw [if_neg e, if_neg]
          rintro ⟨hm, hh⟩
          rcases List.mem_cons.1 hm with rfl | hm
          · exact e rfl
          · exact h1 ⟨hm, hh⟩
      · rw [if_neg hu, if_neg]
        rintro ⟨hm, hh⟩
        rcases List.mem_cons.1 hm with rfl | hm
        · exact hu hh
        · exact h1 ⟨hm, hh⟩

theorem look_nil (pers : Env) (t : Nat) : Env.look [] pers t = Env.get pers t := rfl

theorem look_has : ∀ (loc pers : Env) (t : Nat), Env.look loc pers t = if Env.has loc t = true then Env.get loc t else Env.get pers t
  | [], pers, t => by simp [Env.look, Env.has]
  | (u, v) :: r, pers, t => by
    simp only [Env.look, Env.has, Env.get]
    by_cases hb : Nat.beq u t = true
    · simp [hb]
    · simp [hb, look_has r pers t]

/-- the temporaries that live on are among the slots -/
def SlotsOk (slots : List Nat) (pers : Env) : Prop := ∀ t, Env.get pers t ≠ .undef → t ∈ slots

theorem outs_ok {loc pers : Env} {slots outs dsts : List Nat} (hs : SlotsOk slots pers) (hloc : ∀ t, Env.has loc t = true → t ∈ dsts) (houts : ∀ t, t ∈ outs ↔ t ∈ dsts ∧ t ∈ slots) {a : Act} (hE : EvR γ w loc pers a) :
    EvR γ w [] (putOuts loc outs pers) a ∧ SlotsOk slots (putOuts loc outs pers) := by
  constructor
  · intro t hne
    rw [look_nil, get_putOuts] at hne ⊢
    by_cases h : t ∈ outs ∧ Env.has loc t = true
    · rw [if_pos h] at hne ⊢
      have := hE t
      rw [look_has, if_pos h.2] at this
      exact this hne
    · rw [if_neg h] at hne ⊢
      have hsl := hs t hne
      have : Env.has loc t ≠ true := fun hh => h ⟨(houts t).2 ⟨hloc t hh, hsl⟩, hh⟩
      have hE' := hE t
      rw [look_has, if_neg this] at hE'
      exact hE' hne
  · intro t hne
    rw [get_putOuts] at hne
    by_cases h : t ∈ outs ∧ Env.has loc t = true
    · exact ((houts t).1 h.1).2
    · rw [if_neg h] at hne
      exact hs t hne

/-- what a region has written is among what it writes -/
theorem has_ops {call : CallFn} {b : Bar} : ∀ {os : List AOper} {loc : Env} {fr : Fr} {s : Sg} {e : Ex} {loc' : Env} {fr' : Fr} {s' : Sg}, runOps call b os loc fr s = some (e, loc', fr', s') → (∀ t, Env.has loc' t = true → Env.has loc t = true ∨ t ∈ os.filterMap (·.dst)) ∧ fr'.pers = fr.pers
  | [], loc, fr, s, e, loc', fr', s', h => by
    simp only [runOps, Option.some.injEq, Prod.mk.injEq] at h
    obtain ⟨_, rfl, rfl, _⟩ := h
    exact ⟨fun t h => .inl h, rfl⟩
  | o :: r, loc, fr, s, e, loc', fr', s', h => by
    have step : ∀ {v : AV} {fr1 : Fr} {s1 : Sg}, fr1.pers = fr.pers → runOps call b r (setLoc loc o.dst v) fr1 s1 = some (e, loc', fr', s') → (∀ t, Env.has loc' t = true → Env.has loc t = true ∨ t ∈ (o :: r).filterMap (·.dst)) ∧ fr'.pers = fr.pers := fun {v fr1 s1} hp hr => by
      obtain ⟨h1, h2⟩ := has_ops hr
      refine ⟨fun t ht => ?_, h2.trans hp⟩
      rcases h1 t ht with h1 | h1
      · cases hd : o.dst with
        | none => rw [hd] at h1; exact .inl h1
        | some d =>
          rw [hd] at h1
          simp only [setLoc, Env.has, Bool.or_eq_true] at h1
          rcases h1 with h1 | h1
          · have := Nat.eq_of_beq_eq_true h1
            subst this
            refine .inr ?_
            simp [List.filterMap_cons, hd]
          · exact .inl h1
      · refine .inr ?_
        simp only [List.filterMap_cons]
        split
        · exact h1
        · exact List.mem_cons_of_mem _ h1
    have stay : ∀ {e1 : Ex} {s1 : Sg}, (some (e1, loc, fr, s1) : Option (Ex × Env × Fr × Sg)) = some (e, loc', fr', s') → (∀ t, Env.has loc' t = true → Env.has loc t = true ∨ t ∈ (o :: r).filterMap (·.dst)) ∧ fr'.pers = fr.pers := fun hh => by
      simp only [Option.some.injEq, Prod.mk.injEq] at hh
      obtain ⟨_, rfl, rfl, _⟩ := hh
      exact ⟨fun t h => .inl h, rfl⟩
    simp only [runOps, Option.bind_eq_some_iff] at h
    obtain ⟨wd, hwd, h⟩ := h
    split at h
    · split at h
      · simp only [Option.bind_eq_some_iff] at h
        obtain ⟨v, _, h⟩ := h
        exact step rfl h
      · simp only [Option.bind_eq_some_iff] at h
        obtain ⟨v, hv, h⟩ := h
        exact step rfl h
      · simp only [Option.bind_eq_some_iff] at h
        obtain ⟨l, _, x, hx, h⟩ := h
        split at h
        · exact step rfl h
        · exact stay h
      · simp only [Option.bind_eq_some_iff] at h
        obtain ⟨y, _, l, _, c, _, x, hx, h⟩ := h
        split at h
        · exact step rfl h
        · exact stay h
      · simp only [Option.bind_eq_some_iff] at h
        obtain ⟨_, _, _, _, h⟩ := h
        exact stay h
      · simp only [Option.bind_eq_some_iff] at h
        obtain ⟨_, _, _, _, c, _, h⟩ := h
        exact step (fr1 := { fr with defers := c :: fr.defers }) rfl h
      · simp only [Option.bind_eq_some_iff] at h
        obtain ⟨x, hx, h⟩ := h
        refine step ?_ h
        unfold doRecover at hx
        split at hx
        · cases hx; rfl
        · cases hx; rfl
        · cases hx
      · cases h
    · exact step rfl h

end Go.Am
